/-
 The parser of a shell text, in plain words: a state is the tokens left of the line at hand and where the next line begins.
-/
import Derived.Test.YthjgbalcngkjjaaGreatDoorPLex12
import Derived.Test.YthjgbalcngkjjaaGreatDoorPNum
namespace Go.Tri
open Go.RowKit
structure PS where
 line : List CX
 next : Nat
inductive CC (α : Type) where
 | ok (x : α) (p : PS)
 | bad (a e : Nat)
def CC.map {α β : Type} (f : α → β) : CC α → CC β
 | .ok x p => .ok (f x) p
 | .bad a e => .bad a e
def Cf {α β : Type} (m : PS → CC α) (f : α → PS → CC β) (p : PS) : CC β := match m p with
 | .ok x q => f x q
 | .bad a e => .bad a e
theorem AY {α β : Type} {m : PS → CC α} {f : α → PS → CC β} {p q : PS} {x : α} (h : m p = .ok x q) : Cf m f p = f x q := by unfold Cf; rw [h]
theorem Ay {α β : Type} {m : PS → CC α} {f : α → PS → CC β} {p : PS} {a e : Nat} (h : m p = .bad a e) : Cf m f p = .bad a e := by unfold Cf; rw [h]
structure EK where
 fd : Int
 op : List UInt8
 word : List UInt8
 doc : List UInt8
 raw : Bool
inductive Nd where
 | mk (kind : Nat) (not isin : Bool) (name : List UInt8) (words : List (List UInt8)) (redirs : List EK) (kids : List Nd)
def Nd.kind : Nd → Nat
 | .mk k _ _ _ _ _ _ => k
def Nd.not : Nd → Bool
 | .mk _ k _ _ _ _ _ => k
def Nd.isin : Nd → Bool
 | .mk _ _ k _ _ _ _ => k
def Nd.name : Nd → List UInt8
 | .mk _ _ _ k _ _ _ => k
def Nd.words : Nd → List (List UInt8)
 | .mk _ _ _ _ k _ _ => k
def Nd.redirs : Nd → List EK
 | .mk _ _ _ _ _ k _ => k
def Nd.kids : Nd → List Nd
 | .mk _ _ _ _ _ _ k => k
def KK : Nd := .mk 0 false false [] [] [] []
def Ip (k : Nat) (l : List Nd) : Nd := .mk k false false [] [] [] l
def Ct (l : List Nd) : Nd := match l with
 | [x] => if x.kind = 6 then Ip 5 [x] else x
 | l => Ip 5 l
def Dy (ws t : List UInt8) : Bool := decide (t ≠ []) && !Lib.contains t [32] && Lib.contains ([32] ++ ws ++ [32]) ([32] ++ t ++ [32])
def G4 : List UInt8 := [125, 32, 100, 111, 32, 100, 111, 110, 101, 32, 101, 108, 105, 102, 32, 101, 108, 115, 101, 32, 101, 115, 97, 99, 32, 102, 105, 32, 105, 110, 32, 116, 104, 101, 110]
def Dp : List UInt8 := [33, 32, 123, 32, 99, 97, 115, 101, 32, 102, 111, 114, 32, 105, 102, 32, 117, 110, 116, 105, 108, 32, 119, 104, 105, 108, 101, 32] ++ G4
def Hq : List UInt8 := [60, 32, 62, 32, 62, 124, 32, 62, 62, 32, 60, 60, 32, 60, 60, 45, 32, 60, 38, 32, 62, 38, 32, 60, 62]
def C8 (x : List UInt8) (t : CX) : Bool := decide (t.kind = 2) && decide (t.text = x)
def Bu (x : List UInt8) (t : CX) : Bool := decide (t.kind = 1) && decide (t.text = x)
def Cj (t : CX) : Bool := decide (t.kind = 4) || (decide (t.kind = 2) && Dy Hq t.text)
def E5 (t : CX) : Bool := (decide (t.kind = 1) && !Dy G4 t.text) || C8 [40] t || Cj t
def JI (t : List UInt8) : Bool := match ER t with
 | some v => decide (v ≤ 9)
 | none => false
def ABT (t : List UInt8) : Int := (ER t).getD 0
section
variable (s : List UInt8)
def Bp (p : PS) : Nat := p.line.length + (s.length - p.next)
def HJ : Nat → PS → CC Unit
 | 0, p => .ok () p
 | f + 1, p => if p.line = [] ∧ p.next < s.length then if (B9 s p.next).err = 0 then HJ f ⟨(B9 s p.next).toks, (B9 s p.next).fin⟩ else .bad (B9 s p.next).place (B9 s p.next).err else .ok () p
def Sj (p : PS) : CC Unit := HJ s (s.length - p.next + 1) p
def PR : CX := ⟨0, [], s.length, [], false⟩
def AP (p : PS) : CX := match p.line with
 | [] => PR s
 | t :: _ => t
def C4 (p : PS) : CC CX := Cf (Sj s) (fun _ q => .ok (AP s q) q) p
def BE (p : PS) : PS := ⟨p.line.drop 1, p.next⟩
def Kz (p : PS) : CC CX := Cf (C4 s) (fun t q => .ok t (BE q)) p
def QM (b : CX → Bool) (p : PS) : CC Bool := Cf (C4 s) (fun t q => .ok (b t) q) p
def Ep (b : CX → Bool) (p : PS) : CC Unit := Cf (C4 s) (fun t q => if b t then .ok () (BE q) else .bad t.pos 56) p
def Jh : Nat → PS → CC Unit
 | 0, p => .ok () p
 | f + 1, p => Cf (C4 s) (fun t q => if t.kind = 3 then Jh f (BE q) else .ok () q) p
def Dj (p : PS) : CC Unit := Jh s (Bp s p + 1) p
def FU (p : PS) : CC (List UInt8) := Cf (C4 s) (fun t q => if t.kind = 1 then .ok t.text (BE q) else .bad t.pos 56) p
def Kb (fd : Int) (p : PS) : CC EK := Cf (Kz s) (fun o q => Cf (C4 s) (fun t r => if t.kind = 1 then .ok (if EY o.text [60, 60] then ⟨fd, [60, 60], [], t.doc, t.raw⟩ else ⟨fd, o.text, t.text, [], false⟩) (BE r) else .bad t.pos 56) q) p
def Iu (p : PS) : CC EK := Cf (C4 s) (fun t q => if t.kind = 4 then
  (if JI t.text then Cf (C4 s) (fun u r => if u.kind = 2 ∧ Cj u = true then Kb s (ABT t.text) r else .bad u.pos 56) (BE q) else .bad t.pos 56)
 else Kb s (-1) q) p
def Gt {α : Type} (b : CX → Bool) (m : PS → CC α) : Nat → List α → PS → CC (List α)
 | 0, l, p => .ok l p
 | f + 1, l, p => Cf (C4 s) (fun t q => if b t then Cf m (fun x r => Gt b m f (l ++ [x]) r) q else .ok l q) p
def O1 {α : Type} (b : CX → Bool) (m : PS → CC α) (p : PS) : CC (List α) := Gt s b m (Bp s p + 1) [] p
def Gh (p : PS) : CC (List EK) := O1 s Cj (Iu s) p
def QC (p : PS) : CC (List (List UInt8)) := O1 s (fun t => decide (t.kind = 1)) (FU s) p
def PF (A : PS → CC Nd) (p : PS) : CC (Nd × Bool) := Cf A (fun n q => Cf (C4 s) (fun t r => if C8 [38] t then .ok (Ip 6 [n], true) (BE r) else if C8 [59] t then .ok (n, true) (BE r) else .ok (n, false) r) q) p
def KA (A : PS → CC Nd) : Nat → List Nd → PS → CC Nd
 | 0, l, p => .ok (Ct l) p
 | f + 1, l, p => Cf (PF s A) (fun x q =>
   Cf (if x.2 then fun q => .ok true q else QM s (fun t => decide (t.kind = 3))) (fun ended q => Cf (Dj s) (fun _ q =>
    if ended then Cf (C4 s) (fun t q => if E5 t then KA A f (l ++ [x.1]) q else .ok (Ct (l ++ [x.1])) q) q else .ok (Ct (l ++ [x.1])) q) q) q) p
def MP (A : PS → CC Nd) (p : PS) : CC Nd := Cf (Dj s) (fun _ q => KA s A (Bp s q + 1) [] q) p
def G8 (P : PS → CC Nd) : Nat → Nd → PS → CC Nd
 | 0, n, p => .ok n p
 | f + 1, n, p => Cf (C4 s) (fun t q => if C8 [38, 38] t || C8 [124, 124] t then Cf (Dj s) (fun _ r => Cf P (fun m r => G8 P f (Ip (if t.text = [124, 124] then 4 else 3) [n, m]) r) r) (BE q) else .ok n q) p
def IX (P : PS → CC Nd) (p : PS) : CC Nd := Cf P (fun n q => G8 s P (Bp s q + 1) n q) p
def KJ (C : PS → CC Nd) : Nat → List Nd → PS → CC (List Nd)
 | 0, l, p => .ok l p
 | f + 1, l, p => Cf (C4 s) (fun t q => if C8 [124] t then Cf (Dj s) (fun _ r => Cf C (fun m r => KJ C f (l ++ [m]) r) r) (BE q) else .ok l q) p
def LA (not : Bool) (l : List Nd) : Nd := match l, not with
 | [x], false => x
 | l, not => .mk 2 not false [] [] [] l
def LP (C : PS → CC Nd) (p : PS) : CC Nd := Cf (C4 s) (fun t q => Cf C (fun n r => Cf (KJ s C (Bp s r + 1) [n]) (fun l r => .ok (LA (Bu [33] t) l) r) r) (if Bu [33] t then BE q else q)) p
def ifN (B : PS → CC Nd) : Nat → List Nd → PS → CC (List Nd)
 | 0, l, p => .ok l p
 | f + 1, l, p => Cf (Kz s) (fun _ q => Cf B (fun a q => Cf (Ep s (Bu [116, 104, 101, 110])) (fun _ q => Cf B (fun b q => Cf (C4 s) (fun t q => if Bu [101, 108, 105, 102] t then ifN B f (l ++ [a, b]) q else .ok (l ++ [a, b]) q) q) q) q) q) p
def XL (B : PS → CC Nd) (l : List Nd) (q : PS) : CC Nd := Cf (C4 s) (fun t q => if Bu [101, 108, 115, 101] t then Cf B (fun x q => Cf (Ep s (Bu [102, 105])) (fun _ q => .ok (Ip 9 (l ++ [x])) q) q) (BE q) else Cf (Ep s (Bu [102, 105])) (fun _ q => .ok (Ip 9 l) q) q) q
def ifP (B : PS → CC Nd) (p : PS) : CC Nd := Cf (ifN s B (Bp s p + 1) []) (XL s B) p
def Oj (B : PS → CC Nd) (name : List UInt8) (x : Bool × List (List UInt8)) (q : PS) : CC Nd := Cf (Ep s (Bu [100, 111])) (fun _ q => Cf B (fun b q => Cf (Ep s (Bu [100, 111, 110, 101])) (fun _ q => .ok (.mk 12 false x.1 name x.2 [] [b]) q) q) q) q
def AAF (B : PS → CC Nd) (name : List UInt8) (q : PS) : CC Nd := Cf (QC s) (fun l q => Cf (C4 s) (fun v q => if v.kind = 3 then Cf (Dj s) (fun _ q => Oj s B name (true, l) q) q else Cf (Ep s (C8 [59])) (fun _ q => Cf (Dj s) (fun _ q => Oj s B name (true, l) q) q) q) q) q
def T0 (B : PS → CC Nd) (p : PS) : CC Nd := Cf (Kz s) (fun _ q => Cf (C4 s) (fun t q => if t.kind = 1 ∧ FSt t.text = true then
  Cf (Dj s) (fun _ q => Cf (C4 s) (fun u q =>
   if Bu [105, 110] u then AAF s B t.text (BE q)
   else if C8 [59] u then Cf (Dj s) (fun _ q => Oj s B t.text (false, []) q) (BE q)
   else Oj s B t.text (false, []) q) q) (BE q)
 else .bad t.pos 56) q) p
def Mk : Nat → List (List UInt8) → PS → CC (List (List UInt8))
 | 0, l, p => .ok l p
 | f + 1, l, p => Cf (C4 s) (fun t q => if C8 [124] t then Cf (FU s) (fun x q => Mk f (l ++ [x]) q) (BE q) else .ok l q) p
def Ia (rec : List (List UInt8) → List Nd → PS → CC (List (List UInt8) × List Nd)) (ws : List (List UInt8)) (l : List Nd) (p : PS) : CC (List (List UInt8) × List Nd) := Cf (C4 s) (fun v q => if C8 [59, 59] v then Cf (Dj s) (fun _ q => rec ws l q) (BE q) else .ok (ws, l) q) p
def FZ (B : PS → CC Nd) (rec : List (List UInt8) → List Nd → PS → CC (List (List UInt8) × List Nd)) (l : List Nd) (ws : List (List UInt8)) (p : PS) : CC (List (List UInt8) × List Nd) :=
 Cf (Ep s (C8 [41])) (fun _ q => Cf (Dj s) (fun _ q => Cf (C4 s) (fun u q => if E5 u then Cf B (fun b q => Ia s rec (ws ++ [[41]]) (l ++ [b]) q) q else Ia s rec (ws ++ [[41]]) (l ++ [Ip 5 []]) q) q) q) p
def Fs (B : PS → CC Nd) : Nat → List (List UInt8) → List Nd → PS → CC (List (List UInt8) × List Nd)
 | 0, ws, l, p => .ok (ws, l) p
 | f + 1, ws, l, p => Cf (C4 s) (fun t q => if Bu [101, 115, 97, 99] t then .ok (ws, l) q else
   Cf (FU s) (fun x q => Cf (Mk s (Bp s q + 1) (ws ++ [x])) (FZ s B (Fs B f) l) q) (if C8 [40] t then BE q else q)) p
def Iy (x : List UInt8) (y : List (List UInt8) × List Nd) (q : PS) : CC Nd := Cf (Ep s (Bu [101, 115, 97, 99])) (fun _ q => .ok (.mk 13 false false x y.1 [] y.2) q) q
def Nq (B : PS → CC Nd) (p : PS) : CC Nd := Cf (Kz s) (fun _ q => Cf (FU s) (fun x q => Cf (Dj s) (fun _ q => Cf (Ep s (Bu [105, 110])) (fun _ q => Cf (Dj s) (fun _ q => Cf (Fs s B (Bp s q + 1) [] []) (Iy s x) q) q) q) q) q) p
def R3 (B : PS → CC Nd) (p : PS) : CC Nd := Cf (C4 s) (fun t q =>
  if C8 [40] t then Cf B (fun b q => Cf (Ep s (C8 [41])) (fun _ q => .ok (Ip 7 [b]) q) q) (BE q)
  else if Bu [123] t then Cf B (fun b q => Cf (Ep s (Bu [125])) (fun _ q => .ok (Ip 8 [b]) q) q) (BE q)
  else if Bu [105, 102] t then ifP s B q
  else if Bu [119, 104, 105, 108, 101] t || Bu [117, 110, 116, 105, 108] t then
   Cf B (fun a q => Cf (Ep s (Bu [100, 111])) (fun _ q => Cf B (fun b q => Cf (Ep s (Bu [100, 111, 110, 101])) (fun _ q => .ok (Ip (if t.text = [117, 110, 116, 105, 108] then 11 else 10) [a, b]) q) q) q) q) (BE q)
  else if Bu [102, 111, 114] t then T0 s B q
  else if Bu [99, 97, 115, 101] t then Nq s B q
  else .bad t.pos 56) p
def TG (n : Nd) (l : List EK) : Nd := .mk n.kind n.not n.isin n.name n.words l n.kids
def I1 (B : PS → CC Nd) (p : PS) : CC Nd := Cf (R3 s B) (fun n q => Cf (Gh s) (fun l q => .ok (TG n l) q) q) p
def JY (F : List UInt8 → PS → CC Nd) : Nat → List (List UInt8) → List EK → PS → CC Nd
 | 0, ws, rs, p => .ok (.mk 1 false false [] ws rs []) p
 | f + 1, ws, rs, p => Cf (C4 s) (fun t q =>
   if Cj t then Cf (Iu s) (fun r q => JY F f ws (rs ++ [r]) q) q
   else if t.kind = 1 then
    if ws = [] ∧ Dy Dp t.text = true then .bad t.pos 56
    else if ws = [] ∧ rs = [] ∧ FSt t.text = true then
     Cf (C4 s) (fun u q => if C8 [40] u then Cf (Ep s (C8 [41])) (fun _ q => Cf (Dj s) (fun _ q => F t.text q) q) (BE q) else JY F f [t.text] rs q) (BE q)
    else JY F f (ws ++ [t.text]) rs (BE q)
   else if ws = [] ∧ rs = [] then .bad t.pos 56 else .ok (.mk 1 false false [] ws rs []) q) p
def KG (F : List UInt8 → PS → CC Nd) (p : PS) : CC Nd := JY s F (Bp s p + 1) [] [] p
def Lc (p : PS) : CC Nd := Cf (C4 s) (fun t _ => .bad t.pos 52) p
def XT (C : PS → CC Nd) (name : List UInt8) (p : PS) : CC Nd := Cf C (fun n q => .ok (.mk 14 false false name [] [] [n]) q) p
def AEe (C S : PS → CC Nd) (p : PS) : CC Nd := Cf (C4 s) (fun t q => if C8 [40] t || (decide (t.kind = 1) && Dy Dp t.text) then C q else S q) p
def Hr : Nat → (PS → CC Nd) × (PS → CC Nd)
 | 0 => (Lc s, Lc s)
 | m + 1 => (AEe s (I1 s (MP s (IX s (LP s (Hr m).1)))) (KG s (XT (Hr m).2)), I1 s (MP s (IX s (LP s (Hr m).1))))
def V7 (m : Nat) : PS → CC Nd := IX s (LP s (Hr s m).1)
def HR (q : PS) : Bool := match q.line with
 | [] => false
 | t :: _ => !decide (t.kind = 3)
def Eg (l : List Nd) (q : PS) : CC (Option Nd) := match q.line with
 | [] => .ok (some (Ct l)) q
 | t :: _ => if t.kind = 3 then .ok (some (Ct l)) (BE q) else .bad t.pos 56
def Je : Nat → List Nd → PS → CC (Option Nd)
 | 0, l, p => .ok (some (Ct l)) p
 | f + 1, l, p => Cf (PF s (V7 s 25)) (fun x q => if (x.2 && HR q) = true then Je f (l ++ [x.1]) q else Eg (l ++ [x.1]) q) p
def DI (p : PS) : CC (Option Nd) := Cf (Dj s) (fun _ q => Cf (C4 s) (fun t q => if t.kind = 0 then .ok none q else Je s (Bp s q + 1) [] q) q) p
end
structure P5 where
 node : Nd
 ok : Bool
 next : Nat
 place : Nat
 err : Nat
def CM (s : List UInt8) (a : Int) : P5 := if 65536 < s.length then ⟨KK, false, 0, 0, 50⟩ else if a < 0 ∨ (s.length : Int) < a then ⟨KK, false, 0, 0, 73⟩ else
 match DI s ⟨[], a.toNat⟩ with
 | .ok (some n) q => ⟨n, true, q.next, 0, 0⟩
 | .ok none q => ⟨KK, false, q.next, 0, 0⟩
 | .bad a e => ⟨KK, false, 0, a, e⟩
end Go.Tri

namespace Go.Tri
open Go.RowKit
def CH (s : List UInt8) (p : PS) : Prop := ¬ (p.line = [] ∧ p.next < s.length)
def S8 (s : List UInt8) (p : PS) : Prop := p.next ≤ s.length ∧ (∀ t ∈ p.line, t.text.length ≤ s.length ∧ 1 ≤ t.kind) ∧ p.line.length ≤ s.length
theorem S8.line {s : List UInt8} {i : Nat} (hi : i ≤ s.length) (h : (B9 s i).err = 0) : S8 s ⟨(B9 s i).toks, (B9 s i).fin⟩ := by
 obtain ⟨_, _, _, ts, k, ds, j, e1, e2, e3⟩ := No h
 rw [e3, Int.toNat_natCast] at *
 have h1 := Km s _ i ts k hi e1
 have h2 := (OB s ts none i (i + k) ds j h1 e2).1
 refine ⟨(Ju h2).2, fun t ht => ?_, by have := Ju h2; show ds.length ≤ s.length; omega⟩
 obtain ⟨n, hn, rfl⟩ := List.getElem_of_mem ht
 have key : ∀ (l : List CX) (a : Nat), GR s a l j → ∀ t ∈ l, t.text.length ≤ s.length ∧ 1 ≤ t.kind := by
  intro l
  induction l with
  | nil => intro a _ t ht; cases ht
  | cons u r ih =>
   intro a h t ht
   obtain ⟨⟨h1, h2, h3, h4, h5, _⟩, h6⟩ := h
   rcases List.mem_cons.1 ht with rfl | ht
   ·exact ⟨by omega, h5⟩
   ·exact ih _ h6 t ht
 exact key ds i h2 _ ht
theorem S8.step {s : List UInt8} {p : PS} (h : S8 s p) : S8 s (BE p) := ⟨h.1, fun t ht => h.2.1 t (List.mem_of_mem_drop ht), by have := h.2.2; unfold BE; rw [List.length_drop]; omega⟩
theorem MC {s : List UInt8} {p : PS} {f : Nat} (h : CH s p) : HJ s f p = .ok () p := by
 cases f with
 | zero => rfl
 | succ f => rw [HJ, if_neg h]
theorem CT {s : List UInt8} {p : PS} (h : CH s p) : C4 s p = .ok (AP s p) p := by
 unfold C4
 rw [AY (show Sj s p = .ok () p from MC h)]
theorem FM {s : List UInt8} {p : PS} (h : CH s p) : Kz s p = .ok (AP s p) (BE p) := by
 unfold Kz
 rw [AY (CT h)]
theorem Ta {s : List UInt8} {p : PS} (b : CX → Bool) (h : CH s p) : QM s b p = .ok (b (AP s p)) p := by
 unfold QM
 rw [AY (CT h)]
theorem Db {s : List UInt8} {p : PS} {t : CX} {r : List CX} (h : p.line = t :: r) : AP s p = t := by unfold AP; rw [h]
theorem F4 {s : List UInt8} {p : PS} (h : p.line = []) : AP s p = PR s := by unfold AP; rw [h]
theorem Dq {s : List UInt8} {p : PS} (h : S8 s p) : (AP s p).text.length ≤ s.length := by
 cases hl : p.line with
 | nil => rw [F4 hl]; exact Nat.zero_le _
 | cons t r => rw [Db hl]; exact (h.2.1 t (by rw [hl]; exact List.mem_cons_self)).1
theorem NV {s : List UInt8} {p : PS} (h : (AP s p).kind ≠ 0) : p.line ≠ [] := fun hl => by rw [F4 hl] at h; exact h rfl
theorem FD {s : List UInt8} {p : PS} (h : S8 s p) : Bp s p ≤ 2 * s.length := by
 have := h.2.2
 unfold Bp
 omega
theorem CP {s : List UInt8} {p : PS} (h : (AP s p).kind ≠ 0) : Bp s (BE p) + 1 ≤ Bp s p := by
 have := List.length_pos_iff.2 (NV h)
 unfold Bp BE
 rw [List.length_drop]
 dsimp only
 omega
theorem SB {s : List UInt8} {p : PS} : Bp s (BE p) ≤ Bp s p := by
 unfold Bp BE
 rw [List.length_drop]
 dsimp only
 omega
theorem Bq {x : List UInt8} {t : CX} (h : C8 x t = true) : t.kind ≠ 0 := by
 unfold C8 at h
 rw [Bool.and_eq_true, decide_eq_true_eq] at h
 omega
theorem Cc {x : List UInt8} {t : CX} (h : Bu x t = true) : t.kind ≠ 0 := by
 unfold Bu at h
 rw [Bool.and_eq_true, decide_eq_true_eq] at h
 omega
theorem WR {s : List UInt8} {p : PS} {f : Nat} {β : Type} {R : CC β} {k : Unit → PS → CC β} (hc : p.line = [] ∧ p.next < s.length) (h : R = Cf (HJ s (f + 1)) k p) :
  ((B9 s p.next).err = 0 → R = Cf (HJ s f) k ⟨(B9 s p.next).toks, (B9 s p.next).fin⟩) ∧ ((B9 s p.next).err ≠ 0 → R = .bad (B9 s p.next).place (B9 s p.next).err) := by
 refine ⟨fun he => ?_, fun he => ?_⟩
 ·rw [h]; unfold Cf; rw [HJ, if_pos hc, if_pos he]
 ·rw [h]; unfold Cf; rw [HJ, if_pos hc, if_neg he]
theorem W6 {s : List UInt8} {p : PS} {f : Nat} {β : Type} {R : CC β} {k : Unit → PS → CC β} (hc : CH s p) (h : R = Cf (HJ s f) k p) : R = k () p := by rw [h, AY (MC hc)]
theorem VU {s : List UInt8} {p : PS} (hp : S8 s p) (hc : p.line = [] ∧ p.next < s.length) (he : (B9 s p.next).err = 0) :
  S8 s ⟨(B9 s p.next).toks, (B9 s p.next).fin⟩ ∧ Bp s ⟨(B9 s p.next).toks, (B9 s p.next).fin⟩ ≤ Bp s p ∧ s.length - (B9 s p.next).fin < s.length - p.next := by
 obtain ⟨h1, h2, h3, h4⟩ := X7 hp.1 he
 have h5 := h3 hc.2
 refine ⟨S8.line hp.1 he, ?_, by omega⟩
 unfold Bp
 rw [hc.1]
 simp only [List.length_nil]
 omega
def GP {α β : Type} (r : CC α) (f : α → PS → CC β) : CC β := match r with
 | .ok x q => f x q
 | .bad a e => .bad a e
theorem Hy {α β : Type} {m : PS → CC α} {f : α → PS → CC β} {p : PS} : Cf m f p = GP (m p) f := rfl
theorem AEi {s : List UInt8} {b : CX → Bool} {p q : PS} {t : CX} (h : C4 s p = .ok t q) : QM s b p = .ok (b t) q := by unfold QM; rw [AY h]
theorem ACO {s : List UInt8} {b : CX → Bool} {p : PS} {a e : Nat} (h : C4 s p = .bad a e) : QM s b p = .bad a e := by unfold QM; rw [Ay h]
theorem Gl {s : List UInt8} {p : PS} (h : CH s p) (hk : (AP s p).kind = 1) : FU s p = .ok (AP s p).text (BE p) := by
 unfold FU
 rw [AY (CT h), if_pos hk]
theorem Rn {s : List UInt8} {p q : PS} {x : List UInt8} (h : CH s p) (hk : (AP s p).kind = 1) (he : FU s p = .ok x q) : x = (AP s p).text ∧ q = BE p := by
 rw [Gl h hk] at he
 cases he
 exact ⟨rfl, rfl⟩
theorem Pf {s : List UInt8} {B : PS → CC Nd} {p q : PS} {t : CX} (h : C4 s p = .ok t q) (hf : CH s q) (ht : t = AP s q) : I1 s B p = I1 s B q := by
 have h2 : C4 s q = .ok t q := by rw [CT hf, ht]
 unfold I1
 rw [Hy, Hy]
 unfold R3
 rw [AY h, AY h2]
theorem Sx {s : List UInt8} {B : PS → CC Nd} {p : PS} {a e : Nat} (h : C4 s p = .bad a e) : I1 s B p = .bad a e := by
 unfold I1
 rw [Hy]
 unfold R3
 rw [Ay h]; rfl
theorem ACQ (s : List UInt8) (n : Nat) : ∃ k, (Hr s n).1 = Cf (C4 s) k ∧ (n = 0 → k = fun t _ => .bad t.pos 52) ∧ (∀ m, n = m + 1 → k = fun t q => if C8 [40] t || (decide (t.kind = 1) && Dy Dp t.text) then (Hr s (m + 1)).2 q else KG s (XT (Hr s m).2) q) := by
 cases n with
 | zero => exact ⟨_, rfl, fun _ => rfl, fun m h => by cases h⟩
 | succ m => exact ⟨_, rfl, fun h => by (cases h), fun m' h => by cases h; rfl⟩
end Go.Tri

namespace Go.Tri
open Go.RowKit
def AJX (t : CX) : Nat × List UInt8 := (t.kind, t.text)
variable {s : List UInt8}
end Go.Tri

namespace Go.Tri
open Go.RowKit
section
variable {s : List UInt8}
end
end Go.Tri

namespace Go.Tri
open Go.RowKit
abbrev Key := Nat × List UInt8
def AJY : Nat → List Key
 | 0 => [(2, [40])]
 | 1 => [(1, [123])]
 | 2 => [(1, [105, 102])]
 | 3 => [(1, [119, 104, 105, 108, 101]), (1, [97]), (2, [59]), (1, [100, 111])]
 | _ => [(1, [102]), (2, [40]), (2, [41]), (1, [123])]
def ADi : Nat → List Key
 | 0 => [(2, [41])]
 | 1 => [(2, [59]), (1, [125])]
 | 2 => [(2, [59]), (1, [116, 104, 101, 110]), (1, [97]), (2, [59]), (1, [102, 105])]
 | 3 => [(2, [59]), (1, [100, 111, 110, 101])]
 | _ => [(2, [59]), (1, [125])]
def ACo (k : Nat) : Nat → List Key
 | 0 => [(1, [97])]
 | n + 1 => AJY k ++ ACo k n ++ ADi k
def AJD (r : List UInt8) : Prop := r = [] ∨ nth r 0 0 = 41 ∨ nth r 0 0 = 59
theorem AJD.sp {r : List UInt8} (h : AJD r) : r = [] ∨ (DX Cv (nth r 0 0) = true ∧ nth r 0 0 ≠ 60 ∧ nth r 0 0 ≠ 62) := by
 rcases h with h | h | h
 ·exact .inl h
 ·rw [h]; exact .inr (by decide)
 ·rw [h]; exact .inr (by decide)
end Go.Tri

namespace Go.Tri
open Go.RowKit
section
variable {t : CX} {c : Key}
end
variable {s : List UInt8}
def AJz : List Key := [(0, []), (2, [41]), (2, [59]), (3, [10])]
def Rst (s : List UInt8) (p : PS) : Prop := CH s p ∧ AJX (AP s p) ∈ AJz
end Go.Tri

namespace Go.Tri
open Go.RowKit
variable {s : List UInt8}
def Deep (s : List UInt8) (k q : Nat) : Prop := ∀ (n m : Nat) (ts rest : List CX) (nx : Nat), ts.map AJX = ACo k n → Rst s ⟨rest, nx⟩ →
 (q * n < m → ∃ nd, V7 s m ⟨ts ++ rest, nx⟩ = .ok nd ⟨rest, nx⟩) ∧ (m ≤ q * n → ∃ a, V7 s m ⟨ts ++ rest, nx⟩ = .bad a 52)
end Go.Tri

namespace Go.Tri
open Go.RowKit
def FJ (t : List UInt8) : List UInt8 := Lib.itoa (t.length : Int) ++ [58] ++ t
def E4 (ws : List (List UInt8)) : List UInt8 := ws.flatMap fun w => [119] ++ FJ w
def Ob (r : EK) : List UInt8 := [114] ++ Lib.itoa r.fd ++ FJ r.op ++ FJ r.word ++ FJ r.doc ++ if r.raw then [114, 97, 119] else []
def Gx (rs : List EK) : List UInt8 := rs.flatMap Ob
mutual
def GC : Nd → List UInt8
 | .mk k nt isin nm ws rs ks => [40] ++ Lib.itoa (k : Int) ++ (if nt then [33] else []) ++ (if isin then [105, 110] else []) ++ [44] ++ FJ nm ++ E4 ws ++ Gx rs ++ Di ks ++ [41]
def Di : List Nd → List UInt8
 | [] => []
 | k :: ks => GC k ++ Di ks
end
theorem KS : ∀ a b : List Nd, Di (a ++ b) = Di a ++ Di b
 | [], b => by rw [List.nil_append, Di, List.nil_append]
 | k :: a, b => by rw [List.cons_append, Di, Di, KS a b, List.append_assoc]
theorem Uk (k : Nd) : Di [k] = GC k := by rw [Di, Di, List.append_nil]

mutual
def NdK : Nd → Prop
 | .mk k _ _ _ _ rs ks => k ≤ 1000 ∧ (∀ r ∈ rs, -9223372036854775808 ≤ r.fd ∧ r.fd ≤ 10) ∧ Zr ks
def Zr : List Nd → Prop
 | [] => True
 | k :: ks => NdK k ∧ Zr ks
end
theorem Zr.nth {ks : List Nd} (h : Zr ks) : ∀ {i : Nat}, i < ks.length → NdK (nth ks i KK) := by
 induction ks with
 | nil => intro i hi; exact absurd hi (Nat.not_lt_zero i)
 | cons k ks ih =>
  intro i hi
  unfold Zr at h
  cases i with
  | zero => exact h.1
  | succ i => exact ih h.2 (by simpa using hi)
def Ib : EK := ⟨0, [], [], [], false⟩
theorem SV {ws : List (List UInt8)} {i : Nat} (h : i < ws.length) : E4 (ws.take (i + 1)) = E4 (ws.take i) ++ ([119] ++ FJ (nth ws i [])) := by
 rw [D2 [] h]; unfold E4; rw [List.flatMap_append]; simp
theorem Tp {rs : List EK} {i : Nat} (h : i < rs.length) : Gx (rs.take (i + 1)) = Gx (rs.take i) ++ Ob (nth rs i Ib) := by
 rw [D2 Ib h]; unfold Gx; rw [List.flatMap_append]; simp
theorem Ma {ks : List Nd} {i : Nat} (h : i < ks.length) : Di (ks.take (i + 1)) = Di (ks.take i) ++ GC (nth ks i KK) := by
 rw [D2 KK h, KS, Uk]
theorem Pd {α : Type} (f : α → List UInt8) (l : List α) (i : Nat) : ((l.take i).flatMap f).length ≤ (l.flatMap f).length := by
 conv => rhs; rw [← List.take_append_drop i l, List.flatMap_append, List.length_append]
 omega
theorem Nl (l : List Nd) (i : Nat) : (Di (l.take i)).length ≤ (Di l).length := by
 conv => rhs; rw [← List.take_append_drop i l, KS, List.length_append]
 omega
theorem Tc (ws : List (List UInt8)) : ws.length ≤ (E4 ws).length := by
 induction ws with
 | nil => exact Nat.le_refl _
 | cons w ws ih =>
  unfold E4 at ih ⊢
  rw [List.flatMap_cons, List.length_append, List.length_append, List.length_cons]
  simp only [List.length_cons, List.length_nil]; omega
theorem Wi (rs : List EK) : rs.length ≤ (Gx rs).length := by
 induction rs with
 | nil => exact Nat.le_refl _
 | cons r rs ih =>
  unfold Gx at ih ⊢
  have h1 : 1 ≤ (Ob r).length := by unfold Ob; simp only [List.length_append, List.length_cons]; omega
  rw [List.flatMap_cons, List.length_append, List.length_cons]
  omega
theorem WX (n : Nd) : 1 ≤ (GC n).length := by
 obtain ⟨k, nt, isin, nm, ws, rs, ks⟩ := n
 rw [GC]
 simp only [List.length_append, List.length_cons, List.length_nil]; omega
theorem Nb : ∀ ks : List Nd, ks.length ≤ (Di ks).length
 | [] => by rw [Di]; exact Nat.le_refl _
 | k :: ks => by
  have h1 := WX k
  have h2 := Nb ks
  rw [Di, List.length_append, List.length_cons]; omega
theorem V0 {ks : List Nd} {i : Nat} (h : i < ks.length) : (GC (nth ks i KK)).length ≤ (Di ks).length := by
 have h1 := Nl ks (i + 1)
 rw [Ma h, List.length_append] at h1
 omega
end Go.Tri
