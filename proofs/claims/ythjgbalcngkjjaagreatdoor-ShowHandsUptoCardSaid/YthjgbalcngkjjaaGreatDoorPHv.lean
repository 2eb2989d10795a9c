/-
 A tree made by hand, and the text that is shown of it, in plain words.
-/
import Derived.Test.YthjgbalcngkjjaaGreatDoorPCode
import Derived.Test.YthjgbalcngkjjaaGreatDoorPOct
import Derived.Lib.Join
namespace Go.Tri
open Go.RowKit
inductive Hn where
 | mk (kind : Int) (not isin : Bool) (name : List UInt8) (words : List (List UInt8)) (redirs : List EK) (kids : List Hn)
def Hn.kind : Hn → Int
 | .mk k _ _ _ _ _ _ => k
def Hn.kids : Hn → List Hn
 | .mk _ _ _ _ _ _ k => k
def EL : Hn := .mk 0 false false [] [] [] []
structure WS where
 out : List UInt8
 docs : List (List UInt8)
 bad : Bool
 deriving DecidableEq
def ws0 : WS := ⟨[], [], false⟩
def WS.bd (st : WS) : WS := ⟨st.out, st.docs, true⟩
def B6 (st : WS) (xs : List (List UInt8)) : WS := ⟨st.out ++ xs.flatten, st.docs, st.bad || decide (131072 < (st.out ++ xs.flatten).length)⟩
def GG (st : WS) : WS := B6 ⟨(B6 st [[10]]).out, [], (B6 st [[10]]).bad⟩ st.docs
def CK (st : WS) (xs : List (List UInt8)) : WS := GG (B6 st xs)
def Ee (doc : List UInt8) : List (List UInt8) := (CQ doc).map fun l => Lib.trimSuffix l [10]
def dN (m : Nat) : List UInt8 := if m = 0 then [69] else 69 :: Lib.itoa (m : Int)
def ME (keys : List (List UInt8)) : Nat → Nat → List UInt8
 | 0, m => dN m
 | f + 1, m => if dN m ∈ keys then ME keys f (m + 1) else dN m
def Mx (doc : List UInt8) : List UInt8 := ME (Ee doc) (Ee doc).length 0
theorem Rl {α : Type} [DecidableEq α] : ∀ (l k : List α), l.Nodup → (∀ x ∈ l, x ∈ k) → l.length ≤ k.length
 | [], _, _, _ => Nat.zero_le _
 | a :: l, k, hn, hs => by
  rw [List.nodup_cons] at hn
  have ha := hs a (List.mem_cons_self)
  have ih := Rl l (k.erase a) hn.2 (fun x hx => (List.mem_erase_of_ne (by rintro rfl; exact hn.1 hx)).2 (hs x (List.mem_cons_of_mem _ hx)))
  have h1 := List.length_erase_of_mem ha
  have h2 := List.length_pos_of_mem ha
  rw [List.length_cons]; omega
theorem AFM {a b : Nat} (ha : a ≤ 1000000000) (hb : b ≤ 1000000000) (h : dN a = dN b) : a = b := by
 have EZ : ∀ m : Nat, Lib.itoa (m : Int) ≠ [] := fun m e => by
  have := L5 (n := (m : Int))
  unfold Lib.itoa at e
  split at e
  ·cases e
  ·have hd : Lib.decDigits (m : Int).toNat ≠ [] := by
    intro h9
    have := congrArg List.length h9
    rcases Nat.lt_or_ge (m : Int).toNat 10 with QZ | QZ
    ·rw [EC QZ] at h9; cases h9
    ·rw [FT (by omega)] at h9; simp at h9
   exact hd e
 unfold dN at h
 by_cases h1 : a = 0 <;> by_cases h2 : b = 0
 ·omega
 ·rw [if_pos h1, if_neg h2] at h
  injection h with _ h
  exact absurd h.symm (EZ b)
 ·rw [if_neg h1, if_pos h2] at h
  injection h with _ h
  exact absurd h (EZ a)
 ·rw [if_neg h1, if_neg h2] at h
  injection h with _ h
  have e1 := L5 (n := (a : Int)) (by omega)
  have e2 := L5 (n := (b : Int)) (by omega)
  rw [h, e2] at e1
  injection e1 with e1
  omega
theorem AEF {keys : List (List UInt8)} {m : Nat} (hk : keys.length ≤ 100000000) (h : ∀ j, j ≤ m → dN j ∈ keys) (hm : m ≤ 1000000000) : m + 1 ≤ keys.length := by
 have h1 := Rl ((List.range (m + 1)).map dN) keys ?_ ?_
 ·simpa using h1
 ·rw [List.nodup_iff_pairwise_ne, List.pairwise_map]
  refine (List.nodup_iff_pairwise_ne.1 List.nodup_range).imp_of_mem fun {a b} ha hb EZ e => EZ (AFM ?_ ?_ e)
  ·have := List.mem_range.1 ha; omega
  ·have := List.mem_range.1 hb; omega
 ·intro x hx
  obtain ⟨j, hj, rfl⟩ := List.mem_map.1 hx
  exact h j (by have := List.mem_range.1 hj; omega)
theorem ZI {keys : List (List UInt8)} {m : Nat} (hk : keys.length ≤ 100000000) (hd : ME keys keys.length 0 = ME keys (keys.length - m) m) (ET : ∀ j, j < m → dN j ∈ keys) (hm : m ≤ keys.length) :
  (dN m ∈ keys → m + 1 ≤ keys.length ∧ ME keys keys.length 0 = ME keys (keys.length - (m + 1)) (m + 1)) ∧ (dN m ∉ keys → ME keys keys.length 0 = dN m) := by
 refine ⟨fun h => ?_, fun h => ?_⟩
 ·have h1 := AEF hk (m := m) (fun j hj => by rcases Nat.lt_or_eq_of_le hj with h9 | h9; exact ET j h9; exact h9 ▸ h) (by omega)
  refine ⟨h1, ?_⟩
  rw [hd, show keys.length - m = (keys.length - (m + 1)) + 1 by omega, ME, if_pos h]
 ·rw [hd]
  cases keys.length - m with
  | zero => rfl
  | succ f => rw [ME, if_neg h]
theorem Yq {m : Nat} (h : m ≤ 1000000000) : (dN m).length ≤ 22 := by
 unfold dN
 split
 ·decide
 ·have dd : ∀ k n : Nat, n < 10 ^ (k + 1) → (Lib.decDigits n).length ≤ k + 1 := by
   intro k
   induction k with
   | zero => intro n h; rw [EC (by omega)]; simp
   | succ k ih =>
    intro n h
    by_cases h1 : n < 10
    ·rw [EC h1]; simp
    ·rw [FT h1, List.length_append]
     have := ih (n / 10) (by
      rw [Nat.div_lt_iff_lt_mul (by omega)]
      rw [Nat.pow_succ] at h; exact h)
     simp; omega
  have h2 := dd 18 (m : Int).toNat (by omega)
  have h3 := dd 18 (m : Int).natAbs (by omega)
  have h4 := dd 18 m (by omega)
  rw [List.length_cons]
  unfold Lib.itoa
  split <;> simp <;> omega
theorem Q8 {keys : List (List UInt8)} : ∀ (f m : Nat), f + m ≤ 1000000000 → (ME keys f m).length ≤ 22
 | 0, m, h => Yq (by omega)
 | f + 1, m, h => by
  rw [ME]
  split
  ·exact Q8 f (m + 1) (by omega)
  ·exact Yq (by omega)
def rdW (r : EK) (ah : Bool) (st : WS) : WS :=
 let s1 := if ah = true then B6 st [[32]] else st
 let s2 := if 0 ≤ r.fd then B6 s1 [Lib.itoa r.fd] else s1
 let s3 := B6 s2 [r.op]
 if r.op ≠ [60, 60] then B6 s3 [r.word] else B6 ⟨s3.out, s3.docs ++ [r.doc ++ Mx r.doc ++ [10]], s3.bad⟩ [if r.raw = true then [39] ++ Mx r.doc ++ [39] else Mx r.doc]
def LJ : List EK → Bool → WS → WS
 | [], _, st => st
 | r :: l, ah, st => LJ l true (rdW r ah st)
abbrev Fn := Nat → WS → WS
def N4 (btw : List UInt8) : Bool → List (Fn × Fn) → Nat → WS → WS
 | _, [], _, st => st
 | fst, f :: r, d, st => N4 btw false r d (f.1 d (if fst = true then st else CK st [btw]))
def P0 (k : Int) : List UInt8 := if k = 2 then [32, 124] else if k = 3 then [32, 38, 38] else if k = 4 then [32, 124, 124] else []
def HM (k : Int) (nt : Bool) (fs : List (Fn × Fn)) (d : Nat) (st : WS) : WS :=
 let s := N4 (P0 k) true fs d (if k = 2 ∧ nt = true then B6 st [[33, 32]] else st)
 if k = 6 then B6 s [[32, 38]] else s
def Dv (st : WS) (n lo hi : Nat) : WS := if n < lo ∨ hi < n then st.bd else st
def ifS : List UInt8 := [105, 102]
def Qv : List UInt8 := [101, 108, 105, 102]
def thenS : List UInt8 := [116, 104, 101, 110]
def MQ : List UInt8 := [101, 108, 115, 101]
def fiS : List UInt8 := [102, 105]
def Wn : List UInt8 := [100, 111]
def Lf : List UInt8 := [100, 111, 110, 101]
def Iq : List (Fn × Fn) → List UInt8 → Nat → WS → WS
 | a :: b :: r, sign, d, st => Iq r Qv d (b.2 d (CK (a.2 d (CK st [sign])) [thenS]))
 | [a], _, d, st => B6 (a.2 d (CK st [MQ])) [fiS]
 | [], _, _, st => B6 st [fiS]
def H7 : List (List UInt8) → List (List UInt8) → List (Fn × Fn) → Nat → WS → WS
 | [], pats, fs, _, st => B6 ⟨st.out, st.docs, st.bad || decide (0 < fs.length + pats.length)⟩ [[101, 115, 97, 99]]
 | x :: r, pats, fs, d, st => if x ≠ [41] then H7 r (pats ++ [x]) fs d st else match fs with
  | [] => st.bd
  | f :: fs' => if pats = [] then st.bd else H7 r [] fs' d (CK (f.2 d (CK st [[40], Lib.join pats [124], [41]])) [[59, 59]])
def S3 (nm : List UInt8) (ii : Bool) (ws : List (List UInt8)) (f : Fn) (d : Nat) (st : WS) : WS :=
 let s1 := B6 st [[102, 111, 114, 32], nm]
 let s2 := if ii = true then B6 s1 [[32, 105, 110]] else s1
 B6 (f d (CK (GG (ws.foldl (fun st x => B6 st [[32], x]) s2)) [Wn])) [Lf]
def Qu : Fn × Fn := (fun _ st => st, fun _ st => st)
def Fc (k : Int) (nm : List UInt8) (ii : Bool) (ws : List (List UInt8)) (fs : List (Fn × Fn)) (d : Nat) (st : WS) : WS :=
 if k = 7 ∨ k = 8 then
  let s := Dv st fs.length 1 1
  if s.bad = true then s else B6 ((nth fs 0 Qu).2 d (CK s [if k = 8 then [123] else [40]])) [if k = 8 then [125] else [41]]
 else if k = 9 then
  let s := Dv st fs.length 2 fs.length
  if s.bad = true then s else Iq fs ifS d s
 else if k = 10 ∨ k = 11 then
  let s := Dv st fs.length 2 2
  if s.bad = true then s else B6 ((nth fs 1 Qu).2 d (CK ((nth fs 0 Qu).2 d (CK s [if k = 11 then [117, 110, 116, 105, 108] else [119, 104, 105, 108, 101]])) [Wn])) [Lf]
 else if k = 12 then
  let s := Dv st fs.length 1 1
  if s.bad = true then s else S3 nm ii ws (nth fs 0 Qu).2 d s
 else if k = 13 then H7 ws [] fs d (CK st [[99, 97, 115, 101, 32], nm, [32, 105, 110]])
 else st.bd
def Gz (k : Int) (nt ii : Bool) (nm : List UInt8) (ws : List (List UInt8)) (rs : List EK) (fs : List (Fn × Fn)) (d : Nat) (st : WS) : WS :=
 if 960 < d ∨ st.bad = true then st.bd
 else if k = 1 then LJ rs (decide (0 < ws.length)) (B6 st [Lib.join ws [32]])
 else if k = 2 ∨ k = 3 ∨ k = 4 ∨ k = 6 then HM k nt fs (d + 1) st
 else if k = 14 then
  let s := Dv st fs.length 1 1
  if s.bad = true then s else (nth fs 0 Qu).1 (d + 1) (B6 s [nm, [40, 41, 32]])
 else LJ rs true (Fc k nm ii ws fs (d + 1) st)
def HK : List (Fn × Fn) → Nat → WS → WS
 | [], _, st => st
 | f :: r, d, st => HK r d (GG (f.1 d st))
mutual
def FR : Hn → Fn
 | .mk k nt ii nm ws rs ks => Gz k nt ii nm ws rs (Ci ks)
def Et : Hn → Fn
 | .mk k nt ii nm ws rs ks => fun d st => if k = 5 then HK (Ci ks) d st else GG (Gz k nt ii nm ws rs (Ci ks) d st)
def Ci : List Hn → List (Fn × Fn)
 | [] => []
 | n :: r => (FR n, Et n) :: Ci r
end
def GV (btw : List UInt8) : List Hn → WS → WS
 | [], st => st
 | n :: r, st => GV (if n.kind = 6 then [32] else [59, 32]) r (FR n 0 (B6 st [btw]))
def IS (n : Hn) (st : WS) : WS := if n.kind = 5 then GV [] n.kids st else FR n 0 st
def KX (n : Hn) : WS := GG (IS n ws0)
theorem G5 : ∀ l : List Hn, (Ci l).length = l.length
 | [] => rfl
 | n :: r => by rw [Ci, List.length_cons, List.length_cons, G5 r]
theorem Nx : ∀ {l : List Hn} {i : Nat}, i < l.length → nth (Ci l) i Qu = (FR (nth l i EL), Et (nth l i EL))
 | [], _, h => absurd h (Nat.not_lt_zero _)
 | n :: r, 0, _ => by rw [Ci]; rfl
 | n :: r, i + 1, h => by
  rw [Ci]
  exact Nx (l := r) (i := i) (by simpa using h)
end Go.Tri

namespace Go.Tri
open Go.RowKit
def wz (st : WS) : Nat := st.out.length + st.docs.flatten.length + st.docs.length
theorem Cu (st : WS) (xs : List (List UInt8)) : wz (B6 st xs) = wz st + xs.flatten.length := by
 unfold wz B6; simp only [List.length_append]; omega
theorem VE (st : WS) : wz st.bd = wz st := rfl
theorem IZ (st : WS) : wz (GG st) ≤ wz st + 1 := by
 unfold GG
 rw [Cu]
 unfold wz B6
 simp only [List.length_append, List.flatten_cons, List.flatten_nil, List.length_nil, List.length_cons]; omega
theorem DM (st : WS) (xs : List (List UInt8)) : wz (CK st xs) ≤ wz st + xs.flatten.length + 1 := by
 unfold CK
 have := IZ (B6 st xs)
 rw [Cu] at this; omega
theorem Kx (st : WS) (n lo hi : Nat) : wz (Dv st n lo hi) = wz st := by
 unfold Dv; split <;> rfl
theorem KT : ∀ (n : Nat) (s : List UInt8), s.length ≤ n → (CQ s).length ≤ s.length
 | 0, s, h => by
  have : s = [] := List.eq_nil_of_length_eq_zero (by omega)
  subst this; exact Nat.le_refl _
 | n + 1, s, h => by
  by_cases h0 : s = []
  ·subst h0; exact Nat.le_refl _
  ·have h1 := H8 h0
   have hp := List.length_pos_iff.2 h0
   have ih := KT n (s.drop (Gd s)) (by rw [List.length_drop]; omega)
   rw [MF h0, List.length_cons]
   rw [List.length_drop] at ih
   have h2 := R5 s
   omega
theorem WV (doc : List UInt8) : (Ee doc).length ≤ doc.length := by
 unfold Ee; rw [List.length_map]; exact KT _ _ (Nat.le_refl _)
theorem VN {doc : List UInt8} (h : doc.length ≤ 100000000) : (Mx doc).length ≤ 22 := by
 have := WV doc
 exact Q8 _ _ (by omega)
theorem Nu (n : Int) (h : -9223372036854775808 ≤ n ∧ n ≤ 9223372036854775807) : (Lib.itoa n).length ≤ 20 := by
 have dd : ∀ k n : Nat, n < 10 ^ (k + 1) → (Lib.decDigits n).length ≤ k + 1 := by
  intro k
  induction k with
  | zero => intro n h; rw [EC (by omega)]; simp
  | succ k ih =>
   intro n h
   by_cases h1 : n < 10
   ·rw [EC h1]; simp
   ·rw [FT h1, List.length_append]
    have := ih (n / 10) (by
     rw [Nat.div_lt_iff_lt_mul (by omega)]
     rw [Nat.pow_succ] at h; exact h)
    simp; omega
 have h2 := dd 18 n.natAbs (by omega)
 have h3 := dd 18 n.toNat (by omega)
 unfold Lib.itoa
 split <;> simp <;> omega
def T5 (r : EK) : Prop := r.doc.length ≤ 100000000 ∧ -9223372036854775808 ≤ r.fd ∧ r.fd ≤ 9223372036854775807
def wR (r : EK) : Nat := r.op.length + r.word.length + r.doc.length + 120
theorem Z5 {r : EK} (h : T5 r) (ah : Bool) (st : WS) : wz (rdW r ah st) ≤ wz st + wR r := by
 have hd := VN h.1
 have hi := Nu r.fd h.2
 unfold rdW wR
 simp only
 have e1 : wz (if ah = true then B6 st [[32]] else st) ≤ wz st + 1 := by
  split
  ·rw [Cu]; simp
  ·omega
 generalize (if ah = true then B6 st [[32]] else st) = s1 at *
 have e2 : wz (if 0 ≤ r.fd then B6 s1 [Lib.itoa r.fd] else s1) ≤ wz s1 + 20 := by
  split
  ·rw [Cu]; simp; omega
  ·omega
 generalize (if 0 ≤ r.fd then B6 s1 [Lib.itoa r.fd] else s1) = s2 at *
 have e3 : wz (B6 s2 [r.op]) = wz s2 + r.op.length := by rw [Cu]; simp
 generalize B6 s2 [r.op] = s3 at *
 split
 ·rw [Cu]; simp; omega
 ·rw [Cu]
  have e4 : wz ⟨s3.out, s3.docs ++ [r.doc ++ Mx r.doc ++ [10]], s3.bad⟩ = wz s3 + (r.doc.length + (Mx r.doc).length + 1) + 1 := by
   unfold wz; simp only [List.flatten_append, List.length_append, List.flatten_cons, List.flatten_nil, List.length_nil, List.length_cons]; omega
  have e5 : ([if r.raw = true then [39] ++ Mx r.doc ++ [39] else Mx r.doc] : List (List UInt8)).flatten.length ≤ (Mx r.doc).length + 2 := by
   split <;> simp
  omega
def MA (l : List EK) : Nat := (l.map wR).sum
theorem UC : ∀ (l : List EK) (ah : Bool) (st : WS), (∀ r ∈ l, T5 r) → wz (LJ l ah st) ≤ wz st + MA l
 | [], _, st, _ => Nat.le_refl _
 | r :: l, ah, st, h => by
  have h1 := Z5 (h r (List.mem_cons_self)) ah st
  have h2 := UC l true (rdW r ah st) (fun x hx => h x (List.mem_cons_of_mem _ hx))
  rw [LJ]
  have : MA (r :: l) = wR r + MA l := by simp [MA]
  omega
def Ix (l : List (List UInt8)) : Nat := (l.map fun w => w.length + 20).sum
theorem GB (w : List UInt8) (l : List (List UInt8)) : Ix (w :: l) = w.length + 20 + Ix l := by simp [Ix]
theorem Kp (sep : List UInt8) (hs : sep.length ≤ 1) : ∀ l : List (List UInt8), (Lib.join l sep).length ≤ Ix l
 | [] => Nat.zero_le _
 | w :: l => by
  rw [Lib.join_cons, List.length_append, GB, Lib.joinTail_length]
  have h1 : (l.map (·.length)).sum + sep.length * l.length ≤ Ix l := by
   clear w
   induction l with
   | nil => simp [Ix]
   | cons a l ih =>
    rw [GB, List.map_cons, List.sum_cons, List.length_cons, Nat.mul_add]
    have : sep.length * 1 ≤ 1 := by omega
    omega
  have h2 : Lib.lens l = (l.map (·.length)).sum := rfl
  have h3 := Nat.mul_comm sep.length l.length
  omega
mutual
def wH : Hn → Nat
 | .mk _ _ _ nm ws rs ks => 200 + nm.length + Ix ws + MA rs + Hm ks
def Hm : List Hn → Nat
 | [] => 0
 | n :: r => wH n + 60 + Hm r
end
mutual
def Nj : Hn → Prop
 | .mk _ _ _ _ _ rs ks => (∀ r ∈ rs, T5 r) ∧ E9 ks
def E9 : List Hn → Prop
 | [] => True
 | n :: r => Nj n ∧ E9 r
end
def FB (f : Fn × Fn) (b : Nat) : Prop := (∀ d st, wz (f.1 d st) ≤ wz st + b) ∧ ∀ d st, wz (f.2 d st) ≤ wz st + (b + 1)
def XM : List (Fn × Fn) → Nat → Prop
 | [], _ => True
 | f :: r, t => ∃ b u, t = b + 60 + u ∧ FB f b ∧ XM r u
theorem ZG {btw : List UInt8} (hb : btw.length ≤ 3) : ∀ (fs : List (Fn × Fn)) (t : Nat) (fst : Bool) (d : Nat) (st : WS), XM fs t → wz (N4 btw fst fs d st) ≤ wz st + t
 | [], t, fst, d, st, _ => by rw [N4]; omega
 | f :: r, t, fst, d, st, h => by
  obtain ⟨b, u, rfl, hf, hr⟩ := h
  rw [N4]
  have h1 := ZG hb r u false d (f.1 d (if fst = true then st else CK st [btw])) hr
  have h2 := hf.1 d (if fst = true then st else CK st [btw])
  have h3 : wz (if fst = true then st else CK st [btw]) ≤ wz st + 4 := by
   split
   ·omega
   ·have := DM st [btw]; simp at this; omega
  omega
theorem Zo : ∀ (n : Nat) (fs : List (Fn × Fn)) (t : Nat) (sign : List UInt8) (d : Nat) (st : WS), fs.length ≤ n → sign.length ≤ 4 → XM fs t → wz (Iq fs sign d st) ≤ wz st + t + 20
 | _, [], t, sign, d, st, _, _, _ => by rw [Iq, Cu]; simp [fiS]; omega
 | _, [a], t, sign, d, st, _, _, h => by
  obtain ⟨b, u, rfl, hf, _⟩ := h
  rw [Iq, Cu]
  have h1 := hf.2 d (CK st [MQ])
  have h2 := DM st [MQ]
  simp [MQ, fiS] at h1 h2 ⊢; omega
 | 0, _ :: _ :: _, _, _, _, _, h, _, _ => by simp at h
 | n + 1, a :: a' :: r, t, sign, d, st, hn, hs, h => by
  obtain ⟨b, u, rfl, hf, b', u', rfl, hf', hr⟩ := h
  rw [Iq]
  have h1 := Zo n r u' Qv d (a'.2 d (CK (a.2 d (CK st [sign])) [thenS])) (by simp at hn; omega) (by decide) hr
  have h2 := hf'.2 d (CK (a.2 d (CK st [sign])) [thenS])
  have h3 := DM (a.2 d (CK st [sign])) [thenS]
  have h4 := hf.2 d (CK st [sign])
  have h5 := DM st [sign]
  simp only [List.flatten_cons, List.flatten_nil, List.append_nil] at h3 h5
  have h6 : thenS.length = 4 := rfl
  omega
theorem Tn : ∀ (ws pats : List (List UInt8)) (fs : List (Fn × Fn)) (t d : Nat) (st : WS), XM fs t → wz (H7 ws pats fs d st) ≤ wz st + Ix ws + Ix pats + t + 20
 | [], pats, fs, t, d, st, _ => by
  rw [H7, Cu]
  show wz st + _ ≤ _
  simp; omega
 | x :: r, pats, fs, t, d, st, h => by
  unfold H7
  rw [GB]
  split
  ·have := Tn r (pats ++ [x]) fs t d st h
   have e : Ix (pats ++ [x]) = Ix pats + (x.length + 20) := by simp [Ix]
   omega
  ·cases fs with
   | nil => simp only [VE]; omega
   | cons f fs' =>
    obtain ⟨b, u, rfl, hf, hr⟩ := h
    simp only
    split
    ·simp only [VE]; omega
    ·have h1 := Tn r [] fs' u d (CK (f.2 d (CK st [[40], Lib.join pats [124], [41]])) [[59, 59]]) hr
     have h2 := DM (f.2 d (CK st [[40], Lib.join pats [124], [41]])) [[59, 59]]
     have h3 := hf.2 d (CK st [[40], Lib.join pats [124], [41]])
     have h4 := DM st [[40], Lib.join pats [124], [41]]
     have h5 := Kp [124] (by decide) pats
     have h6 : Ix [] = 0 := rfl
     simp only [List.flatten_cons, List.flatten_nil, List.append_nil, List.length_append, List.length_cons, List.length_nil] at h2 h4
     omega
theorem Vh : ∀ (ws : List (List UInt8)) (st : WS), wz (ws.foldl (fun st x => B6 st [[32], x]) st) ≤ wz st + Ix ws
 | [], st => Nat.le_refl _
 | w :: ws, st => by
  have h1 := Vh ws (B6 st [[32], w])
  rw [List.foldl_cons, GB]
  rw [Cu] at h1
  simp at h1 ⊢; omega
theorem ABg {nm : List UInt8} {ii : Bool} {ws : List (List UInt8)} {f : Fn × Fn} {b : Nat} (hf : FB f b) (d : Nat) (st : WS) : wz (S3 nm ii ws f.2 d st) ≤ wz st + nm.length + Ix ws + b + 30 := by
 unfold S3
 simp only
 have e1 : wz (B6 st [[102, 111, 114, 32], nm]) = wz st + (4 + nm.length) := by rw [Cu]; simp; omega
 generalize B6 st [[102, 111, 114, 32], nm] = s1 at *
 have e2 : wz (if ii = true then B6 s1 [[32, 105, 110]] else s1) ≤ wz s1 + 3 := by
  split
  ·rw [Cu]; simp
  ·omega
 generalize (if ii = true then B6 s1 [[32, 105, 110]] else s1) = s2 at *
 have e3 := Vh ws s2
 generalize ws.foldl (fun st x => B6 st [[32], x]) s2 = s3 at *
 have e4 := IZ s3
 have e5 := DM (GG s3) [Wn]
 have e6 := hf.2 d (CK (GG s3) [Wn])
 rw [Cu]
 have h1 : ([Wn] : List (List UInt8)).flatten.length = 2 := rfl
 have h2 : ([Lf] : List (List UInt8)).flatten.length = 4 := rfl
 omega
theorem XM.at0 {fs : List (Fn × Fn)} {t : Nat} (h : XM fs t) (hl : 0 < fs.length) : ∃ b u, t = b + 60 + u ∧ FB (nth fs 0 Qu) b := by
 cases fs with
 | nil => exact absurd hl (Nat.lt_irrefl _)
 | cons f r => obtain ⟨b, u, h1, h2, _⟩ := h; exact ⟨b, u, h1, h2⟩
theorem XM.at1 {fs : List (Fn × Fn)} {t : Nat} (h : XM fs t) (hl : 1 < fs.length) : ∃ b b' u, t = b + 60 + (b' + 60 + u) ∧ FB (nth fs 0 Qu) b ∧ FB (nth fs 1 Qu) b' := by
 match fs, h, hl with
 | f :: g :: r, h, _ => obtain ⟨b, u, rfl, h2, b', u', rfl, h3, _⟩ := h; exact ⟨b, b', u', rfl, h2, h3⟩
theorem F6 {st : WS} {n lo hi : Nat} (h : ¬ (Dv st n lo hi).bad = true) : Dv st n lo hi = st ∧ lo ≤ n ∧ n ≤ hi := by
 unfold Dv at *
 split at h
 ·exact absurd rfl h
 ·rename_i h1; rw [if_neg h1]; exact ⟨rfl, by omega⟩
theorem U8 {k : Int} {nm : List UInt8} {ii : Bool} {ws : List (List UInt8)} {fs : List (Fn × Fn)} {t : Nat} (h : XM fs t) (d : Nat) (st : WS) : wz (Fc k nm ii ws fs d st) ≤ wz st + nm.length + Ix ws + t + 60 := by
 unfold Fc
 simp only
 split
 ·split
  ·rw [Kx]; omega
  ·rename_i hb
   obtain ⟨e, h1, h2⟩ := F6 hb
   obtain ⟨b, u, rfl, hf⟩ := h.at0 (by omega)
   rw [e, Cu]
   have e1 := hf.2 d (CK st [if k = 8 then [123] else [40]])
   have e2 := DM st [if k = 8 then [123] else [40]]
   have e3 : ([if k = 8 then [123] else [40]] : List (List UInt8)).flatten.length = 1 := by split <;> rfl
   have e4 : ([if k = 8 then [125] else [41]] : List (List UInt8)).flatten.length = 1 := by split <;> rfl
   omega
 ·split
  ·split
   ·rw [Kx]; omega
   ·rename_i hb
    obtain ⟨e, h1, h2⟩ := F6 hb
    rw [e]
    have := Zo _ fs t ifS d st (Nat.le_refl _) (by decide) h
    omega
  ·split
   ·split
    ·rw [Kx]; omega
    ·rename_i hb
     obtain ⟨e, h1, h2⟩ := F6 hb
     obtain ⟨b, b', u, rfl, hf, hg⟩ := h.at1 (by omega)
     rw [e, Cu]
     have e0 : ([if k = 11 then [117, 110, 116, 105, 108] else [119, 104, 105, 108, 101]] : List (List UInt8)).flatten.length = 5 := by split <;> rfl
     have e1 := DM st [if k = 11 then [117, 110, 116, 105, 108] else [119, 104, 105, 108, 101]]
     generalize CK st [if k = 11 then [117, 110, 116, 105, 108] else [119, 104, 105, 108, 101]] = s1 at *
     have e2 := hf.2 d s1
     have e3 := DM ((nth fs 0 Qu).2 d s1) [Wn]
     have e4 := hg.2 d (CK ((nth fs 0 Qu).2 d s1) [Wn])
     have h5 : ([Wn] : List (List UInt8)).flatten.length = 2 := rfl
     have h6 : ([Lf] : List (List UInt8)).flatten.length = 4 := rfl
     omega
   ·split
    ·split
     ·rw [Kx]; omega
     ·rename_i hb
      obtain ⟨e, h1, h2⟩ := F6 hb
      obtain ⟨b, u, rfl, hf⟩ := h.at0 (by omega)
      rw [e]
      have := ABg (nm := nm) (ii := ii) (ws := ws) hf d st
      omega
    ·split
     ·have h1 := Tn ws [] fs t d (CK st [[99, 97, 115, 101, 32], nm, [32, 105, 110]]) h
      have h2 := DM st [[99, 97, 115, 101, 32], nm, [32, 105, 110]]
      have h3 : Ix [] = 0 := rfl
      simp only [List.flatten_cons, List.flatten_nil, List.append_nil, List.length_append, List.length_cons, List.length_nil] at h2
      omega
     ·rw [VE]; omega
theorem ZU {k : Int} {nt ii : Bool} {nm : List UInt8} {ws : List (List UInt8)} {rs : List EK} {fs : List (Fn × Fn)} {t : Nat} (hr : ∀ r ∈ rs, T5 r) (h : XM fs t) (d : Nat) (st : WS) : wz (Gz k nt ii nm ws rs fs d st) ≤ wz st + (200 + nm.length + Ix ws + MA rs + t) := by
 unfold Gz
 split
 ·rw [VE]; omega
 ·split
  ·have h1 := UC rs (decide (0 < ws.length)) (B6 st [Lib.join ws [32]]) hr
   rw [Cu] at h1
   have h2 := Kp [32] (by decide) ws
   simp at h1 ⊢; omega
  ·split
   ·unfold HM
    simp only
    have e1 : wz (if k = 2 ∧ nt = true then B6 st [[33, 32]] else st) ≤ wz st + 2 := by
     split
     ·rw [Cu]; simp
     ·omega
    generalize (if k = 2 ∧ nt = true then B6 st [[33, 32]] else st) = s1 at *
    have hb : (P0 k).length ≤ 3 := by
     unfold P0
     split
     ·decide
     ·split
      ·decide
      ·split <;> decide
    have e2 := ZG hb fs t true (d + 1) s1 h
    split
    ·rw [Cu]; simp; omega
    ·omega
   ·split
    ·simp only
     split
     ·rw [Kx]; omega
     ·rename_i hb
      obtain ⟨e, h1, h2⟩ := F6 hb
      obtain ⟨b, u, rfl, hf⟩ := h.at0 (by omega)
      rw [e]
      have e1 := hf.1 (d + 1) (B6 st [nm, [40, 41, 32]])
      rw [Cu] at e1
      simp at e1 ⊢; omega
    ·have h1 := U8 (k := k) (nm := nm) (ii := ii) (ws := ws) h (d + 1) st
     have h2 := UC rs true (Fc k nm ii ws fs (d + 1) st) hr
     omega
theorem U5 : ∀ (fs : List (Fn × Fn)) (t d : Nat) (st : WS), XM fs t → wz (HK fs d st) ≤ wz st + t
 | [], t, d, st, _ => by rw [HK]; omega
 | f :: r, t, d, st, h => by
  obtain ⟨b, u, rfl, hf, hr⟩ := h
  rw [HK]
  have h1 := U5 r u d (GG (f.1 d st)) hr
  have h2 := IZ (f.1 d st)
  have h3 := hf.1 d st
  omega
mutual
theorem Ql : ∀ n : Hn, Nj n → FB (FR n, Et n) (wH n)
 | .mk k nt ii nm ws rs ks, h => by
  rw [Nj] at h
  have hF := Ud ks h.2
  have hS := fun d st => ZU (k := k) (nt := nt) (ii := ii) (nm := nm) (ws := ws) h.1 hF d st
  refine ⟨fun d st => ?_, fun d st => ?_⟩
  ·rw [FR, wH]; exact hS d st
  ·rw [Et, wH]
   simp only
   split
   ·have := U5 _ _ d st hF; omega
   ·have h1 := IZ (Gz k nt ii nm ws rs (Ci ks) d st)
    have h2 := hS d st
    omega
theorem Ud : ∀ l : List Hn, E9 l → XM (Ci l) (Hm l)
 | [], _ => by rw [Ci]; trivial
 | n :: r, h => by
  rw [E9] at h
  rw [Ci, Hm]
  exact ⟨wH n, Hm r, rfl, Ql n h.1, Ud r h.2⟩
end
theorem E9.nth : ∀ {l : List Hn} {i : Nat}, E9 l → i < l.length → Nj (nth l i EL)
 | [], _, _, h => absurd h (Nat.not_lt_zero _)
 | n :: r, 0, h, _ => by rw [E9] at h; exact h.1
 | n :: r, i + 1, h, hi => by rw [E9] at h; exact E9.nth (l := r) h.2 (by simpa using hi)
theorem E9.drop : ∀ {l : List Hn} (i : Nat), E9 l → E9 (l.drop i)
 | l, 0, h => h
 | [], i + 1, h => by simpa using h
 | n :: r, i + 1, h => by rw [E9] at h; exact E9.drop (l := r) i h.2
theorem Fl : ∀ {l : List Hn} {i : Nat}, i < l.length → Hm (l.drop i) = wH (nth l i EL) + 60 + Hm (l.drop (i + 1))
 | l, i, h => by rw [Bi EL h, Hm]
theorem Xe : ∀ (l : List Hn) (i : Nat), Hm (l.drop i) ≤ Hm l
 | l, 0 => Nat.le_refl _
 | [], i + 1 => by simp [Hm]
 | n :: r, i + 1 => by
  have := Xe r i
  rw [List.drop_succ_cons, Hm]; omega
theorem OD {l : List Hn} {i : Nat} (h : i < l.length) : wH (nth l i EL) + 60 ≤ Hm l := by
 have h1 := Fl h
 have h2 := Xe l i
 omega
def WU : Hn := .mk 9 false false [] [] [] [.mk 1 false false [] [[97]] [] [], .mk 1 false false [] [[98]] [] []]
end Go.Tri

namespace Go.Tri
open Go.RowKit
instance AMy : DecidableEq EK := fun a b => decidable_of_iff (a.fd = b.fd ∧ a.op = b.op ∧ a.word = b.word ∧ a.doc = b.doc ∧ a.raw = b.raw) ⟨fun h => by
 obtain ⟨h1, h2, h3, h4, h5⟩ := h
 cases a; cases b; simp_all, fun h => by subst h; exact ⟨rfl, rfl, rfl, rfl, rfl⟩⟩
mutual
def Ok : Hn → Nd → Bool
 | .mk k nt ii nm ws rs ks, .mk k' nt' ii' nm' ws' rs' ks' => decide (k = (k' : Int) ∧ nt = nt' ∧ ii = ii' ∧ nm = nm' ∧ ws = ws' ∧ rs = rs') && I3 ks ks'
def I3 : List Hn → List Nd → Bool
 | [], [] => true
 | a :: r, b :: s => Ok a b && I3 r s
 | _, _ => false
end
theorem RB : ∀ (a : List Hn) (b : List Nd), I3 a b = true → a.length = b.length
 | [], [], _ => rfl
 | _ :: r, _ :: s, h => by
  rw [I3, Bool.and_eq_true] at h
  rw [List.length_cons, List.length_cons, RB r s h.2]
 | [], _ :: _, h => by simp [I3] at h
 | _ :: _, [], h => by simp [I3] at h
theorem So : ∀ (a : List Hn) (b : List Nd), a.length = b.length → I3 a b = decide (∀ i, i < a.length → Ok (nth a i EL) (nth b i KK) = true)
 | [], [], _ => by rw [I3]; simp
 | x :: r, y :: s, h => by
  have ih := So r s (by simpa using h)
  rw [I3, ih, Bool.eq_iff_iff, Bool.and_eq_true, decide_eq_true_eq, decide_eq_true_eq]
  constructor
  ·rintro ⟨h1, h2⟩ i hi
   cases i with
   | zero => exact h1
   | succ i => exact h2 i (by simpa using hi)
  ·intro h1
   exact ⟨h1 0 (by simp), fun i hi => h1 (i + 1) (by simpa using hi)⟩
 | [], _ :: _, h => by simp at h
 | _ :: _, [], h => by simp at h
end Go.Tri

namespace Go.Tri
open Go.RowKit
def NZ {α : Type} (r : CC α) : Prop := ∀ a e, r = .bad a e → e ≠ 0
theorem Cs {α : Type} {x : α} {p : PS} : NZ (CC.ok x p) := fun _ _ h => by cases h
theorem Ft {α : Type} {a e : Nat} (h : e ≠ 0) : NZ (CC.bad (α := α) a e) := fun _ _ h9 => by cases h9; exact h
theorem BC {α β : Type} {m : PS → CC α} {f : α → PS → CC β} {p : PS} (h : NZ (m p)) (hf : ∀ x q, NZ (f x q)) : NZ (Cf m f p) := by
 unfold Cf
 cases hm : m p with
 | ok x q => exact hf x q
 | bad a e => intro b e' h9; cases h9; exact h _ _ hm
section
variable {s : List UInt8}
theorem Vl : ∀ (f : Nat) (p : PS), NZ (HJ s f p)
 | 0, _ => Cs
 | f + 1, p => by
  rw [HJ]
  split
  ·split
   ·exact Vl f _
   ·rename_i h; exact Ft h
  ·exact Cs
theorem C9 (p : PS) : NZ (C4 s p) := BC (Vl _ _) fun _ _ => Cs
theorem Sv : ∀ (f : Nat) (p : PS), NZ (Jh s f p)
 | 0, _ => Cs
 | f + 1, p => by
  rw [Jh]
  refine BC (C9 _) fun t q => ?_
  split
  ·exact Sv f _
  ·exact Cs
theorem HN (p : PS) : NZ (Dj s p) := Sv _ _
theorem Ef {b : CX → Bool} (p : PS) : NZ (Ep s b p) := BC (C9 _) fun _ _ => by split; exact Cs; exact Ft (by decide)
theorem NB (p : PS) : NZ (FU s p) := BC (C9 _) fun _ _ => by split; exact Cs; exact Ft (by decide)
theorem M0 (p : PS) : NZ (Kz s p) := BC (C9 _) fun _ _ => Cs
theorem AAG (fd : Int) (p : PS) : NZ (Kb s fd p) := BC (M0 _) fun _ _ => BC (C9 _) fun _ _ => by split; exact Cs; exact Ft (by decide)
theorem ADI (p : PS) : NZ (Iu s p) := by
 refine BC (C9 _) fun t q => ?_
 split
 ·split
  ·refine BC (C9 _) fun u r => ?_
   split
   ·exact AAG _ _
   ·exact Ft (by decide)
  ·exact Ft (by decide)
 ·exact AAG _ _
theorem Qb {α : Type} {b : CX → Bool} {m : PS → CC α} (hm : ∀ p, NZ (m p)) : ∀ (f : Nat) (l : List α) (p : PS), NZ (Gt s b m f l p)
 | 0, _, _ => Cs
 | f + 1, l, p => by
  rw [Gt]
  refine BC (C9 _) fun t q => ?_
  split
  ·exact BC (hm _) fun _ _ => Qb hm f _ _
  ·exact Cs
theorem AFL (p : PS) : NZ (Gh s p) := Qb ADI _ _ _
theorem Uv {A : PS → CC Nd} (hA : ∀ p, NZ (A p)) (p : PS) : NZ (PF s A p) := by
 refine BC (hA _) fun n q => BC (C9 _) fun t r => ?_
 split
 ·exact Cs
 ·split <;> exact Cs
theorem TH {A : PS → CC Nd} (hA : ∀ p, NZ (A p)) : ∀ (f : Nat) (l : List Nd) (p : PS), NZ (KA s A f l p)
 | 0, _, _ => Cs
 | f + 1, l, p => by
  rw [KA]
  refine BC (Uv hA _) fun x q => BC ?_ fun e q => BC (HN _) fun _ q => ?_
  ·split
   ·exact Cs
   ·exact BC (C9 _) fun _ _ => Cs
  ·split
   ·refine BC (C9 _) fun t q => ?_
    split
    ·exact TH hA f _ _
    ·exact Cs
   ·exact Cs
theorem ACD {A : PS → CC Nd} (hA : ∀ p, NZ (A p)) (p : PS) : NZ (MP s A p) := BC (HN _) fun _ _ => TH hA _ _ _
theorem PD {P : PS → CC Nd} (hP : ∀ p, NZ (P p)) : ∀ (f : Nat) (n : Nd) (p : PS), NZ (G8 s P f n p)
 | 0, _, _ => Cs
 | f + 1, n, p => by
  rw [G8]
  refine BC (C9 _) fun t q => ?_
  split
  ·exact BC (HN _) fun _ _ => BC (hP _) fun _ _ => PD hP f _ _
  ·exact Cs
theorem RO {P : PS → CC Nd} (hP : ∀ p, NZ (P p)) (p : PS) : NZ (IX s P p) := BC (hP _) fun _ _ => PD hP _ _ _
theorem Rm {C : PS → CC Nd} (hC : ∀ p, NZ (C p)) : ∀ (f : Nat) (l : List Nd) (p : PS), NZ (KJ s C f l p)
 | 0, _, _ => Cs
 | f + 1, l, p => by
  rw [KJ]
  refine BC (C9 _) fun t q => ?_
  split
  ·exact BC (HN _) fun _ _ => BC (hC _) fun _ _ => Rm hC f _ _
  ·exact Cs
theorem VR {C : PS → CC Nd} (hC : ∀ p, NZ (C p)) (p : PS) : NZ (LP s C p) := BC (C9 _) fun _ _ => BC (hC _) fun _ _ => BC (Rm hC _ _ _) fun _ _ => Cs
theorem YI {B : PS → CC Nd} (hB : ∀ p, NZ (B p)) : ∀ (f : Nat) (l : List Nd) (p : PS), NZ (ifN s B f l p)
 | 0, _, _ => Cs
 | f + 1, l, p => by
  rw [ifN]
  refine BC (M0 _) fun _ _ => BC (hB _) fun _ _ => BC (Ef _) fun _ _ => BC (hB _) fun _ _ => BC (C9 _) fun t q => ?_
  split
  ·exact YI hB f _ _
  ·exact Cs
theorem AGQ {B : PS → CC Nd} (hB : ∀ p, NZ (B p)) (p : PS) : NZ (ifP s B p) := by
 refine BC (YI hB _ _ _) fun l q => BC (C9 _) fun t q => ?_
 split
 ·exact BC (hB _) fun _ _ => BC (Ef _) fun _ _ => Cs
 ·exact BC (Ef _) fun _ _ => Cs
theorem Mw {B : PS → CC Nd} (hB : ∀ p, NZ (B p)) {n : List UInt8} {x : Bool × List (List UInt8)} (p : PS) : NZ (Oj s B n x p) := BC (Ef _) fun _ _ => BC (hB _) fun _ _ => BC (Ef _) fun _ _ => Cs
theorem ADl {B : PS → CC Nd} (hB : ∀ p, NZ (B p)) (p : PS) : NZ (T0 s B p) := by
 refine BC (M0 _) fun _ q => BC (C9 _) fun t q => ?_
 split
 ·refine BC (HN _) fun _ q => BC (C9 _) fun u q => ?_
  split
  ·refine BC (Qb NB _ _ _) fun l q => BC (C9 _) fun v q => ?_
   split
   ·exact BC (HN _) fun _ _ => Mw hB _
   ·exact BC (Ef _) fun _ _ => BC (HN _) fun _ _ => Mw hB _
  ·split
   ·exact BC (HN _) fun _ _ => Mw hB _
   ·exact Mw hB _
 ·exact Ft (by decide)
theorem VA : ∀ (f : Nat) (l : List (List UInt8)) (p : PS), NZ (Mk s f l p)
 | 0, _, _ => Cs
 | f + 1, l, p => by
  rw [Mk]
  refine BC (C9 _) fun t q => ?_
  split
  ·exact BC (NB _) fun _ _ => VA f _ _
  ·exact Cs
theorem TM {B : PS → CC Nd} (hB : ∀ p, NZ (B p)) : ∀ (f : Nat) (ws : List (List UInt8)) (l : List Nd) (p : PS), NZ (Fs s B f ws l p)
 | 0, _, _, _ => Cs
 | f + 1, ws, l, p => by
  have he : ∀ ws l q, NZ (Ia s (Fs s B f) ws l q) := fun ws l q => by
   refine BC (C9 _) fun v q => ?_
   split
   ·exact BC (HN _) fun _ _ => TM hB f _ _ _
   ·exact Cs
  rw [Fs]
  refine BC (C9 _) fun t q => ?_
  split
  ·exact Cs
  ·refine BC (NB _) fun x q => BC (VA _ _ _) fun ws q => BC (Ef _) fun _ _ => BC (HN _) fun _ q => BC (C9 _) fun u q => ?_
   split
   ·exact BC (hB _) fun _ _ => he _ _ _
   ·exact he _ _ _
theorem AAj {B : PS → CC Nd} (hB : ∀ p, NZ (B p)) (p : PS) : NZ (Nq s B p) :=
 BC (M0 _) fun _ _ => BC (NB _) fun _ _ => BC (HN _) fun _ _ => BC (Ef _) fun _ _ => BC (HN _) fun _ _ => BC (TM hB _ _ _ _) fun _ _ => BC (Ef _) fun _ _ => Cs
theorem ABM {B : PS → CC Nd} (hB : ∀ p, NZ (B p)) (p : PS) : NZ (I1 s B p) := by
 refine BC (BC (C9 _) fun t q => ?_) fun _ _ => BC (AFL _) fun _ _ => Cs
 split
 ·exact BC (hB _) fun _ _ => BC (Ef _) fun _ _ => Cs
 ·split
  ·exact BC (hB _) fun _ _ => BC (Ef _) fun _ _ => Cs
  ·split
   ·exact AGQ hB _
   ·split
    ·exact BC (hB _) fun _ _ => BC (Ef _) fun _ _ => BC (hB _) fun _ _ => BC (Ef _) fun _ _ => Cs
    ·split
     ·exact ADl hB _
     ·split
      ·exact AAj hB _
      ·exact Ft (by decide)
theorem Kr {F : List UInt8 → PS → CC Nd} (hF : ∀ n p, NZ (F n p)) : ∀ (f : Nat) (ws : List (List UInt8)) (rs : List EK) (p : PS), NZ (JY s F f ws rs p)
 | 0, _, _, _ => Cs
 | f + 1, ws, rs, p => by
  rw [JY]
  refine BC (C9 _) fun t q => ?_
  split
  ·exact BC (ADI _) fun _ _ => Kr hF f _ _ _
  ·split
   ·split
    ·exact Ft (by decide)
    ·split
     ·refine BC (C9 _) fun u q => ?_
      split
      ·exact BC (Ef _) fun _ _ => BC (HN _) fun _ _ => hF _ _
      ·exact Kr hF f _ _ _
     ·exact Kr hF f _ _ _
   ·split
    ·exact Ft (by decide)
    ·exact Cs
theorem YP : ∀ m : Nat, (∀ p, NZ ((Hr s m).1 p)) ∧ ∀ p, NZ ((Hr s m).2 p)
 | 0 => ⟨fun _ => BC (C9 _) fun _ _ => Ft (by decide), fun _ => BC (C9 _) fun _ _ => Ft (by decide)⟩
 | m + 1 => by
  have ih := YP m
  have hc : ∀ p, NZ ((Hr s (m + 1)).2 p) := ABM (ACD (RO (VR ih.1)))
  refine ⟨fun p => BC (C9 _) fun t q => ?_, hc⟩
  split
  ·exact hc _
  ·exact Kr (fun n p => BC (ih.2 _) fun _ _ => Cs) _ _ _ _
theorem RH : ∀ (f : Nat) (l : List Nd) (p : PS), NZ (Je s f l p)
 | 0, _, _ => Cs
 | f + 1, l, p => by
  rw [Je]
  refine BC (Uv (RO (VR (YP 25).1)) _) fun x q => ?_
  split
  ·exact RH f _ _
  ·unfold Eg
   split
   ·exact Cs
   ·split
    ·exact Cs
    ·exact Ft (by decide)
theorem RK (p : PS) : NZ (DI s p) := by
 refine BC (HN _) fun _ q => BC (C9 _) fun t q => ?_
 split
 ·exact Cs
 ·exact RH _ _ _
theorem UW {a : Int} (h : (CM s a).ok = true) : 0 ≤ a ∧ a ≤ (s.length : Int) ∧ s.length ≤ 65536 ∧ ∃ n q, DI s ⟨[], a.toNat⟩ = .ok (some n) q ∧ (CM s a).node = n ∧ (CM s a).next = q.next := by
 unfold CM at h ⊢
 split at h
 ·cases h
 ·split at h
  ·cases h
  ·rename_i h1 h2
   rw [if_neg h1, if_neg h2]
   refine ⟨by omega, by omega, by omega, ?_⟩
   cases hc : DI s ⟨[], a.toNat⟩ with
   | bad x e => rw [hc] at h; cases h
   | ok x q =>
    rw [hc] at h
    cases x with
    | none => cases h
    | some n => exact ⟨n, q, rfl, rfl, rfl⟩
theorem Tm {a : Int} (h : (CM s a).ok = false) (he : (CM s a).err = 0) : 0 ≤ a ∧ a ≤ (s.length : Int) ∧ ∃ q, DI s ⟨[], a.toNat⟩ = .ok none q := by
 unfold CM at h he
 split at h
 ·rename_i h1; rw [if_pos h1] at he; cases he
 ·rename_i h1
  rw [if_neg h1] at he
  split at h
  ·rename_i h2; rw [if_pos h2] at he; cases he
  ·rename_i h2
   rw [if_neg h2] at he
   refine ⟨by omega, by omega, ?_⟩
   cases hc : DI s ⟨[], a.toNat⟩ with
   | bad x e =>
    rw [hc] at he
    exact absurd he (RK _ _ _ hc)
   | ok x q =>
    rw [hc] at h
    cases x with
    | none => exact ⟨q, rfl⟩
    | some n => cases h
end
mutual
def HX : Hn → Prop
 | .mk k _ _ _ _ rs ks => (-9223372036854775808 ≤ k ∧ k ≤ 9223372036854775807) ∧ (∀ r ∈ rs, T5 r) ∧ US ks
def US : List Hn → Prop
 | [] => True
 | n :: r => HX n ∧ US r
end
mutual
theorem HX.ok : ∀ h : Hn, HX h → Nj h
 | .mk _ _ _ _ _ _ ks, h => by
  rw [HX] at h
  rw [Nj]
  exact ⟨h.2.1, US.ok ks h.2.2⟩
theorem US.ok : ∀ l : List Hn, US l → E9 l
 | [], _ => by rw [E9]; trivial
 | n :: r, h => by
  rw [US] at h
  rw [E9]
  exact ⟨HX.ok n h.1, US.ok r h.2⟩
end
mutual
def NdW : Nd → Prop
 | .mk k _ _ _ _ rs ks => k ≤ 9223372036854775807 ∧ (∀ r ∈ rs, -9223372036854775808 ≤ r.fd ∧ r.fd ≤ 9223372036854775807) ∧ Rf ks
def Rf : List Nd → Prop
 | [] => True
 | k :: ks => NdW k ∧ Rf ks
end
theorem Rf.nth {ks : List Nd} (h : Rf ks) : ∀ {i : Nat}, i < ks.length → NdW (nth ks i KK) := by
 induction ks with
 | nil => intro i hi; exact absurd hi (Nat.not_lt_zero i)
 | cons k ks ih =>
  intro i hi
  unfold Rf at h
  cases i with
  | zero => exact h.1
  | succ i => exact ih h.2 (by simpa using hi)
theorem Ph (n : Nat) (h : n ≤ 9223372036854775807) : (Lib.itoa (n : Int)).length ≤ 20 := Nu _ (by omega)
theorem O6 : ∀ l : List (List UInt8), Ix l ≤ 9223372036854775807 → (E4 l).length ≤ 3 * Ix l
 | [], _ => Nat.zero_le _
 | w :: l, h => by
  rw [GB] at h ⊢
  have ih := O6 l (by omega)
  have h1 := Ph w.length (by omega)
  have h2 : (E4 (w :: l)).length = 1 + ((Lib.itoa (w.length : Int)).length + 1 + w.length) + (E4 l).length := by
   unfold E4 FJ
   rw [List.flatMap_cons]
   simp only [List.length_append, List.length_cons, List.length_nil]
  omega
theorem Q6 : ∀ l : List EK, (∀ r ∈ l, T5 r) → MA l ≤ 9223372036854775807 → (Gx l).length ≤ 3 * MA l
 | [], _, _ => Nat.zero_le _
 | r :: l, hk, h => by
  have e : MA (r :: l) = wR r + MA l := by simp [MA]
  rw [e] at h ⊢
  have ih := Q6 l (fun x hx => hk x (List.mem_cons_of_mem _ hx)) (by omega)
  have hw : wR r = r.op.length + r.word.length + r.doc.length + 120 := rfl
  have h0 := Nu r.fd (hk r List.mem_cons_self).2
  have h1 := Ph r.op.length (by omega)
  have h2 := Ph r.word.length (by omega)
  have h3 := Ph r.doc.length (by omega)
  have h4 : (Gx (r :: l)).length = (Ob r).length + (Gx l).length := by
   unfold Gx
   rw [List.flatMap_cons, List.length_append]
  have h5 : (Ob r).length ≤ 1 + (Lib.itoa r.fd).length + ((Lib.itoa (r.op.length : Int)).length + 1 + r.op.length) + ((Lib.itoa (r.word.length : Int)).length + 1 + r.word.length) + ((Lib.itoa (r.doc.length : Int)).length + 1 + r.doc.length) + 3 := by
   unfold Ob FJ
   simp only [List.length_append, List.length_cons, List.length_nil]
   split <;> simp only [List.length_cons, List.length_nil] <;> omega
  omega
mutual
theorem Vt : ∀ (h : Hn) (m : Nd), Ok h m = true → HX h → wH h ≤ 1000000000 → NdW m ∧ (GC m).length ≤ 3 * wH h
 | .mk k nt ii nm ws rs ks, .mk k' nt' ii' nm' ws' rs' ks', ha, hx, hl => by
  rw [Ok, Bool.and_eq_true, decide_eq_true_eq] at ha
  obtain ⟨⟨h1, rfl, rfl, rfl, rfl, rfl⟩, hk⟩ := ha
  rw [HX] at hx
  rw [wH] at hl ⊢
  obtain ⟨i1, i2⟩ := SJ ks ks' hk hx.2.2 (by omega)
  have h2 := O6 ws (by omega)
  have h3 := Q6 rs hx.2.1 (by omega)
  have h4 := Ph k' (by omega)
  have h5 := Ph nm.length (by omega)
  refine ⟨?_, ?_⟩
  ·rw [NdW]; exact ⟨by omega, fun r hr => (hx.2.1 r hr).2, i1⟩
  ·rw [GC]
   unfold FJ
   simp only [List.length_append, List.length_cons, List.length_nil]
   split <;> split <;> simp only [List.length_cons, List.length_nil] <;> omega
theorem SJ : ∀ (l : List Hn) (ms : List Nd), I3 l ms = true → US l → Hm l ≤ 1000000000 → Rf ms ∧ (Di ms).length ≤ 3 * Hm l
 | [], [], _, _, _ => ⟨by simp [Rf], by simp [Di]⟩
 | a :: r, b :: t, ha, hx, hl => by
  rw [I3, Bool.and_eq_true] at ha
  rw [US] at hx
  rw [Hm] at hl ⊢
  obtain ⟨i1, i2⟩ := Vt a b ha.1 hx.1 (by omega)
  obtain ⟨j1, j2⟩ := SJ r t ha.2 hx.2 (by omega)
  rw [Rf, Di, List.length_append]
  exact ⟨⟨i1, j1⟩, by omega⟩
 | [], _ :: _, h, _, _ => by simp [I3] at h
 | _ :: _, [], h, _, _ => by simp [I3] at h
end
end Go.Tri
