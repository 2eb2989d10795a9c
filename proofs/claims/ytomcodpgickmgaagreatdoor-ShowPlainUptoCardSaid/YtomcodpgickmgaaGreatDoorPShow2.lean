/-
  The parser of a shell text, in plain words: a state is the tokens left of the line at hand and where the next line begins.
-/
import Derived.Test.YtomcodpgickmgaaGreatDoorPLex10
import Derived.Test.YtomcodpgickmgaaGreatDoorPNum
import Derived.Lib.Join
namespace Go.Tri
open Go.RowKit
structure PS where
  line : List Tok
  next : Nat
inductive ReR (α : Type) where
  | ok (x : α) (p : PS)
  | bad (a e : Nat)
def ReR.map {α β : Type} (f : α → β) : ReR α → ReR β
  | .ok x p => .ok (f x) p
  | .bad a e => .bad a e
/-- one reader behind the other -/
def bnd {α β : Type} (m : PS → ReR α) (f : α → PS → ReR β) (p : PS) : ReR β := match m p with
  | .ok x q => f x q
  | .bad a e => .bad a e
theorem bnd_ok {α β : Type} {m : PS → ReR α} {f : α → PS → ReR β} {p q : PS} {x : α} (h : m p = .ok x q) : bnd m f p = f x q := by unfold bnd; rw [h]
theorem bnd_bad {α β : Type} {m : PS → ReR α} {f : α → PS → ReR β} {p : PS} {a e : Nat} (h : m p = .bad a e) : bnd m f p = .bad a e := by unfold bnd; rw [h]
structure Rdr where
  fd : Int
  op : List UInt8
  word : List UInt8
  doc : List UInt8
  raw : Bool
inductive Nd where
  | mk (kind : Nat) (not isin : Bool) (name : List UInt8) (words : List (List UInt8)) (redirs : List Rdr) (kids : List Nd)
def Nd.kind : Nd → Nat
  | .mk k _ _ _ _ _ _ => k
def Nd.not : Nd → Bool
  | .mk _ k _ _ _ _ _ => k
def Nd.isin : Nd → Bool
  | .mk _ _ k _ _ _ _ => k
def Nd.name : Nd → List UInt8
  | .mk _ _ _ k _ _ _ => k
def Nd.words : Nd → List (List UInt8)
  | .mk _ _ _ _ k _ _ => k
def Nd.redirs : Nd → List Rdr
  | .mk _ _ _ _ _ k _ => k
def Nd.kids : Nd → List Nd
  | .mk _ _ _ _ _ _ k => k
def nd0 : Nd := .mk 0 false false [] [] [] []
/-- a tree of a kind with these below it -/
def ndK (k : Nat) (l : List Nd) : Nd := .mk k false false [] [] [] l
def severalP (l : List Nd) : Nd := match l with
  | [x] => if x.kind = 6 then ndK 5 [x] else x
  | l => ndK 5 l
/-- is a text one of some words? -/
def amongB (ws t : List UInt8) : Bool := decide (t ≠ []) && !Lib.contains t [32] && Lib.contains ([32] ++ ws ++ [32]) ([32] ++ t ++ [32])
def closersS : List UInt8 := [125, 32, 100, 111, 32, 100, 111, 110, 101, 32, 101, 108, 105, 102, 32, 101, 108, 115, 101, 32, 101, 115, 97, 99, 32, 102, 105, 32, 105, 110, 32, 116, 104, 101, 110]
def reservedS : List UInt8 := [33, 32, 123, 32, 99, 97, 115, 101, 32, 102, 111, 114, 32, 105, 102, 32, 117, 110, 116, 105, 108, 32, 119, 104, 105, 108, 101, 32] ++ closersS
def redirectS : List UInt8 := [60, 32, 62, 32, 62, 124, 32, 62, 62, 32, 60, 60, 32, 60, 60, 45, 32, 60, 38, 32, 62, 38, 32, 60, 62]
def opB (x : List UInt8) (t : Tok) : Bool := decide (t.kind = 2) && decide (t.text = x)
def keyB (x : List UInt8) (t : Tok) : Bool := decide (t.kind = 1) && decide (t.text = x)
def redirB (t : Tok) : Bool := decide (t.kind = 4) || (decide (t.kind = 2) && amongB redirectS t.text)
def beginB (t : Tok) : Bool := (decide (t.kind = 1) && !amongB closersS t.text) || opB [40] t || redirB t
def numOk (t : List UInt8) : Bool := match numB t with
  | some v => decide (v ≤ 9)
  | none => false
def numV (t : List UInt8) : Int := (numB t).getD 0
section
variable (s : List UInt8)
/-- what is left: a bound for all loops -/
def muP (p : PS) : Nat := p.line.length + (s.length - p.next)
/-- lines are read until one holds a token -/
def fillN : Nat → PS → ReR Unit
  | 0, p => .ok () p
  | f + 1, p => if p.line = [] ∧ p.next < s.length then if (lineP s p.next).err = 0 then fillN f ⟨(lineP s p.next).toks, (lineP s p.next).fin⟩ else .bad (lineP s p.next).place (lineP s p.next).err else .ok () p
def fillP (p : PS) : ReR Unit := fillN s (s.length - p.next + 1) p
def endT' : Tok := ⟨0, [], s.length, [], false⟩
def headT (p : PS) : Tok := match p.line with
  | [] => endT' s
  | t :: _ => t
/-- the token at hand -/
def nowP (p : PS) : ReR Tok := bnd (fillP s) (fun _ q => .ok (headT s q) q) p
def stepS (p : PS) : PS := ⟨p.line.drop 1, p.next⟩
def stepP (p : PS) : ReR Tok := bnd (nowP s) (fun t q => .ok t (stepS q)) p
def askP (b : Tok → Bool) (p : PS) : ReR Bool := bnd (nowP s) (fun t q => .ok (b t) q) p
def needP (b : Tok → Bool) (p : PS) : ReR Unit := bnd (nowP s) (fun t q => if b t then .ok () (stepS q) else .bad t.pos 56) p
def linesN : Nat → PS → ReR Unit
  | 0, p => .ok () p
  | f + 1, p => bnd (nowP s) (fun t q => if t.kind = 3 then linesN f (stepS q) else .ok () q) p
def linesP (p : PS) : ReR Unit := linesN s (muP s p + 1) p
def wordR (p : PS) : ReR (List UInt8) := bnd (nowP s) (fun t q => if t.kind = 1 then .ok t.text (stepS q) else .bad t.pos 56) p
def redirT (fd : Int) (p : PS) : ReR Rdr := bnd (stepP s) (fun o q => bnd (nowP s) (fun t r => if t.kind = 1 then .ok (if stB o.text [60, 60] then ⟨fd, [60, 60], [], t.doc, t.raw⟩ else ⟨fd, o.text, t.text, [], false⟩) (stepS r) else .bad t.pos 56) q) p
def redirR (p : PS) : ReR Rdr := bnd (nowP s) (fun t q => if t.kind = 4 then
    (if numOk t.text then bnd (nowP s) (fun u r => if u.kind = 2 ∧ redirB u = true then redirT s (numV t.text) r else .bad u.pos 56) (stepS q) else .bad t.pos 56)
  else redirT s (-1) q) p
def manyN {α : Type} (b : Tok → Bool) (m : PS → ReR α) : Nat → List α → PS → ReR (List α)
  | 0, l, p => .ok l p
  | f + 1, l, p => bnd (nowP s) (fun t q => if b t then bnd m (fun x r => manyN b m f (l ++ [x]) r) q else .ok l q) p
def manyP {α : Type} (b : Tok → Bool) (m : PS → ReR α) (p : PS) : ReR (List α) := manyN s b m (muP s p + 1) [] p
def redirsR (p : PS) : ReR (List Rdr) := manyP s redirB (redirR s) p
def wordsR (p : PS) : ReR (List (List UInt8)) := manyP s (fun t => decide (t.kind = 1)) (wordR s) p
/-- an and-or, and what ends it -/
def itemP (A : PS → ReR Nd) (p : PS) : ReR (Nd × Bool) := bnd A (fun n q => bnd (nowP s) (fun t r => if opB [38] t then .ok (ndK 6 [n], true) (stepS r) else if opB [59] t then .ok (n, true) (stepS r) else .ok (n, false) r) q) p
def bodyN (A : PS → ReR Nd) : Nat → List Nd → PS → ReR Nd
  | 0, l, p => .ok (severalP l) p
  | f + 1, l, p => bnd (itemP s A) (fun x q =>
      bnd (if x.2 then fun q => .ok true q else askP s (fun t => decide (t.kind = 3))) (fun ended q => bnd (linesP s) (fun _ q =>
        if ended then bnd (nowP s) (fun t q => if beginB t then bodyN A f (l ++ [x.1]) q else .ok (severalP (l ++ [x.1])) q) q else .ok (severalP (l ++ [x.1])) q) q) q) p
def bodyP (A : PS → ReR Nd) (p : PS) : ReR Nd := bnd (linesP s) (fun _ q => bodyN s A (muP s q + 1) [] q) p
def andorN (P : PS → ReR Nd) : Nat → Nd → PS → ReR Nd
  | 0, n, p => .ok n p
  | f + 1, n, p => bnd (nowP s) (fun t q => if opB [38, 38] t || opB [124, 124] t then bnd (linesP s) (fun _ r => bnd P (fun m r => andorN P f (ndK (if t.text = [124, 124] then 4 else 3) [n, m]) r) r) (stepS q) else .ok n q) p
def andorP (P : PS → ReR Nd) (p : PS) : ReR Nd := bnd P (fun n q => andorN s P (muP s q + 1) n q) p
def pipeN (C : PS → ReR Nd) : Nat → List Nd → PS → ReR (List Nd)
  | 0, l, p => .ok l p
  | f + 1, l, p => bnd (nowP s) (fun t q => if opB [124] t then bnd (linesP s) (fun _ r => bnd C (fun m r => pipeN C f (l ++ [m]) r) r) (stepS q) else .ok l q) p
def pipeR (not : Bool) (l : List Nd) : Nd := match l, not with
  | [x], false => x
  | l, not => .mk 2 not false [] [] [] l
def pipeP (C : PS → ReR Nd) (p : PS) : ReR Nd := bnd (nowP s) (fun t q => bnd C (fun n r => bnd (pipeN s C (muP s r + 1) [n]) (fun l r => .ok (pipeR (keyB [33] t) l) r) r) (if keyB [33] t then stepS q else q)) p
def ifN (B : PS → ReR Nd) : Nat → List Nd → PS → ReR (List Nd)
  | 0, l, p => .ok l p
  | f + 1, l, p => bnd (stepP s) (fun _ q => bnd B (fun a q => bnd (needP s (keyB [116, 104, 101, 110])) (fun _ q => bnd B (fun b q => bnd (nowP s) (fun t q => if keyB [101, 108, 105, 102] t then ifN B f (l ++ [a, b]) q else .ok (l ++ [a, b]) q) q) q) q) q) p
def ifK (B : PS → ReR Nd) (l : List Nd) (q : PS) : ReR Nd := bnd (nowP s) (fun t q => if keyB [101, 108, 115, 101] t then bnd B (fun x q => bnd (needP s (keyB [102, 105])) (fun _ q => .ok (ndK 9 (l ++ [x])) q) q) (stepS q) else bnd (needP s (keyB [102, 105])) (fun _ q => .ok (ndK 9 l) q) q) q
def ifP (B : PS → ReR Nd) (p : PS) : ReR Nd := bnd (ifN s B (muP s p + 1) []) (ifK s B) p
def forK (B : PS → ReR Nd) (name : List UInt8) (x : Bool × List (List UInt8)) (q : PS) : ReR Nd := bnd (needP s (keyB [100, 111])) (fun _ q => bnd B (fun b q => bnd (needP s (keyB [100, 111, 110, 101])) (fun _ q => .ok (.mk 12 false x.1 name x.2 [] [b]) q) q) q) q
def forIn (B : PS → ReR Nd) (name : List UInt8) (q : PS) : ReR Nd := bnd (wordsR s) (fun l q => bnd (nowP s) (fun v q => if v.kind = 3 then bnd (linesP s) (fun _ q => forK s B name (true, l) q) q else bnd (needP s (opB [59])) (fun _ q => bnd (linesP s) (fun _ q => forK s B name (true, l) q) q) q) q) q
def forP (B : PS → ReR Nd) (p : PS) : ReR Nd := bnd (stepP s) (fun _ q => bnd (nowP s) (fun t q => if t.kind = 1 ∧ nameB t.text = true then
    bnd (linesP s) (fun _ q => bnd (nowP s) (fun u q =>
      if keyB [105, 110] u then forIn s B t.text (stepS q)
      else if opB [59] u then bnd (linesP s) (fun _ q => forK s B t.text (false, []) q) (stepS q)
      else forK s B t.text (false, []) q) q) (stepS q)
  else .bad t.pos 56) q) p
def patN : Nat → List (List UInt8) → PS → ReR (List (List UInt8))
  | 0, l, p => .ok l p
  | f + 1, l, p => bnd (nowP s) (fun t q => if opB [124] t then bnd (wordR s) (fun x q => patN f (l ++ [x]) q) (stepS q) else .ok l q) p
def caseEnd (rec : List (List UInt8) → List Nd → PS → ReR (List (List UInt8) × List Nd)) (ws : List (List UInt8)) (l : List Nd) (p : PS) : ReR (List (List UInt8) × List Nd) := bnd (nowP s) (fun v q => if opB [59, 59] v then bnd (linesP s) (fun _ q => rec ws l q) (stepS q) else .ok (ws, l) q) p
def caseTail (B : PS → ReR Nd) (rec : List (List UInt8) → List Nd → PS → ReR (List (List UInt8) × List Nd)) (l : List Nd) (ws : List (List UInt8)) (p : PS) : ReR (List (List UInt8) × List Nd) :=
  bnd (needP s (opB [41])) (fun _ q => bnd (linesP s) (fun _ q => bnd (nowP s) (fun u q => if beginB u then bnd B (fun b q => caseEnd s rec (ws ++ [[41]]) (l ++ [b]) q) q else caseEnd s rec (ws ++ [[41]]) (l ++ [ndK 5 []]) q) q) q) p
def caseN (B : PS → ReR Nd) : Nat → List (List UInt8) → List Nd → PS → ReR (List (List UInt8) × List Nd)
  | 0, ws, l, p => .ok (ws, l) p
  | f + 1, ws, l, p => bnd (nowP s) (fun t q => if keyB [101, 115, 97, 99] t then .ok (ws, l) q else
      bnd (wordR s) (fun x q => bnd (patN s (muP s q + 1) (ws ++ [x])) (caseTail s B (caseN B f) l) q) (if opB [40] t then stepS q else q)) p
def caseK (x : List UInt8) (y : List (List UInt8) × List Nd) (q : PS) : ReR Nd := bnd (needP s (keyB [101, 115, 97, 99])) (fun _ q => .ok (.mk 13 false false x y.1 [] y.2) q) q
def caseP (B : PS → ReR Nd) (p : PS) : ReR Nd := bnd (stepP s) (fun _ q => bnd (wordR s) (fun x q => bnd (linesP s) (fun _ q => bnd (needP s (keyB [105, 110])) (fun _ q => bnd (linesP s) (fun _ q => bnd (caseN s B (muP s q + 1) [] []) (caseK s x) q) q) q) q) q) p
/-- a compound command without its redirections -/
def coreP (B : PS → ReR Nd) (p : PS) : ReR Nd := bnd (nowP s) (fun t q =>
    if opB [40] t then bnd B (fun b q => bnd (needP s (opB [41])) (fun _ q => .ok (ndK 7 [b]) q) q) (stepS q)
    else if keyB [123] t then bnd B (fun b q => bnd (needP s (keyB [125])) (fun _ q => .ok (ndK 8 [b]) q) q) (stepS q)
    else if keyB [105, 102] t then ifP s B q
    else if keyB [119, 104, 105, 108, 101] t || keyB [117, 110, 116, 105, 108] t then
      bnd B (fun a q => bnd (needP s (keyB [100, 111])) (fun _ q => bnd B (fun b q => bnd (needP s (keyB [100, 111, 110, 101])) (fun _ q => .ok (ndK (if t.text = [117, 110, 116, 105, 108] then 11 else 10) [a, b]) q) q) q) q) (stepS q)
    else if keyB [102, 111, 114] t then forP s B q
    else if keyB [99, 97, 115, 101] t then caseP s B q
    else .bad t.pos 56) p
def withR (n : Nd) (l : List Rdr) : Nd := .mk n.kind n.not n.isin n.name n.words l n.kids
def compP (B : PS → ReR Nd) (p : PS) : ReR Nd := bnd (coreP s B) (fun n q => bnd (redirsR s) (fun l q => .ok (withR n l) q) q) p
def simpN (F : List UInt8 → PS → ReR Nd) : Nat → List (List UInt8) → List Rdr → PS → ReR Nd
  | 0, ws, rs, p => .ok (.mk 1 false false [] ws rs []) p
  | f + 1, ws, rs, p => bnd (nowP s) (fun t q =>
      if redirB t then bnd (redirR s) (fun r q => simpN F f ws (rs ++ [r]) q) q
      else if t.kind = 1 then
        if ws = [] ∧ amongB reservedS t.text = true then .bad t.pos 56
        else if ws = [] ∧ rs = [] ∧ nameB t.text = true then
          bnd (nowP s) (fun u q => if opB [40] u then bnd (needP s (opB [41])) (fun _ q => bnd (linesP s) (fun _ q => F t.text q) q) (stepS q) else simpN F f [t.text] rs q) (stepS q)
        else simpN F f (ws ++ [t.text]) rs (stepS q)
      else if ws = [] ∧ rs = [] then .bad t.pos 56 else .ok (.mk 1 false false [] ws rs []) q) p
def simpP (F : List UInt8 → PS → ReR Nd) (p : PS) : ReR Nd := simpN s F (muP s p + 1) [] [] p
def nestP (p : PS) : ReR Nd := bnd (nowP s) (fun t _ => .bad t.pos 52) p
def fnP (C : PS → ReR Nd) (name : List UInt8) (p : PS) : ReR Nd := bnd C (fun n q => .ok (.mk 14 false false name [] [] [n]) q) p
def cmdP (C S : PS → ReR Nd) (p : PS) : ReR Nd := bnd (nowP s) (fun t q => if opB [40] t || (decide (t.kind = 1) && amongB reservedS t.text) then C q else S q) p
/-- a command, and a compound one, by what is left of the depth -/
def lvC : Nat → (PS → ReR Nd) × (PS → ReR Nd)
  | 0 => (nestP s, nestP s)
  | m + 1 => (cmdP s (compP s (bodyP s (andorP s (pipeP s (lvC m).1)))) (simpP s (fnP (lvC m).2)), compP s (bodyP s (andorP s (pipeP s (lvC m).1))))
def levP (m : Nat) : PS → ReR Nd := andorP s (pipeP s (lvC s m).1)
def moreB (q : PS) : Bool := match q.line with
  | [] => false
  | t :: _ => !decide (t.kind = 3)
def compEnd (l : List Nd) (q : PS) : ReR (Option Nd) := match q.line with
  | [] => .ok (some (severalP l)) q
  | t :: _ => if t.kind = 3 then .ok (some (severalP l)) (stepS q) else .bad t.pos 56
def compN : Nat → List Nd → PS → ReR (Option Nd)
  | 0, l, p => .ok (some (severalP l)) p
  | f + 1, l, p => bnd (itemP s (levP s 25)) (fun x q => if (x.2 && moreB q) = true then compN f (l ++ [x.1]) q else compEnd (l ++ [x.1]) q) p
/-- a complete command, if one is left -/
def completeP (p : PS) : ReR (Option Nd) := bnd (linesP s) (fun _ q => bnd (nowP s) (fun t q => if t.kind = 0 then .ok none q else compN s (muP s q + 1) [] q) q) p
end
structure FirstV where
  node : Nd
  ok : Bool
  next : Nat
  place : Nat
  err : Nat
def firstP' (s : List UInt8) (a : Int) : FirstV := if 65536 < s.length then ⟨nd0, false, 0, 0, 50⟩ else if a < 0 ∨ (s.length : Int) < a then ⟨nd0, false, 0, 0, 73⟩ else
  match completeP s ⟨[], a.toNat⟩ with
  | .ok (some n) q => ⟨n, true, q.next, 0, 0⟩
  | .ok none q => ⟨nd0, false, q.next, 0, 0⟩
  | .bad a e => ⟨nd0, false, 0, a, e⟩
end Go.Tri

/-
  What holds of a parser's states.
-/
namespace Go.Tri
open Go.RowKit
def Filled (s : List UInt8) (p : PS) : Prop := ¬ (p.line = [] ∧ p.next < s.length)
def OkP (s : List UInt8) (p : PS) : Prop := p.next ≤ s.length ∧ (∀ t ∈ p.line, t.text.length ≤ s.length ∧ 1 ≤ t.kind) ∧ p.line.length ≤ s.length
theorem OkP.line {s : List UInt8} {i : Nat} (hi : i ≤ s.length) (h : (lineP s i).err = 0) : OkP s ⟨(lineP s i).toks, (lineP s i).fin⟩ := by
  obtain ⟨_, _, _, ts, k, ds, j, e1, e2, e3⟩ := lineP_ok h
  rw [e3, Int.toNat_natCast] at *
  have h1 := lineL_st s _ i ts k hi e1
  have h2 := (docsL_st s ts none i (i + k) ds j h1 e2).1
  refine ⟨(stand_len h2).2, fun t ht => ?_, by have := stand_len h2; show ds.length ≤ s.length; omega⟩
  obtain ⟨n, hn, rfl⟩ := List.getElem_of_mem ht
  have key : ∀ (l : List Tok) (a : Nat), StandP s a l j → ∀ t ∈ l, t.text.length ≤ s.length ∧ 1 ≤ t.kind := by
    intro l
    induction l with
    | nil => intro a _ t ht; cases ht
    | cons u r ih =>
      intro a h t ht
      obtain ⟨⟨h1, h2, h3, h4, h5, _⟩, h6⟩ := h
      rcases List.mem_cons.1 ht with rfl | ht
      · exact ⟨by omega, h5⟩
      · exact ih _ h6 t ht
  exact key ds i h2 _ ht
theorem OkP.step {s : List UInt8} {p : PS} (h : OkP s p) : OkP s (stepS p) := ⟨h.1, fun t ht => h.2.1 t (List.mem_of_mem_drop ht), by have := h.2.2; unfold stepS; rw [List.length_drop]; omega⟩
theorem fill_stop {s : List UInt8} {p : PS} {f : Nat} (h : Filled s p) : fillN s f p = .ok () p := by
  cases f with
  | zero => rfl
  | succ f => rw [fillN, if_neg h]
theorem now_filled {s : List UInt8} {p : PS} (h : Filled s p) : nowP s p = .ok (headT s p) p := by
  unfold nowP
  rw [bnd_ok (show fillP s p = .ok () p from fill_stop h)]
theorem step_filled {s : List UInt8} {p : PS} (h : Filled s p) : stepP s p = .ok (headT s p) (stepS p) := by
  unfold stepP
  rw [bnd_ok (now_filled h)]
theorem ask_filled {s : List UInt8} {p : PS} (b : Tok → Bool) (h : Filled s p) : askP s b p = .ok (b (headT s p)) p := by
  unfold askP
  rw [bnd_ok (now_filled h)]
theorem headT_cons {s : List UInt8} {p : PS} {t : Tok} {r : List Tok} (h : p.line = t :: r) : headT s p = t := by unfold headT; rw [h]
theorem headT_nil {s : List UInt8} {p : PS} (h : p.line = []) : headT s p = endT' s := by unfold headT; rw [h]
theorem headT_len {s : List UInt8} {p : PS} (h : OkP s p) : (headT s p).text.length ≤ s.length := by
  cases hl : p.line with
  | nil => rw [headT_nil hl]; exact Nat.zero_le _
  | cons t r => rw [headT_cons hl]; exact (h.2.1 t (by rw [hl]; exact List.mem_cons_self)).1
theorem headT_line {s : List UInt8} {p : PS} (h : (headT s p).kind ≠ 0) : p.line ≠ [] := fun hl => by rw [headT_nil hl] at h; exact h rfl
theorem mu_le {s : List UInt8} {p : PS} (h : OkP s p) : muP s p ≤ 2 * s.length := by
  have := h.2.2
  unfold muP
  omega
theorem mu_step {s : List UInt8} {p : PS} (h : (headT s p).kind ≠ 0) : muP s (stepS p) + 1 ≤ muP s p := by
  have := List.length_pos_iff.2 (headT_line h)
  unfold muP stepS
  rw [List.length_drop]
  dsimp only
  omega
theorem mu_step0 {s : List UInt8} {p : PS} : muP s (stepS p) ≤ muP s p := by
  unfold muP stepS
  rw [List.length_drop]
  dsimp only
  omega
theorem opB_kind {x : List UInt8} {t : Tok} (h : opB x t = true) : t.kind ≠ 0 := by
  unfold opB at h
  rw [Bool.and_eq_true, decide_eq_true_eq] at h
  omega
theorem keyB_kind {x : List UInt8} {t : Tok} (h : keyB x t = true) : t.kind ≠ 0 := by
  unfold keyB at h
  rw [Bool.and_eq_true, decide_eq_true_eq] at h
  omega
/-- a line more -/
theorem fill_step {s : List UInt8} {p : PS} {f : Nat} {β : Type} {R : ReR β} {k : Unit → PS → ReR β} (hc : p.line = [] ∧ p.next < s.length) (h : R = bnd (fillN s (f + 1)) k p) :
    ((lineP s p.next).err = 0 → R = bnd (fillN s f) k ⟨(lineP s p.next).toks, (lineP s p.next).fin⟩) ∧ ((lineP s p.next).err ≠ 0 → R = .bad (lineP s p.next).place (lineP s p.next).err) := by
  refine ⟨fun he => ?_, fun he => ?_⟩
  · rw [h]; unfold bnd; rw [fillN, if_pos hc, if_pos he]
  · rw [h]; unfold bnd; rw [fillN, if_pos hc, if_neg he]
theorem fill_done {s : List UInt8} {p : PS} {f : Nat} {β : Type} {R : ReR β} {k : Unit → PS → ReR β} (hc : Filled s p) (h : R = bnd (fillN s f) k p) : R = k () p := by rw [h, bnd_ok (fill_stop hc)]
theorem mu_line {s : List UInt8} {p : PS} (hp : OkP s p) (hc : p.line = [] ∧ p.next < s.length) (he : (lineP s p.next).err = 0) :
    OkP s ⟨(lineP s p.next).toks, (lineP s p.next).fin⟩ ∧ muP s ⟨(lineP s p.next).toks, (lineP s p.next).fin⟩ ≤ muP s p ∧ s.length - (lineP s p.next).fin < s.length - p.next := by
  obtain ⟨h1, h2, h3, h4⟩ := line_fin hp.1 he
  have h5 := h3 hc.2
  refine ⟨OkP.line hp.1 he, ?_, by omega⟩
  unfold muP
  rw [hc.1]
  simp only [List.length_nil]
  omega
/-- the value of a reader handed on -/
def bndV {α β : Type} (r : ReR α) (f : α → PS → ReR β) : ReR β := match r with
  | .ok x q => f x q
  | .bad a e => .bad a e
theorem bnd_v {α β : Type} {m : PS → ReR α} {f : α → PS → ReR β} {p : PS} : bnd m f p = bndV (m p) f := rfl
theorem ask_of {s : List UInt8} {b : Tok → Bool} {p q : PS} {t : Tok} (h : nowP s p = .ok t q) : askP s b p = .ok (b t) q := by unfold askP; rw [bnd_ok h]
theorem ask_bad {s : List UInt8} {b : Tok → Bool} {p : PS} {a e : Nat} (h : nowP s p = .bad a e) : askP s b p = .bad a e := by unfold askP; rw [bnd_bad h]
theorem wordR_filled {s : List UInt8} {p : PS} (h : Filled s p) (hk : (headT s p).kind = 1) : wordR s p = .ok (headT s p).text (stepS p) := by
  unfold wordR
  rw [bnd_ok (now_filled h), if_pos hk]
theorem word_inj {s : List UInt8} {p q : PS} {x : List UInt8} (h : Filled s p) (hk : (headT s p).kind = 1) (he : wordR s p = .ok x q) : x = (headT s p).text ∧ q = stepS p := by
  rw [wordR_filled h hk] at he
  cases he
  exact ⟨rfl, rfl⟩
theorem comp_fill {s : List UInt8} {B : PS → ReR Nd} {p q : PS} {t : Tok} (h : nowP s p = .ok t q) (hf : Filled s q) (ht : t = headT s q) : compP s B p = compP s B q := by
  have h2 : nowP s q = .ok t q := by rw [now_filled hf, ht]
  unfold compP
  rw [bnd_v, bnd_v]
  unfold coreP
  rw [bnd_ok h, bnd_ok h2]
theorem comp_bad {s : List UInt8} {B : PS → ReR Nd} {p : PS} {a e : Nat} (h : nowP s p = .bad a e) : compP s B p = .bad a e := by
  unfold compP
  rw [bnd_v]
  unfold coreP
  rw [bnd_bad h]; rfl
theorem lvC_now (s : List UInt8) (n : Nat) : ∃ k, (lvC s n).1 = bnd (nowP s) k ∧ (n = 0 → k = fun t _ => .bad t.pos 52) ∧ (∀ m, n = m + 1 → k = fun t q => if opB [40] t || (decide (t.kind = 1) && amongB reservedS t.text) then (lvC s (m + 1)).2 q else simpP s (fnP (lvC s m).2) q) := by
  cases n with
  | zero => exact ⟨_, rfl, fun _ => rfl, fun m h => by cases h⟩
  | succ m => exact ⟨_, rfl, fun h => by (cases h), fun m' h => by cases h; rfl⟩
end Go.Tri

/-
  Lines as the kinds and texts of their tokens; the parser's small steps on a line at hand.
-/
namespace Go.Tri
open Go.RowKit
def keyT (t : Tok) : Nat × List UInt8 := (t.kind, t.text)
/-- a line's tokens, wherever it stands -/
def LexK (l : List UInt8) (ks : List (Nat × List UInt8)) (k : Nat) : Prop := ∀ f p, l.length < f → ∃ ts, lineL f p l = .ok ts k ∧ ts.map keyT = ks
theorem lk_end {l : List UInt8} {k : Nat} (h : tokP l = .stop k) : LexK l [] k := fun f p hf => by
  obtain ⟨g, rfl⟩ : ∃ g, f = g + 1 := ⟨f - 1, by omega⟩
  exact ⟨[], by rw [lineL, h], rfl⟩
theorem lk_nl {l : List UInt8} {off k : Nat} {text : List UInt8} (h : tokP l = .tok off k 3 text) : LexK l [(3, text)] k := fun f p hf => by
  obtain ⟨g, rfl⟩ : ∃ g, f = g + 1 := ⟨f - 1, by omega⟩
  exact ⟨_, by rw [lineL, h]; exact if_pos rfl, rfl⟩
theorem lk_tok {u r : List UInt8} {off kind m : Nat} {text : List UInt8} {ks : List (Nat × List UInt8)} (h : tokP (u ++ r) = .tok off u.length kind text) (h3 : kind ≠ 3) (h1 : 1 ≤ u.length) (hr : LexK r ks m) : LexK (u ++ r) ((kind, text) :: ks) (u.length + m) := fun f p hf => by
  obtain ⟨g, rfl⟩ : ∃ g, f = g + 1 := ⟨f - 1, by omega⟩
  rw [List.length_append] at hf
  obtain ⟨ts, h2, h4⟩ := hr g (p + u.length) (by omega)
  refine ⟨⟨kind, text, p + off, [], false⟩ :: ts, ?_, by rw [List.map_cons, h4]; rfl⟩
  rw [lineL, h]
  show (if kind = 3 then _ else _ : LnR) = _
  rw [if_neg h3, List.drop_left, h2]; rfl
theorem docsL_plain (s : List UInt8) : ∀ (ts : List Tok) (prev : Option Tok) (j : Nat), (∀ t ∈ ts, t.kind = 2 → stB t.text [60, 60] = false) → (∀ q, prev = some q → q.kind = 2 → stB q.text [60, 60] = false) → docsL s prev ts j = .ok ts j
  | [], _, _, _, _ => rfl
  | t :: r, prev, j, h, hp => by
    have hh : hereB prev t = false := by
      cases prev with
      | none => rfl
      | some q =>
        show (decide (t.kind = 1) && decide (q.kind = 2) && stB q.text [60, 60]) = false
        by_cases hk : q.kind = 2
        · rw [hp q rfl hk]; simp
        · simp [hk]
    rw [docsL, if_neg (by rw [hh]; simp), docsL_plain s r (some t) j (fun u hu => h u (List.mem_cons_of_mem _ hu)) (fun q hq => by cases hq; exact h t List.mem_cons_self)]
    rfl
theorem line_keys {s : List UInt8} {i k : Nat} {ks : List (Nat × List UInt8)} (hs : s.length ≤ 65536) (hi : i ≤ s.length) (h : LexK (s.drop i) ks k) (hd : ∀ x ∈ ks, x.1 = 2 → stB x.2 [60, 60] = false) : ∃ ts, lineP s i = ⟨ts, i + k, 0, 0⟩ ∧ ts.map keyT = ks := by
  obtain ⟨ts, h1, h2⟩ := h (s.length + 1) i (by rw [List.length_drop]; omega)
  refine ⟨ts, ?_, h2⟩
  unfold lineP
  rw [if_neg (by omega), if_neg (by omega)]
  show lineAt s i = _
  unfold lineAt
  rw [h1]
  show (match docsL s none ts (i + k) with
    | .bad a => (⟨[], 0, a, 54⟩ : LineV)
    | .ok ds j => ⟨ds, j, 0, 0⟩) = _
  rw [docsL_plain s ts none (i + k) (fun t ht => hd (keyT t) (by rw [← h2]; exact List.mem_map_of_mem ht)) (fun q hq => by cases hq)]
/-! the steps on a line at hand -/
variable {s : List UInt8}
theorem filled_c {t : Tok} {l : List Tok} {nx : Nat} : Filled s ⟨t :: l, nx⟩ := fun h => by cases h.1
theorem filled_e {nx : Nat} (h : s.length ≤ nx) : Filled s ⟨[], nx⟩ := fun h2 => by have := h2.2; dsimp only at this; omega
theorem now_c {α : Type} {k : Tok → PS → ReR α} {t : Tok} {l : List Tok} {nx : Nat} : bnd (nowP s) k ⟨t :: l, nx⟩ = k t ⟨t :: l, nx⟩ := bnd_ok (now_filled filled_c)
theorem now_e {α : Type} {k : Tok → PS → ReR α} {nx : Nat} (h : s.length ≤ nx) : bnd (nowP s) k ⟨[], nx⟩ = k (endT' s) ⟨[], nx⟩ := bnd_ok (now_filled (filled_e h))
/-- the next line is read -/
theorem now_l {α : Type} {k : Tok → PS → ReR α} {t : Tok} {l : List Tok} {i nx : Nat} (h : lineP s i = ⟨t :: l, nx, 0, 0⟩) (hi : i < s.length) : bnd (nowP s) k ⟨[], i⟩ = k t ⟨t :: l, nx⟩ := by
  refine bnd_ok ?_
  unfold nowP
  refine (bnd_ok (q := ⟨t :: l, nx⟩) (x := ()) ?_).trans rfl
  show fillN s (s.length - i + 1) ⟨[], i⟩ = _
  rw [fillN, if_pos ⟨rfl, hi⟩, h]
  show (if (0 : Nat) = 0 then _ else _ : ReR Unit) = _
  rw [if_pos rfl]
  exact fill_stop filled_c
theorem lines_c {α : Type} {k : Unit → PS → ReR α} {t : Tok} {l : List Tok} {nx : Nat} (h : t.kind ≠ 3) : bnd (linesP s) k ⟨t :: l, nx⟩ = k () ⟨t :: l, nx⟩ := by
  refine bnd_ok ?_
  rw [linesP, linesN, now_c, if_neg h]
theorem lines_e {α : Type} {k : Unit → PS → ReR α} {nx : Nat} (h : s.length ≤ nx) : bnd (linesP s) k ⟨[], nx⟩ = k () ⟨[], nx⟩ := by
  refine bnd_ok ?_
  rw [linesP, linesN, now_e h]
  exact if_neg (show ¬ (0 : Nat) = 3 by decide)
theorem lines_l {α : Type} {k : Unit → PS → ReR α} {t : Tok} {l : List Tok} {i nx : Nat} (h : lineP s i = ⟨t :: l, nx, 0, 0⟩) (hi : i < s.length) (h3 : t.kind ≠ 3) : bnd (linesP s) k ⟨[], i⟩ = k () ⟨t :: l, nx⟩ := by
  refine bnd_ok ?_
  rw [linesP, linesN, now_l h hi, if_neg h3]
/-- a newline at the line's end, and the next line -/
theorem lines_nl {α : Type} {k : Unit → PS → ReR α} {t u : Tok} {l : List Tok} {i nx : Nat} (h3 : t.kind = 3) (h : lineP s i = ⟨u :: l, nx, 0, 0⟩) (hi : i < s.length) (hu : u.kind ≠ 3) : bnd (linesP s) k ⟨[t], i⟩ = k () ⟨u :: l, nx⟩ := by
  refine bnd_ok ?_
  rw [linesP, linesN, now_c, if_pos h3]
  show linesN s (1 + (s.length - i)) ⟨[], i⟩ = _
  rw [Nat.add_comm, linesN, now_l h hi, if_neg hu]
/-- a text no command begins with otherwise than as a word -/
def plainW (w : List UInt8) : Prop := amongB reservedS w = false ∧ nameB w = false
/-- what ends a simple command's words -/
def StopS (s : List UInt8) (p : PS) : Prop := Filled s p ∧ redirB (headT s p) = false ∧ (headT s p).kind ≠ 1
theorem not_bang {t : Tok} (h : plainW t.text) : keyB [33] t = false := by
  unfold keyB
  rw [Bool.and_eq_false_iff]
  refine .inr (decide_eq_false fun e => ?_)
  have := h.1
  rw [e] at this
  exact absurd this (by decide +kernel)
end Go.Tri

/-
  Quoted words are read as a simple command of just these words; several of them with | between as a pipeline.
-/
namespace Go.Tri
open Go.RowKit
theorem tokP_nl (r : List UInt8) : tokP (10 :: r) = .tok 0 1 3 [10] := by
  have hb : blankN (10 :: r) = 0 := by
    unfold blankN
    rw [show stB (10 :: r) [92, 10] = false from by unfold stB; rw [decide_eq_false]; intro e; cases e]
    rfl
  rw [tokP_head (by simp) hb]
  unfold headP
  exact if_pos rfl
section
variable {s : List UInt8}
end
theorem drop_len {a b : List UInt8} {n : Nat} (h : a.length = n) : (a ++ b).drop n = b := by rw [← h, List.drop_left]
end Go.Tri

/-
  Commands within one another are read up to the depth 24, and refused beyond.
-/
namespace Go.Tri
open Go.RowKit
abbrev Key := Nat × List UInt8
def openK : Nat → List Key
  | 0 => [(2, [40])]
  | 1 => [(1, [123])]
  | 2 => [(1, [105, 102])]
  | 3 => [(1, [119, 104, 105, 108, 101]), (1, [97]), (2, [59]), (1, [100, 111])]
  | _ => [(1, [102]), (2, [40]), (2, [41]), (1, [123])]
def closeK : Nat → List Key
  | 0 => [(2, [41])]
  | 1 => [(2, [59]), (1, [125])]
  | 2 => [(2, [59]), (1, [116, 104, 101, 110]), (1, [97]), (2, [59]), (1, [102, 105])]
  | 3 => [(2, [59]), (1, [100, 111, 110, 101])]
  | _ => [(2, [59]), (1, [125])]
def deepK (k : Nat) : Nat → List Key
  | 0 => [(1, [97])]
  | n + 1 => openK k ++ deepK k n ++ closeK k
/-! lexing -/
def easyW (w : List UInt8) : Bool := w.all easyB && !decide (w = []) && !decide (nth w 0 0 = 35)
theorem tokP_w (w : List UInt8) (hw : easyW w = true) (hl : w.length ≤ 4096) (r : List UInt8) (hr : r = [] ∨ (hasB specials (nth r 0 0) = true ∧ nth r 0 0 ≠ 60 ∧ nth r 0 0 ≠ 62)) : tokP (w ++ r) = .tok 0 w.length 1 w := by
  unfold easyW at hw
  rw [Bool.and_eq_true, Bool.and_eq_true, Bool.not_eq_true', Bool.not_eq_true', decide_eq_false_iff_not, decide_eq_false_iff_not] at hw
  obtain ⟨⟨hw1, hw2⟩, hw3⟩ := hw
  obtain ⟨c, q, rfl⟩ := List.exists_cons_of_ne_nil hw2
  have hx := word_easy (c :: q) r hw1
  have hstop : wordP r = .ok 0 := by
    rcases hr with rfl | hr
    · rfl
    · exact word_stop hr.1
  rw [hstop] at hx
  have hce : easyB c = true := List.all_eq_true.1 hw1 c List.mem_cons_self
  have key : ∀ c : UInt8, easyB c = true → c ≠ 92 ∧ c ≠ 32 ∧ c ≠ 9 ∧ c ≠ 10 ∧ hasB opFirst c = false := u8_all (by decide +kernel)
  obtain ⟨k1, k2, k3, k5, k6⟩ := key c hce
  have k4 : c ≠ 35 := hw3
  have hcons : (c :: q) ++ r = c :: (q ++ r) := rfl
  have h1 : stB (c :: (q ++ r)) [92, 10] = false := by
    unfold stB
    rw [decide_eq_false]
    intro e
    have := congrArg (fun l => nth l 0 0) e
    exact k1 (by simpa [nth] using this)
  have hb : blankN (c :: (q ++ r)) = 0 := by
    unfold blankN
    rw [h1, if_neg (by simp)]
    show (if (decide (c = 32) || decide (c = 9)) = true then 1 else if c = 35 then _ else 0) = 0
    rw [decide_eq_false k2, decide_eq_false k3, if_neg (by simp), if_neg k4]
  have hh : headP (c :: (q ++ r)) = restP (c :: (q ++ r)) := by
    unfold headP
    rw [if_neg (show ¬ nth (c :: (q ++ r)) 0 0 = 10 from k5), opP_no (show hasB opFirst (nth (c :: (q ++ r)) 0 0) = false from k6), if_neg (by simp)]
  rw [hcons, tokP_head (by simp) hb, hh, ← hcons]
  unfold restP
  rw [hx]
  show (if 4096 < (c :: q).length + 0 then _ else _ : TR) = _
  rw [Nat.add_zero, if_neg (by omega)]
  have hnum : numberB ((c :: q) ++ r) (c :: q).length = false := by
    unfold numberB
    rw [List.drop_left]
    rcases hr with rfl | ⟨-, h1, h2⟩
    · rw [stB_nil (by simp), stB_nil (by simp)]; simp
    · cases r with
      | nil => rw [stB_nil (by simp), stB_nil (by simp)]; simp
      | cons d r =>
        rw [stB_one, stB_one, decide_eq_false (show ¬ d = 60 from h1), decide_eq_false (show ¬ d = 62 from h2)]; simp
  rw [hnum, List.take_left]; rfl
theorem op_alone {c : UInt8} (hc : ∀ d, Lib.contains opsS [32, c, d] = true → d = 32) (ho : isOp [c] = true) (r : List UInt8) : opP (c :: r) = [c] := by
  have key : ∀ (d : UInt8) (t : List UInt8), isOp (c :: d :: t) = false := fun d t => by
    unfold isOp
    rw [Bool.and_eq_false_iff]
    by_cases hd : d = 32
    · right
      subst hd
      simp [hasB]
    · left
      cases h : Lib.contains opsS ([32] ++ (c :: d :: t) ++ [32]) with
      | false => rfl
      | true =>
        exact absurd (hc d (contains_app (a := [32, c, d]) (b := t ++ [32]) _ (by simpa using h))) hd
  have h3 : opAt (c :: r) 3 = false := by
    unfold opAt
    cases r with
    | nil => rfl
    | cons d r =>
      cases r with
      | nil => rfl
      | cons e r => rw [show (c :: d :: e :: r).take 3 = c :: d :: [e] from rfl, key]; simp
  have h2 : opAt (c :: r) 2 = false := by
    unfold opAt
    cases r with
    | nil => rfl
    | cons d r => rw [show (c :: d :: r).take 2 = c :: d :: [] from rfl, key]; simp
  have h1 : opAt (c :: r) 1 = true := by
    unfold opAt
    rw [show (c :: r).take 1 = [c] from rfl, ho]; rfl
  unfold opP
  rw [opN, if_neg (by rw [h3]; simp), opN, if_neg (by rw [h2]; simp), opN, if_pos h1]; rfl
theorem tokP_op {c : UInt8} {r : List UInt8} (h : opP (c :: r) = [c]) (hc : c ≠ 92 ∧ c ≠ 32 ∧ c ≠ 9 ∧ c ≠ 35 ∧ c ≠ 10) : tokP (c :: r) = .tok 0 1 2 [c] := by
  have h1 : stB (c :: r) [92, 10] = false := by
    unfold stB
    rw [decide_eq_false]
    intro e
    have := congrArg (fun l => nth l 0 0) e
    exact hc.1 (by simpa [nth] using this)
  have hb : blankN (c :: r) = 0 := by
    unfold blankN
    rw [h1, if_neg (by simp)]
    show (if (decide (c = 32) || decide (c = 9)) = true then 1 else if c = 35 then _ else 0) = 0
    rw [decide_eq_false hc.2.1, decide_eq_false hc.2.2.1, if_neg (by simp), if_neg hc.2.2.2.1]
  rw [tokP_head (by simp) hb]
  unfold headP
  rw [if_neg (show ¬ nth (c :: r) 0 0 = 10 from hc.2.2.2.2), h, if_pos (by simp)]; rfl
theorem tokP_lpar (r : List UInt8) : tokP (40 :: r) = .tok 0 1 2 [40] := tokP_op (op_alone (u8_all (by decide +kernel)) (by decide +kernel) r) (by decide)
theorem tokP_rpar (r : List UInt8) : tokP (41 :: r) = .tok 0 1 2 [41] := tokP_op (op_alone (u8_all (by decide +kernel)) (by decide +kernel) r) (by decide)
/-- a word, a blank behind it -/
theorem lk_w {w r : List UInt8} {ks : List Key} {m : Nat} (hw : easyW w = true) (h0 : 1 ≤ w.length ∧ w.length ≤ 4096) (hr : r = [] ∨ (hasB specials (nth r 0 0) = true ∧ nth r 0 0 ≠ 60 ∧ nth r 0 0 ≠ 62)) (h : LexK r ks m) : LexK (w ++ r) ((1, w) :: ks) (w.length + m) :=
  lk_tok (tokP_w w hw h0.2 r hr) (by decide) h0.1 h
theorem lk_sp {r : List UInt8} {ks : List Key} {m : Nat} (h : LexK r ks m) (hr : r ≠ []) : LexK (32 :: r) ks (1 + m) := fun f p hf => by
  obtain ⟨g, rfl⟩ : ∃ g, f = g + 1 := ⟨f - 1, by omega⟩
  obtain ⟨ts, h1, h2⟩ := h (g + 1) (p + 1) (by simp at hf; omega)
  refine ⟨ts, ?_, h2⟩
  rw [lineL] at h1 ⊢
  rw [tokP_ws (.inl rfl)]
  cases ht : tokP r with
  | stop k =>
    rw [ht] at h1
    injection h1 with h1 h3
    subst h1; subst h3; rfl
  | bad a e => rw [ht] at h1; cases h1
  | tok off k kind text =>
    rw [ht] at h1
    show (if kind = 3 then _ else _ : LnR) = _
    have e1 : p + 1 + off = p + (1 + off) := by omega
    have e2 : p + 1 + k = p + (1 + k) := by omega
    by_cases h3 : kind = 3
    · rw [if_pos h3]
      have h1 : (if kind = 3 then _ else _ : LnR) = _ := h1
      rw [if_pos h3] at h1
      injection h1 with h5 h4
      subst h4
      rw [← h5, e1]
    · rw [if_neg h3]
      have h1 : (if kind = 3 then _ else _ : LnR) = _ := h1
      rw [if_neg h3, e1, e2] at h1
      have hd : (32 :: r).drop (1 + k) = r.drop k := by rw [Nat.add_comm]; rfl
      rw [hd]
      cases hl : lineL g (p + (1 + k)) (r.drop k) with
      | bad a e => rw [hl] at h1; cases h1
      | ok ts' j =>
        rw [hl] at h1
        have h1 : LnR.ok _ (k + j) = _ := h1
        injection h1 with h1 h4
        show LnR.ok _ (1 + k + j) = _
        rw [h1, ← h4, Nat.add_assoc]
theorem lk_op {c : UInt8} {r : List UInt8} {ks : List Key} {m : Nat} (h : tokP (c :: r) = .tok 0 1 2 [c]) (hr : LexK r ks m) : LexK (c :: r) ((2, [c]) :: ks) (1 + m) := lk_tok (u := [c]) h (by decide) (Nat.le_refl 1) hr
/-- what may follow a command -/
def EndH (r : List UInt8) : Prop := r = [] ∨ nth r 0 0 = 41 ∨ nth r 0 0 = 59
theorem EndH.sp {r : List UInt8} (h : EndH r) : r = [] ∨ (hasB specials (nth r 0 0) = true ∧ nth r 0 0 ≠ 60 ∧ nth r 0 0 ≠ 62) := by
  rcases h with h | h | h
  · exact .inl h
  · rw [h]; exact .inr (by decide)
  · rw [h]; exact .inr (by decide)
theorem spc (r : List UInt8) : (32 :: r) = [] ∨ (hasB specials (nth (32 :: r) 0 0) = true ∧ nth (32 :: r) 0 0 ≠ 60 ∧ nth (32 :: r) 0 0 ≠ 62) := .inr (by show hasB specials 32 = true ∧ (32 : UInt8) ≠ 60 ∧ (32 : UInt8) ≠ 62; decide)
theorem lpc (r : List UInt8) : (40 :: r) = [] ∨ (hasB specials (nth (40 :: r) 0 0) = true ∧ nth (40 :: r) 0 0 ≠ 60 ∧ nth (40 :: r) 0 0 ≠ 62) := .inr (by show hasB specials 40 = true ∧ (40 : UInt8) ≠ 60 ∧ (40 : UInt8) ≠ 62; decide)
end Go.Tri

/-
  Commands within one another: how a line of them is read.
-/
namespace Go.Tri
open Go.RowKit
def opK (x : List UInt8) (c : Key) : Bool := decide (c.1 = 2) && decide (c.2 = x)
def keyK (x : List UInt8) (c : Key) : Bool := decide (c.1 = 1) && decide (c.2 = x)
def redirK (c : Key) : Bool := decide (c.1 = 4) || (decide (c.1 = 2) && amongB redirectS c.2)
def beginK (c : Key) : Bool := (decide (c.1 = 1) && !amongB closersS c.2) || opK [40] c || redirK c
section
variable {t : Tok} {c : Key}
theorem ev_op (x : List UInt8) (h : keyT t = c) : opB x t = opK x c := by subst h; rfl
theorem ev_key (x : List UInt8) (h : keyT t = c) : keyB x t = keyK x c := by subst h; rfl
theorem ev_redir (h : keyT t = c) : redirB t = redirK c := by subst h; rfl
theorem ev_begin (h : keyT t = c) : beginB t = beginK c := by subst h; rfl
theorem ev_kind (h : keyT t = c) : t.kind = c.1 := by subst h; rfl
theorem ev_text (h : keyT t = c) : t.text = c.2 := by subst h; rfl
end
variable {s : List UInt8}
theorem need_c {α : Type} {k : Unit → PS → ReR α} {b : Tok → Bool} {t : Tok} {l : List Tok} {nx : Nat} (h : b t = true) : bnd (needP s b) k ⟨t :: l, nx⟩ = k () ⟨l, nx⟩ := by
  refine bnd_ok ?_
  rw [needP, now_c, if_pos h]; rfl
def endKs : List Key := [(0, []), (2, [41]), (2, [59]), (3, [10])]
/-- what may follow a command -/
def Rst (s : List UInt8) (p : PS) : Prop := Filled s p ∧ keyT (headT s p) ∈ endKs
theorem rst_not {p : PS} (h : Rst s p) {f : Key → Bool} (hf : endKs.all (fun c => !f c) = true) : f (keyT (headT s p)) = false := by
  have := List.all_eq_true.1 hf _ h.2
  simpa using this
theorem rst_e {nx : Nat} (h : s.length ≤ nx) : Rst s ⟨[], nx⟩ := ⟨filled_e h, by show keyT (endT' s) ∈ endKs; exact List.mem_cons_self⟩
theorem lev_ok {m : Nat} {p q : PS} {nd : Nd} (hp : Filled s p) (hb : keyB [33] (headT s p) = false) (h : (lvC s m).1 p = .ok nd q) (hq : Rst s q) : levP s m p = .ok nd q := by
  have h1 : pipeP s (lvC s m).1 p = .ok nd q := by
    unfold pipeP
    rw [bnd_ok (now_filled hp), if_neg (by rw [hb]; simp), bnd_ok h]
    rw [bnd_v, pipeN, bnd_ok (now_filled hq.1), if_neg (by rw [show opB [124] (headT s q) = false from rst_not (f := opK [124]) hq (by decide)]; simp), hb]; rfl
  unfold levP andorP
  rw [bnd_ok h1, andorN, bnd_ok (now_filled hq.1), if_neg]
  rw [show opB [38, 38] (headT s q) = false from rst_not (f := opK [38, 38]) hq (by decide), show opB [124, 124] (headT s q) = false from rst_not (f := opK [124, 124]) hq (by decide)]; simp
theorem comp_ok {B : PS → ReR Nd} {p q : PS} {nd : Nd} (h : coreP s B p = .ok nd q) (hq : Rst s q) : compP s B p = .ok (withR nd []) q := by
  have hr : redirsR s q = .ok [] q := by
    rw [redirsR, manyP, manyN, bnd_ok (now_filled hq.1), if_neg]
    rw [show redirB (headT s q) = false from rst_not (f := redirK) hq (by decide +kernel)]; simp
  rw [compP, bnd_ok h, bnd_ok hr]
/-- a command that is a compound one -/
theorem cmd_comp {m nx : Nat} {t : Tok} {l : List Tok} (h : (opB [40] t || (decide (t.kind = 1) && amongB reservedS t.text)) = true) : (lvC s (m + 1)).1 ⟨t :: l, nx⟩ = compP s (bodyP s (levP s m)) ⟨t :: l, nx⟩ := by
  show cmdP s (compP s (bodyP s (levP s m))) _ ⟨t :: l, nx⟩ = _
  rw [cmdP, now_c, if_pos h]
theorem cmd_simp {m nx : Nat} {t : Tok} {l : List Tok} (h : (opB [40] t || (decide (t.kind = 1) && amongB reservedS t.text)) = false) : (lvC s (m + 1)).1 ⟨t :: l, nx⟩ = simpP s (fnP (lvC s m).2) ⟨t :: l, nx⟩ := by
  show cmdP s _ (simpP s (fnP (lvC s m).2)) ⟨t :: l, nx⟩ = _
  rw [cmdP, now_c, if_neg (by rw [h]; simp)]
end Go.Tri

/-
  Commands within one another are read up to the depth 24, and refused beyond: by the kind of what holds them.
-/
namespace Go.Tri
open Go.RowKit
variable {s : List UInt8}
theorem keys1 {o : List Tok} {a : Key} (h : o.map keyT = [a]) : ∃ t, o = [t] ∧ keyT t = a := by
  match o, h with
  | [t], h => exact ⟨t, rfl, (List.cons.inj h).1⟩
theorem keys2 {o : List Tok} {a b : Key} (h : o.map keyT = [a, b]) : ∃ t u, o = [t, u] ∧ keyT t = a ∧ keyT u = b := by
  match o, h with
  | [t, u], h =>
    obtain ⟨h1, h2⟩ := List.cons.inj h
    exact ⟨t, u, rfl, h1, (List.cons.inj h2).1⟩
/-- read up to so many levels, refused beyond -/
def Deep (s : List UInt8) (k q : Nat) : Prop := ∀ (n m : Nat) (ts rest : List Tok) (nx : Nat), ts.map keyT = deepK k n → Rst s ⟨rest, nx⟩ →
  (q * n < m → ∃ nd, levP s m ⟨ts ++ rest, nx⟩ = .ok nd ⟨rest, nx⟩) ∧ (m ≤ q * n → ∃ a, levP s m ⟨ts ++ rest, nx⟩ = .bad a 52)
end Go.Tri

/-
  A tree as a text, by which trees are compared.
-/
namespace Go.Tri
open Go.RowKit
mutual
def NdK : Nd → Prop
  | .mk k _ _ _ _ rs ks => k ≤ 1000 ∧ (∀ r ∈ rs, -10 ≤ r.fd ∧ r.fd ≤ 10) ∧ NdsK ks
def NdsK : List Nd → Prop
  | [] => True
  | k :: ks => NdK k ∧ NdsK ks
end
theorem NdsK.nth {ks : List Nd} (h : NdsK ks) : ∀ {i : Nat}, i < ks.length → NdK (nth ks i nd0) := by
  induction ks with
  | nil => intro i hi; exact absurd hi (Nat.not_lt_zero i)
  | cons k ks ih =>
    intro i hi
    unfold NdsK at h
    cases i with
    | zero => exact h.1
    | succ i => exact ih h.2 (by simpa using hi)
end Go.Tri

/-
  Quoted words, shown and read again: alone, in a group, in a function.
-/
namespace Go.Tri
open Go.RowKit
def xW : List UInt8 := [39, 120, 39]
def spS (l : List (List UInt8)) : List UInt8 := xW ++ l.flatMap fun t => [32] ++ quoteB t
def wsQ (l : List (List UInt8)) : List (List UInt8) := xW :: l.map quoteB
theorem join_sp (l : List (List UInt8)) : Lib.join (wsQ l) [32] = spS l := by
  unfold Lib.join wsQ spS
  have h : ∀ (l : List (List UInt8)) (a : List UInt8), [32].intercalate (a :: l.map quoteB) = a ++ l.flatMap (fun t => [32] ++ quoteB t) := by
    intro l
    induction l with
    | nil => intro a; simp [List.intercalate]
    | cons t l ih =>
      intro a
      have := ih (quoteB t)
      rw [List.map_cons, List.flatMap_cons]
      unfold List.intercalate at this ⊢
      rw [List.intersperse_cons_cons, List.flatten_cons, List.flatten_cons, this]
      simp
  exact h l xW
def SpR (r : List UInt8) : Prop := r = [] ∨ (hasB specials (nth r 0 0) = true ∧ nth r 0 0 ≠ 60 ∧ nth r 0 0 ≠ 62)
theorem sp32 (r : List UInt8) : SpR (32 :: r) := spc r
theorem sp10 (r : List UInt8) : SpR (10 :: r) := .inr (by show hasB specials 10 = true ∧ (10 : UInt8) ≠ 60 ∧ (10 : UInt8) ≠ 62; decide)
theorem sp40 (r : List UInt8) : SpR (40 :: r) := lpc r
/-- a text that is one word wherever it stands -/
theorem tok_word {w r : List UInt8} (hw : ∀ r, wordP (w ++ r) = (wordP r).on w.length) (h0 : ∃ c q, w = c :: q ∧ (plainC c = true ∨ c = 39)) (hl : w.length ≤ 4096) (hr : SpR r) : tokP (w ++ r) = .tok 0 w.length 1 w := by
  obtain ⟨c, q, hq, hc⟩ := h0
  have hx := hw r
  have hstop : wordP r = .ok 0 := by
    rcases hr with rfl | hr
    · rfl
    · exact word_stop hr.1
  rw [hstop] at hx
  have hcons : w ++ r = c :: (q ++ r) := by rw [hq]; rfl
  have hh := head_word hc (q ++ r)
  rw [hcons, tokP_head (by simp) hh.1, hh.2, ← hcons]
  unfold restP
  rw [hx]
  show (if 4096 < w.length + 0 then _ else _ : TR) = _
  rw [Nat.add_zero, if_neg (by omega)]
  have hnum : numberB (w ++ r) w.length = false := by
    unfold numberB
    rw [List.drop_left]
    rcases hr with rfl | ⟨-, h1, h2⟩
    · rw [stB_nil (by simp), stB_nil (by simp)]; simp
    · cases r with
      | nil => rw [stB_nil (by simp), stB_nil (by simp)]; simp
      | cons d r =>
        rw [stB_one, stB_one, decide_eq_false (show ¬ d = 60 from h1), decide_eq_false (show ¬ d = 62 from h2)]; simp
  rw [hnum, List.take_left]; rfl
theorem tok_x {r : List UInt8} (hr : SpR r) : tokP (xW ++ r) = .tok 0 3 1 xW := by
  refine tok_word (w := xW) (fun r => ?_) ⟨39, [120, 39], rfl, .inr rfl⟩ (by decide) hr
  exact word_single (m := [120]) (by decide)
theorem tok_q {t r : List UInt8} (hl : (quoteB t).length ≤ 4096) (hr : SpR r) : tokP (quoteB t ++ r) = .tok 0 (quoteB t).length 1 (quoteB t) := tok_word (fun r => word_quote t r) (quote_head t) hl hr
def keysQ (l : List (List UInt8)) : List Key := (wsQ l).map fun w => (1, w)
theorem lk_words : ∀ (l : List (List UInt8)) (r : List UInt8) (ks : List Key) (m : Nat), (∀ t ∈ l, (quoteB t).length ≤ 4096) → SpR r → LexK r ks m → LexK (l.flatMap (fun t => [32] ++ quoteB t) ++ r) (l.map (fun t => (1, quoteB t)) ++ ks) ((l.flatMap fun t => [32] ++ quoteB t).length + m) ∧ SpR (l.flatMap (fun t => [32] ++ quoteB t) ++ r)
  | [], r, ks, m, _, hr, h => ⟨by simpa using h, hr⟩
  | t :: l, r, ks, m, hq, hr, h => by
    obtain ⟨h1, h2⟩ := lk_words l r ks m (fun u hu => hq u (List.mem_cons_of_mem _ hu)) hr h
    have hqt := hq t List.mem_cons_self
    obtain ⟨c, q, hc, -⟩ := quote_head t
    have h3 := lk_tok (tok_q hqt h2) (by decide) (by rw [hc]; simp) h1
    have h4 := lk_sp h3 (by rw [hc]; simp)
    constructor
    · rw [List.flatMap_cons, List.map_cons]
      have e : ([32] ++ quoteB t ++ l.flatMap (fun t => [32] ++ quoteB t) ++ r : List UInt8) = 32 :: (quoteB t ++ (l.flatMap (fun t => [32] ++ quoteB t) ++ r)) := by simp
      have e2 : ([32] ++ quoteB t ++ l.flatMap (fun t => [32] ++ quoteB t) : List UInt8).length + m = 1 + ((quoteB t).length + ((l.flatMap fun t => [32] ++ quoteB t).length + m)) := by
        simp only [List.length_append, List.length_cons, List.length_nil]; omega
      rw [e, e2]
      exact h4
    · rw [List.flatMap_cons]
      exact sp32 _
theorem lk_spS {l : List (List UInt8)} {r : List UInt8} {ks : List Key} {m : Nat} (hq : ∀ t ∈ l, (quoteB t).length ≤ 4096) (hr : SpR r) (h : LexK r ks m) : LexK (spS l ++ r) (keysQ l ++ ks) ((spS l).length + m) := by
  obtain ⟨h1, h2⟩ := lk_words l r ks m hq hr h
  have h3 := lk_tok (u := xW) (tok_x h2) (by decide) (by decide) h1
  unfold spS keysQ wsQ
  rw [List.append_assoc, List.length_append, Nat.add_assoc, List.map_cons, List.map_map]
  exact h3
theorem lk_nl' (r : List UInt8) : LexK (10 :: r) [(3, [10])] 1 := lk_nl (tokP_nl r)
/-- a line of words -/
theorem lk_line {l : List (List UInt8)} (hq : ∀ t ∈ l, (quoteB t).length ≤ 4096) (r : List UInt8) : LexK (spS l ++ 10 :: r) (keysQ l ++ [(3, [10])]) ((spS l).length + 1) := lk_spS hq (sp10 r) (lk_nl' r)
/-! parsing -/
variable {s : List UInt8}
theorem stop_of {p : PS} (h : Rst s p) : StopS s p := ⟨h.1, rst_not (f := redirK) h (by decide +kernel), fun hk => by
  have := rst_not (f := fun c => decide (c.1 = 1)) h (by decide)
  exact absurd hk (of_decide_eq_false this)⟩
theorem simp_more {F : List UInt8 → PS → ReR Nd} {nx : Nat} {rest : List Tok} (hst : StopS s ⟨rest, nx⟩) : ∀ (ts : List Tok) (f : Nat) (ws : List (List UInt8)), (∀ t ∈ ts, t.kind = 1) → ts.length < f → ws ≠ [] →
    simpN s F f ws [] ⟨ts ++ rest, nx⟩ = .ok (.mk 1 false false [] (ws ++ ts.map Tok.text) [] []) ⟨rest, nx⟩
  | [], f + 1, ws, _, _, hw => by
    rw [List.nil_append, simpN, bnd_ok (now_filled hst.1), if_neg (by rw [hst.2.1]; simp), if_neg hst.2.2, if_neg (fun h => hw h.1)]
    simp
  | t :: ts, f + 1, ws, h, hf, hw => by
    have h1 := h t List.mem_cons_self
    have hr : redirB t = false := by unfold redirB; simp [h1]
    rw [List.cons_append, simpN, now_c, if_neg (by rw [hr]; simp), if_pos h1, if_neg (fun h => hw h.1), if_neg (fun h => hw h.1)]
    show simpN s F f (ws ++ [t.text]) [] ⟨ts ++ rest, nx⟩ = _
    rw [simp_more hst ts f (ws ++ [t.text]) (fun u hu => h u (List.mem_cons_of_mem _ hu)) (by simpa using hf) (by simp)]
    simp
/-- words, the first of which stands for nothing else -/
def WordsT (ts : List Tok) (ws : List (List UInt8)) : Prop := ∃ t r, ts = t :: r ∧ (∀ u ∈ ts, u.kind = 1) ∧ plainW t.text ∧ ts.map Tok.text = ws
theorem lev_words {m nx : Nat} {rest ts : List Tok} {ws : List (List UInt8)} (hw : WordsT ts ws) (hr : Rst s ⟨rest, nx⟩) : levP s (m + 1) ⟨ts ++ rest, nx⟩ = .ok (.mk 1 false false [] ws [] []) ⟨rest, nx⟩ := by
  obtain ⟨t, l, rfl, h1, ⟨h2, h3⟩, rfl⟩ := hw
  have hk := h1 t List.mem_cons_self
  have hrd : redirB t = false := by unfold redirB; simp [hk]
  refine lev_ok (s := s) filled_c (not_bang (t := t) ⟨h2, h3⟩) ?_ hr
  show cmdP s _ (simpP s _) ⟨t :: (l ++ rest), nx⟩ = _
  rw [cmdP, now_c, if_neg (by rw [h2]; unfold opB; simp [hk]), simpP, simpN, now_c, if_neg (by rw [hrd]; simp), if_pos hk, if_neg (by rw [h2]; simp), if_neg (by rw [h3]; simp)]
  show simpN s _ (muP s ⟨t :: (l ++ rest), nx⟩) [t.text] [] ⟨l ++ rest, nx⟩ = _
  rw [simp_more (stop_of hr) l _ [t.text] (fun u hu => h1 u (List.mem_cons_of_mem _ hu)) (by unfold muP; simp only [List.length_cons, List.length_append]; omega) (by simp)]
  rfl
theorem kq {ts : List Tok} {l : List (List UInt8)} {ks : List Key} (h : ts.map keyT = keysQ l ++ ks) : ∃ a b, ts = a ++ b ∧ WordsT a (wsQ l) ∧ b.map keyT = ks := by
  obtain ⟨a, b, rfl, ha, hb⟩ := List.map_eq_append_iff.1 h
  refine ⟨a, b, rfl, ?_, hb⟩
  have h1 : ∀ (ws : List (List UInt8)) (a : List Tok), a.map keyT = ws.map (fun w => ((1, w) : Key)) → (∀ u ∈ a, u.kind = 1) ∧ a.map Tok.text = ws := by
    intro ws
    induction ws with
    | nil => intro a h; obtain rfl := List.map_eq_nil_iff.1 h; exact ⟨fun _ h => (by cases h), rfl⟩
    | cons w ws ih =>
      intro a h
      obtain ⟨t, r, rfl, h2, h3⟩ := List.map_eq_cons_iff.1 h
      obtain ⟨i1, i2⟩ := ih r h3
      refine ⟨fun u hu => ?_, by rw [List.map_cons, i2, ev_text h2]⟩
      rcases List.mem_cons.1 hu with rfl | hu
      · exact ev_kind h2
      · exact i1 u hu
  obtain ⟨i1, i2⟩ := h1 (wsQ l) a ha
  cases a with
  | nil => cases i2
  | cons t r =>
    refine ⟨t, r, rfl, i1, ?_, i2⟩
    have : t.text = xW := (List.cons.inj i2).1
    rw [this]
    exact ⟨by decide +kernel, by decide +kernel⟩
/-- what is read behind a group's words -/
theorem body_nl {m i nx : Nat} {ts r : List Tok} {nl u : Tok} {ws : List (List UInt8)} (hw : WordsT ts ws) (hn : keyT nl = (3, [10])) (hu : lineP s i = ⟨u :: r, nx, 0, 0⟩) (hi : i < s.length) (hb : beginB u = false) (h3 : u.kind ≠ 3) :
    bodyN s (levP s (m + 1)) (muP s ⟨ts ++ [nl], i⟩ + 1) [] ⟨ts ++ [nl], i⟩ = .ok (.mk 1 false false [] ws [] []) ⟨u :: r, nx⟩ := by
  have hr : Rst s ⟨[nl], i⟩ := ⟨filled_c, by show keyT nl ∈ endKs; rw [hn]; decide⟩
  have hl := lev_words (m := m) hw hr
  have hi2 : itemP s (levP s (m + 1)) ⟨ts ++ [nl], i⟩ = .ok (.mk 1 false false [] ws [] [], false) ⟨[nl], i⟩ := by
    rw [itemP, bnd_ok hl, now_c, if_neg (by rw [ev_op _ hn]; decide), if_neg (by rw [ev_op _ hn]; decide)]
  have hk : nl.kind = 3 := ev_kind hn
  rw [bodyN, bnd_ok hi2, if_neg (by simp), bnd_ok (ask_filled _ filled_c)]
  show bnd (linesP s) _ ⟨[nl], i⟩ = _
  rw [lines_nl hk hu hi h3, if_pos (by show decide (nl.kind = 3) = true; rw [hk]; rfl), now_c, if_neg (by rw [hb]; simp)]
  rfl
/-- a group: its words on its first line, or on a line of their own -/
theorem body_a {m i nx : Nat} {ts r : List Tok} {nl u : Tok} {ws : List (List UInt8)} (hw : WordsT ts ws) (hn : keyT nl = (3, [10])) (hu : lineP s i = ⟨u :: r, nx, 0, 0⟩) (hi : i < s.length) (hb : beginB u = false) (h3 : u.kind ≠ 3) :
    bodyP s (levP s (m + 1)) ⟨ts ++ [nl], i⟩ = .ok (.mk 1 false false [] ws [] []) ⟨u :: r, nx⟩ := by
  have h := body_nl (m := m) hw hn hu hi hb h3
  obtain ⟨t, l, rfl, h1, -, -⟩ := hw
  rw [bodyP, List.cons_append, lines_c (by rw [h1 t List.mem_cons_self]; decide)]
  exact h
theorem body_b {m i i0 nx : Nat} {ts r : List Tok} {nl0 nl u : Tok} {ws : List (List UInt8)} (hw : WordsT ts ws) (hn0 : keyT nl0 = (3, [10])) (hl0 : lineP s i0 = ⟨ts ++ [nl], i, 0, 0⟩) (hi0 : i0 < s.length) (hn : keyT nl = (3, [10])) (hu : lineP s i = ⟨u :: r, nx, 0, 0⟩) (hi : i < s.length) (hb : beginB u = false) (h3 : u.kind ≠ 3) :
    bodyP s (levP s (m + 1)) ⟨[nl0], i0⟩ = .ok (.mk 1 false false [] ws [] []) ⟨u :: r, nx⟩ := by
  have h := body_nl (m := m) hw hn hu hi hb h3
  obtain ⟨t, l, rfl, h1, -, -⟩ := hw
  rw [bodyP, lines_nl (ev_kind hn0) hl0 hi0 (by rw [h1 t List.mem_cons_self]; decide)]
  exact h
/-- ( and ), or braces -/
structure Sgn (K : Nat) (ko kc : Key) : Prop where
  all : (K = 7 ∧ ko = (2, [40]) ∧ kc = (2, [41])) ∨ (K = 8 ∧ ko = (1, [123]) ∧ kc = (1, [125]))
theorem core_grp {K m i nx : Nat} {ko kc : Key} (hK : Sgn K ko kc) {o u : Tok} {rest r : List Tok} {nd : Nd} (ho : keyT o = ko) (hu : keyT u = kc) (hb : bodyP s (levP s (m + 1)) ⟨rest, i⟩ = .ok nd ⟨u :: r, nx⟩) :
    coreP s (bodyP s (levP s (m + 1))) ⟨o :: rest, i⟩ = .ok (ndK K [nd]) ⟨r, nx⟩ := by
  obtain ⟨rfl, rfl, rfl⟩ | ⟨rfl, rfl, rfl⟩ := hK.all
  · rw [coreP, now_c, if_pos (by rw [ev_op _ ho]; decide)]
    refine (bnd_ok hb).trans ?_
    rw [need_c (by rw [ev_op _ hu]; decide)]
  · rw [coreP, now_c, if_neg (by rw [ev_op _ ho]; decide), if_pos (by rw [ev_key _ ho]; decide)]
    refine (bnd_ok hb).trans ?_
    rw [need_c (by rw [ev_key _ hu]; decide)]
theorem sgn_u {K : Nat} {ko kc : Key} (hK : Sgn K ko kc) {u : Tok} (hu : keyT u = kc) : beginB u = false ∧ u.kind ≠ 3 := by
  obtain ⟨rfl, rfl, rfl⟩ | ⟨rfl, rfl, rfl⟩ := hK.all
  · exact ⟨by rw [ev_begin hu]; decide +kernel, by rw [ev_kind hu]; decide⟩
  · exact ⟨by rw [ev_begin hu]; decide +kernel, by rw [ev_kind hu]; decide⟩
theorem sgn_o {K : Nat} {ko kc : Key} (hK : Sgn K ko kc) {o : Tok} (ho : keyT o = ko) : keyB [33] o = false ∧ (opB [40] o || (decide (o.kind = 1) && amongB reservedS o.text)) = true ∧ o.kind ≠ 3 ∧ o.kind ≠ 0 := by
  obtain ⟨rfl, rfl, rfl⟩ | ⟨rfl, rfl, rfl⟩ := hK.all
  · exact ⟨by rw [ev_key _ ho]; decide, by rw [ev_op _ ho]; rfl, by rw [ev_kind ho]; decide, by rw [ev_kind ho]; decide⟩
  · exact ⟨by rw [ev_key _ ho]; decide, by rw [ev_op _ ho, ev_kind ho, ev_text ho]; decide +kernel, by rw [ev_kind ho]; decide, by rw [ev_kind ho]; decide⟩
theorem lev_grp {K i nx : Nat} {ko kc : Key} (hK : Sgn K ko kc) {o u : Tok} {rest r : List Tok} {nd : Nd} (ho : keyT o = ko) (hu : keyT u = kc) (hb : bodyP s (levP s 24) ⟨rest, i⟩ = .ok nd ⟨u :: r, nx⟩) (hr : Rst s ⟨r, nx⟩) : levP s 25 ⟨o :: rest, i⟩ = .ok (ndK K [nd]) ⟨r, nx⟩ := by
  obtain ⟨h1, h2, -, -⟩ := sgn_o hK ho
  refine lev_ok (s := s) filled_c h1 ?_ hr
  rw [cmd_comp h2]
  exact comp_ok (core_grp (m := 23) hK ho hu hb) hr
theorem lev_fn {K i nx : Nat} {ko kc : Key} (hK : Sgn K ko kc) {t x d o u : Tok} {rest r : List Tok} {nd : Nd} (ht : keyT t = (1, [102])) (hx : keyT x = (2, [40])) (hd : keyT d = (2, [41])) (ho : keyT o = ko) (hu : keyT u = kc) (hb : bodyP s (levP s 23) ⟨rest, i⟩ = .ok nd ⟨u :: r, nx⟩) (hr : Rst s ⟨r, nx⟩) :
    levP s 25 ⟨t :: x :: d :: o :: rest, i⟩ = .ok (.mk 14 false false [102] [] [] [ndK K [nd]]) ⟨r, nx⟩ := by
  obtain ⟨-, -, ho3, -⟩ := sgn_o hK ho
  have hk : t.kind = 1 := ev_kind ht
  have htx : t.text = [102] := ev_text ht
  have h1 : redirB t = false := by rw [ev_redir ht]; decide
  refine lev_ok (s := s) filled_c (by show keyB [33] t = false; rw [ev_key _ ht]; decide) ?_ hr
  rw [cmd_simp (by rw [ev_op _ ht, hk, htx]; decide +kernel), simpP, simpN, now_c, if_neg (by rw [h1]; simp), if_pos hk, if_neg (by rw [htx]; decide +kernel), if_pos (by rw [htx]; decide +kernel)]
  show bnd (nowP s) _ ⟨x :: d :: o :: rest, i⟩ = _
  rw [now_c, if_pos (by rw [ev_op _ hx]; decide)]
  show bnd (needP s (opB [41])) _ ⟨d :: o :: rest, i⟩ = _
  rw [need_c (by rw [ev_op _ hd]; decide), lines_c ho3, htx, fnP]
  refine bnd_ok (q := ⟨r, nx⟩) (x := ndK K [nd]) ?_
  show compP s (bodyP s (levP s 23)) _ = _
  exact comp_ok (core_grp (m := 22) hK ho hu hb) hr
/-- the text's end, or its last newline -/
def EndR (s : List UInt8) (r : List Tok) (nx : Nat) : Prop := nx = s.length ∧ (r = [] ∨ ∃ nl, r = [nl] ∧ keyT nl = (3, [10]))
theorem EndR.rst {r : List Tok} {nx : Nat} (h : EndR s r nx) : Rst s ⟨r, nx⟩ := by
  obtain ⟨rfl, rfl | ⟨nl, rfl, hn⟩⟩ := h
  · exact rst_e (Nat.le_refl _)
  · exact ⟨filled_c, by show keyT nl ∈ endKs; rw [hn]; decide⟩
theorem first_lev {t : Tok} {l r : List Tok} {i nx : Nat} {nd : Nd} (hs : s.length ≤ 65536) (h1 : lineP s 0 = ⟨t :: l, i, 0, 0⟩) (h0 : 0 < s.length) (h3 : t.kind ≠ 3) (hk : t.kind ≠ 0) (hl : levP s 25 ⟨t :: l, i⟩ = .ok nd ⟨r, nx⟩) (hr : EndR s r nx) (h6 : nd.kind ≠ 6) :
    firstP' s 0 = ⟨nd, true, s.length, 0, 0⟩ := by
  have hcomp : completeP s ⟨[], (0 : Int).toNat⟩ = compN s (muP s ⟨t :: l, i⟩ + 1) [] ⟨t :: l, i⟩ := by
    unfold completeP
    show bnd (linesP s) _ ⟨[], 0⟩ = _
    rw [lines_l h1 h0 h3, now_c, if_neg hk]
  have hsev : severalP [nd] = nd := by
    unfold severalP
    exact if_neg h6
  unfold firstP'
  rw [if_neg (by omega), if_neg (by omega), hcomp, compN]
  obtain ⟨rfl, rfl | ⟨nl, rfl, hn⟩⟩ := hr
  · have hi : itemP s (levP s 25) ⟨t :: l, i⟩ = .ok (nd, false) ⟨[], s.length⟩ := by
      rw [itemP, bnd_ok hl, now_e (Nat.le_refl _), if_neg (by unfold opB endT'; simp), if_neg (by unfold opB endT'; simp)]
    rw [bnd_ok hi, if_neg (by simp)]
    show (match (ReR.ok (some (severalP [nd])) ⟨[], s.length⟩ : ReR (Option Nd)) with
      | .ok (some n) q => (⟨n, true, q.next, 0, 0⟩ : FirstV)
      | .ok none q => ⟨nd0, false, q.next, 0, 0⟩
      | .bad a e => ⟨nd0, false, 0, a, e⟩) = _
    rw [hsev]
  · have hi : itemP s (levP s 25) ⟨t :: l, i⟩ = .ok (nd, false) ⟨[nl], s.length⟩ := by
      rw [itemP, bnd_ok hl, now_c, if_neg (by rw [ev_op _ hn]; decide), if_neg (by rw [ev_op _ hn]; decide)]
    have hk3 : nl.kind = 3 := ev_kind hn
    have he : compEnd ([] ++ [nd]) ⟨[nl], s.length⟩ = .ok (some nd) ⟨[], s.length⟩ := by
      show (if nl.kind = 3 then _ else _ : ReR (Option Nd)) = _
      rw [if_pos hk3]
      show ReR.ok (some (severalP [nd])) _ = _
      rw [hsev]; rfl
    rw [bnd_ok hi, if_neg (by simp), he]
theorem first_none (hs : s.length ≤ 65536) : firstP' s (s.length : Int) = ⟨nd0, false, s.length, 0, 0⟩ := by
  have hcomp : completeP s ⟨[], s.length⟩ = .ok none ⟨[], s.length⟩ := by
    unfold completeP
    rw [lines_e (Nat.le_refl _), now_e (Nat.le_refl _), if_pos (show (endT' s).kind = 0 from rfl)]
  unfold firstP'
  rw [if_neg (by omega), if_neg (by omega), Int.toNat_natCast, hcomp]
end Go.Tri

/-
  Quoted words alone, in a group, in a function: what each text is read as.
-/
namespace Go.Tri
open Go.RowKit
structure SgB (K : Nat) (ob cb : UInt8) (ko kc : Key) : Prop where
  all : (K = 7 ∧ ob = 40 ∧ cb = 41 ∧ ko = (2, [40]) ∧ kc = (2, [41])) ∨ (K = 8 ∧ ob = 123 ∧ cb = 125 ∧ ko = (1, [123]) ∧ kc = (1, [125]))
theorem SgB.sgn {K : Nat} {ob cb : UInt8} {ko kc : Key} (h : SgB K ob cb ko kc) : Sgn K ko kc := by
  obtain ⟨rfl, rfl, rfl, rfl, rfl⟩ | ⟨rfl, rfl, rfl, rfl, rfl⟩ := h.all
  · exact ⟨.inl ⟨rfl, rfl, rfl⟩⟩
  · exact ⟨.inr ⟨rfl, rfl, rfl⟩⟩
theorem SgB.two {K : Nat} {ob cb : UInt8} {ko kc : Key} (h : SgB K ob cb ko kc) : stB ko.2 [60, 60] = false ∧ stB kc.2 [60, 60] = false := by
  obtain ⟨rfl, rfl, rfl, rfl, rfl⟩ | ⟨rfl, rfl, rfl, rfl, rfl⟩ := h.all <;> decide
theorem lk_sg {K : Nat} {ob cb : UInt8} {ko kc : Key} (h : SgB K ob cb ko kc) {r : List UInt8} {ks : List Key} {m : Nat} (hr : SpR r) (hl : LexK r ks m) : LexK (ob :: r) (ko :: ks) (1 + m) ∧ LexK (cb :: r) (kc :: ks) (1 + m) := by
  obtain ⟨rfl, rfl, rfl, rfl, rfl⟩ | ⟨rfl, rfl, rfl, rfl, rfl⟩ := h.all
  · exact ⟨lk_op (tokP_lpar r) hl, lk_op (tokP_rpar r) hl⟩
  · exact ⟨lk_w (w := [123]) (by decide +kernel) (by decide) hr hl, lk_w (w := [125]) (by decide +kernel) (by decide) hr hl⟩
def preS (fn : Bool) : List UInt8 := if fn then [102, 40, 41, 32] else []
def preK (fn : Bool) : List Key := if fn then [(1, [102]), (2, [40]), (2, [41])] else []
def nodF (fn : Bool) (n : Nd) : Nd := if fn then .mk 14 false false [102] [] [] [n] else n
theorem lk_pre (fn : Bool) {R : List UInt8} {ks : List Key} {m : Nat} (hR : R ≠ []) (h : LexK R ks m) : LexK (preS fn ++ R) (preK fn ++ ks) ((preS fn).length + m) := by
  cases fn with
  | false => simpa [preS, preK] using h
  | true =>
    have h1 := lk_w (w := [102]) (by decide +kernel) (by decide) (sp40 _) (lk_op (tokP_lpar _) (lk_op (tokP_rpar _) (lk_sp h hR)))
    have e : (preS true).length + m = [102].length + (1 + (1 + (1 + m))) := by
      show 4 + m = 1 + (1 + (1 + (1 + m)))
      omega
    rw [e]
    exact h1
theorem preK_doc (fn : Bool) : ∀ x ∈ preK fn, x.1 = 2 → stB x.2 [60, 60] = false := by cases fn <;> decide
variable {s : List UInt8}
theorem lev_pre (fn : Bool) {K i nx : Nat} {ko kc : Key} (hK : Sgn K ko kc) {p : List Tok} {o u : Tok} {rest r : List Tok} {nd : Nd} (hp : p.map keyT = preK fn) (ho : keyT o = ko) (hu : keyT u = kc) (hb : ∀ m, bodyP s (levP s (m + 1)) ⟨rest, i⟩ = .ok nd ⟨u :: r, nx⟩) (hr : Rst s ⟨r, nx⟩) :
    ∃ t l, p ++ o :: rest = t :: l ∧ t.kind ≠ 3 ∧ t.kind ≠ 0 ∧ levP s 25 ⟨t :: l, i⟩ = .ok (nodF fn (ndK K [nd])) ⟨r, nx⟩ := by
  cases fn with
  | false =>
    obtain rfl := List.map_eq_nil_iff.1 hp
    obtain ⟨-, -, h3, h4⟩ := sgn_o hK ho
    exact ⟨o, rest, rfl, h3, h4, lev_grp hK ho hu (hb 23) hr⟩
  | true =>
    obtain ⟨t, q, rfl, ht, hq⟩ := List.map_eq_cons_iff.1 hp
    obtain ⟨x, q, rfl, hx, hq⟩ := List.map_eq_cons_iff.1 hq
    obtain ⟨d, q, rfl, hd, hq⟩ := List.map_eq_cons_iff.1 hq
    obtain rfl := List.map_eq_nil_iff.1 hq
    exact ⟨t, x :: d :: o :: rest, rfl, by rw [ev_kind ht]; decide, by rw [ev_kind ht]; decide, lev_fn hK ht hx hd ho hu (hb 22) hr⟩
theorem keysQ_doc (l : List (List UInt8)) : ∀ x ∈ keysQ l, x.1 = 2 → stB x.2 [60, 60] = false := fun x hx h => by
  obtain ⟨w, -, rfl⟩ := List.mem_map.1 hx
  cases h
theorem nodF_kind (fn : Bool) {K : Nat} {ko kc : Key} (hK : Sgn K ko kc) (l : List Nd) : (nodF fn (ndK K l)).kind ≠ 6 := by
  obtain ⟨rfl, -, -⟩ | ⟨rfl, -, -⟩ := hK.all
  · cases fn
    · exact (show ¬ (7 : Nat) = 6 by decide)
    · exact (show ¬ (14 : Nat) = 6 by decide)
  · cases fn
    · exact (show ¬ (8 : Nat) = 6 by decide)
    · exact (show ¬ (14 : Nat) = 6 by decide)
def smpQ (l : List (List UInt8)) : Nd := .mk 1 false false [] (wsQ l) [] []
def gA (fn : Bool) (ob cb : UInt8) (l : List (List UInt8)) : List UInt8 := preS fn ++ (ob :: 32 :: (spS l ++ 10 :: [cb]))
def gB (fn : Bool) (ob cb : UInt8) (l : List (List UInt8)) : List UInt8 := preS fn ++ (ob :: 10 :: (spS l ++ 10 :: cb :: [10]))
theorem spS_ne (l : List (List UInt8)) (r : List UInt8) : spS l ++ r ≠ [] := by simp [spS, xW]
theorem first_gA (fn : Bool) {K : Nat} {ob cb : UInt8} {ko kc : Key} (hK : SgB K ob cb ko kc) {l : List (List UInt8)} (hq : ∀ t ∈ l, (quoteB t).length ≤ 4096) (hs : (gA fn ob cb l).length ≤ 65536) :
    firstP' (gA fn ob cb l) 0 = ⟨nodF fn (ndK K [smpQ l]), true, (gA fn ob cb l).length, 0, 0⟩ := by
  obtain ⟨s, hsx⟩ : ∃ s, s = gA fn ob cb l := ⟨_, rfl⟩
  rw [← hsx] at hs ⊢
  have hlen : s.length = (preS fn).length + (spS l).length + 4 := by
    rw [hsx]
    unfold gA
    simp only [List.length_append, List.length_cons, List.length_nil]
    omega
  have h1 : LexK (s.drop 0) (preK fn ++ (ko :: (keysQ l ++ [(3, [10])]))) ((preS fn).length + (1 + (1 + ((spS l).length + 1)))) := by
    rw [hsx]
    exact lk_pre fn (by simp) (lk_sg hK (sp32 _) (lk_sp (lk_line hq [cb]) (spS_ne l _))).1
  have h2 : LexK (s.drop (0 + ((preS fn).length + (1 + (1 + ((spS l).length + 1)))))) [kc] (1 + 0) := by
    have e : s = (preS fn ++ (ob :: 32 :: (spS l ++ [10]))) ++ [cb] := by rw [hsx]; simp [gA]
    rw [e, drop_len (by simp only [List.length_append, List.length_cons, List.length_nil]; omega)]
    exact (lk_sg hK (.inl rfl) (lk_end (l := []) rfl)).2
  obtain ⟨ts, g1, g2⟩ := line_keys hs (Nat.zero_le _) h1 (fun x hx h => by
    rcases List.mem_append.1 hx with hx | hx
    · exact preK_doc fn x hx h
    · rcases List.mem_cons.1 hx with rfl | hx
      · exact hK.two.1
      · rcases List.mem_append.1 hx with hx | hx
        · exact keysQ_doc l x hx h
        · obtain rfl := List.mem_singleton.1 hx
          cases h)
  obtain ⟨us, k1, k2⟩ := line_keys hs (by omega) h2 (fun x hx h => by
    obtain rfl := List.mem_singleton.1 hx
    exact hK.two.2)
  obtain ⟨p, q, rfl, hp, hq2⟩ := List.map_eq_append_iff.1 g2
  obtain ⟨o, q, rfl, ho, hq3⟩ := List.map_eq_cons_iff.1 hq2
  obtain ⟨a, b, rfl, hw, hb⟩ := kq hq3
  obtain ⟨nl, rfl, hn⟩ := keys1 hb
  obtain ⟨u, rfl, hu⟩ := keys1 k2
  obtain ⟨hub, hu3⟩ := sgn_u hK.sgn hu
  have hend : EndR s [] (0 + ((preS fn).length + (1 + (1 + ((spS l).length + 1)))) + (1 + 0)) := ⟨by omega, .inl rfl⟩
  obtain ⟨t, r, e, ht3, ht0, hlev⟩ := lev_pre (s := s) fn hK.sgn hp ho hu (fun m => body_a (m := m) hw hn k1 (by omega) hub hu3) hend.rst
  rw [e] at g1
  exact first_lev hs g1 (by omega) ht3 ht0 hlev hend (nodF_kind fn hK.sgn _)
theorem first_gB (fn : Bool) {K : Nat} {ob cb : UInt8} {ko kc : Key} (hK : SgB K ob cb ko kc) {l : List (List UInt8)} (hq : ∀ t ∈ l, (quoteB t).length ≤ 4096) (hs : (gB fn ob cb l).length ≤ 65536) :
    firstP' (gB fn ob cb l) 0 = ⟨nodF fn (ndK K [smpQ l]), true, (gB fn ob cb l).length, 0, 0⟩ := by
  obtain ⟨s, hsx⟩ : ∃ s, s = gB fn ob cb l := ⟨_, rfl⟩
  rw [← hsx] at hs ⊢
  have hlen : s.length = (preS fn).length + (spS l).length + 5 := by
    rw [hsx]
    unfold gB
    simp only [List.length_append, List.length_cons, List.length_nil]
    omega
  have h1 : LexK (s.drop 0) (preK fn ++ (ko :: [(3, [10])])) ((preS fn).length + (1 + 1)) := by
    rw [hsx]
    exact lk_pre fn (by simp) (lk_sg hK (sp10 _) (lk_nl' _)).1
  have h2 : LexK (s.drop (0 + ((preS fn).length + (1 + 1)))) (keysQ l ++ [(3, [10])]) ((spS l).length + 1) := by
    have e : s = (preS fn ++ [ob, 10]) ++ (spS l ++ 10 :: cb :: [10]) := by rw [hsx]; simp [gB]
    rw [e, drop_len (by simp only [List.length_append, List.length_cons, List.length_nil]; omega)]
    exact lk_line hq _
  have h4 : LexK (s.drop (0 + ((preS fn).length + (1 + 1)) + ((spS l).length + 1))) [kc, (3, [10])] (1 + 1) := by
    have e : s = (preS fn ++ [ob, 10] ++ spS l ++ [10]) ++ (cb :: [10]) := by rw [hsx]; simp [gB]
    rw [e, drop_len (by simp only [List.length_append, List.length_cons, List.length_nil]; omega)]
    exact (lk_sg hK (sp10 _) (lk_nl' _)).2
  obtain ⟨ts, g1, g2⟩ := line_keys hs (Nat.zero_le _) h1 (fun x hx h => by
    rcases List.mem_append.1 hx with hx | hx
    · exact preK_doc fn x hx h
    · rcases List.mem_cons.1 hx with rfl | hx
      · exact hK.two.1
      · obtain rfl := List.mem_singleton.1 hx
        cases h)
  obtain ⟨vs, j1, j2⟩ := line_keys hs (by omega) h2 (fun x hx h => by
    rcases List.mem_append.1 hx with hx | hx
    · exact keysQ_doc l x hx h
    · obtain rfl := List.mem_singleton.1 hx
      cases h)
  obtain ⟨us, k1, k2⟩ := line_keys hs (by omega) h4 (fun x hx h => by
    rcases List.mem_cons.1 hx with rfl | hx
    · exact hK.two.2
    · obtain rfl := List.mem_singleton.1 hx
      cases h)
  obtain ⟨p, q, rfl, hp, hq2⟩ := List.map_eq_append_iff.1 g2
  obtain ⟨o, nl0, rfl, ho, hn0⟩ := keys2 hq2
  obtain ⟨a, b, rfl, hw, hb⟩ := kq j2
  obtain ⟨nl, rfl, hn⟩ := keys1 hb
  obtain ⟨u, nl2, rfl, hu, hn2⟩ := keys2 k2
  obtain ⟨hub, hu3⟩ := sgn_u hK.sgn hu
  have hend : EndR s [nl2] (0 + ((preS fn).length + (1 + 1)) + ((spS l).length + 1) + (1 + 1)) := ⟨by omega, .inr ⟨nl2, rfl, hn2⟩⟩
  obtain ⟨t, r, e, ht3, ht0, hlev⟩ := lev_pre (s := s) fn hK.sgn hp ho hu (fun m => body_b (m := m) hw hn0 j1 (by omega) hn k1 (by omega) hub hu3) hend.rst
  rw [e] at g1
  exact first_lev hs g1 (by omega) ht3 ht0 hlev hend (nodF_kind fn hK.sgn _)
theorem first_words0 {l : List (List UInt8)} (hq : ∀ t ∈ l, (quoteB t).length ≤ 4096) {s : List UInt8} {b : List Key} {m : Nat} (hs : s.length ≤ 65536) (h1 : LexK s (keysQ l ++ b) s.length) (hb : b = [] ∨ b = [(3, [10])]) : firstP' s 0 = ⟨smpQ l, true, s.length, 0, 0⟩ := by
  obtain ⟨ts, g1, g2⟩ := line_keys (i := 0) hs (Nat.zero_le _) h1 (fun x hx h => by
    rcases List.mem_append.1 hx with hx | hx
    · exact keysQ_doc l x hx h
    · rcases hb with rfl | rfl
      · cases hx
      · obtain rfl := List.mem_singleton.1 hx
        cases h)
  obtain ⟨a, c, rfl, hw, hc⟩ := kq g2
  have hend : EndR s c (0 + s.length) := by
    refine ⟨by omega, ?_⟩
    rcases hb with rfl | rfl
    · exact .inl (List.map_eq_nil_iff.1 hc)
    · obtain ⟨nl, rfl, hn⟩ := keys1 hc
      exact .inr ⟨nl, rfl, hn⟩
  have hlev := lev_words (m := 24) hw hend.rst
  obtain ⟨t, r, rfl, h2, -, -⟩ := hw
  have hk := h2 t List.mem_cons_self
  have h0 : 0 < s.length := by
    rcases Nat.eq_zero_or_pos s.length with h | h
    · exfalso
      obtain rfl := List.length_eq_zero_iff.1 h
      obtain ⟨ts', e1, e2⟩ := h1 1 0 (by decide)
      have e3 : lineL 1 0 [] = .ok [] 0 := rfl
      rw [e3] at e1
      injection e1 with e4 _
      subst e4
      cases e2
    · exact h
  exact first_lev hs g1 h0 (by rw [hk]; decide) (by rw [hk]; decide) hlev hend (by show ¬ (1 : Nat) = 6; decide)
theorem first_tA {l : List (List UInt8)} (hq : ∀ t ∈ l, (quoteB t).length ≤ 4096) (hs : ([32, 32] ++ spS l ++ [32]).length ≤ 65536) : firstP' ([32, 32] ++ spS l ++ [32]) 0 = ⟨smpQ l, true, ([32, 32] ++ spS l ++ [32]).length, 0, 0⟩ := by
  refine first_words0 (b := []) (m := 0) hq hs ?_ (.inl rfl)
  have h1 := lk_sp (lk_sp (lk_spS hq (sp32 []) (lk_end (l := [32]) (k := 1) (by rw [tokP_ws (.inl rfl)]; rfl))) (spS_ne l _)) (by simp)
  have e : ([32, 32] ++ spS l ++ [32]).length = 1 + (1 + ((spS l).length + 1)) := by
    simp only [List.length_append, List.length_cons, List.length_nil]; omega
  rw [e]
  exact h1
theorem first_sp {l : List (List UInt8)} (hq : ∀ t ∈ l, (quoteB t).length ≤ 4096) (hs : (spS l ++ [10]).length ≤ 65536) : firstP' (spS l ++ [10]) 0 = ⟨smpQ l, true, (spS l ++ [10]).length, 0, 0⟩ := by
  refine first_words0 (b := [(3, [10])]) (m := 0) hq hs ?_ (.inr rfl)
  rw [List.length_append]
  exact lk_line hq []
end Go.Tri
