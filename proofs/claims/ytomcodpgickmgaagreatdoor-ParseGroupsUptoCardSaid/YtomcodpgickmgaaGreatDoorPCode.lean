/-
  The parser of a shell text, in plain words: a state is the tokens left of the line at hand and where the next line begins.
-/
import Derived.Test.YtomcodpgickmgaaGreatDoorPLex10
import Derived.Test.YtomcodpgickmgaaGreatDoorPNum
namespace Go.Tri
open Go.RowKit
structure PS where
  line : List Tok
  next : Nat
inductive ReR (α : Type) where
  | ok (x : α) (p : PS)
  | bad (a e : Nat)
def ReR.map {α β : Type} (f : α → β) : ReR α → ReR β
  | .ok x p => .ok (f x) p
  | .bad a e => .bad a e
/-- one reader behind the other -/
def bnd {α β : Type} (m : PS → ReR α) (f : α → PS → ReR β) (p : PS) : ReR β := match m p with
  | .ok x q => f x q
  | .bad a e => .bad a e
theorem bnd_ok {α β : Type} {m : PS → ReR α} {f : α → PS → ReR β} {p q : PS} {x : α} (h : m p = .ok x q) : bnd m f p = f x q := by unfold bnd; rw [h]
theorem bnd_bad {α β : Type} {m : PS → ReR α} {f : α → PS → ReR β} {p : PS} {a e : Nat} (h : m p = .bad a e) : bnd m f p = .bad a e := by unfold bnd; rw [h]
structure Rdr where
  fd : Int
  op : List UInt8
  word : List UInt8
  doc : List UInt8
  raw : Bool
inductive Nd where
  | mk (kind : Nat) (not isin : Bool) (name : List UInt8) (words : List (List UInt8)) (redirs : List Rdr) (kids : List Nd)
def Nd.kind : Nd → Nat
  | .mk k _ _ _ _ _ _ => k
def Nd.not : Nd → Bool
  | .mk _ k _ _ _ _ _ => k
def Nd.isin : Nd → Bool
  | .mk _ _ k _ _ _ _ => k
def Nd.name : Nd → List UInt8
  | .mk _ _ _ k _ _ _ => k
def Nd.words : Nd → List (List UInt8)
  | .mk _ _ _ _ k _ _ => k
def Nd.redirs : Nd → List Rdr
  | .mk _ _ _ _ _ k _ => k
def Nd.kids : Nd → List Nd
  | .mk _ _ _ _ _ _ k => k
def nd0 : Nd := .mk 0 false false [] [] [] []
/-- a tree of a kind with these below it -/
def ndK (k : Nat) (l : List Nd) : Nd := .mk k false false [] [] [] l
def severalP (l : List Nd) : Nd := match l with
  | [x] => if x.kind = 6 then ndK 5 [x] else x
  | l => ndK 5 l
/-- is a text one of some words? -/
def amongB (ws t : List UInt8) : Bool := decide (t ≠ []) && !Lib.contains t [32] && Lib.contains ([32] ++ ws ++ [32]) ([32] ++ t ++ [32])
def closersS : List UInt8 := [125, 32, 100, 111, 32, 100, 111, 110, 101, 32, 101, 108, 105, 102, 32, 101, 108, 115, 101, 32, 101, 115, 97, 99, 32, 102, 105, 32, 105, 110, 32, 116, 104, 101, 110]
def reservedS : List UInt8 := [33, 32, 123, 32, 99, 97, 115, 101, 32, 102, 111, 114, 32, 105, 102, 32, 117, 110, 116, 105, 108, 32, 119, 104, 105, 108, 101, 32] ++ closersS
def redirectS : List UInt8 := [60, 32, 62, 32, 62, 124, 32, 62, 62, 32, 60, 60, 32, 60, 60, 45, 32, 60, 38, 32, 62, 38, 32, 60, 62]
def opB (x : List UInt8) (t : Tok) : Bool := decide (t.kind = 2) && decide (t.text = x)
def keyB (x : List UInt8) (t : Tok) : Bool := decide (t.kind = 1) && decide (t.text = x)
def redirB (t : Tok) : Bool := decide (t.kind = 4) || (decide (t.kind = 2) && amongB redirectS t.text)
def beginB (t : Tok) : Bool := (decide (t.kind = 1) && !amongB closersS t.text) || opB [40] t || redirB t
def numOk (t : List UInt8) : Bool := match numB t with
  | some v => decide (v ≤ 9)
  | none => false
def numV (t : List UInt8) : Int := (numB t).getD 0
section
variable (s : List UInt8)
/-- what is left: a bound for all loops -/
def muP (p : PS) : Nat := p.line.length + (s.length - p.next)
/-- lines are read until one holds a token -/
def fillN : Nat → PS → ReR Unit
  | 0, p => .ok () p
  | f + 1, p => if p.line = [] ∧ p.next < s.length then if (lineP s p.next).err = 0 then fillN f ⟨(lineP s p.next).toks, (lineP s p.next).fin⟩ else .bad (lineP s p.next).place (lineP s p.next).err else .ok () p
def fillP (p : PS) : ReR Unit := fillN s (s.length - p.next + 1) p
def endT' : Tok := ⟨0, [], s.length, [], false⟩
def headT (p : PS) : Tok := match p.line with
  | [] => endT' s
  | t :: _ => t
/-- the token at hand -/
def nowP (p : PS) : ReR Tok := bnd (fillP s) (fun _ q => .ok (headT s q) q) p
def stepS (p : PS) : PS := ⟨p.line.drop 1, p.next⟩
def stepP (p : PS) : ReR Tok := bnd (nowP s) (fun t q => .ok t (stepS q)) p
def askP (b : Tok → Bool) (p : PS) : ReR Bool := bnd (nowP s) (fun t q => .ok (b t) q) p
def needP (b : Tok → Bool) (p : PS) : ReR Unit := bnd (nowP s) (fun t q => if b t then .ok () (stepS q) else .bad t.pos 56) p
def linesN : Nat → PS → ReR Unit
  | 0, p => .ok () p
  | f + 1, p => bnd (nowP s) (fun t q => if t.kind = 3 then linesN f (stepS q) else .ok () q) p
def linesP (p : PS) : ReR Unit := linesN s (muP s p + 1) p
def wordR (p : PS) : ReR (List UInt8) := bnd (nowP s) (fun t q => if t.kind = 1 then .ok t.text (stepS q) else .bad t.pos 56) p
def redirT (fd : Int) (p : PS) : ReR Rdr := bnd (stepP s) (fun o q => bnd (nowP s) (fun t r => if t.kind = 1 then .ok (if stB o.text [60, 60] then ⟨fd, [60, 60], [], t.doc, t.raw⟩ else ⟨fd, o.text, t.text, [], false⟩) (stepS r) else .bad t.pos 56) q) p
def redirR (p : PS) : ReR Rdr := bnd (nowP s) (fun t q => if t.kind = 4 then
    (if numOk t.text then bnd (nowP s) (fun u r => if u.kind = 2 ∧ redirB u = true then redirT s (numV t.text) r else .bad u.pos 56) (stepS q) else .bad t.pos 56)
  else redirT s (-1) q) p
def manyN {α : Type} (b : Tok → Bool) (m : PS → ReR α) : Nat → List α → PS → ReR (List α)
  | 0, l, p => .ok l p
  | f + 1, l, p => bnd (nowP s) (fun t q => if b t then bnd m (fun x r => manyN b m f (l ++ [x]) r) q else .ok l q) p
def manyP {α : Type} (b : Tok → Bool) (m : PS → ReR α) (p : PS) : ReR (List α) := manyN s b m (muP s p + 1) [] p
def redirsR (p : PS) : ReR (List Rdr) := manyP s redirB (redirR s) p
def wordsR (p : PS) : ReR (List (List UInt8)) := manyP s (fun t => decide (t.kind = 1)) (wordR s) p
/-- an and-or, and what ends it -/
def itemP (A : PS → ReR Nd) (p : PS) : ReR (Nd × Bool) := bnd A (fun n q => bnd (nowP s) (fun t r => if opB [38] t then .ok (ndK 6 [n], true) (stepS r) else if opB [59] t then .ok (n, true) (stepS r) else .ok (n, false) r) q) p
def bodyN (A : PS → ReR Nd) : Nat → List Nd → PS → ReR Nd
  | 0, l, p => .ok (severalP l) p
  | f + 1, l, p => bnd (itemP s A) (fun x q =>
      bnd (if x.2 then fun q => .ok true q else askP s (fun t => decide (t.kind = 3))) (fun ended q => bnd (linesP s) (fun _ q =>
        if ended then bnd (nowP s) (fun t q => if beginB t then bodyN A f (l ++ [x.1]) q else .ok (severalP (l ++ [x.1])) q) q else .ok (severalP (l ++ [x.1])) q) q) q) p
def bodyP (A : PS → ReR Nd) (p : PS) : ReR Nd := bnd (linesP s) (fun _ q => bodyN s A (muP s q + 1) [] q) p
def andorN (P : PS → ReR Nd) : Nat → Nd → PS → ReR Nd
  | 0, n, p => .ok n p
  | f + 1, n, p => bnd (nowP s) (fun t q => if opB [38, 38] t || opB [124, 124] t then bnd (linesP s) (fun _ r => bnd P (fun m r => andorN P f (ndK (if t.text = [124, 124] then 4 else 3) [n, m]) r) r) (stepS q) else .ok n q) p
def andorP (P : PS → ReR Nd) (p : PS) : ReR Nd := bnd P (fun n q => andorN s P (muP s q + 1) n q) p
def pipeN (C : PS → ReR Nd) : Nat → List Nd → PS → ReR (List Nd)
  | 0, l, p => .ok l p
  | f + 1, l, p => bnd (nowP s) (fun t q => if opB [124] t then bnd (linesP s) (fun _ r => bnd C (fun m r => pipeN C f (l ++ [m]) r) r) (stepS q) else .ok l q) p
def pipeR (not : Bool) (l : List Nd) : Nd := match l, not with
  | [x], false => x
  | l, not => .mk 2 not false [] [] [] l
def pipeP (C : PS → ReR Nd) (p : PS) : ReR Nd := bnd (nowP s) (fun t q => bnd C (fun n r => bnd (pipeN s C (muP s r + 1) [n]) (fun l r => .ok (pipeR (keyB [33] t) l) r) r) (if keyB [33] t then stepS q else q)) p
def ifN (B : PS → ReR Nd) : Nat → List Nd → PS → ReR (List Nd)
  | 0, l, p => .ok l p
  | f + 1, l, p => bnd (stepP s) (fun _ q => bnd B (fun a q => bnd (needP s (keyB [116, 104, 101, 110])) (fun _ q => bnd B (fun b q => bnd (nowP s) (fun t q => if keyB [101, 108, 105, 102] t then ifN B f (l ++ [a, b]) q else .ok (l ++ [a, b]) q) q) q) q) q) p
def ifK (B : PS → ReR Nd) (l : List Nd) (q : PS) : ReR Nd := bnd (nowP s) (fun t q => if keyB [101, 108, 115, 101] t then bnd B (fun x q => bnd (needP s (keyB [102, 105])) (fun _ q => .ok (ndK 9 (l ++ [x])) q) q) (stepS q) else bnd (needP s (keyB [102, 105])) (fun _ q => .ok (ndK 9 l) q) q) q
def ifP (B : PS → ReR Nd) (p : PS) : ReR Nd := bnd (ifN s B (muP s p + 1) []) (ifK s B) p
def forK (B : PS → ReR Nd) (name : List UInt8) (x : Bool × List (List UInt8)) (q : PS) : ReR Nd := bnd (needP s (keyB [100, 111])) (fun _ q => bnd B (fun b q => bnd (needP s (keyB [100, 111, 110, 101])) (fun _ q => .ok (.mk 12 false x.1 name x.2 [] [b]) q) q) q) q
def forIn (B : PS → ReR Nd) (name : List UInt8) (q : PS) : ReR Nd := bnd (wordsR s) (fun l q => bnd (nowP s) (fun v q => if v.kind = 3 then bnd (linesP s) (fun _ q => forK s B name (true, l) q) q else bnd (needP s (opB [59])) (fun _ q => bnd (linesP s) (fun _ q => forK s B name (true, l) q) q) q) q) q
def forP (B : PS → ReR Nd) (p : PS) : ReR Nd := bnd (stepP s) (fun _ q => bnd (nowP s) (fun t q => if t.kind = 1 ∧ nameB t.text = true then
    bnd (linesP s) (fun _ q => bnd (nowP s) (fun u q =>
      if keyB [105, 110] u then forIn s B t.text (stepS q)
      else if opB [59] u then bnd (linesP s) (fun _ q => forK s B t.text (false, []) q) (stepS q)
      else forK s B t.text (false, []) q) q) (stepS q)
  else .bad t.pos 56) q) p
def patN : Nat → List (List UInt8) → PS → ReR (List (List UInt8))
  | 0, l, p => .ok l p
  | f + 1, l, p => bnd (nowP s) (fun t q => if opB [124] t then bnd (wordR s) (fun x q => patN f (l ++ [x]) q) (stepS q) else .ok l q) p
def caseEnd (rec : List (List UInt8) → List Nd → PS → ReR (List (List UInt8) × List Nd)) (ws : List (List UInt8)) (l : List Nd) (p : PS) : ReR (List (List UInt8) × List Nd) := bnd (nowP s) (fun v q => if opB [59, 59] v then bnd (linesP s) (fun _ q => rec ws l q) (stepS q) else .ok (ws, l) q) p
def caseTail (B : PS → ReR Nd) (rec : List (List UInt8) → List Nd → PS → ReR (List (List UInt8) × List Nd)) (l : List Nd) (ws : List (List UInt8)) (p : PS) : ReR (List (List UInt8) × List Nd) :=
  bnd (needP s (opB [41])) (fun _ q => bnd (linesP s) (fun _ q => bnd (nowP s) (fun u q => if beginB u then bnd B (fun b q => caseEnd s rec (ws ++ [[41]]) (l ++ [b]) q) q else caseEnd s rec (ws ++ [[41]]) (l ++ [ndK 5 []]) q) q) q) p
def caseN (B : PS → ReR Nd) : Nat → List (List UInt8) → List Nd → PS → ReR (List (List UInt8) × List Nd)
  | 0, ws, l, p => .ok (ws, l) p
  | f + 1, ws, l, p => bnd (nowP s) (fun t q => if keyB [101, 115, 97, 99] t then .ok (ws, l) q else
      bnd (wordR s) (fun x q => bnd (patN s (muP s q + 1) (ws ++ [x])) (caseTail s B (caseN B f) l) q) (if opB [40] t then stepS q else q)) p
def caseK (x : List UInt8) (y : List (List UInt8) × List Nd) (q : PS) : ReR Nd := bnd (needP s (keyB [101, 115, 97, 99])) (fun _ q => .ok (.mk 13 false false x y.1 [] y.2) q) q
def caseP (B : PS → ReR Nd) (p : PS) : ReR Nd := bnd (stepP s) (fun _ q => bnd (wordR s) (fun x q => bnd (linesP s) (fun _ q => bnd (needP s (keyB [105, 110])) (fun _ q => bnd (linesP s) (fun _ q => bnd (caseN s B (muP s q + 1) [] []) (caseK s x) q) q) q) q) q) p
/-- a compound command without its redirections -/
def coreP (B : PS → ReR Nd) (p : PS) : ReR Nd := bnd (nowP s) (fun t q =>
    if opB [40] t then bnd B (fun b q => bnd (needP s (opB [41])) (fun _ q => .ok (ndK 7 [b]) q) q) (stepS q)
    else if keyB [123] t then bnd B (fun b q => bnd (needP s (keyB [125])) (fun _ q => .ok (ndK 8 [b]) q) q) (stepS q)
    else if keyB [105, 102] t then ifP s B q
    else if keyB [119, 104, 105, 108, 101] t || keyB [117, 110, 116, 105, 108] t then
      bnd B (fun a q => bnd (needP s (keyB [100, 111])) (fun _ q => bnd B (fun b q => bnd (needP s (keyB [100, 111, 110, 101])) (fun _ q => .ok (ndK (if t.text = [117, 110, 116, 105, 108] then 11 else 10) [a, b]) q) q) q) q) (stepS q)
    else if keyB [102, 111, 114] t then forP s B q
    else if keyB [99, 97, 115, 101] t then caseP s B q
    else .bad t.pos 56) p
def withR (n : Nd) (l : List Rdr) : Nd := .mk n.kind n.not n.isin n.name n.words l n.kids
def compP (B : PS → ReR Nd) (p : PS) : ReR Nd := bnd (coreP s B) (fun n q => bnd (redirsR s) (fun l q => .ok (withR n l) q) q) p
def simpN (F : List UInt8 → PS → ReR Nd) : Nat → List (List UInt8) → List Rdr → PS → ReR Nd
  | 0, ws, rs, p => .ok (.mk 1 false false [] ws rs []) p
  | f + 1, ws, rs, p => bnd (nowP s) (fun t q =>
      if redirB t then bnd (redirR s) (fun r q => simpN F f ws (rs ++ [r]) q) q
      else if t.kind = 1 then
        if ws = [] ∧ amongB reservedS t.text = true then .bad t.pos 56
        else if ws = [] ∧ rs = [] ∧ nameB t.text = true then
          bnd (nowP s) (fun u q => if opB [40] u then bnd (needP s (opB [41])) (fun _ q => bnd (linesP s) (fun _ q => F t.text q) q) (stepS q) else simpN F f [t.text] rs q) (stepS q)
        else simpN F f (ws ++ [t.text]) rs (stepS q)
      else if ws = [] ∧ rs = [] then .bad t.pos 56 else .ok (.mk 1 false false [] ws rs []) q) p
def simpP (F : List UInt8 → PS → ReR Nd) (p : PS) : ReR Nd := simpN s F (muP s p + 1) [] [] p
def nestP (p : PS) : ReR Nd := bnd (nowP s) (fun t _ => .bad t.pos 52) p
def fnP (C : PS → ReR Nd) (name : List UInt8) (p : PS) : ReR Nd := bnd C (fun n q => .ok (.mk 14 false false name [] [] [n]) q) p
def cmdP (C S : PS → ReR Nd) (p : PS) : ReR Nd := bnd (nowP s) (fun t q => if opB [40] t || (decide (t.kind = 1) && amongB reservedS t.text) then C q else S q) p
/-- a command, and a compound one, by what is left of the depth -/
def lvC : Nat → (PS → ReR Nd) × (PS → ReR Nd)
  | 0 => (nestP s, nestP s)
  | m + 1 => (cmdP s (compP s (bodyP s (andorP s (pipeP s (lvC m).1)))) (simpP s (fnP (lvC m).2)), compP s (bodyP s (andorP s (pipeP s (lvC m).1))))
def levP (m : Nat) : PS → ReR Nd := andorP s (pipeP s (lvC s m).1)
def moreB (q : PS) : Bool := match q.line with
  | [] => false
  | t :: _ => !decide (t.kind = 3)
def compEnd (l : List Nd) (q : PS) : ReR (Option Nd) := match q.line with
  | [] => .ok (some (severalP l)) q
  | t :: _ => if t.kind = 3 then .ok (some (severalP l)) (stepS q) else .bad t.pos 56
def compN : Nat → List Nd → PS → ReR (Option Nd)
  | 0, l, p => .ok (some (severalP l)) p
  | f + 1, l, p => bnd (itemP s (levP s 25)) (fun x q => if (x.2 && moreB q) = true then compN f (l ++ [x.1]) q else compEnd (l ++ [x.1]) q) p
/-- a complete command, if one is left -/
def completeP (p : PS) : ReR (Option Nd) := bnd (linesP s) (fun _ q => bnd (nowP s) (fun t q => if t.kind = 0 then .ok none q else compN s (muP s q + 1) [] q) q) p
end
structure FirstV where
  node : Nd
  ok : Bool
  next : Nat
  place : Nat
  err : Nat
def firstP' (s : List UInt8) (a : Int) : FirstV := if 65536 < s.length then ⟨nd0, false, 0, 0, 50⟩ else if a < 0 ∨ (s.length : Int) < a then ⟨nd0, false, 0, 0, 73⟩ else
  match completeP s ⟨[], a.toNat⟩ with
  | .ok (some n) q => ⟨n, true, q.next, 0, 0⟩
  | .ok none q => ⟨nd0, false, q.next, 0, 0⟩
  | .bad a e => ⟨nd0, false, 0, a, e⟩
end Go.Tri

/-
  What holds of a parser's states.
-/
namespace Go.Tri
open Go.RowKit
def Filled (s : List UInt8) (p : PS) : Prop := ¬ (p.line = [] ∧ p.next < s.length)
def OkP (s : List UInt8) (p : PS) : Prop := p.next ≤ s.length ∧ (∀ t ∈ p.line, t.text.length ≤ s.length ∧ 1 ≤ t.kind) ∧ p.line.length ≤ s.length
theorem OkP.line {s : List UInt8} {i : Nat} (hi : i ≤ s.length) (h : (lineP s i).err = 0) : OkP s ⟨(lineP s i).toks, (lineP s i).fin⟩ := by
  obtain ⟨_, _, _, ts, k, ds, j, e1, e2, e3⟩ := lineP_ok h
  rw [e3, Int.toNat_natCast] at *
  have h1 := lineL_st s _ i ts k hi e1
  have h2 := (docsL_st s ts none i (i + k) ds j h1 e2).1
  refine ⟨(stand_len h2).2, fun t ht => ?_, by have := stand_len h2; show ds.length ≤ s.length; omega⟩
  obtain ⟨n, hn, rfl⟩ := List.getElem_of_mem ht
  have key : ∀ (l : List Tok) (a : Nat), StandP s a l j → ∀ t ∈ l, t.text.length ≤ s.length ∧ 1 ≤ t.kind := by
    intro l
    induction l with
    | nil => intro a _ t ht; cases ht
    | cons u r ih =>
      intro a h t ht
      obtain ⟨⟨h1, h2, h3, h4, h5, _⟩, h6⟩ := h
      rcases List.mem_cons.1 ht with rfl | ht
      · exact ⟨by omega, h5⟩
      · exact ih _ h6 t ht
  exact key ds i h2 _ ht
theorem OkP.step {s : List UInt8} {p : PS} (h : OkP s p) : OkP s (stepS p) := ⟨h.1, fun t ht => h.2.1 t (List.mem_of_mem_drop ht), by have := h.2.2; unfold stepS; rw [List.length_drop]; omega⟩
theorem fill_stop {s : List UInt8} {p : PS} {f : Nat} (h : Filled s p) : fillN s f p = .ok () p := by
  cases f with
  | zero => rfl
  | succ f => rw [fillN, if_neg h]
theorem now_filled {s : List UInt8} {p : PS} (h : Filled s p) : nowP s p = .ok (headT s p) p := by
  unfold nowP
  rw [bnd_ok (show fillP s p = .ok () p from fill_stop h)]
theorem step_filled {s : List UInt8} {p : PS} (h : Filled s p) : stepP s p = .ok (headT s p) (stepS p) := by
  unfold stepP
  rw [bnd_ok (now_filled h)]
theorem ask_filled {s : List UInt8} {p : PS} (b : Tok → Bool) (h : Filled s p) : askP s b p = .ok (b (headT s p)) p := by
  unfold askP
  rw [bnd_ok (now_filled h)]
theorem headT_cons {s : List UInt8} {p : PS} {t : Tok} {r : List Tok} (h : p.line = t :: r) : headT s p = t := by unfold headT; rw [h]
theorem headT_nil {s : List UInt8} {p : PS} (h : p.line = []) : headT s p = endT' s := by unfold headT; rw [h]
theorem headT_len {s : List UInt8} {p : PS} (h : OkP s p) : (headT s p).text.length ≤ s.length := by
  cases hl : p.line with
  | nil => rw [headT_nil hl]; exact Nat.zero_le _
  | cons t r => rw [headT_cons hl]; exact (h.2.1 t (by rw [hl]; exact List.mem_cons_self)).1
theorem headT_line {s : List UInt8} {p : PS} (h : (headT s p).kind ≠ 0) : p.line ≠ [] := fun hl => by rw [headT_nil hl] at h; exact h rfl
theorem mu_le {s : List UInt8} {p : PS} (h : OkP s p) : muP s p ≤ 2 * s.length := by
  have := h.2.2
  unfold muP
  omega
theorem mu_step {s : List UInt8} {p : PS} (h : (headT s p).kind ≠ 0) : muP s (stepS p) + 1 ≤ muP s p := by
  have := List.length_pos_iff.2 (headT_line h)
  unfold muP stepS
  rw [List.length_drop]
  dsimp only
  omega
theorem mu_step0 {s : List UInt8} {p : PS} : muP s (stepS p) ≤ muP s p := by
  unfold muP stepS
  rw [List.length_drop]
  dsimp only
  omega
theorem opB_kind {x : List UInt8} {t : Tok} (h : opB x t = true) : t.kind ≠ 0 := by
  unfold opB at h
  rw [Bool.and_eq_true, decide_eq_true_eq] at h
  omega
theorem keyB_kind {x : List UInt8} {t : Tok} (h : keyB x t = true) : t.kind ≠ 0 := by
  unfold keyB at h
  rw [Bool.and_eq_true, decide_eq_true_eq] at h
  omega
/-- a line more -/
theorem fill_step {s : List UInt8} {p : PS} {f : Nat} {β : Type} {R : ReR β} {k : Unit → PS → ReR β} (hc : p.line = [] ∧ p.next < s.length) (h : R = bnd (fillN s (f + 1)) k p) :
    ((lineP s p.next).err = 0 → R = bnd (fillN s f) k ⟨(lineP s p.next).toks, (lineP s p.next).fin⟩) ∧ ((lineP s p.next).err ≠ 0 → R = .bad (lineP s p.next).place (lineP s p.next).err) := by
  refine ⟨fun he => ?_, fun he => ?_⟩
  · rw [h]; unfold bnd; rw [fillN, if_pos hc, if_pos he]
  · rw [h]; unfold bnd; rw [fillN, if_pos hc, if_neg he]
theorem fill_done {s : List UInt8} {p : PS} {f : Nat} {β : Type} {R : ReR β} {k : Unit → PS → ReR β} (hc : Filled s p) (h : R = bnd (fillN s f) k p) : R = k () p := by rw [h, bnd_ok (fill_stop hc)]
theorem mu_line {s : List UInt8} {p : PS} (hp : OkP s p) (hc : p.line = [] ∧ p.next < s.length) (he : (lineP s p.next).err = 0) :
    OkP s ⟨(lineP s p.next).toks, (lineP s p.next).fin⟩ ∧ muP s ⟨(lineP s p.next).toks, (lineP s p.next).fin⟩ ≤ muP s p ∧ s.length - (lineP s p.next).fin < s.length - p.next := by
  obtain ⟨h1, h2, h3, h4⟩ := line_fin hp.1 he
  have h5 := h3 hc.2
  refine ⟨OkP.line hp.1 he, ?_, by omega⟩
  unfold muP
  rw [hc.1]
  simp only [List.length_nil]
  omega
/-- the value of a reader handed on -/
def bndV {α β : Type} (r : ReR α) (f : α → PS → ReR β) : ReR β := match r with
  | .ok x q => f x q
  | .bad a e => .bad a e
theorem bnd_v {α β : Type} {m : PS → ReR α} {f : α → PS → ReR β} {p : PS} : bnd m f p = bndV (m p) f := rfl
theorem ask_of {s : List UInt8} {b : Tok → Bool} {p q : PS} {t : Tok} (h : nowP s p = .ok t q) : askP s b p = .ok (b t) q := by unfold askP; rw [bnd_ok h]
theorem ask_bad {s : List UInt8} {b : Tok → Bool} {p : PS} {a e : Nat} (h : nowP s p = .bad a e) : askP s b p = .bad a e := by unfold askP; rw [bnd_bad h]
theorem wordR_filled {s : List UInt8} {p : PS} (h : Filled s p) (hk : (headT s p).kind = 1) : wordR s p = .ok (headT s p).text (stepS p) := by
  unfold wordR
  rw [bnd_ok (now_filled h), if_pos hk]
theorem word_inj {s : List UInt8} {p q : PS} {x : List UInt8} (h : Filled s p) (hk : (headT s p).kind = 1) (he : wordR s p = .ok x q) : x = (headT s p).text ∧ q = stepS p := by
  rw [wordR_filled h hk] at he
  cases he
  exact ⟨rfl, rfl⟩
theorem comp_fill {s : List UInt8} {B : PS → ReR Nd} {p q : PS} {t : Tok} (h : nowP s p = .ok t q) (hf : Filled s q) (ht : t = headT s q) : compP s B p = compP s B q := by
  have h2 : nowP s q = .ok t q := by rw [now_filled hf, ht]
  unfold compP
  rw [bnd_v, bnd_v]
  unfold coreP
  rw [bnd_ok h, bnd_ok h2]
theorem comp_bad {s : List UInt8} {B : PS → ReR Nd} {p : PS} {a e : Nat} (h : nowP s p = .bad a e) : compP s B p = .bad a e := by
  unfold compP
  rw [bnd_v]
  unfold coreP
  rw [bnd_bad h]; rfl
theorem lvC_now (s : List UInt8) (n : Nat) : ∃ k, (lvC s n).1 = bnd (nowP s) k ∧ (n = 0 → k = fun t _ => .bad t.pos 52) ∧ (∀ m, n = m + 1 → k = fun t q => if opB [40] t || (decide (t.kind = 1) && amongB reservedS t.text) then (lvC s (m + 1)).2 q else simpP s (fnP (lvC s m).2) q) := by
  cases n with
  | zero => exact ⟨_, rfl, fun _ => rfl, fun m h => by cases h⟩
  | succ m => exact ⟨_, rfl, fun h => by (cases h), fun m' h => by cases h; rfl⟩
end Go.Tri

/-
  Lines as the kinds and texts of their tokens; the parser's small steps on a line at hand.
-/
namespace Go.Tri
open Go.RowKit
def keyT (t : Tok) : Nat × List UInt8 := (t.kind, t.text)
/-! the steps on a line at hand -/
variable {s : List UInt8}
theorem filled_c {t : Tok} {l : List Tok} {nx : Nat} : Filled s ⟨t :: l, nx⟩ := fun h => by cases h.1
theorem now_c {α : Type} {k : Tok → PS → ReR α} {t : Tok} {l : List Tok} {nx : Nat} : bnd (nowP s) k ⟨t :: l, nx⟩ = k t ⟨t :: l, nx⟩ := bnd_ok (now_filled filled_c)
/-- the next line is read -/
theorem now_l {α : Type} {k : Tok → PS → ReR α} {t : Tok} {l : List Tok} {i nx : Nat} (h : lineP s i = ⟨t :: l, nx, 0, 0⟩) (hi : i < s.length) : bnd (nowP s) k ⟨[], i⟩ = k t ⟨t :: l, nx⟩ := by
  refine bnd_ok ?_
  unfold nowP
  refine (bnd_ok (q := ⟨t :: l, nx⟩) (x := ()) ?_).trans rfl
  show fillN s (s.length - i + 1) ⟨[], i⟩ = _
  rw [fillN, if_pos ⟨rfl, hi⟩, h]
  show (if (0 : Nat) = 0 then _ else _ : ReR Unit) = _
  rw [if_pos rfl]
  exact fill_stop filled_c
theorem lines_l {α : Type} {k : Unit → PS → ReR α} {t : Tok} {l : List Tok} {i nx : Nat} (h : lineP s i = ⟨t :: l, nx, 0, 0⟩) (hi : i < s.length) (h3 : t.kind ≠ 3) : bnd (linesP s) k ⟨[], i⟩ = k () ⟨t :: l, nx⟩ := by
  refine bnd_ok ?_
  rw [linesP, linesN, now_l h hi, if_neg h3]
end Go.Tri

/-
  Quoted words are read as a simple command of just these words; several of them with | between as a pipeline.
-/
namespace Go.Tri
open Go.RowKit
section
variable {s : List UInt8}
end
end Go.Tri

/-
  Commands within one another are read up to the depth 24, and refused beyond.
-/
namespace Go.Tri
open Go.RowKit
abbrev Key := Nat × List UInt8
def openK : Nat → List Key
  | 0 => [(2, [40])]
  | 1 => [(1, [123])]
  | 2 => [(1, [105, 102])]
  | 3 => [(1, [119, 104, 105, 108, 101]), (1, [97]), (2, [59]), (1, [100, 111])]
  | _ => [(1, [102]), (2, [40]), (2, [41]), (1, [123])]
def closeK : Nat → List Key
  | 0 => [(2, [41])]
  | 1 => [(2, [59]), (1, [125])]
  | 2 => [(2, [59]), (1, [116, 104, 101, 110]), (1, [97]), (2, [59]), (1, [102, 105])]
  | 3 => [(2, [59]), (1, [100, 111, 110, 101])]
  | _ => [(2, [59]), (1, [125])]
def deepK (k : Nat) : Nat → List Key
  | 0 => [(1, [97])]
  | n + 1 => openK k ++ deepK k n ++ closeK k
/-- what may follow a command -/
def EndH (r : List UInt8) : Prop := r = [] ∨ nth r 0 0 = 41 ∨ nth r 0 0 = 59
theorem EndH.sp {r : List UInt8} (h : EndH r) : r = [] ∨ (hasB specials (nth r 0 0) = true ∧ nth r 0 0 ≠ 60 ∧ nth r 0 0 ≠ 62) := by
  rcases h with h | h | h
  · exact .inl h
  · rw [h]; exact .inr (by decide)
  · rw [h]; exact .inr (by decide)
end Go.Tri

/-
  Commands within one another: how a line of them is read.
-/
namespace Go.Tri
open Go.RowKit
def opK (x : List UInt8) (c : Key) : Bool := decide (c.1 = 2) && decide (c.2 = x)
def redirK (c : Key) : Bool := decide (c.1 = 4) || (decide (c.1 = 2) && amongB redirectS c.2)
section
variable {t : Tok} {c : Key}
end
variable {s : List UInt8}
theorem need_c {α : Type} {k : Unit → PS → ReR α} {b : Tok → Bool} {t : Tok} {l : List Tok} {nx : Nat} (h : b t = true) : bnd (needP s b) k ⟨t :: l, nx⟩ = k () ⟨l, nx⟩ := by
  refine bnd_ok ?_
  rw [needP, now_c, if_pos h]; rfl
def endKs : List Key := [(0, []), (2, [41]), (2, [59]), (3, [10])]
/-- what may follow a command -/
def Rst (s : List UInt8) (p : PS) : Prop := Filled s p ∧ keyT (headT s p) ∈ endKs
theorem rst_not {p : PS} (h : Rst s p) {f : Key → Bool} (hf : endKs.all (fun c => !f c) = true) : f (keyT (headT s p)) = false := by
  have := List.all_eq_true.1 hf _ h.2
  simpa using this
theorem lev_ok {m : Nat} {p q : PS} {nd : Nd} (hp : Filled s p) (hb : keyB [33] (headT s p) = false) (h : (lvC s m).1 p = .ok nd q) (hq : Rst s q) : levP s m p = .ok nd q := by
  have h1 : pipeP s (lvC s m).1 p = .ok nd q := by
    unfold pipeP
    rw [bnd_ok (now_filled hp), if_neg (by rw [hb]; simp), bnd_ok h]
    rw [bnd_v, pipeN, bnd_ok (now_filled hq.1), if_neg (by rw [show opB [124] (headT s q) = false from rst_not (f := opK [124]) hq (by decide)]; simp), hb]; rfl
  unfold levP andorP
  rw [bnd_ok h1, andorN, bnd_ok (now_filled hq.1), if_neg]
  rw [show opB [38, 38] (headT s q) = false from rst_not (f := opK [38, 38]) hq (by decide), show opB [124, 124] (headT s q) = false from rst_not (f := opK [124, 124]) hq (by decide)]; simp
theorem lev_bad {m : Nat} {p : PS} {a e : Nat} (hp : Filled s p) (hb : keyB [33] (headT s p) = false) (h : (lvC s m).1 p = .bad a e) : levP s m p = .bad a e := by
  have h1 : pipeP s (lvC s m).1 p = .bad a e := by
    unfold pipeP
    rw [bnd_ok (now_filled hp), if_neg (by rw [hb]; simp), bnd_bad h]
  unfold levP andorP
  rw [bnd_bad h1]
theorem comp_ok {B : PS → ReR Nd} {p q : PS} {nd : Nd} (h : coreP s B p = .ok nd q) (hq : Rst s q) : compP s B p = .ok (withR nd []) q := by
  have hr : redirsR s q = .ok [] q := by
    rw [redirsR, manyP, manyN, bnd_ok (now_filled hq.1), if_neg]
    rw [show redirB (headT s q) = false from rst_not (f := redirK) hq (by decide +kernel)]; simp
  rw [compP, bnd_ok h, bnd_ok hr]
theorem comp_nok {B : PS → ReR Nd} {p : PS} {a e : Nat} (h : coreP s B p = .bad a e) : compP s B p = .bad a e := by
  rw [compP, bnd_bad h]
/-- a command that is a compound one -/
theorem cmd_comp {m nx : Nat} {t : Tok} {l : List Tok} (h : (opB [40] t || (decide (t.kind = 1) && amongB reservedS t.text)) = true) : (lvC s (m + 1)).1 ⟨t :: l, nx⟩ = compP s (bodyP s (levP s m)) ⟨t :: l, nx⟩ := by
  show cmdP s (compP s (bodyP s (levP s m))) _ ⟨t :: l, nx⟩ = _
  rw [cmdP, now_c, if_pos h]
end Go.Tri

/-
  Commands within one another are read up to the depth 24, and refused beyond: by the kind of what holds them.
-/
namespace Go.Tri
open Go.RowKit
variable {s : List UInt8}
/-- read up to so many levels, refused beyond -/
def Deep (s : List UInt8) (k q : Nat) : Prop := ∀ (n m : Nat) (ts rest : List Tok) (nx : Nat), ts.map keyT = deepK k n → Rst s ⟨rest, nx⟩ →
  (q * n < m → ∃ nd, levP s m ⟨ts ++ rest, nx⟩ = .ok nd ⟨rest, nx⟩) ∧ (m ≤ q * n → ∃ a, levP s m ⟨ts ++ rest, nx⟩ = .bad a 52)
end Go.Tri

/-
  A tree as a text, by which trees are compared.
-/
namespace Go.Tri
open Go.RowKit
def textC (t : List UInt8) : List UInt8 := Lib.itoa (t.length : Int) ++ [58] ++ t
def wordsC (ws : List (List UInt8)) : List UInt8 := ws.flatMap fun w => [119] ++ textC w
def rdrC (r : Rdr) : List UInt8 := [114] ++ Lib.itoa r.fd ++ textC r.op ++ textC r.word ++ textC r.doc ++ if r.raw then [114, 97, 119] else []
def rdrsC (rs : List Rdr) : List UInt8 := rs.flatMap rdrC
mutual
def codeP : Nd → List UInt8
  | .mk k nt isin nm ws rs ks => [40] ++ Lib.itoa (k : Int) ++ (if nt then [33] else []) ++ (if isin then [105, 110] else []) ++ [44] ++ textC nm ++ wordsC ws ++ rdrsC rs ++ codesP ks ++ [41]
def codesP : List Nd → List UInt8
  | [] => []
  | k :: ks => codeP k ++ codesP ks
end
theorem codesP_app : ∀ a b : List Nd, codesP (a ++ b) = codesP a ++ codesP b
  | [], b => by rw [List.nil_append, codesP, List.nil_append]
  | k :: a, b => by rw [List.cons_append, codesP, codesP, codesP_app a b, List.append_assoc]
theorem codesP_one (k : Nd) : codesP [k] = codeP k := by rw [codesP, codesP, List.append_nil]

mutual
def NdK : Nd → Prop
  | .mk k _ _ _ _ rs ks => k ≤ 1000 ∧ (∀ r ∈ rs, -9223372036854775808 ≤ r.fd ∧ r.fd ≤ 10) ∧ NdsK ks
def NdsK : List Nd → Prop
  | [] => True
  | k :: ks => NdK k ∧ NdsK ks
end
theorem NdsK.nth {ks : List Nd} (h : NdsK ks) : ∀ {i : Nat}, i < ks.length → NdK (nth ks i nd0) := by
  induction ks with
  | nil => intro i hi; exact absurd hi (Nat.not_lt_zero i)
  | cons k ks ih =>
    intro i hi
    unfold NdsK at h
    cases i with
    | zero => exact h.1
    | succ i => exact ih h.2 (by simpa using hi)
def rdr0 : Rdr := ⟨0, [], [], [], false⟩
theorem wordsC_snoc {ws : List (List UInt8)} {i : Nat} (h : i < ws.length) : wordsC (ws.take (i + 1)) = wordsC (ws.take i) ++ ([119] ++ textC (nth ws i [])) := by
  rw [take_nth [] h]; unfold wordsC; rw [List.flatMap_append]; simp
theorem rdrsC_snoc {rs : List Rdr} {i : Nat} (h : i < rs.length) : rdrsC (rs.take (i + 1)) = rdrsC (rs.take i) ++ rdrC (nth rs i rdr0) := by
  rw [take_nth rdr0 h]; unfold rdrsC; rw [List.flatMap_append]; simp
theorem codesP_snoc {ks : List Nd} {i : Nat} (h : i < ks.length) : codesP (ks.take (i + 1)) = codesP (ks.take i) ++ codeP (nth ks i nd0) := by
  rw [take_nth nd0 h, codesP_app, codesP_one]
theorem flat_take {α : Type} (f : α → List UInt8) (l : List α) (i : Nat) : ((l.take i).flatMap f).length ≤ (l.flatMap f).length := by
  conv => rhs; rw [← List.take_append_drop i l, List.flatMap_append, List.length_append]
  omega
theorem codes_take (l : List Nd) (i : Nat) : (codesP (l.take i)).length ≤ (codesP l).length := by
  conv => rhs; rw [← List.take_append_drop i l, codesP_app, List.length_append]
  omega
theorem wordsC_len (ws : List (List UInt8)) : ws.length ≤ (wordsC ws).length := by
  induction ws with
  | nil => exact Nat.le_refl _
  | cons w ws ih =>
    unfold wordsC at ih ⊢
    rw [List.flatMap_cons, List.length_append, List.length_append, List.length_cons]
    simp only [List.length_cons, List.length_nil]; omega
theorem rdrsC_len (rs : List Rdr) : rs.length ≤ (rdrsC rs).length := by
  induction rs with
  | nil => exact Nat.le_refl _
  | cons r rs ih =>
    unfold rdrsC at ih ⊢
    have h1 : 1 ≤ (rdrC r).length := by unfold rdrC; simp only [List.length_append, List.length_cons]; omega
    rw [List.flatMap_cons, List.length_append, List.length_cons]
    omega
theorem codeP_len (n : Nd) : 1 ≤ (codeP n).length := by
  obtain ⟨k, nt, isin, nm, ws, rs, ks⟩ := n
  rw [codeP]
  simp only [List.length_append, List.length_cons, List.length_nil]; omega
theorem codesP_len : ∀ ks : List Nd, ks.length ≤ (codesP ks).length
  | [] => by rw [codesP]; exact Nat.le_refl _
  | k :: ks => by
    have h1 := codeP_len k
    have h2 := codesP_len ks
    rw [codesP, List.length_append, List.length_cons]; omega
theorem codes_nth {ks : List Nd} {i : Nat} (h : i < ks.length) : (codeP (nth ks i nd0)).length ≤ (codesP ks).length := by
  have h1 := codes_take ks (i + 1)
  rw [codesP_snoc h, List.length_append] at h1
  omega
end Go.Tri
