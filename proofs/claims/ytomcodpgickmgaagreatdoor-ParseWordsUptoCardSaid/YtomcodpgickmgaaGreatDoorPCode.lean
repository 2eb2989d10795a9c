/-
  The parser of a shell text, in plain words: a state is the tokens left of the line at hand and where the next line begins.
-/
import Derived.Test.YtomcodpgickmgaaGreatDoorPLex10
import Derived.Test.YtomcodpgickmgaaGreatDoorPNum
namespace Go.Tri
open Go.RowKit
structure PS where
  line : List Tok
  next : Nat
inductive ReR (α : Type) where
  | ok (x : α) (p : PS)
  | bad (a e : Nat)
def ReR.map {α β : Type} (f : α → β) : ReR α → ReR β
  | .ok x p => .ok (f x) p
  | .bad a e => .bad a e
/-- one reader behind the other -/
def bnd {α β : Type} (m : PS → ReR α) (f : α → PS → ReR β) (p : PS) : ReR β := match m p with
  | .ok x q => f x q
  | .bad a e => .bad a e
theorem bnd_ok {α β : Type} {m : PS → ReR α} {f : α → PS → ReR β} {p q : PS} {x : α} (h : m p = .ok x q) : bnd m f p = f x q := by unfold bnd; rw [h]
theorem bnd_bad {α β : Type} {m : PS → ReR α} {f : α → PS → ReR β} {p : PS} {a e : Nat} (h : m p = .bad a e) : bnd m f p = .bad a e := by unfold bnd; rw [h]
structure Rdr where
  fd : Int
  op : List UInt8
  word : List UInt8
  doc : List UInt8
  raw : Bool
inductive Nd where
  | mk (kind : Nat) (not isin : Bool) (name : List UInt8) (words : List (List UInt8)) (redirs : List Rdr) (kids : List Nd)
def Nd.kind : Nd → Nat
  | .mk k _ _ _ _ _ _ => k
def Nd.not : Nd → Bool
  | .mk _ k _ _ _ _ _ => k
def Nd.isin : Nd → Bool
  | .mk _ _ k _ _ _ _ => k
def Nd.name : Nd → List UInt8
  | .mk _ _ _ k _ _ _ => k
def Nd.words : Nd → List (List UInt8)
  | .mk _ _ _ _ k _ _ => k
def Nd.redirs : Nd → List Rdr
  | .mk _ _ _ _ _ k _ => k
def Nd.kids : Nd → List Nd
  | .mk _ _ _ _ _ _ k => k
def nd0 : Nd := .mk 0 false false [] [] [] []
/-- a tree of a kind with these below it -/
def ndK (k : Nat) (l : List Nd) : Nd := .mk k false false [] [] [] l
def severalP (l : List Nd) : Nd := match l with
  | [x] => if x.kind = 6 then ndK 5 [x] else x
  | l => ndK 5 l
/-- is a text one of some words? -/
def amongB (ws t : List UInt8) : Bool := decide (t ≠ []) && !Lib.contains t [32] && Lib.contains ([32] ++ ws ++ [32]) ([32] ++ t ++ [32])
def closersS : List UInt8 := [125, 32, 100, 111, 32, 100, 111, 110, 101, 32, 101, 108, 105, 102, 32, 101, 108, 115, 101, 32, 101, 115, 97, 99, 32, 102, 105, 32, 105, 110, 32, 116, 104, 101, 110]
def reservedS : List UInt8 := [33, 32, 123, 32, 99, 97, 115, 101, 32, 102, 111, 114, 32, 105, 102, 32, 117, 110, 116, 105, 108, 32, 119, 104, 105, 108, 101, 32] ++ closersS
def redirectS : List UInt8 := [60, 32, 62, 32, 62, 124, 32, 62, 62, 32, 60, 60, 32, 60, 60, 45, 32, 60, 38, 32, 62, 38, 32, 60, 62]
def opB (x : List UInt8) (t : Tok) : Bool := decide (t.kind = 2) && decide (t.text = x)
def keyB (x : List UInt8) (t : Tok) : Bool := decide (t.kind = 1) && decide (t.text = x)
def redirB (t : Tok) : Bool := decide (t.kind = 4) || (decide (t.kind = 2) && amongB redirectS t.text)
def beginB (t : Tok) : Bool := (decide (t.kind = 1) && !amongB closersS t.text) || opB [40] t || redirB t
def numOk (t : List UInt8) : Bool := match numB t with
  | some v => decide (v ≤ 9)
  | none => false
def numV (t : List UInt8) : Int := (numB t).getD 0
section
variable (s : List UInt8)
/-- what is left: a bound for all loops -/
def muP (p : PS) : Nat := p.line.length + (s.length - p.next)
/-- lines are read until one holds a token -/
def fillN : Nat → PS → ReR Unit
  | 0, p => .ok () p
  | f + 1, p => if p.line = [] ∧ p.next < s.length then if (lineP s p.next).err = 0 then fillN f ⟨(lineP s p.next).toks, (lineP s p.next).fin⟩ else .bad (lineP s p.next).place (lineP s p.next).err else .ok () p
def fillP (p : PS) : ReR Unit := fillN s (s.length - p.next + 1) p
def endT' : Tok := ⟨0, [], s.length, [], false⟩
def headT (p : PS) : Tok := match p.line with
  | [] => endT' s
  | t :: _ => t
/-- the token at hand -/
def nowP (p : PS) : ReR Tok := bnd (fillP s) (fun _ q => .ok (headT s q) q) p
def stepS (p : PS) : PS := ⟨p.line.drop 1, p.next⟩
def stepP (p : PS) : ReR Tok := bnd (nowP s) (fun t q => .ok t (stepS q)) p
def badP {α : Type} (p : PS) : ReR α := bnd (nowP s) (fun t _ => .bad t.pos 56) p
def askP (b : Tok → Bool) (p : PS) : ReR Bool := bnd (nowP s) (fun t q => .ok (b t) q) p
def needP (b : Tok → Bool) (p : PS) : ReR Unit := bnd (nowP s) (fun t q => if b t then .ok () (stepS q) else .bad t.pos 56) p
def linesN : Nat → PS → ReR Unit
  | 0, p => .ok () p
  | f + 1, p => bnd (nowP s) (fun t q => if t.kind = 3 then linesN f (stepS q) else .ok () q) p
def linesP (p : PS) : ReR Unit := linesN s (muP s p + 1) p
def wordR (p : PS) : ReR (List UInt8) := bnd (nowP s) (fun t q => if t.kind = 1 then .ok t.text (stepS q) else .bad t.pos 56) p
def redirT (fd : Int) (p : PS) : ReR Rdr := bnd (stepP s) (fun o q => bnd (nowP s) (fun t r => if t.kind = 1 then .ok (if stB o.text [60, 60] then ⟨fd, [60, 60], [], t.doc, t.raw⟩ else ⟨fd, o.text, t.text, [], false⟩) (stepS r) else .bad t.pos 56) q) p
def redirR (p : PS) : ReR Rdr := bnd (nowP s) (fun t q => if t.kind = 4 then
    (if numOk t.text then bnd (nowP s) (fun u r => if u.kind = 2 ∧ redirB u = true then redirT s (numV t.text) r else .bad u.pos 56) (stepS q) else .bad t.pos 56)
  else redirT s (-1) q) p
def manyN {α : Type} (b : Tok → Bool) (m : PS → ReR α) : Nat → List α → PS → ReR (List α)
  | 0, l, p => .ok l p
  | f + 1, l, p => bnd (nowP s) (fun t q => if b t then bnd m (fun x r => manyN b m f (l ++ [x]) r) q else .ok l q) p
def manyP {α : Type} (b : Tok → Bool) (m : PS → ReR α) (p : PS) : ReR (List α) := manyN s b m (muP s p + 1) [] p
def redirsR (p : PS) : ReR (List Rdr) := manyP s redirB (redirR s) p
def wordsR (p : PS) : ReR (List (List UInt8)) := manyP s (fun t => decide (t.kind = 1)) (wordR s) p
/-- an and-or, and what ends it -/
def itemP (A : PS → ReR Nd) (p : PS) : ReR (Nd × Bool) := bnd A (fun n q => bnd (nowP s) (fun t r => if opB [38] t then .ok (ndK 6 [n], true) (stepS r) else if opB [59] t then .ok (n, true) (stepS r) else .ok (n, false) r) q) p
def bodyN (A : PS → ReR Nd) : Nat → List Nd → PS → ReR Nd
  | 0, l, p => .ok (severalP l) p
  | f + 1, l, p => bnd (itemP s A) (fun x q =>
      bnd (if x.2 then fun q => .ok true q else askP s (fun t => decide (t.kind = 3))) (fun ended q => bnd (linesP s) (fun _ q =>
        if ended then bnd (nowP s) (fun t q => if beginB t then bodyN A f (l ++ [x.1]) q else .ok (severalP (l ++ [x.1])) q) q else .ok (severalP (l ++ [x.1])) q) q) q) p
def bodyP (A : PS → ReR Nd) (p : PS) : ReR Nd := bnd (linesP s) (fun _ q => bodyN s A (muP s q + 1) [] q) p
def andorN (P : PS → ReR Nd) : Nat → Nd → PS → ReR Nd
  | 0, n, p => .ok n p
  | f + 1, n, p => bnd (nowP s) (fun t q => if opB [38, 38] t || opB [124, 124] t then bnd (linesP s) (fun _ r => bnd P (fun m r => andorN P f (ndK (if t.text = [124, 124] then 4 else 3) [n, m]) r) r) (stepS q) else .ok n q) p
def andorP (P : PS → ReR Nd) (p : PS) : ReR Nd := bnd P (fun n q => andorN s P (muP s q + 1) n q) p
def pipeN (C : PS → ReR Nd) : Nat → List Nd → PS → ReR (List Nd)
  | 0, l, p => .ok l p
  | f + 1, l, p => bnd (nowP s) (fun t q => if opB [124] t then bnd (linesP s) (fun _ r => bnd C (fun m r => pipeN C f (l ++ [m]) r) r) (stepS q) else .ok l q) p
def pipeR (not : Bool) (l : List Nd) : Nd := match l, not with
  | [x], false => x
  | l, not => .mk 2 not false [] [] [] l
def pipeP (C : PS → ReR Nd) (p : PS) : ReR Nd := bnd (nowP s) (fun t q => bnd C (fun n r => bnd (pipeN s C (muP s r + 1) [n]) (fun l r => .ok (pipeR (keyB [33] t) l) r) r) (if keyB [33] t then stepS q else q)) p
def ifN (B : PS → ReR Nd) : Nat → List Nd → PS → ReR (List Nd)
  | 0, l, p => .ok l p
  | f + 1, l, p => bnd (stepP s) (fun _ q => bnd B (fun a q => bnd (needP s (keyB [116, 104, 101, 110])) (fun _ q => bnd B (fun b q => bnd (nowP s) (fun t q => if keyB [101, 108, 105, 102] t then ifN B f (l ++ [a, b]) q else .ok (l ++ [a, b]) q) q) q) q) q) p
def ifK (B : PS → ReR Nd) (l : List Nd) (q : PS) : ReR Nd := bnd (nowP s) (fun t q => if keyB [101, 108, 115, 101] t then bnd B (fun x q => bnd (needP s (keyB [102, 105])) (fun _ q => .ok (ndK 9 (l ++ [x])) q) q) (stepS q) else bnd (needP s (keyB [102, 105])) (fun _ q => .ok (ndK 9 l) q) q) q
def ifP (B : PS → ReR Nd) (p : PS) : ReR Nd := bnd (ifN s B (muP s p + 1) []) (ifK s B) p
def forK (B : PS → ReR Nd) (name : List UInt8) (x : Bool × List (List UInt8)) (q : PS) : ReR Nd := bnd (needP s (keyB [100, 111])) (fun _ q => bnd B (fun b q => bnd (needP s (keyB [100, 111, 110, 101])) (fun _ q => .ok (.mk 12 false x.1 name x.2 [] [b]) q) q) q) q
def forIn (B : PS → ReR Nd) (name : List UInt8) (q : PS) : ReR Nd := bnd (wordsR s) (fun l q => bnd (nowP s) (fun v q => if v.kind = 3 then bnd (linesP s) (fun _ q => forK s B name (true, l) q) q else bnd (needP s (opB [59])) (fun _ q => bnd (linesP s) (fun _ q => forK s B name (true, l) q) q) q) q) q
def forP (B : PS → ReR Nd) (p : PS) : ReR Nd := bnd (stepP s) (fun _ q => bnd (nowP s) (fun t q => if t.kind = 1 ∧ nameB t.text = true then
    bnd (linesP s) (fun _ q => bnd (nowP s) (fun u q =>
      if keyB [105, 110] u then forIn s B t.text (stepS q)
      else if opB [59] u then bnd (linesP s) (fun _ q => forK s B t.text (false, []) q) (stepS q)
      else forK s B t.text (false, []) q) q) (stepS q)
  else .bad t.pos 56) q) p
def patN : Nat → List (List UInt8) → PS → ReR (List (List UInt8))
  | 0, l, p => .ok l p
  | f + 1, l, p => bnd (nowP s) (fun t q => if opB [124] t then bnd (wordR s) (fun x q => patN f (l ++ [x]) q) (stepS q) else .ok l q) p
def caseEnd (rec : List (List UInt8) → List Nd → PS → ReR (List (List UInt8) × List Nd)) (ws : List (List UInt8)) (l : List Nd) (p : PS) : ReR (List (List UInt8) × List Nd) := bnd (nowP s) (fun v q => if opB [59, 59] v then bnd (linesP s) (fun _ q => rec ws l q) (stepS q) else .ok (ws, l) q) p
def caseTail (B : PS → ReR Nd) (rec : List (List UInt8) → List Nd → PS → ReR (List (List UInt8) × List Nd)) (l : List Nd) (ws : List (List UInt8)) (p : PS) : ReR (List (List UInt8) × List Nd) :=
  bnd (needP s (opB [41])) (fun _ q => bnd (linesP s) (fun _ q => bnd (nowP s) (fun u q => if beginB u then bnd B (fun b q => caseEnd s rec (ws ++ [[41]]) (l ++ [b]) q) q else caseEnd s rec (ws ++ [[41]]) (l ++ [ndK 5 []]) q) q) q) p
def caseN (B : PS → ReR Nd) : Nat → List (List UInt8) → List Nd → PS → ReR (List (List UInt8) × List Nd)
  | 0, ws, l, p => .ok (ws, l) p
  | f + 1, ws, l, p => bnd (nowP s) (fun t q => if keyB [101, 115, 97, 99] t then .ok (ws, l) q else
      bnd (wordR s) (fun x q => bnd (patN s (muP s q + 1) (ws ++ [x])) (caseTail s B (caseN B f) l) q) (if opB [40] t then stepS q else q)) p
def caseK (x : List UInt8) (y : List (List UInt8) × List Nd) (q : PS) : ReR Nd := bnd (needP s (keyB [101, 115, 97, 99])) (fun _ q => .ok (.mk 13 false false x y.1 [] y.2) q) q
def caseP (B : PS → ReR Nd) (p : PS) : ReR Nd := bnd (stepP s) (fun _ q => bnd (wordR s) (fun x q => bnd (linesP s) (fun _ q => bnd (needP s (keyB [105, 110])) (fun _ q => bnd (linesP s) (fun _ q => bnd (caseN s B (muP s q + 1) [] []) (caseK s x) q) q) q) q) q) p
/-- a compound command without its redirections -/
def coreP (B : PS → ReR Nd) (p : PS) : ReR Nd := bnd (nowP s) (fun t q =>
    if opB [40] t then bnd B (fun b q => bnd (needP s (opB [41])) (fun _ q => .ok (ndK 7 [b]) q) q) (stepS q)
    else if keyB [123] t then bnd B (fun b q => bnd (needP s (keyB [125])) (fun _ q => .ok (ndK 8 [b]) q) q) (stepS q)
    else if keyB [105, 102] t then ifP s B q
    else if keyB [119, 104, 105, 108, 101] t || keyB [117, 110, 116, 105, 108] t then
      bnd B (fun a q => bnd (needP s (keyB [100, 111])) (fun _ q => bnd B (fun b q => bnd (needP s (keyB [100, 111, 110, 101])) (fun _ q => .ok (ndK (if t.text = [117, 110, 116, 105, 108] then 11 else 10) [a, b]) q) q) q) q) (stepS q)
    else if keyB [102, 111, 114] t then forP s B q
    else if keyB [99, 97, 115, 101] t then caseP s B q
    else .bad t.pos 56) p
def withR (n : Nd) (l : List Rdr) : Nd := .mk n.kind n.not n.isin n.name n.words l n.kids
def compP (B : PS → ReR Nd) (p : PS) : ReR Nd := bnd (coreP s B) (fun n q => bnd (redirsR s) (fun l q => .ok (withR n l) q) q) p
def simpN (F : List UInt8 → PS → ReR Nd) : Nat → List (List UInt8) → List Rdr → PS → ReR Nd
  | 0, ws, rs, p => .ok (.mk 1 false false [] ws rs []) p
  | f + 1, ws, rs, p => bnd (nowP s) (fun t q =>
      if redirB t then bnd (redirR s) (fun r q => simpN F f ws (rs ++ [r]) q) q
      else if t.kind = 1 then
        if ws = [] ∧ amongB reservedS t.text = true then .bad t.pos 56
        else if ws = [] ∧ rs = [] ∧ nameB t.text = true then
          bnd (nowP s) (fun u q => if opB [40] u then bnd (needP s (opB [41])) (fun _ q => bnd (linesP s) (fun _ q => F t.text q) q) (stepS q) else simpN F f [t.text] rs q) (stepS q)
        else simpN F f (ws ++ [t.text]) rs (stepS q)
      else if ws = [] ∧ rs = [] then .bad t.pos 56 else .ok (.mk 1 false false [] ws rs []) q) p
def simpP (F : List UInt8 → PS → ReR Nd) (p : PS) : ReR Nd := simpN s F (muP s p + 1) [] [] p
def nestP (p : PS) : ReR Nd := bnd (nowP s) (fun t _ => .bad t.pos 52) p
def fnP (C : PS → ReR Nd) (name : List UInt8) (p : PS) : ReR Nd := bnd C (fun n q => .ok (.mk 14 false false name [] [] [n]) q) p
def cmdP (C S : PS → ReR Nd) (p : PS) : ReR Nd := bnd (nowP s) (fun t q => if opB [40] t || (decide (t.kind = 1) && amongB reservedS t.text) then C q else S q) p
/-- a command, and a compound one, by what is left of the depth -/
def lvC : Nat → (PS → ReR Nd) × (PS → ReR Nd)
  | 0 => (nestP s, nestP s)
  | m + 1 => (cmdP s (compP s (bodyP s (andorP s (pipeP s (lvC m).1)))) (simpP s (fnP (lvC m).2)), compP s (bodyP s (andorP s (pipeP s (lvC m).1))))
def levP (m : Nat) : PS → ReR Nd := andorP s (pipeP s (lvC s m).1)
def moreB (q : PS) : Bool := match q.line with
  | [] => false
  | t :: _ => !decide (t.kind = 3)
def compEnd (l : List Nd) (q : PS) : ReR (Option Nd) := match q.line with
  | [] => .ok (some (severalP l)) q
  | t :: _ => if t.kind = 3 then .ok (some (severalP l)) (stepS q) else .bad t.pos 56
def compN : Nat → List Nd → PS → ReR (Option Nd)
  | 0, l, p => .ok (some (severalP l)) p
  | f + 1, l, p => bnd (itemP s (levP s 25)) (fun x q => if (x.2 && moreB q) = true then compN f (l ++ [x.1]) q else compEnd (l ++ [x.1]) q) p
/-- a complete command, if one is left -/
def completeP (p : PS) : ReR (Option Nd) := bnd (linesP s) (fun _ q => bnd (nowP s) (fun t q => if t.kind = 0 then .ok none q else compN s (muP s q + 1) [] q) q) p
end
structure FirstV where
  node : Nd
  ok : Bool
  next : Nat
  place : Nat
  err : Nat
def firstP' (s : List UInt8) (a : Int) : FirstV := if 65536 < s.length then ⟨nd0, false, 0, 0, 50⟩ else if a < 0 ∨ (s.length : Int) < a then ⟨nd0, false, 0, 0, 73⟩ else
  match completeP s ⟨[], a.toNat⟩ with
  | .ok (some n) q => ⟨n, true, q.next, 0, 0⟩
  | .ok none q => ⟨nd0, false, q.next, 0, 0⟩
  | .bad a e => ⟨nd0, false, 0, a, e⟩
end Go.Tri

/-
  What holds of a parser's states.
-/
namespace Go.Tri
open Go.RowKit
def Filled (s : List UInt8) (p : PS) : Prop := ¬ (p.line = [] ∧ p.next < s.length)
def OkP (s : List UInt8) (p : PS) : Prop := p.next ≤ s.length ∧ (∀ t ∈ p.line, t.text.length ≤ s.length ∧ 1 ≤ t.kind) ∧ p.line.length ≤ s.length
theorem OkP.line {s : List UInt8} {i : Nat} (hi : i ≤ s.length) (h : (lineP s i).err = 0) : OkP s ⟨(lineP s i).toks, (lineP s i).fin⟩ := by
  obtain ⟨_, _, _, ts, k, ds, j, e1, e2, e3⟩ := lineP_ok h
  rw [e3, Int.toNat_natCast] at *
  have h1 := lineL_st s _ i ts k hi e1
  have h2 := (docsL_st s ts none i (i + k) ds j h1 e2).1
  refine ⟨(stand_len h2).2, fun t ht => ?_, by have := stand_len h2; show ds.length ≤ s.length; omega⟩
  obtain ⟨n, hn, rfl⟩ := List.getElem_of_mem ht
  have key : ∀ (l : List Tok) (a : Nat), StandP s a l j → ∀ t ∈ l, t.text.length ≤ s.length ∧ 1 ≤ t.kind := by
    intro l
    induction l with
    | nil => intro a _ t ht; cases ht
    | cons u r ih =>
      intro a h t ht
      obtain ⟨⟨h1, h2, h3, h4, h5, _⟩, h6⟩ := h
      rcases List.mem_cons.1 ht with rfl | ht
      · exact ⟨by omega, h5⟩
      · exact ih _ h6 t ht
  exact key ds i h2 _ ht
theorem OkP.step {s : List UInt8} {p : PS} (h : OkP s p) : OkP s (stepS p) := ⟨h.1, fun t ht => h.2.1 t (List.mem_of_mem_drop ht), by have := h.2.2; unfold stepS; rw [List.length_drop]; omega⟩
theorem fill_stop {s : List UInt8} {p : PS} {f : Nat} (h : Filled s p) : fillN s f p = .ok () p := by
  cases f with
  | zero => rfl
  | succ f => rw [fillN, if_neg h]
theorem now_filled {s : List UInt8} {p : PS} (h : Filled s p) : nowP s p = .ok (headT s p) p := by
  unfold nowP
  rw [bnd_ok (show fillP s p = .ok () p from fill_stop h)]
theorem step_filled {s : List UInt8} {p : PS} (h : Filled s p) : stepP s p = .ok (headT s p) (stepS p) := by
  unfold stepP
  rw [bnd_ok (now_filled h)]
theorem ask_filled {s : List UInt8} {p : PS} (b : Tok → Bool) (h : Filled s p) : askP s b p = .ok (b (headT s p)) p := by
  unfold askP
  rw [bnd_ok (now_filled h)]
theorem headT_cons {s : List UInt8} {p : PS} {t : Tok} {r : List Tok} (h : p.line = t :: r) : headT s p = t := by unfold headT; rw [h]
theorem headT_nil {s : List UInt8} {p : PS} (h : p.line = []) : headT s p = endT' s := by unfold headT; rw [h]
theorem headT_len {s : List UInt8} {p : PS} (h : OkP s p) : (headT s p).text.length ≤ s.length := by
  cases hl : p.line with
  | nil => rw [headT_nil hl]; exact Nat.zero_le _
  | cons t r => rw [headT_cons hl]; exact (h.2.1 t (by rw [hl]; exact List.mem_cons_self)).1
theorem headT_line {s : List UInt8} {p : PS} (h : (headT s p).kind ≠ 0) : p.line ≠ [] := fun hl => by rw [headT_nil hl] at h; exact h rfl
theorem headT_kind {s : List UInt8} {p : PS} (hp : OkP s p) (h : p.line ≠ []) : (headT s p).kind ≠ 0 := by
  cases hl : p.line with
  | nil => exact absurd hl h
  | cons t r =>
    have := (hp.2.1 t (by rw [hl]; exact List.mem_cons_self)).2
    rw [headT_cons hl]; omega
theorem mu_le {s : List UInt8} {p : PS} (h : OkP s p) : muP s p ≤ 2 * s.length := by
  have := h.2.2
  unfold muP
  omega
theorem mu_step {s : List UInt8} {p : PS} (h : (headT s p).kind ≠ 0) : muP s (stepS p) + 1 ≤ muP s p := by
  have := List.length_pos_iff.2 (headT_line h)
  unfold muP stepS
  rw [List.length_drop]
  dsimp only
  omega
theorem mu_step0 {s : List UInt8} {p : PS} : muP s (stepS p) ≤ muP s p := by
  unfold muP stepS
  rw [List.length_drop]
  dsimp only
  omega
theorem opB_kind {x : List UInt8} {t : Tok} (h : opB x t = true) : t.kind ≠ 0 := by
  unfold opB at h
  rw [Bool.and_eq_true, decide_eq_true_eq] at h
  omega
theorem keyB_kind {x : List UInt8} {t : Tok} (h : keyB x t = true) : t.kind ≠ 0 := by
  unfold keyB at h
  rw [Bool.and_eq_true, decide_eq_true_eq] at h
  omega
/-- a line more -/
theorem fill_step {s : List UInt8} {p : PS} {f : Nat} {β : Type} {R : ReR β} {k : Unit → PS → ReR β} (hc : p.line = [] ∧ p.next < s.length) (h : R = bnd (fillN s (f + 1)) k p) :
    ((lineP s p.next).err = 0 → R = bnd (fillN s f) k ⟨(lineP s p.next).toks, (lineP s p.next).fin⟩) ∧ ((lineP s p.next).err ≠ 0 → R = .bad (lineP s p.next).place (lineP s p.next).err) := by
  refine ⟨fun he => ?_, fun he => ?_⟩
  · rw [h]; unfold bnd; rw [fillN, if_pos hc, if_pos he]
  · rw [h]; unfold bnd; rw [fillN, if_pos hc, if_neg he]
theorem fill_done {s : List UInt8} {p : PS} {f : Nat} {β : Type} {R : ReR β} {k : Unit → PS → ReR β} (hc : Filled s p) (h : R = bnd (fillN s f) k p) : R = k () p := by rw [h, bnd_ok (fill_stop hc)]
theorem mu_line {s : List UInt8} {p : PS} (hp : OkP s p) (hc : p.line = [] ∧ p.next < s.length) (he : (lineP s p.next).err = 0) :
    OkP s ⟨(lineP s p.next).toks, (lineP s p.next).fin⟩ ∧ muP s ⟨(lineP s p.next).toks, (lineP s p.next).fin⟩ ≤ muP s p ∧ s.length - (lineP s p.next).fin < s.length - p.next := by
  obtain ⟨h1, h2, h3, h4⟩ := line_fin hp.1 he
  have h5 := h3 hc.2
  refine ⟨OkP.line hp.1 he, ?_, by omega⟩
  unfold muP
  rw [hc.1]
  simp only [List.length_nil]
  omega
/-- the value of a reader handed on -/
def bndV {α β : Type} (r : ReR α) (f : α → PS → ReR β) : ReR β := match r with
  | .ok x q => f x q
  | .bad a e => .bad a e
theorem bnd_v {α β : Type} {m : PS → ReR α} {f : α → PS → ReR β} {p : PS} : bnd m f p = bndV (m p) f := rfl
theorem ask_of {s : List UInt8} {b : Tok → Bool} {p q : PS} {t : Tok} (h : nowP s p = .ok t q) : askP s b p = .ok (b t) q := by unfold askP; rw [bnd_ok h]
theorem ask_bad {s : List UInt8} {b : Tok → Bool} {p : PS} {a e : Nat} (h : nowP s p = .bad a e) : askP s b p = .bad a e := by unfold askP; rw [bnd_bad h]
theorem wordR_filled {s : List UInt8} {p : PS} (h : Filled s p) (hk : (headT s p).kind = 1) : wordR s p = .ok (headT s p).text (stepS p) := by
  unfold wordR
  rw [bnd_ok (now_filled h), if_pos hk]
theorem word_inj {s : List UInt8} {p q : PS} {x : List UInt8} (h : Filled s p) (hk : (headT s p).kind = 1) (he : wordR s p = .ok x q) : x = (headT s p).text ∧ q = stepS p := by
  rw [wordR_filled h hk] at he
  cases he
  exact ⟨rfl, rfl⟩
theorem comp_fill {s : List UInt8} {B : PS → ReR Nd} {p q : PS} {t : Tok} (h : nowP s p = .ok t q) (hf : Filled s q) (ht : t = headT s q) : compP s B p = compP s B q := by
  have h2 : nowP s q = .ok t q := by rw [now_filled hf, ht]
  unfold compP
  rw [bnd_v, bnd_v]
  unfold coreP
  rw [bnd_ok h, bnd_ok h2]
theorem comp_bad {s : List UInt8} {B : PS → ReR Nd} {p : PS} {a e : Nat} (h : nowP s p = .bad a e) : compP s B p = .bad a e := by
  unfold compP
  rw [bnd_v]
  unfold coreP
  rw [bnd_bad h]; rfl
theorem lvC_now (s : List UInt8) (n : Nat) : ∃ k, (lvC s n).1 = bnd (nowP s) k ∧ (n = 0 → k = fun t _ => .bad t.pos 52) ∧ (∀ m, n = m + 1 → k = fun t q => if opB [40] t || (decide (t.kind = 1) && amongB reservedS t.text) then (lvC s (m + 1)).2 q else simpP s (fnP (lvC s m).2) q) := by
  cases n with
  | zero => exact ⟨_, rfl, fun _ => rfl, fun m h => by cases h⟩
  | succ m => exact ⟨_, rfl, fun h => by (cases h), fun m' h => by cases h; rfl⟩
end Go.Tri

/-
  Lines as the kinds and texts of their tokens; the parser's small steps on a line at hand.
-/
namespace Go.Tri
open Go.RowKit
def keyT (t : Tok) : Nat × List UInt8 := (t.kind, t.text)
/-- a line's tokens, wherever it stands -/
def LexK (l : List UInt8) (ks : List (Nat × List UInt8)) (k : Nat) : Prop := ∀ f p, l.length < f → ∃ ts, lineL f p l = .ok ts k ∧ ts.map keyT = ks
theorem lk_end {l : List UInt8} {k : Nat} (h : tokP l = .stop k) : LexK l [] k := fun f p hf => by
  obtain ⟨g, rfl⟩ : ∃ g, f = g + 1 := ⟨f - 1, by omega⟩
  exact ⟨[], by rw [lineL, h], rfl⟩
theorem lk_nl {l : List UInt8} {off k : Nat} {text : List UInt8} (h : tokP l = .tok off k 3 text) : LexK l [(3, text)] k := fun f p hf => by
  obtain ⟨g, rfl⟩ : ∃ g, f = g + 1 := ⟨f - 1, by omega⟩
  exact ⟨_, by rw [lineL, h]; exact if_pos rfl, rfl⟩
theorem lk_tok {u r : List UInt8} {off kind m : Nat} {text : List UInt8} {ks : List (Nat × List UInt8)} (h : tokP (u ++ r) = .tok off u.length kind text) (h3 : kind ≠ 3) (h1 : 1 ≤ u.length) (hr : LexK r ks m) : LexK (u ++ r) ((kind, text) :: ks) (u.length + m) := fun f p hf => by
  obtain ⟨g, rfl⟩ : ∃ g, f = g + 1 := ⟨f - 1, by omega⟩
  rw [List.length_append] at hf
  obtain ⟨ts, h2, h4⟩ := hr g (p + u.length) (by omega)
  refine ⟨⟨kind, text, p + off, [], false⟩ :: ts, ?_, by rw [List.map_cons, h4]; rfl⟩
  rw [lineL, h]
  show (if kind = 3 then _ else _ : LnR) = _
  rw [if_neg h3, List.drop_left, h2]; rfl
theorem docsL_plain (s : List UInt8) : ∀ (ts : List Tok) (prev : Option Tok) (j : Nat), (∀ t ∈ ts, t.kind = 2 → stB t.text [60, 60] = false) → (∀ q, prev = some q → q.kind = 2 → stB q.text [60, 60] = false) → docsL s prev ts j = .ok ts j
  | [], _, _, _, _ => rfl
  | t :: r, prev, j, h, hp => by
    have hh : hereB prev t = false := by
      cases prev with
      | none => rfl
      | some q =>
        show (decide (t.kind = 1) && decide (q.kind = 2) && stB q.text [60, 60]) = false
        by_cases hk : q.kind = 2
        · rw [hp q rfl hk]; simp
        · simp [hk]
    rw [docsL, if_neg (by rw [hh]; simp), docsL_plain s r (some t) j (fun u hu => h u (List.mem_cons_of_mem _ hu)) (fun q hq => by cases hq; exact h t List.mem_cons_self)]
    rfl
theorem line_keys {s : List UInt8} {i k : Nat} {ks : List (Nat × List UInt8)} (hs : s.length ≤ 65536) (hi : i ≤ s.length) (h : LexK (s.drop i) ks k) (hd : ∀ x ∈ ks, x.1 = 2 → stB x.2 [60, 60] = false) : ∃ ts, lineP s i = ⟨ts, i + k, 0, 0⟩ ∧ ts.map keyT = ks := by
  obtain ⟨ts, h1, h2⟩ := h (s.length + 1) i (by rw [List.length_drop]; omega)
  refine ⟨ts, ?_, h2⟩
  unfold lineP
  rw [if_neg (by omega), if_neg (by omega)]
  show lineAt s i = _
  unfold lineAt
  rw [h1]
  show (match docsL s none ts (i + k) with
    | .bad a => (⟨[], 0, a, 54⟩ : LineV)
    | .ok ds j => ⟨ds, j, 0, 0⟩) = _
  rw [docsL_plain s ts none (i + k) (fun t ht => hd (keyT t) (by rw [← h2]; exact List.mem_map_of_mem ht)) (fun q hq => by cases hq)]
/-! the steps on a line at hand -/
variable {s : List UInt8}
theorem filled_c {t : Tok} {l : List Tok} {nx : Nat} : Filled s ⟨t :: l, nx⟩ := fun h => by cases h.1
theorem filled_e {nx : Nat} (h : s.length ≤ nx) : Filled s ⟨[], nx⟩ := fun h2 => by have := h2.2; dsimp only at this; omega
theorem now_c {α : Type} {k : Tok → PS → ReR α} {t : Tok} {l : List Tok} {nx : Nat} : bnd (nowP s) k ⟨t :: l, nx⟩ = k t ⟨t :: l, nx⟩ := bnd_ok (now_filled filled_c)
theorem now_e {α : Type} {k : Tok → PS → ReR α} {nx : Nat} (h : s.length ≤ nx) : bnd (nowP s) k ⟨[], nx⟩ = k (endT' s) ⟨[], nx⟩ := bnd_ok (now_filled (filled_e h))
/-- the next line is read -/
theorem now_l {α : Type} {k : Tok → PS → ReR α} {t : Tok} {l : List Tok} {i nx : Nat} (h : lineP s i = ⟨t :: l, nx, 0, 0⟩) (hi : i < s.length) : bnd (nowP s) k ⟨[], i⟩ = k t ⟨t :: l, nx⟩ := by
  refine bnd_ok ?_
  unfold nowP
  refine (bnd_ok (q := ⟨t :: l, nx⟩) (x := ()) ?_).trans rfl
  show fillN s (s.length - i + 1) ⟨[], i⟩ = _
  rw [fillN, if_pos ⟨rfl, hi⟩, h]
  show (if (0 : Nat) = 0 then _ else _ : ReR Unit) = _
  rw [if_pos rfl]
  exact fill_stop filled_c
theorem lines_c {α : Type} {k : Unit → PS → ReR α} {t : Tok} {l : List Tok} {nx : Nat} (h : t.kind ≠ 3) : bnd (linesP s) k ⟨t :: l, nx⟩ = k () ⟨t :: l, nx⟩ := by
  refine bnd_ok ?_
  rw [linesP, linesN, now_c, if_neg h]
theorem lines_e {α : Type} {k : Unit → PS → ReR α} {nx : Nat} (h : s.length ≤ nx) : bnd (linesP s) k ⟨[], nx⟩ = k () ⟨[], nx⟩ := by
  refine bnd_ok ?_
  rw [linesP, linesN, now_e h]
  exact if_neg (show ¬ (0 : Nat) = 3 by decide)
theorem lines_l {α : Type} {k : Unit → PS → ReR α} {t : Tok} {l : List Tok} {i nx : Nat} (h : lineP s i = ⟨t :: l, nx, 0, 0⟩) (hi : i < s.length) (h3 : t.kind ≠ 3) : bnd (linesP s) k ⟨[], i⟩ = k () ⟨t :: l, nx⟩ := by
  refine bnd_ok ?_
  rw [linesP, linesN, now_l h hi, if_neg h3]
/-- a newline at the line's end, and the next line -/
theorem lines_nl {α : Type} {k : Unit → PS → ReR α} {t u : Tok} {l : List Tok} {i nx : Nat} (h3 : t.kind = 3) (h : lineP s i = ⟨u :: l, nx, 0, 0⟩) (hi : i < s.length) (hu : u.kind ≠ 3) : bnd (linesP s) k ⟨[t], i⟩ = k () ⟨u :: l, nx⟩ := by
  refine bnd_ok ?_
  rw [linesP, linesN, now_c, if_pos h3]
  show linesN s (1 + (s.length - i)) ⟨[], i⟩ = _
  rw [Nat.add_comm, linesN, now_l h hi, if_neg hu]
/-- a text no command begins with otherwise than as a word -/
def plainW (w : List UInt8) : Prop := amongB reservedS w = false ∧ nameB w = false
/-- what ends a simple command's words -/
def StopS (s : List UInt8) (p : PS) : Prop := Filled s p ∧ redirB (headT s p) = false ∧ (headT s p).kind ≠ 1
theorem simp_words {F : List UInt8 → PS → ReR Nd} {nx : Nat} {rest : List Tok} (hst : StopS s ⟨rest, nx⟩) : ∀ (ts : List Tok) (f : Nat) (ws : List (List UInt8)), (∀ t ∈ ts, t.kind = 1 ∧ plainW t.text) → ts.length < f → (ws ≠ [] ∨ ts ≠ []) →
    simpN s F f ws [] ⟨ts ++ rest, nx⟩ = .ok (.mk 1 false false [] (ws ++ ts.map Tok.text) [] []) ⟨rest, nx⟩
  | [], f + 1, ws, _, _, hw => by
    have hw : ws ≠ [] := hw.resolve_right (by simp)
    rw [List.nil_append, simpN, bnd_ok (now_filled hst.1), if_neg (by rw [hst.2.1]; simp), if_neg hst.2.2, if_neg (fun h => hw h.1)]
    simp
  | t :: ts, f + 1, ws, h, hf, _ => by
    obtain ⟨h1, h2, h3⟩ := h t List.mem_cons_self
    have hr : redirB t = false := by unfold redirB; simp [h1]
    rw [List.cons_append, simpN, now_c, if_neg (by rw [hr]; simp), if_pos h1, if_neg (by rw [h2]; simp), if_neg (by rw [h3]; simp)]
    show simpN s F f (ws ++ [t.text]) [] ⟨ts ++ rest, nx⟩ = _
    rw [simp_words hst ts f (ws ++ [t.text]) (fun u hu => h u (List.mem_cons_of_mem _ hu)) (by simpa using hf) (.inl (by simp))]
    simp
theorem not_bang {t : Tok} (h : plainW t.text) : keyB [33] t = false := by
  unfold keyB
  rw [Bool.and_eq_false_iff]
  refine .inr (decide_eq_false fun e => ?_)
  have := h.1
  rw [e] at this
  exact absurd this (by decide +kernel)
theorem cmd_words {nx m : Nat} {rest ts : List Tok} (hst : StopS s ⟨rest, nx⟩) (h : ∀ t ∈ ts, t.kind = 1 ∧ plainW t.text) (h0 : ts ≠ []) : (lvC s (m + 1)).1 ⟨ts ++ rest, nx⟩ = .ok (.mk 1 false false [] (ts.map Tok.text) [] []) ⟨rest, nx⟩ := by
  obtain ⟨t, l, rfl⟩ := List.exists_cons_of_ne_nil h0
  obtain ⟨h1, h2, h3⟩ := h t List.mem_cons_self
  show cmdP s _ (simpP s _) ⟨t :: (l ++ rest), nx⟩ = _
  rw [cmdP, now_c, if_neg (by rw [h2]; unfold opB; simp [h1])]
  unfold simpP
  rw [show t :: (l ++ rest) = (t :: l) ++ rest from rfl, simp_words hst (t :: l) _ [] h (by unfold muP; simp only [List.length_append]; omega) (.inr h0), List.nil_append]
end Go.Tri

/-
  Quoted words are read as a simple command of just these words; several of them with | between as a pipeline.
-/
namespace Go.Tri
open Go.RowKit
def wordQ (t : List UInt8) : List UInt8 := [39, 120, 39] ++ quoteB t
def blockS (l : List (List UInt8)) : List UInt8 := l.flatMap fun t => wordQ t ++ [32]
def tailS (l : List (List UInt8)) : Nat → List UInt8
  | 0 => []
  | k + 1 => [124, 10] ++ blockS l ++ tailS l k
theorem wordQ_plain (t : List UInt8) : plainW (wordQ t) := by
  constructor
  · unfold amongB
    rw [Bool.and_eq_false_iff]
    refine .inr ?_
    have h : Lib.contains ([32] ++ reservedS ++ [32]) ([32, 39] ++ ([120, 39] ++ quoteB t ++ [32])) = false := by
      cases hc : Lib.contains ([32] ++ reservedS ++ [32]) ([32, 39] ++ ([120, 39] ++ quoteB t ++ [32])) with
      | false => rfl
      | true =>
        have := contains_app _ hc
        exact absurd this (by decide +kernel)
    have e : ([32] ++ wordQ t ++ [32] : List UInt8) = [32, 39] ++ ([120, 39] ++ quoteB t ++ [32]) := by simp [wordQ]
    rw [e, h]
  · refine nameB_false (i := 0) (by simp [wordQ]) ?_
    show okN (39 :: ([120, 39] ++ quoteB t)) 0 = false
    rfl
theorem tokP_wq (t r : List UInt8) (h : (wordQ t).length ≤ 4096) : tokP (wordQ t ++ 32 :: r) = .tok 0 (wordQ t).length 1 (wordQ t) := by
  have hw : wordP (wordQ t ++ 32 :: r) = .ok (wordQ t).length := by
    have e : wordQ t ++ 32 :: r = 39 :: ([120] ++ 39 :: (quoteB t ++ 32 :: r)) := by simp [wordQ]
    rw [e, word_single (by decide), word_quote, word_stop (l := 32 :: r) (show hasB specials 32 = true by decide)]
    show SR.ok _ = _
    congr 1
    simp only [wordQ, List.length_append, List.length_cons, List.length_nil]; omega
  have hcons : wordQ t ++ 32 :: r = 39 :: ([120, 39] ++ quoteB t ++ 32 :: r) := by simp [wordQ]
  have hh := head_word (c := 39) (.inr rfl) ([120, 39] ++ quoteB t ++ 32 :: r)
  rw [hcons, tokP_head (by simp) hh.1, hh.2, ← hcons]
  unfold restP
  rw [hw]
  show (if 4096 < (wordQ t).length then _ else _ : TR) = _
  rw [if_neg (by omega)]
  have hnum : numberB (wordQ t ++ 32 :: r) (wordQ t).length = false := by
    unfold numberB
    rw [List.drop_left]
    show (_ && (stB (32 :: r) [60] || stB (32 :: r) [62])) = false
    rw [stB_one, stB_one]; simp
  rw [hnum, List.take_left]; rfl
theorem tokP_bar (r : List UInt8) : tokP (124 :: 10 :: r) = .tok 0 1 2 [124] := by
  have hb : blankN (124 :: 10 :: r) = 0 := by
    unfold blankN
    rw [show stB (124 :: 10 :: r) [92, 10] = false from by unfold stB; rw [decide_eq_false]; intro e; cases e]
    rfl
  have ho : opP (124 :: 10 :: r) = [124] := by
    unfold opP
    have h3 : opAt (124 :: 10 :: r) 3 = false := by
      unfold opAt
      rw [op_nl (t := (124 :: 10 :: r).take 3) (by simp)]; simp
    have h2 : opAt (124 :: 10 :: r) 2 = false := by
      unfold opAt
      rw [op_nl (t := (124 :: 10 :: r).take 2) (by simp)]; simp
    have h1 : opAt (124 :: 10 :: r) 1 = true := by
      unfold opAt
      rw [show (124 :: 10 :: r).take 1 = [124] from rfl, show isOp [124] = true by decide +kernel]; rfl
    rw [opN, if_neg (by rw [h3]; simp), opN, if_neg (by rw [h2]; simp), opN, if_pos h1]; rfl
  rw [tokP_head (by simp) hb]
  unfold headP
  rw [if_neg (show ¬ nth (124 :: 10 :: r) 0 0 = 10 by show ¬ (124 : UInt8) = 10; decide), ho, if_pos (by simp)]; rfl
theorem tokP_nl (r : List UInt8) : tokP (10 :: r) = .tok 0 1 3 [10] := by
  have hb : blankN (10 :: r) = 0 := by
    unfold blankN
    rw [show stB (10 :: r) [92, 10] = false from by unfold stB; rw [decide_eq_false]; intro e; cases e]
    rfl
  rw [tokP_head (by simp) hb]
  unfold headP
  exact if_pos rfl
def keyW (t : List UInt8) : Nat × List UInt8 := (1, wordQ t)
theorem lexK_block : ∀ (l : List (List UInt8)) (pre : List UInt8) (tail : List UInt8) (ks : List (Nat × List UInt8)) (k : Nat), (pre = [] ∨ pre = [32]) → (∀ t ∈ l, (wordQ t).length ≤ 4096) → (∀ pre, (pre = [] ∨ pre = [32]) → LexK (pre ++ tail) ks (pre.length + k)) →
    LexK (pre ++ (blockS l ++ tail)) (l.map keyW ++ ks) (pre.length + ((blockS l).length + k))
  | [], pre, tail, ks, k, hp, _, ht => by
    have := ht pre hp
    simpa [blockS] using this
  | t :: l, pre, tail, ks, k, hp, hq, ht => by
    have e0 : blockS (t :: l) ++ tail = wordQ t ++ 32 :: (blockS l ++ tail) := by
      unfold blockS
      rw [List.flatMap_cons]
      simp
    have hqt := hq t List.mem_cons_self
    have h1 : tokP ((pre ++ wordQ t) ++ ([32] ++ (blockS l ++ tail))) = .tok pre.length (pre ++ wordQ t).length 1 (wordQ t) := by
      rcases hp with rfl | rfl
      · exact tokP_wq t _ hqt
      · show tokP (32 :: (wordQ t ++ 32 :: (blockS l ++ tail))) = _
        rw [tokP_ws (.inl rfl), tokP_wq t _ hqt]
        show TR.tok (1 + 0) (1 + (wordQ t).length) 1 _ = _
        congr 1
        simp only [List.length_append, List.length_cons, List.length_nil]
    have h2 := lexK_block l [32] tail ks k (.inr rfl) (fun u hu => hq u (List.mem_cons_of_mem _ hu)) ht
    have h3 := lk_tok h1 (by decide) (by rw [List.length_append]; simp only [wordQ, List.length_append, List.length_cons]; omega) h2
    have e1 : pre ++ (blockS (t :: l) ++ tail) = (pre ++ wordQ t) ++ ([32] ++ (blockS l ++ tail)) := by rw [e0]; simp
    have e2 : pre.length + ((blockS (t :: l)).length + k) = (pre ++ wordQ t).length + ([32].length + ((blockS l).length + k)) := by
      have : (blockS (t :: l)).length = (wordQ t).length + 1 + (blockS l).length := by
        unfold blockS
        rw [List.flatMap_cons]
        simp only [List.length_append, List.length_cons, List.length_nil]
      rw [this]
      simp only [List.length_append, List.length_cons, List.length_nil]; omega
    rw [e1, e2]
    exact h3
theorem lexK_last (l : List (List UInt8)) (hq : ∀ t ∈ l, (wordQ t).length ≤ 4096) : LexK (blockS l) (l.map keyW) (blockS l).length := by
  have := lexK_block l [] [] [] 0 (.inl rfl) hq (fun pre hp => by
    rcases hp with rfl | rfl
    · exact lk_end rfl
    · exact lk_end (by show tokP (32 :: []) = _; rw [tokP_ws (.inl rfl)]; rfl))
  simpa using this
theorem lexK_bar (l : List (List UInt8)) (r : List UInt8) (hq : ∀ t ∈ l, (wordQ t).length ≤ 4096) : LexK (blockS l ++ 124 :: 10 :: r) (l.map keyW ++ [(2, [124]), (3, [10])]) ((blockS l).length + 2) := by
  have := lexK_block l [] (124 :: 10 :: r) [(2, [124]), (3, [10])] 2 (.inl rfl) hq (fun pre hp => by
    have hn : LexK (10 :: r) [(3, [10])] 1 := lk_nl (tokP_nl r)
    rcases hp with rfl | rfl
    · exact lk_tok (u := [124]) (r := 10 :: r) (tokP_bar r) (by decide) (by decide) hn
    · refine lk_tok (u := [32, 124]) (r := 10 :: r) (off := 1) (show tokP (32 :: 124 :: 10 :: r) = _ from ?_) (by decide) (by decide) hn
      rw [tokP_ws (.inl rfl), tokP_bar]; rfl)
  simpa using this
section
variable {s : List UInt8}
/-- the lines that follow: each a bar, a newline and a block of words -/
inductive Chain (s : List UInt8) : Nat → PS → List (List Tok) → Prop
  | last {nx : Nat} : nx = s.length → Chain s 0 ⟨[], nx⟩ []
  | more {k nx nx' : Nat} {a b : Tok} {ts tail : List Tok} {bs : List (List Tok)} : a.kind = 2 → a.text = [124] → b.kind = 3 → lineP s nx = ⟨ts ++ tail, nx', 0, 0⟩ → nx < nx' → nx' ≤ s.length → (∀ t ∈ ts, t.kind = 1 ∧ plainW t.text) → ts ≠ [] →
      Chain s k ⟨tail, nx'⟩ bs → Chain s (k + 1) ⟨[a, b], nx⟩ (ts :: bs)
theorem chain_stop {k : Nat} {p : PS} {bs : List (List Tok)} (h : Chain s k p bs) : StopS s p := by
  cases h with
  | last h => exact ⟨filled_e (by omega), rfl, show ¬ (0 : Nat) = 1 by decide⟩
  | more h1 h2 h3 h4 h5 h6 h7 h8 h9 =>
    rename_i a b ts tail bs
    refine ⟨filled_c, ?_, ?_⟩
    · show redirB a = false
      unfold redirB
      rw [h1, h2]
      decide +kernel
    · show ¬ a.kind = 1
      rw [h1]; decide
theorem chain_len {k : Nat} {p : PS} {bs : List (List Tok)} (h : Chain s k p bs) : bs.length ≤ s.length - p.next := by
  induction h with
  | last h => simp
  | more h1 h2 h3 h4 h5 h6 h7 h8 h9 ih =>
    rw [List.length_cons]
    dsimp only at ih ⊢
    omega
def simpW (ts : List Tok) : Nd := .mk 1 false false [] (ts.map Tok.text) [] []
theorem pipe_chain {m k : Nat} {p : PS} {bs : List (List Tok)} (h : Chain s k p bs) : ∀ (f : Nat) (l : List Nd), bs.length < f → pipeN s (lvC s (m + 1)).1 f l p = .ok (l ++ bs.map simpW) ⟨[], s.length⟩ := by
  induction h with
  | last h =>
    intro f l hf
    obtain ⟨g, rfl⟩ : ∃ g, f = g + 1 := ⟨f - 1, by omega⟩
    subst h
    rw [pipeN, now_e (Nat.le_refl _), if_neg (by unfold opB endT'; simp)]
    simp
  | more h1 h2 h3 h4 h5 h6 h7 h8 h9 ih =>
    rename_i k nx nx' a b ts tail bs
    intro f l hf
    obtain ⟨g, rfl⟩ : ∃ g, f = g + 1 := ⟨f - 1, by omega⟩
    rw [pipeN, now_c, if_pos (by unfold opB; simp [h1, h2])]
    obtain ⟨t, r, rfl⟩ := List.exists_cons_of_ne_nil h8
    have ht := (h7 t List.mem_cons_self).1
    show bnd (linesP s) _ ⟨[b], nx⟩ = _
    rw [lines_nl h3 h4 (by omega) (by omega)]
    show bnd (lvC s (m + 1)).1 _ ⟨(t :: r) ++ tail, nx'⟩ = _
    rw [bnd_ok (cmd_words (chain_stop h9) h7 h8), ih g _ (by simp at hf; omega)]
    simp [simpW]
theorem first_chain {k nx : Nat} {ts tail : List Tok} {bs : List (List Tok)} (hs : s.length ≤ 65536) (h1 : lineP s 0 = ⟨ts ++ tail, nx, 0, 0⟩) (h2 : 0 < s.length) (h3 : ∀ t ∈ ts, t.kind = 1 ∧ plainW t.text) (h4 : ts ≠ []) (hc : Chain s k ⟨tail, nx⟩ bs) :
    firstP' s 0 = ⟨pipeR false (simpW ts :: bs.map simpW), true, s.length, 0, 0⟩ := by
  obtain ⟨t, r, rfl⟩ := List.exists_cons_of_ne_nil h4
  obtain ⟨ht, hp⟩ := h3 t List.mem_cons_self
  have hcmd := cmd_words (m := 24) (chain_stop hc) h3 h4
  have hpipe : pipeP s (lvC s 25).1 ⟨(t :: r) ++ tail, nx⟩ = .ok (pipeR false (simpW (t :: r) :: bs.map simpW)) ⟨[], s.length⟩ := by
    unfold pipeP
    have hb := not_bang hp
    rw [show (t :: r) ++ tail = t :: (r ++ tail) from rfl, now_c, hb]
    show bnd (lvC s 25).1 _ ⟨(t :: r) ++ tail, nx⟩ = _
    rw [bnd_ok hcmd]
    have := pipe_chain (m := 24) hc (muP s ⟨tail, nx⟩ + 1) [simpW (t :: r)] (by have := chain_len hc; unfold muP; dsimp only at this ⊢; omega)
    exact bnd_ok this
  have hand : levP s 25 ⟨(t :: r) ++ tail, nx⟩ = .ok (pipeR false (simpW (t :: r) :: bs.map simpW)) ⟨[], s.length⟩ := by
    unfold levP andorP
    rw [bnd_ok hpipe, andorN, now_e (Nat.le_refl _), if_neg (by unfold opB endT'; simp)]
  have hitem : itemP s (levP s 25) ⟨(t :: r) ++ tail, nx⟩ = .ok (pipeR false (simpW (t :: r) :: bs.map simpW), false) ⟨[], s.length⟩ := by
    unfold itemP
    rw [bnd_ok hand, now_e (Nat.le_refl _), if_neg (by unfold opB endT'; simp), if_neg (by unfold opB endT'; simp)]
  have hsev : severalP [pipeR false (simpW (t :: r) :: bs.map simpW)] = pipeR false (simpW (t :: r) :: bs.map simpW) := by
    unfold severalP
    refine if_neg ?_
    cases bs with
    | nil => show ¬ (1 : Nat) = 6; decide
    | cons b bs => show ¬ (2 : Nat) = 6; decide
  unfold firstP'
  rw [if_neg (by omega), if_neg (by omega)]
  have : completeP s ⟨[], (0 : Int).toNat⟩ = .ok (some (pipeR false (simpW (t :: r) :: bs.map simpW))) ⟨[], s.length⟩ := by
    unfold completeP
    show bnd (linesP s) _ ⟨[], 0⟩ = _
    rw [lines_l (by exact h1) h2 (by omega), now_c, if_neg (by omega), compN]
    show bnd (itemP s (levP s 25)) _ ⟨(t :: r) ++ tail, nx⟩ = _
    rw [bnd_ok hitem, if_neg (by simp)]
    show ReR.ok (some (severalP [_])) _ = _
    rw [hsev]
  rw [this]
end
theorem drop_len {a b : List UInt8} {n : Nat} (h : a.length = n) : (a ++ b).drop n = b := by rw [← h, List.drop_left]
/-- words of a block among a line's tokens -/
theorem keys_split {l : List (List UInt8)} {ks : List (Nat × List UInt8)} : ∀ {ts : List Tok}, ts.map keyT = l.map keyW ++ ks → ∃ a b, ts = a ++ b ∧ b.map keyT = ks ∧ a.map Tok.text = l.map wordQ ∧ (∀ t ∈ a, t.kind = 1 ∧ plainW t.text) ∧ (l ≠ [] → a ≠ []) := by
  induction l with
  | nil => intro ts h; exact ⟨[], ts, rfl, h, rfl, fun _ h => (by cases h), fun h => (h rfl).elim⟩
  | cons x l ih =>
    intro ts h
    cases ts with
    | nil => cases h
    | cons t ts =>
      rw [List.map_cons, List.map_cons, List.cons_append] at h
      injection h with h1 h2
      obtain ⟨a, b, rfl, h3, h4, h5, -⟩ := ih h2
      have hk : t.kind = 1 := congrArg Prod.fst h1
      have hx : t.text = wordQ x := congrArg Prod.snd h1
      refine ⟨t :: a, b, rfl, h3, by rw [List.map_cons, h4, hx]; rfl, fun u hu => ?_, fun _ => by simp⟩
      rcases List.mem_cons.1 hu with rfl | hu
      · exact ⟨hk, by rw [hx]; exact wordQ_plain x⟩
      · exact h5 u hu
theorem key_two {b : List Tok} (h : b.map keyT = [(2, [124]), (3, [10])]) : ∃ x y, b = [x, y] ∧ x.kind = 2 ∧ x.text = [124] ∧ y.kind = 3 := by
  obtain ⟨x, r, rfl, h1, h2⟩ := List.map_eq_cons_iff.1 h
  obtain ⟨y, r, rfl, h3, h4⟩ := List.map_eq_cons_iff.1 h2
  obtain rfl := List.map_eq_nil_iff.1 h4
  exact ⟨x, y, rfl, congrArg Prod.fst h1, congrArg Prod.snd h1, congrArg Prod.fst h3⟩
theorem block_pos {l : List (List UInt8)} (h : l ≠ []) : 0 < (blockS l).length := by
  obtain ⟨t, r, rfl⟩ := List.exists_cons_of_ne_nil h
  unfold blockS
  rw [List.flatMap_cons, List.length_append, List.length_append, List.length_singleton]
  omega
theorem chain_of {s : List UInt8} {l : List (List UInt8)} (hs : s.length ≤ 65536) (h0 : l ≠ []) (hq : ∀ t ∈ l, (wordQ t).length ≤ 4096) : ∀ (k : Nat) (pre : List UInt8), s = pre ++ (blockS l ++ tailS l k) →
    ∃ ts tail nx bs, lineP s pre.length = ⟨ts ++ tail, nx, 0, 0⟩ ∧ pre.length < nx ∧ nx ≤ s.length ∧ (∀ t ∈ ts, t.kind = 1 ∧ plainW t.text) ∧ ts ≠ [] ∧ ts.map Tok.text = l.map wordQ ∧ Chain s k ⟨tail, nx⟩ bs ∧ bs.map simpW = List.replicate k (.mk 1 false false [] (l.map wordQ) [] [])
  | 0, pre, he => by
    have hb := block_pos h0
    have hl : LexK (s.drop pre.length) (l.map keyW ++ []) (blockS l).length := by
      rw [he, drop_len rfl]
      unfold tailS
      rw [List.append_nil, List.append_nil]
      exact lexK_last l hq
    have hsl : s.length = pre.length + (blockS l).length := by rw [he]; simp [tailS]
    obtain ⟨ts, h1, h2⟩ := line_keys hs (by omega) hl (fun x hx h => by
      rw [List.append_nil] at hx
      obtain ⟨t, -, rfl⟩ := List.mem_map.1 hx
      cases h)
    obtain ⟨a, b, rfl, h3, h4, h5, h6⟩ := keys_split h2
    obtain rfl : b = [] := by cases b with
      | nil => rfl
      | cons _ _ => cases h3
    exact ⟨a, [], _, [], h1, by omega, by omega, h5, h6 h0, h4, .last (by omega), rfl⟩
  | k + 1, pre, he => by
    have hb := block_pos h0
    have he2 : s = (pre ++ blockS l ++ [124, 10]) ++ (blockS l ++ tailS l k) := by rw [he]; simp [tailS]
    have hl : LexK (s.drop pre.length) (l.map keyW ++ [(2, [124]), (3, [10])]) ((blockS l).length + 2) := by
      rw [he, drop_len rfl]
      show LexK (blockS l ++ ([124, 10] ++ blockS l ++ tailS l k)) _ _
      rw [List.append_assoc]
      exact lexK_bar l _ hq
    have hsl : s.length = pre.length + (blockS l).length + 2 + (blockS l ++ tailS l k).length := by rw [he2]; simp only [List.length_append, List.length_cons, List.length_nil]
    obtain ⟨ts, h1, h2⟩ := line_keys hs (by omega) hl (fun x hx h => by
      rcases List.mem_append.1 hx with hx | hx
      · obtain ⟨t, -, rfl⟩ := List.mem_map.1 hx
        cases h
      · rcases List.mem_cons.1 hx with rfl | hx
        · decide
        · rcases List.mem_cons.1 hx with rfl | hx
          · cases h
          · cases hx)
    obtain ⟨a, b, rfl, h3, h4, h5, h6⟩ := keys_split h2
    obtain ⟨x, y, rfl, hx1, hx2, hy⟩ := key_two h3
    obtain ⟨ts', tail, nx', bs, g1, g2, g3, g4, g5, g6, g7, g8⟩ := chain_of hs h0 hq k (pre ++ blockS l ++ [124, 10]) he2
    have hlen : (pre ++ blockS l ++ [124, 10]).length = pre.length + ((blockS l).length + 2) := by simp [Nat.add_assoc]
    rw [hlen] at g1 g2
    refine ⟨a, [x, y], _, ts' :: bs, h1, by omega, by omega, h5, h6 h0, h4, .more hx1 hx2 hy g1 g2 g3 g4 g5 g7, ?_⟩
    rw [List.map_cons, g8, List.replicate_succ]
    unfold simpW
    rw [g6]
theorem first_words {l : List (List UInt8)} {k : Nat} (hs : (blockS l ++ tailS l k).length ≤ 65536) (h0 : l ≠ []) (hq : ∀ t ∈ l, (wordQ t).length ≤ 4096) :
    firstP' (blockS l ++ tailS l k) 0 = ⟨pipeR false (List.replicate (k + 1) (.mk 1 false false [] (l.map wordQ) [] [])), true, (blockS l ++ tailS l k).length, 0, 0⟩ := by
  obtain ⟨ts, tail, nx, bs, g1, g2, g3, g4, g5, g6, g7, g8⟩ := chain_of hs h0 hq k [] rfl
  have := first_chain hs g1 (by have := block_pos h0; rw [List.length_append]; omega) g4 g5 g7
  rw [this, g8, List.replicate_succ]
  unfold simpW
  rw [g6]
end Go.Tri

/-
  Commands within one another are read up to the depth 24, and refused beyond.
-/
namespace Go.Tri
open Go.RowKit
def openS : Nat → List UInt8
  | 0 => [40]
  | 1 => [123, 32]
  | 2 => [105, 102, 32]
  | 3 => [119, 104, 105, 108, 101, 32, 97, 59, 32, 100, 111, 32]
  | _ => [102, 40, 41, 32, 123, 32]
def closeS : Nat → List UInt8
  | 0 => [41]
  | 1 => [59, 32, 125]
  | 2 => [59, 32, 116, 104, 101, 110, 32, 97, 59, 32, 102, 105]
  | 3 => [59, 32, 100, 111, 110, 101]
  | _ => [59, 32, 125]
def deepS (k : Nat) : Nat → List UInt8
  | 0 => [97]
  | n + 1 => openS k ++ deepS k n ++ closeS k
abbrev Key := Nat × List UInt8
def openK : Nat → List Key
  | 0 => [(2, [40])]
  | 1 => [(1, [123])]
  | 2 => [(1, [105, 102])]
  | 3 => [(1, [119, 104, 105, 108, 101]), (1, [97]), (2, [59]), (1, [100, 111])]
  | _ => [(1, [102]), (2, [40]), (2, [41]), (1, [123])]
def closeK : Nat → List Key
  | 0 => [(2, [41])]
  | 1 => [(2, [59]), (1, [125])]
  | 2 => [(2, [59]), (1, [116, 104, 101, 110]), (1, [97]), (2, [59]), (1, [102, 105])]
  | 3 => [(2, [59]), (1, [100, 111, 110, 101])]
  | _ => [(2, [59]), (1, [125])]
def deepK (k : Nat) : Nat → List Key
  | 0 => [(1, [97])]
  | n + 1 => openK k ++ deepK k n ++ closeK k
/-! lexing -/
def easyW (w : List UInt8) : Bool := w.all easyB && !decide (w = []) && !decide (nth w 0 0 = 35)
theorem tokP_w (w : List UInt8) (hw : easyW w = true) (hl : w.length ≤ 4096) (r : List UInt8) (hr : r = [] ∨ (hasB specials (nth r 0 0) = true ∧ nth r 0 0 ≠ 60 ∧ nth r 0 0 ≠ 62)) : tokP (w ++ r) = .tok 0 w.length 1 w := by
  unfold easyW at hw
  rw [Bool.and_eq_true, Bool.and_eq_true, Bool.not_eq_true', Bool.not_eq_true', decide_eq_false_iff_not, decide_eq_false_iff_not] at hw
  obtain ⟨⟨hw1, hw2⟩, hw3⟩ := hw
  obtain ⟨c, q, rfl⟩ := List.exists_cons_of_ne_nil hw2
  have hx := word_easy (c :: q) r hw1
  have hstop : wordP r = .ok 0 := by
    rcases hr with rfl | hr
    · rfl
    · exact word_stop hr.1
  rw [hstop] at hx
  have hce : easyB c = true := List.all_eq_true.1 hw1 c List.mem_cons_self
  have key : ∀ c : UInt8, easyB c = true → c ≠ 92 ∧ c ≠ 32 ∧ c ≠ 9 ∧ c ≠ 10 ∧ hasB opFirst c = false := u8_all (by decide +kernel)
  obtain ⟨k1, k2, k3, k5, k6⟩ := key c hce
  have k4 : c ≠ 35 := hw3
  have hcons : (c :: q) ++ r = c :: (q ++ r) := rfl
  have h1 : stB (c :: (q ++ r)) [92, 10] = false := by
    unfold stB
    rw [decide_eq_false]
    intro e
    have := congrArg (fun l => nth l 0 0) e
    exact k1 (by simpa [nth] using this)
  have hb : blankN (c :: (q ++ r)) = 0 := by
    unfold blankN
    rw [h1, if_neg (by simp)]
    show (if (decide (c = 32) || decide (c = 9)) = true then 1 else if c = 35 then _ else 0) = 0
    rw [decide_eq_false k2, decide_eq_false k3, if_neg (by simp), if_neg k4]
  have hh : headP (c :: (q ++ r)) = restP (c :: (q ++ r)) := by
    unfold headP
    rw [if_neg (show ¬ nth (c :: (q ++ r)) 0 0 = 10 from k5), opP_no (show hasB opFirst (nth (c :: (q ++ r)) 0 0) = false from k6), if_neg (by simp)]
  rw [hcons, tokP_head (by simp) hb, hh, ← hcons]
  unfold restP
  rw [hx]
  show (if 4096 < (c :: q).length + 0 then _ else _ : TR) = _
  rw [Nat.add_zero, if_neg (by omega)]
  have hnum : numberB ((c :: q) ++ r) (c :: q).length = false := by
    unfold numberB
    rw [List.drop_left]
    rcases hr with rfl | ⟨-, h1, h2⟩
    · rw [stB_nil (by simp), stB_nil (by simp)]; simp
    · cases r with
      | nil => rw [stB_nil (by simp), stB_nil (by simp)]; simp
      | cons d r =>
        rw [stB_one, stB_one, decide_eq_false (show ¬ d = 60 from h1), decide_eq_false (show ¬ d = 62 from h2)]; simp
  rw [hnum, List.take_left]; rfl
theorem op_alone {c : UInt8} (hc : ∀ d, Lib.contains opsS [32, c, d] = true → d = 32) (ho : isOp [c] = true) (r : List UInt8) : opP (c :: r) = [c] := by
  have key : ∀ (d : UInt8) (t : List UInt8), isOp (c :: d :: t) = false := fun d t => by
    unfold isOp
    rw [Bool.and_eq_false_iff]
    by_cases hd : d = 32
    · right
      subst hd
      simp [hasB]
    · left
      cases h : Lib.contains opsS ([32] ++ (c :: d :: t) ++ [32]) with
      | false => rfl
      | true =>
        exact absurd (hc d (contains_app (a := [32, c, d]) (b := t ++ [32]) _ (by simpa using h))) hd
  have h3 : opAt (c :: r) 3 = false := by
    unfold opAt
    cases r with
    | nil => rfl
    | cons d r =>
      cases r with
      | nil => rfl
      | cons e r => rw [show (c :: d :: e :: r).take 3 = c :: d :: [e] from rfl, key]; simp
  have h2 : opAt (c :: r) 2 = false := by
    unfold opAt
    cases r with
    | nil => rfl
    | cons d r => rw [show (c :: d :: r).take 2 = c :: d :: [] from rfl, key]; simp
  have h1 : opAt (c :: r) 1 = true := by
    unfold opAt
    rw [show (c :: r).take 1 = [c] from rfl, ho]; rfl
  unfold opP
  rw [opN, if_neg (by rw [h3]; simp), opN, if_neg (by rw [h2]; simp), opN, if_pos h1]; rfl
theorem op_semi (r : List UInt8) : opP (59 :: 32 :: r) = [59] := by
  have key : ∀ (t : List UInt8), isOp (59 :: 32 :: t) = false := fun t => by
    unfold isOp
    rw [Bool.and_eq_false_iff]
    right
    simp [hasB]
  have h3 : opAt (59 :: 32 :: r) 3 = false := by
    unfold opAt
    cases r with
    | nil => rfl
    | cons e r => rw [show (59 :: 32 :: e :: r).take 3 = 59 :: 32 :: [e] from rfl, key]; simp
  have h2 : opAt (59 :: 32 :: r) 2 = false := by
    unfold opAt
    rw [show (59 :: 32 :: r).take 2 = 59 :: 32 :: [] from rfl, key]; simp
  have h1 : opAt (59 :: 32 :: r) 1 = true := by
    unfold opAt
    rw [show (59 :: 32 :: r).take 1 = [59] from rfl, show isOp [59] = true by decide +kernel]; rfl
  unfold opP
  rw [opN, if_neg (by rw [h3]; simp), opN, if_neg (by rw [h2]; simp), opN, if_pos h1]; rfl
theorem tokP_op {c : UInt8} {r : List UInt8} (h : opP (c :: r) = [c]) (hc : c ≠ 92 ∧ c ≠ 32 ∧ c ≠ 9 ∧ c ≠ 35 ∧ c ≠ 10) : tokP (c :: r) = .tok 0 1 2 [c] := by
  have h1 : stB (c :: r) [92, 10] = false := by
    unfold stB
    rw [decide_eq_false]
    intro e
    have := congrArg (fun l => nth l 0 0) e
    exact hc.1 (by simpa [nth] using this)
  have hb : blankN (c :: r) = 0 := by
    unfold blankN
    rw [h1, if_neg (by simp)]
    show (if (decide (c = 32) || decide (c = 9)) = true then 1 else if c = 35 then _ else 0) = 0
    rw [decide_eq_false hc.2.1, decide_eq_false hc.2.2.1, if_neg (by simp), if_neg hc.2.2.2.1]
  rw [tokP_head (by simp) hb]
  unfold headP
  rw [if_neg (show ¬ nth (c :: r) 0 0 = 10 from hc.2.2.2.2), h, if_pos (by simp)]; rfl
theorem tokP_lpar (r : List UInt8) : tokP (40 :: r) = .tok 0 1 2 [40] := tokP_op (op_alone (u8_all (by decide +kernel)) (by decide +kernel) r) (by decide)
theorem tokP_rpar (r : List UInt8) : tokP (41 :: r) = .tok 0 1 2 [41] := tokP_op (op_alone (u8_all (by decide +kernel)) (by decide +kernel) r) (by decide)
theorem tokP_semi (r : List UInt8) : tokP (59 :: 32 :: r) = .tok 0 1 2 [59] := tokP_op (op_semi r) (by decide)
/-- a word, a blank behind it -/
theorem lk_w {w r : List UInt8} {ks : List Key} {m : Nat} (hw : easyW w = true) (h0 : 1 ≤ w.length ∧ w.length ≤ 4096) (hr : r = [] ∨ (hasB specials (nth r 0 0) = true ∧ nth r 0 0 ≠ 60 ∧ nth r 0 0 ≠ 62)) (h : LexK r ks m) : LexK (w ++ r) ((1, w) :: ks) (w.length + m) :=
  lk_tok (tokP_w w hw h0.2 r hr) (by decide) h0.1 h
theorem lk_sp {r : List UInt8} {ks : List Key} {m : Nat} (h : LexK r ks m) (hr : r ≠ []) : LexK (32 :: r) ks (1 + m) := fun f p hf => by
  obtain ⟨g, rfl⟩ : ∃ g, f = g + 1 := ⟨f - 1, by omega⟩
  obtain ⟨ts, h1, h2⟩ := h (g + 1) (p + 1) (by simp at hf; omega)
  refine ⟨ts, ?_, h2⟩
  rw [lineL] at h1 ⊢
  rw [tokP_ws (.inl rfl)]
  cases ht : tokP r with
  | stop k =>
    rw [ht] at h1
    injection h1 with h1 h3
    subst h1; subst h3; rfl
  | bad a e => rw [ht] at h1; cases h1
  | tok off k kind text =>
    rw [ht] at h1
    show (if kind = 3 then _ else _ : LnR) = _
    have e1 : p + 1 + off = p + (1 + off) := by omega
    have e2 : p + 1 + k = p + (1 + k) := by omega
    by_cases h3 : kind = 3
    · rw [if_pos h3]
      have h1 : (if kind = 3 then _ else _ : LnR) = _ := h1
      rw [if_pos h3] at h1
      injection h1 with h5 h4
      subst h4
      rw [← h5, e1]
    · rw [if_neg h3]
      have h1 : (if kind = 3 then _ else _ : LnR) = _ := h1
      rw [if_neg h3, e1, e2] at h1
      have hd : (32 :: r).drop (1 + k) = r.drop k := by rw [Nat.add_comm]; rfl
      rw [hd]
      cases hl : lineL g (p + (1 + k)) (r.drop k) with
      | bad a e => rw [hl] at h1; cases h1
      | ok ts' j =>
        rw [hl] at h1
        have h1 : LnR.ok _ (k + j) = _ := h1
        injection h1 with h1 h4
        show LnR.ok _ (1 + k + j) = _
        rw [h1, ← h4, Nat.add_assoc]
theorem lk_op {c : UInt8} {r : List UInt8} {ks : List Key} {m : Nat} (h : tokP (c :: r) = .tok 0 1 2 [c]) (hr : LexK r ks m) : LexK (c :: r) ((2, [c]) :: ks) (1 + m) := lk_tok (u := [c]) h (by decide) (Nat.le_refl 1) hr
/-- what may follow a command -/
def EndH (r : List UInt8) : Prop := r = [] ∨ nth r 0 0 = 41 ∨ nth r 0 0 = 59
theorem EndH.sp {r : List UInt8} (h : EndH r) : r = [] ∨ (hasB specials (nth r 0 0) = true ∧ nth r 0 0 ≠ 60 ∧ nth r 0 0 ≠ 62) := by
  rcases h with h | h | h
  · exact .inl h
  · rw [h]; exact .inr (by decide)
  · rw [h]; exact .inr (by decide)
theorem spc (r : List UInt8) : (32 :: r) = [] ∨ (hasB specials (nth (32 :: r) 0 0) = true ∧ nth (32 :: r) 0 0 ≠ 60 ∧ nth (32 :: r) 0 0 ≠ 62) := .inr (by show hasB specials 32 = true ∧ (32 : UInt8) ≠ 60 ∧ (32 : UInt8) ≠ 62; decide)
theorem smc (r : List UInt8) : (59 :: r) = [] ∨ (hasB specials (nth (59 :: r) 0 0) = true ∧ nth (59 :: r) 0 0 ≠ 60 ∧ nth (59 :: r) 0 0 ≠ 62) := .inr (by show hasB specials 59 = true ∧ (59 : UInt8) ≠ 60 ∧ (59 : UInt8) ≠ 62; decide)
def LexE (l : List UInt8) (ks : List Key) : Prop := LexK l ks l.length
theorem le_w {w r : List UInt8} {ks : List Key} (hw : easyW w = true) (h0 : 1 ≤ w.length ∧ w.length ≤ 4096) (hr : r = [] ∨ (hasB specials (nth r 0 0) = true ∧ nth r 0 0 ≠ 60 ∧ nth r 0 0 ≠ 62)) (h : LexE r ks) : LexE (w ++ r) ((1, w) :: ks) := by
  unfold LexE; rw [List.length_append]; exact lk_w hw h0 hr h
theorem le_sp {r : List UInt8} {ks : List Key} (h : LexE r ks) (hr : r ≠ []) : LexE (32 :: r) ks := by
  unfold LexE; rw [List.length_cons, Nat.add_comm]; exact lk_sp h hr
theorem le_op {c : UInt8} {r : List UInt8} {ks : List Key} (h : tokP (c :: r) = .tok 0 1 2 [c]) (hr : LexE r ks) : LexE (c :: r) ((2, [c]) :: ks) := by
  unfold LexE; rw [List.length_cons, Nat.add_comm]; exact lk_op h hr
theorem le_close {r : List UInt8} {ks : List Key} (k : Nat) (hr : EndH r) (h : LexE r ks) : LexE (closeS k ++ r) (closeK k ++ ks) ∧ EndH (closeS k ++ r) := by
  match k with
  | 0 => exact ⟨le_op (tokP_rpar r) h, .inr (.inl rfl)⟩
  | 1 => exact ⟨le_op (tokP_semi _) (le_sp (le_w (w := [125]) (by decide +kernel) (by decide) hr.sp h) (by simp)), .inr (.inr rfl)⟩
  | 2 =>
    have h1 := le_w (w := [102, 105]) (by decide +kernel) (by decide) hr.sp h
    have h2 := le_w (w := [97]) (by decide +kernel) (by decide) (smc _) (le_op (tokP_semi _) (le_sp h1 (by simp)))
    have h3 := le_w (w := [116, 104, 101, 110]) (by decide +kernel) (by decide) (spc _) (le_sp h2 (by simp))
    exact ⟨le_op (tokP_semi _) (le_sp h3 (by simp)), .inr (.inr rfl)⟩
  | 3 => exact ⟨le_op (tokP_semi _) (le_sp (le_w (w := [100, 111, 110, 101]) (by decide +kernel) (by decide) hr.sp h) (by simp)), .inr (.inr rfl)⟩
  | k + 4 => exact ⟨le_op (tokP_semi _) (le_sp (le_w (w := [125]) (by decide +kernel) (by decide) hr.sp h) (by simp)), .inr (.inr rfl)⟩
theorem lpc (r : List UInt8) : (40 :: r) = [] ∨ (hasB specials (nth (40 :: r) 0 0) = true ∧ nth (40 :: r) 0 0 ≠ 60 ∧ nth (40 :: r) 0 0 ≠ 62) := .inr (by show hasB specials 40 = true ∧ (40 : UInt8) ≠ 60 ∧ (40 : UInt8) ≠ 62; decide)
theorem le_open {r : List UInt8} {ks : List Key} (k : Nat) (hr : r ≠ []) (h : LexE r ks) : LexE (openS k ++ r) (openK k ++ ks) := by
  have hb := le_w (w := [123]) (by decide +kernel) (by decide) (spc r) (le_sp h hr)
  match k with
  | 0 => exact le_op (tokP_lpar r) h
  | 1 => exact hb
  | 2 => exact le_w (w := [105, 102]) (by decide +kernel) (by decide) (spc r) (le_sp h hr)
  | 3 =>
    have h1 := le_w (w := [100, 111]) (by decide +kernel) (by decide) (spc r) (le_sp h hr)
    have h2 := le_w (w := [97]) (by decide +kernel) (by decide) (smc _) (le_op (tokP_semi _) (le_sp h1 (by simp)))
    exact le_w (w := [119, 104, 105, 108, 101]) (by decide +kernel) (by decide) (spc _) (le_sp h2 (by simp))
  | k + 4 => exact le_w (w := [102]) (by decide +kernel) (by decide) (lpc _) (le_op (tokP_lpar _) (le_op (tokP_rpar _) (le_sp hb (by simp))))
theorem deep_ne (k n : Nat) (r : List UInt8) : deepS k n ++ r ≠ [] := by
  cases n with
  | zero => simp [deepS]
  | succ n =>
    unfold deepS
    match k with
    | 0 => simp [openS]
    | 1 => simp [openS]
    | 2 => simp [openS]
    | 3 => simp [openS]
    | k + 4 => simp [openS]
theorem le_deep (k : Nat) : ∀ (n : Nat) (r : List UInt8) (ks : List Key), EndH r → LexE r ks → LexE (deepS k n ++ r) (deepK k n ++ ks)
  | 0, r, ks, hr, h => le_w (w := [97]) (by decide +kernel) (by decide) hr.sp h
  | n + 1, r, ks, hr, h => by
    obtain ⟨h1, h2⟩ := le_close k hr h
    have h3 := le_open k (deep_ne k n _) (le_deep k n _ _ h2 h1)
    have e1 : deepS k (n + 1) ++ r = openS k ++ (deepS k n ++ (closeS k ++ r)) := by rw [deepS]; simp only [List.append_assoc]
    have e2 : deepK k (n + 1) ++ ks = openK k ++ (deepK k n ++ (closeK k ++ ks)) := by rw [deepK]; simp only [List.append_assoc]
    rw [e1, e2]; exact h3
theorem no_docs (k : Nat) : ∀ n, ∀ x ∈ deepK k n, x.1 = 2 → stB x.2 [60, 60] = false
  | 0, x, h, h2 => by
    obtain rfl := List.mem_singleton.1 h
    cases h2
  | n + 1, x, h, h2 => by
    rw [deepK, List.mem_append, List.mem_append] at h
    rcases h with (h | h) | h
    · revert h2; revert x
      match k with
      | 0 => decide
      | 1 => decide
      | 2 => decide
      | 3 => decide
      | k + 4 => show ∀ x ∈ openK 4, _; decide
    · exact no_docs k n x h h2
    · revert h2; revert x
      match k with
      | 0 => decide
      | 1 => decide
      | 2 => decide
      | 3 => decide
      | k + 4 => show ∀ x ∈ closeK 4, _; decide
theorem deep_line (k n : Nat) (hs : (deepS k n).length ≤ 65536) : ∃ ts, lineP (deepS k n) 0 = ⟨ts, (deepS k n).length, 0, 0⟩ ∧ ts.map keyT = deepK k n := by
  have h := le_deep k n [] [] (.inl rfl) (lk_end rfl)
  rw [List.append_nil, List.append_nil] at h
  have := line_keys (i := 0) hs (Nat.zero_le _) h (no_docs k n)
  simpa using this
end Go.Tri

/-
  Commands within one another: how a line of them is read.
-/
namespace Go.Tri
open Go.RowKit
def opK (x : List UInt8) (c : Key) : Bool := decide (c.1 = 2) && decide (c.2 = x)
def keyK (x : List UInt8) (c : Key) : Bool := decide (c.1 = 1) && decide (c.2 = x)
def redirK (c : Key) : Bool := decide (c.1 = 4) || (decide (c.1 = 2) && amongB redirectS c.2)
def beginK (c : Key) : Bool := (decide (c.1 = 1) && !amongB closersS c.2) || opK [40] c || redirK c
section
variable {t : Tok} {c : Key}
theorem ev_op (x : List UInt8) (h : keyT t = c) : opB x t = opK x c := by subst h; rfl
theorem ev_key (x : List UInt8) (h : keyT t = c) : keyB x t = keyK x c := by subst h; rfl
theorem ev_redir (h : keyT t = c) : redirB t = redirK c := by subst h; rfl
theorem ev_begin (h : keyT t = c) : beginB t = beginK c := by subst h; rfl
theorem ev_kind (h : keyT t = c) : t.kind = c.1 := by subst h; rfl
theorem ev_text (h : keyT t = c) : t.text = c.2 := by subst h; rfl
end
variable {s : List UInt8}
theorem step_c {α : Type} {k : Tok → PS → ReR α} {t : Tok} {l : List Tok} {nx : Nat} : bnd (stepP s) k ⟨t :: l, nx⟩ = k t ⟨l, nx⟩ := bnd_ok (step_filled filled_c)
theorem need_c {α : Type} {k : Unit → PS → ReR α} {b : Tok → Bool} {t : Tok} {l : List Tok} {nx : Nat} (h : b t = true) : bnd (needP s b) k ⟨t :: l, nx⟩ = k () ⟨l, nx⟩ := by
  refine bnd_ok ?_
  rw [needP, now_c, if_pos h]; rfl
def endKs : List Key := [(0, []), (2, [41]), (2, [59])]
/-- what may follow a command -/
def Rst (s : List UInt8) (p : PS) : Prop := Filled s p ∧ keyT (headT s p) ∈ endKs
theorem rst_not {p : PS} (h : Rst s p) {f : Key → Bool} (hf : endKs.all (fun c => !f c) = true) : f (keyT (headT s p)) = false := by
  have := List.all_eq_true.1 hf _ h.2
  simpa using this
theorem rst_c {t : Tok} {l : List Tok} {nx : Nat} (h : keyT t = (2, [41]) ∨ keyT t = (2, [59])) : Rst s ⟨t :: l, nx⟩ := by
  refine ⟨filled_c, ?_⟩
  show keyT t ∈ endKs
  rcases h with h | h <;> rw [h] <;> decide
theorem rst_e {nx : Nat} (h : s.length ≤ nx) : Rst s ⟨[], nx⟩ := ⟨filled_e h, by show keyT (endT' s) ∈ endKs; exact List.mem_cons_self⟩
theorem lev_ok {m : Nat} {p q : PS} {nd : Nd} (hp : Filled s p) (hb : keyB [33] (headT s p) = false) (h : (lvC s m).1 p = .ok nd q) (hq : Rst s q) : levP s m p = .ok nd q := by
  have h1 : pipeP s (lvC s m).1 p = .ok nd q := by
    unfold pipeP
    rw [bnd_ok (now_filled hp), if_neg (by rw [hb]; simp), bnd_ok h]
    rw [bnd_v, pipeN, bnd_ok (now_filled hq.1), if_neg (by rw [show opB [124] (headT s q) = false from rst_not (f := opK [124]) hq (by decide)]; simp), hb]; rfl
  unfold levP andorP
  rw [bnd_ok h1, andorN, bnd_ok (now_filled hq.1), if_neg]
  rw [show opB [38, 38] (headT s q) = false from rst_not (f := opK [38, 38]) hq (by decide), show opB [124, 124] (headT s q) = false from rst_not (f := opK [124, 124]) hq (by decide)]; simp
theorem lev_bad {m : Nat} {p : PS} {a e : Nat} (hp : Filled s p) (hb : keyB [33] (headT s p) = false) (h : (lvC s m).1 p = .bad a e) : levP s m p = .bad a e := by
  have h1 : pipeP s (lvC s m).1 p = .bad a e := by
    unfold pipeP
    rw [bnd_ok (now_filled hp), if_neg (by rw [hb]; simp), bnd_bad h]
  unfold levP andorP
  rw [bnd_bad h1]
theorem lev_zero {t : Tok} {l : List Tok} {nx : Nat} (hb : keyB [33] t = false) : levP s 0 ⟨t :: l, nx⟩ = .bad t.pos 52 := by
  refine lev_bad filled_c hb ?_
  show nestP s ⟨t :: l, nx⟩ = _
  rw [nestP, now_c]
/-- a body before a closing sign -/
theorem body_par {m : Nat} {t c : Tok} {l rest : List Tok} {nx : Nat} {nd : Nd} (ht : t.kind ≠ 3) (hc : keyT c = (2, [41])) (h : levP s m ⟨t :: l, nx⟩ = .ok nd ⟨c :: rest, nx⟩) : bodyP s (levP s m) ⟨t :: l, nx⟩ = .ok (severalP [nd]) ⟨c :: rest, nx⟩ := by
  have hi : itemP s (levP s m) ⟨t :: l, nx⟩ = .ok (nd, false) ⟨c :: rest, nx⟩ := by
    rw [itemP, bnd_ok h, now_c, if_neg (by rw [ev_op _ hc]; decide), if_neg (by rw [ev_op _ hc]; decide)]
  have hk : c.kind = 2 := ev_kind hc
  rw [bodyP, lines_c ht, bodyN, bnd_ok hi, if_neg (by simp), bnd_ok (ask_filled _ filled_c)]
  show bnd (linesP s) _ ⟨c :: rest, nx⟩ = _
  rw [lines_c (by omega), if_neg (by show ¬ decide (c.kind = 3) = true; rw [hk]; decide)]; rfl
theorem body_semi {m : Nat} {t c u : Tok} {l rest : List Tok} {nx : Nat} {nd : Nd} (ht : t.kind ≠ 3) (hc : keyT c = (2, [59])) (hu : beginB u = false) (hu3 : u.kind ≠ 3) (h : levP s m ⟨t :: l, nx⟩ = .ok nd ⟨c :: u :: rest, nx⟩) : bodyP s (levP s m) ⟨t :: l, nx⟩ = .ok (severalP [nd]) ⟨u :: rest, nx⟩ := by
  have hi : itemP s (levP s m) ⟨t :: l, nx⟩ = .ok (nd, true) ⟨u :: rest, nx⟩ := by
    rw [itemP, bnd_ok h, now_c, if_neg (by rw [ev_op _ hc]; decide), if_pos (by rw [ev_op _ hc]; decide)]; rfl
  rw [bodyP, lines_c ht, bodyN, bnd_ok hi, if_pos rfl]
  show bnd (linesP s) _ ⟨u :: rest, nx⟩ = _
  rw [lines_c hu3, if_pos rfl, now_c, if_neg (by rw [hu]; simp)]; rfl
theorem body_bad {m : Nat} {t : Tok} {l : List Tok} {nx a e : Nat} (ht : t.kind ≠ 3) (h : levP s m ⟨t :: l, nx⟩ = .bad a e) : bodyP s (levP s m) ⟨t :: l, nx⟩ = .bad a e := by
  have hi : itemP s (levP s m) ⟨t :: l, nx⟩ = .bad a e := by rw [itemP, bnd_bad h]
  rw [bodyP, lines_c ht, bodyN, bnd_bad hi]
theorem comp_ok {B : PS → ReR Nd} {p q : PS} {nd : Nd} (h : coreP s B p = .ok nd q) (hq : Rst s q) : compP s B p = .ok (withR nd []) q := by
  have hr : redirsR s q = .ok [] q := by
    rw [redirsR, manyP, manyN, bnd_ok (now_filled hq.1), if_neg]
    rw [show redirB (headT s q) = false from rst_not (f := redirK) hq (by decide +kernel)]; simp
  rw [compP, bnd_ok h, bnd_ok hr]
theorem comp_nok {B : PS → ReR Nd} {p : PS} {a e : Nat} (h : coreP s B p = .bad a e) : compP s B p = .bad a e := by
  rw [compP, bnd_bad h]
/-- a command that is a compound one -/
theorem cmd_comp {m nx : Nat} {t : Tok} {l : List Tok} (h : (opB [40] t || (decide (t.kind = 1) && amongB reservedS t.text)) = true) : (lvC s (m + 1)).1 ⟨t :: l, nx⟩ = compP s (bodyP s (levP s m)) ⟨t :: l, nx⟩ := by
  show cmdP s (compP s (bodyP s (levP s m))) _ ⟨t :: l, nx⟩ = _
  rw [cmdP, now_c, if_pos h]
theorem cmd_simp {m nx : Nat} {t : Tok} {l : List Tok} (h : (opB [40] t || (decide (t.kind = 1) && amongB reservedS t.text)) = false) : (lvC s (m + 1)).1 ⟨t :: l, nx⟩ = simpP s (fnP (lvC s m).2) ⟨t :: l, nx⟩ := by
  show cmdP s _ (simpP s (fnP (lvC s m).2)) ⟨t :: l, nx⟩ = _
  rw [cmdP, now_c, if_neg (by rw [h]; simp)]
/-- the command a -/
theorem lev_a {m nx : Nat} {t : Tok} {rest : List Tok} (ht : keyT t = (1, [97])) (hr : Rst s ⟨rest, nx⟩) : ∃ nd, levP s (m + 1) ⟨t :: rest, nx⟩ = .ok nd ⟨rest, nx⟩ := by
  have hk : t.kind = 1 := ev_kind ht
  have hx : t.text = [97] := ev_text ht
  have h1 : redirB t = false := by rw [ev_redir ht]; decide
  refine ⟨_, lev_ok filled_c (by show keyB [33] t = false; rw [ev_key _ ht]; decide) (q := ⟨rest, nx⟩) (nd := .mk 1 false false [] [[97]] [] []) ?_ hr⟩
  rw [cmd_simp (by rw [ev_op _ ht, hk, hx]; decide +kernel), simpP, show muP s ⟨t :: rest, nx⟩ + 1 = (rest.length + (s.length - nx)) + 1 + 1 from by unfold muP; simp only [List.length_cons]; omega]
  rw [simpN, now_c, if_neg (by rw [h1]; simp), if_pos hk, if_neg (by rw [hx]; decide +kernel), if_pos (by rw [hx]; decide +kernel)]
  show bnd (nowP s) _ ⟨rest, nx⟩ = _
  rw [bnd_ok (now_filled hr.1), if_neg (by rw [show opB [40] (headT s ⟨rest, nx⟩) = false from rst_not (f := opK [40]) hr (by decide)]; simp)]
  rw [simpN, bnd_ok (now_filled hr.1), if_neg (by rw [show redirB (headT s ⟨rest, nx⟩) = false from rst_not (f := redirK) hr (by decide +kernel)]; simp)]
  rw [if_neg (fun h => by
    have := rst_not (f := fun c => decide (c.1 = 1)) hr (by decide)
    exact absurd h (of_decide_eq_false this)), if_neg (by simp), hx]
theorem deep_head {k n : Nat} {ts : List Tok} (h : ts.map keyT = deepK k n) : ∃ t r, ts = t :: r ∧ t.kind ≠ 3 ∧ keyB [33] t = false := by
  have key : ∃ c l, deepK k n = c :: l ∧ c.1 ≠ 3 ∧ keyK [33] c = false := by
    cases n with
    | zero => exact ⟨_, _, rfl, by decide, by decide⟩
    | succ n =>
      match k with
      | 0 => exact ⟨_, _, rfl, by decide, by decide⟩
      | 1 => exact ⟨_, _, rfl, by decide, by decide⟩
      | 2 => exact ⟨_, _, rfl, by decide, by decide⟩
      | 3 => exact ⟨_, _, rfl, by decide, by decide⟩
      | k + 4 => exact ⟨_, _, rfl, by decide, by decide⟩
  obtain ⟨c, l, e, h1, h2⟩ := key
  rw [e] at h
  obtain ⟨t, r, rfl, h3, -⟩ := List.map_eq_cons_iff.1 h
  exact ⟨t, r, rfl, by rw [ev_kind h3]; exact h1, by rw [ev_key _ h3]; exact h2⟩
/-- one level: what stands within is read, or refused -/
def LevR (s : List UInt8) (m : Nat) (ts rest : List Tok) (nx : Nat) (ok : Bool) : Prop := if ok then ∃ nd, levP s m ⟨ts ++ rest, nx⟩ = .ok nd ⟨rest, nx⟩ else ∃ a, levP s m ⟨ts ++ rest, nx⟩ = .bad a 52
theorem lev_comp {m nx : Nat} {t : Tok} {l : List Tok} {q : PS} {nd : Nd} (hb : keyB [33] t = false) (h : (opB [40] t || (decide (t.kind = 1) && amongB reservedS t.text)) = true) (hc : coreP s (bodyP s (levP s m)) ⟨t :: l, nx⟩ = .ok nd q) (hq : Rst s q) : ∃ nd, levP s (m + 1) ⟨t :: l, nx⟩ = .ok nd q :=
  ⟨_, lev_ok filled_c hb (by rw [cmd_comp h]; exact comp_ok hc hq) hq⟩
theorem lev_compB {m nx a : Nat} {t : Tok} {l : List Tok} (hb : keyB [33] t = false) (h : (opB [40] t || (decide (t.kind = 1) && amongB reservedS t.text)) = true) (hc : coreP s (bodyP s (levP s m)) ⟨t :: l, nx⟩ = .bad a 52) : ∃ a, levP s (m + 1) ⟨t :: l, nx⟩ = .bad a 52 :=
  ⟨_, lev_bad filled_c hb (by rw [cmd_comp h]; exact comp_nok hc)⟩
/-- so many levels are asked -/
def lvls (k n : Nat) : Nat := if 4 ≤ k then 2 * n else n
theorem lev0 {k n nx : Nat} {ts rest : List Tok} (h : ts.map keyT = deepK k n) : ∃ a, levP s 0 ⟨ts ++ rest, nx⟩ = .bad a 52 := by
  obtain ⟨t, r, rfl, -, hb⟩ := deep_head h
  exact ⟨_, lev_zero hb⟩
/-- a group of commands between braces, read as a compound command -/
theorem core_brace {m nx : Nat} {t c u : Tok} {i rest : List Tok} {k n : Nat} (ht : keyT t = (1, [123])) (hi : i.map keyT = deepK k n) (hc : keyT c = (2, [59])) (hu : keyT u = (1, [125])) :
    (∀ nd, levP s m ⟨i ++ (c :: u :: rest), nx⟩ = .ok nd ⟨c :: u :: rest, nx⟩ → ∃ nd, coreP s (bodyP s (levP s m)) ⟨t :: (i ++ (c :: u :: rest)), nx⟩ = .ok nd ⟨rest, nx⟩) ∧
    (∀ a, levP s m ⟨i ++ (c :: u :: rest), nx⟩ = .bad a 52 → coreP s (bodyP s (levP s m)) ⟨t :: (i ++ (c :: u :: rest)), nx⟩ = .bad a 52) := by
  obtain ⟨v, r, rfl, h3, hb⟩ := deep_head hi
  constructor
  · intro nd h
    have h1 := body_semi (rest := rest) h3 hc (by rw [ev_begin hu]; decide +kernel) (by rw [ev_kind hu]; decide) h
    refine ⟨ndK 8 [severalP [nd]], ?_⟩
    rw [coreP, now_c, if_neg (by rw [ev_op _ ht]; decide), if_pos (by rw [ev_key _ ht]; decide)]
    refine (bnd_ok h1).trans ?_
    rw [need_c (by rw [ev_key _ hu]; decide)]
  · intro a h
    have h1 := body_bad h3 h
    rw [coreP, now_c, if_neg (by rw [ev_op _ ht]; decide), if_pos (by rw [ev_key _ ht]; decide)]
    exact bnd_bad h1
end Go.Tri

/-
  Commands within one another are read up to the depth 24, and refused beyond: by the kind of what holds them.
-/
namespace Go.Tri
open Go.RowKit
variable {s : List UInt8}
theorem keys1 {o : List Tok} {a : Key} (h : o.map keyT = [a]) : ∃ t, o = [t] ∧ keyT t = a := by
  match o, h with
  | [t], h => exact ⟨t, rfl, (List.cons.inj h).1⟩
theorem keys2 {o : List Tok} {a b : Key} (h : o.map keyT = [a, b]) : ∃ t u, o = [t, u] ∧ keyT t = a ∧ keyT u = b := by
  match o, h with
  | [t, u], h =>
    obtain ⟨h1, h2⟩ := List.cons.inj h
    exact ⟨t, u, rfl, h1, (List.cons.inj h2).1⟩
theorem keys4 {o : List Tok} {a b c d : Key} (h : o.map keyT = [a, b, c, d]) : ∃ t u v x, o = [t, u, v, x] ∧ keyT t = a ∧ keyT u = b ∧ keyT v = c ∧ keyT x = d := by
  match o, h with
  | [t, u, v, x], h =>
    obtain ⟨h1, h2⟩ := List.cons.inj h
    obtain ⟨h2, h3⟩ := List.cons.inj h2
    obtain ⟨h3, h4⟩ := List.cons.inj h3
    exact ⟨t, u, v, x, rfl, h1, h2, h3, (List.cons.inj h4).1⟩
theorem keys5 {o : List Tok} {a b c d e : Key} (h : o.map keyT = [a, b, c, d, e]) : ∃ t u v x y, o = [t, u, v, x, y] ∧ keyT t = a ∧ keyT u = b ∧ keyT v = c ∧ keyT x = d ∧ keyT y = e := by
  match o, h with
  | [t, u, v, x, y], h =>
    obtain ⟨h1, h2⟩ := List.cons.inj h
    obtain ⟨h2, h3⟩ := List.cons.inj h2
    obtain ⟨h3, h4⟩ := List.cons.inj h3
    obtain ⟨h4, h5⟩ := List.cons.inj h4
    exact ⟨t, u, v, x, y, rfl, h1, h2, h3, h4, (List.cons.inj h5).1⟩
theorem deep_split {k n : Nat} {ts : List Tok} (h : ts.map keyT = deepK k (n + 1)) : ∃ o i c, ts = o ++ i ++ c ∧ o.map keyT = openK k ∧ i.map keyT = deepK k n ∧ c.map keyT = closeK k := by
  rw [deepK] at h
  obtain ⟨x, z, rfl, hx, hz⟩ := List.map_eq_append_iff.1 h
  obtain ⟨o, i, rfl, ho, hi⟩ := List.map_eq_append_iff.1 hx
  exact ⟨o, i, z, rfl, ho, hi, hz⟩
/-- read up to so many levels, refused beyond -/
def Deep (s : List UInt8) (k q : Nat) : Prop := ∀ (n m : Nat) (ts rest : List Tok) (nx : Nat), ts.map keyT = deepK k n → Rst s ⟨rest, nx⟩ →
  (q * n < m → ∃ nd, levP s m ⟨ts ++ rest, nx⟩ = .ok nd ⟨rest, nx⟩) ∧ (m ≤ q * n → ∃ a, levP s m ⟨ts ++ rest, nx⟩ = .bad a 52)
theorem deep_base {k m : Nat} {ts rest : List Tok} {nx q : Nat} (h : ts.map keyT = deepK k 0) (hr : Rst s ⟨rest, nx⟩) :
    (q * 0 < m → ∃ nd, levP s m ⟨ts ++ rest, nx⟩ = .ok nd ⟨rest, nx⟩) ∧ (m ≤ q * 0 → ∃ a, levP s m ⟨ts ++ rest, nx⟩ = .bad a 52) := by
  obtain ⟨t, rfl, ht⟩ := keys1 h
  constructor
  · intro hm
    obtain ⟨m, rfl⟩ : ∃ m', m = m' + 1 := ⟨m - 1, by omega⟩
    exact lev_a ht hr
  · intro hm
    obtain rfl : m = 0 := by omega
    exact lev0 h
theorem deep0 : Deep s 0 1 := by
  intro n
  induction n with
  | zero => intro m ts rest nx h hr; exact deep_base h hr
  | succ n ih =>
    intro m ts rest nx h hr
    cases m with
    | zero => exact ⟨fun h => absurd h (by omega), fun _ => lev0 h⟩
    | succ m =>
      obtain ⟨o, i, c, rfl, ho, hi, hcl⟩ := deep_split h
      obtain ⟨t, rfl, ht⟩ := keys1 ho
      obtain ⟨c, rfl, hc⟩ := keys1 hcl
      obtain ⟨v, r, rfl, h3, hb⟩ := deep_head hi
      have e : [t] ++ (v :: r) ++ [c] ++ rest = t :: ((v :: r) ++ (c :: rest)) := by simp
      rw [e]
      obtain ⟨i1, i2⟩ := ih m (v :: r) (c :: rest) nx hi (rst_c (.inl hc))
      have hbt : keyB [33] t = false := by rw [ev_key _ ht]; decide
      have hct : (opB [40] t || (decide (t.kind = 1) && amongB reservedS t.text)) = true := by rw [ev_op _ ht]; rfl
      have hcore : coreP s (bodyP s (levP s m)) ⟨t :: ((v :: r) ++ (c :: rest)), nx⟩ = bnd (bodyP s (levP s m)) (fun b q => bnd (needP s (opB [41])) (fun _ q => .ok (ndK 7 [b]) q) q) ⟨(v :: r) ++ (c :: rest), nx⟩ := by
        rw [coreP, now_c, if_pos (by rw [ev_op _ ht]; decide)]; rfl
      constructor
      · intro hm
        obtain ⟨nd, h1⟩ := i1 (by omega)
        refine lev_comp (nd := ndK 7 [severalP [nd]]) hbt hct ?_ hr
        rw [hcore]
        refine (bnd_ok (body_par h3 hc h1)).trans ?_
        rw [need_c (by rw [ev_op _ hc]; decide)]
      · intro hm
        obtain ⟨a, h1⟩ := i2 (by omega)
        refine lev_compB hbt hct (a := a) ?_
        rw [hcore]
        exact bnd_bad (body_bad h3 h1)
theorem deep1 : Deep s 1 1 := by
  intro n
  induction n with
  | zero => intro m ts rest nx h hr; exact deep_base h hr
  | succ n ih =>
    intro m ts rest nx h hr
    cases m with
    | zero => exact ⟨fun h => absurd h (by omega), fun _ => lev0 h⟩
    | succ m =>
      obtain ⟨o, i, c, rfl, ho, hi, hcl⟩ := deep_split h
      obtain ⟨t, rfl, ht⟩ := keys1 ho
      obtain ⟨c, u, rfl, hc, hu⟩ := keys2 hcl
      have e : [t] ++ i ++ [c, u] ++ rest = t :: (i ++ (c :: u :: rest)) := by simp
      rw [e]
      obtain ⟨i1, i2⟩ := ih m i (c :: u :: rest) nx hi (rst_c (.inr hc))
      have hbt : keyB [33] t = false := by rw [ev_key _ ht]; decide
      have hct : (opB [40] t || (decide (t.kind = 1) && amongB reservedS t.text)) = true := by rw [ev_op _ ht, ev_kind ht, ev_text ht]; decide +kernel
      have hg := core_brace (s := s) (m := m) (nx := nx) (rest := rest) ht hi hc hu
      constructor
      · intro hm
        obtain ⟨nd, h1⟩ := i1 (by omega)
        obtain ⟨nd, h2⟩ := hg.1 nd h1
        exact lev_comp hbt hct h2 hr
      · intro hm
        obtain ⟨a, h1⟩ := i2 (by omega)
        exact lev_compB hbt hct (hg.2 a h1)
theorem deep2 : Deep s 2 1 := by
  intro n
  induction n with
  | zero => intro m ts rest nx h hr; exact deep_base h hr
  | succ n ih =>
    intro m ts rest nx h hr
    cases m with
    | zero => exact ⟨fun h => absurd h (by omega), fun _ => lev0 h⟩
    | succ m =>
      obtain ⟨o, i, c, rfl, ho, hi, hcl⟩ := deep_split h
      obtain ⟨t, rfl, ht⟩ := keys1 ho
      obtain ⟨c, u, x, d, y, rfl, hc, hu, hx, hd, hy⟩ := keys5 hcl
      obtain ⟨v, r, rfl, h3, hb⟩ := deep_head hi
      have e : [t] ++ (v :: r) ++ [c, u, x, d, y] ++ rest = t :: ((v :: r) ++ (c :: u :: x :: d :: y :: rest)) := by simp
      rw [e]
      obtain ⟨i1, i2⟩ := ih m (v :: r) (c :: u :: x :: d :: y :: rest) nx hi (rst_c (.inr hc))
      have hbt : keyB [33] t = false := by rw [ev_key _ ht]; decide
      have hct : (opB [40] t || (decide (t.kind = 1) && amongB reservedS t.text)) = true := by rw [ev_op _ ht, ev_kind ht, ev_text ht]; decide +kernel
      have hcore : coreP s (bodyP s (levP s m)) ⟨t :: ((v :: r) ++ (c :: u :: x :: d :: y :: rest)), nx⟩ = ifP s (bodyP s (levP s m)) ⟨t :: ((v :: r) ++ (c :: u :: x :: d :: y :: rest)), nx⟩ := by
        rw [coreP, now_c, if_neg (by rw [ev_op _ ht]; decide), if_neg (by rw [ev_key _ ht]; decide), if_pos (by rw [ev_key _ ht]; decide)]
      constructor
      · intro hm
        obtain ⟨nd, h1⟩ := i1 (by omega)
        obtain ⟨m, rfl⟩ : ∃ m', m = m' + 1 := ⟨m - 1, by omega⟩
        obtain ⟨nd2, h2⟩ := lev_a (s := s) (m := m) (nx := nx) (rest := d :: y :: rest) hx (rst_c (.inr hd))
        have b1 := body_semi (rest := x :: d :: y :: rest) h3 hc (by rw [ev_begin hu]; decide +kernel) (by rw [ev_kind hu]; decide) h1
        have b2 := body_semi (rest := rest) (by rw [ev_kind hx]; decide) hd (by rw [ev_begin hy]; decide +kernel) (by rw [ev_kind hy]; decide) h2
        refine lev_comp (nd := ndK 9 [severalP [nd], severalP [nd2]]) hbt hct ?_ hr
        rw [hcore, ifP]
        have hif : ifN s (bodyP s (levP s (m + 1))) (muP s ⟨t :: ((v :: r) ++ (c :: u :: x :: d :: y :: rest)), nx⟩ + 1) [] ⟨t :: ((v :: r) ++ (c :: u :: x :: d :: y :: rest)), nx⟩ = .ok [severalP [nd], severalP [nd2]] ⟨y :: rest, nx⟩ := by
          rw [ifN, step_c]
          refine (bnd_ok b1).trans ?_
          rw [need_c (by rw [ev_key _ hu]; decide)]
          refine (bnd_ok b2).trans ?_
          rw [now_c, if_neg (by rw [ev_key _ hy]; decide)]; rfl
        rw [bnd_ok hif, ifK, now_c, if_neg (by rw [ev_key _ hy]; decide), need_c (by rw [ev_key _ hy]; decide)]
      · intro hm
        obtain ⟨a, h1⟩ := i2 (by omega)
        refine lev_compB hbt hct (a := a) ?_
        rw [hcore, ifP]
        have hif : ifN s (bodyP s (levP s m)) (muP s ⟨t :: ((v :: r) ++ (c :: u :: x :: d :: y :: rest)), nx⟩ + 1) [] ⟨t :: ((v :: r) ++ (c :: u :: x :: d :: y :: rest)), nx⟩ = .bad a 52 := by
          rw [ifN, step_c]
          exact bnd_bad (body_bad h3 h1)
        rw [bnd_bad hif]
theorem deep3 : Deep s 3 1 := by
  intro n
  induction n with
  | zero => intro m ts rest nx h hr; exact deep_base h hr
  | succ n ih =>
    intro m ts rest nx h hr
    cases m with
    | zero => exact ⟨fun h => absurd h (by omega), fun _ => lev0 h⟩
    | succ m =>
      obtain ⟨o, i, c, rfl, ho, hi, hcl⟩ := deep_split h
      obtain ⟨t, x, d, w, rfl, ht, hx, hd, hw⟩ := keys4 ho
      obtain ⟨c, u, rfl, hc, hu⟩ := keys2 hcl
      obtain ⟨v, r, rfl, h3, hb⟩ := deep_head hi
      have e : [t, x, d, w] ++ (v :: r) ++ [c, u] ++ rest = t :: x :: d :: w :: ((v :: r) ++ (c :: u :: rest)) := by simp
      rw [e]
      obtain ⟨i1, i2⟩ := ih m (v :: r) (c :: u :: rest) nx hi (rst_c (.inr hc))
      have hbt : keyB [33] t = false := by rw [ev_key _ ht]; decide
      have hct : (opB [40] t || (decide (t.kind = 1) && amongB reservedS t.text)) = true := by rw [ev_op _ ht, ev_kind ht, ev_text ht]; decide +kernel
      have hx3 : x.kind ≠ 3 := by rw [ev_kind hx]; decide
      have hcore : coreP s (bodyP s (levP s m)) ⟨t :: x :: d :: w :: ((v :: r) ++ (c :: u :: rest)), nx⟩ = bnd (bodyP s (levP s m)) (fun a q => bnd (needP s (keyB [100, 111])) (fun _ q => bnd (bodyP s (levP s m)) (fun b q => bnd (needP s (keyB [100, 111, 110, 101])) (fun _ q => .ok (ndK (if t.text = [117, 110, 116, 105, 108] then 11 else 10) [a, b]) q) q) q) q) ⟨x :: d :: w :: ((v :: r) ++ (c :: u :: rest)), nx⟩ := by
        rw [coreP, now_c, if_neg (by rw [ev_op _ ht]; decide), if_neg (by rw [ev_key _ ht]; decide), if_neg (by rw [ev_key _ ht]; decide), if_pos (by rw [ev_key _ ht]; rfl)]; rfl
      cases m with
      | zero =>
        refine ⟨fun h => absurd h (by omega), fun _ => ?_⟩
        refine lev_compB hbt hct (a := x.pos) ?_
        rw [hcore]
        exact bnd_bad (body_bad hx3 (lev_zero (by rw [ev_key _ hx]; decide)))
      | succ m =>
        obtain ⟨nd2, h2⟩ := lev_a (s := s) (m := m) (nx := nx) (rest := d :: w :: ((v :: r) ++ (c :: u :: rest))) hx (rst_c (.inr hd))
        have b2 := body_semi (rest := (v :: r) ++ (c :: u :: rest)) hx3 hd (by rw [ev_begin hw]; decide +kernel) (by rw [ev_kind hw]; decide) h2
        constructor
        · intro hm
          obtain ⟨nd, h1⟩ := i1 (by omega)
          have b1 := body_semi (rest := rest) h3 hc (by rw [ev_begin hu]; decide +kernel) (by rw [ev_kind hu]; decide) h1
          refine lev_comp (nd := ndK (if t.text = [117, 110, 116, 105, 108] then 11 else 10) [severalP [nd2], severalP [nd]]) hbt hct ?_ hr
          rw [hcore]
          refine (bnd_ok b2).trans ?_
          rw [need_c (by rw [ev_key _ hw]; decide)]
          refine (bnd_ok b1).trans ?_
          rw [need_c (by rw [ev_key _ hu]; decide)]
        · intro hm
          obtain ⟨a, h1⟩ := i2 (by omega)
          refine lev_compB hbt hct (a := a) ?_
          rw [hcore]
          refine (bnd_ok b2).trans ?_
          rw [need_c (by rw [ev_key _ hw]; decide)]
          exact bnd_bad (body_bad h3 h1)
theorem deep4 : Deep s 4 2 := by
  intro n
  induction n with
  | zero => intro m ts rest nx h hr; exact deep_base h hr
  | succ n ih =>
    intro m ts rest nx h hr
    cases m with
    | zero => exact ⟨fun h => absurd h (by omega), fun _ => lev0 h⟩
    | succ m =>
      obtain ⟨o, i, c, rfl, ho, hi, hcl⟩ := deep_split h
      obtain ⟨t, x, d, w, rfl, ht, hx, hd, hw⟩ := keys4 ho
      obtain ⟨c, u, rfl, hc, hu⟩ := keys2 hcl
      have e : [t, x, d, w] ++ i ++ [c, u] ++ rest = t :: x :: d :: w :: (i ++ (c :: u :: rest)) := by simp
      rw [e]
      have hbt : keyB [33] t = false := by rw [ev_key _ ht]; decide
      have hk : t.kind = 1 := ev_kind ht
      have htx : t.text = [102] := ev_text ht
      have h1 : redirB t = false := by rw [ev_redir ht]; decide
      have hsimp : (lvC s (m + 1)).1 ⟨t :: x :: d :: w :: (i ++ (c :: u :: rest)), nx⟩ = fnP (lvC s m).2 t.text ⟨w :: (i ++ (c :: u :: rest)), nx⟩ := by
        rw [cmd_simp (by rw [ev_op _ ht, hk, htx]; decide +kernel), simpP, simpN, now_c, if_neg (by rw [h1]; simp), if_pos hk, if_neg (by rw [htx]; decide +kernel), if_pos (by rw [htx]; decide +kernel)]
        show bnd (nowP s) _ ⟨x :: d :: w :: (i ++ (c :: u :: rest)), nx⟩ = _
        rw [now_c, if_pos (by rw [ev_op _ hx]; decide)]
        show bnd (needP s (opB [41])) _ ⟨d :: w :: (i ++ (c :: u :: rest)), nx⟩ = _
        rw [need_c (by rw [ev_op _ hd]; decide), lines_c (by rw [ev_kind hw]; decide)]
      cases m with
      | zero =>
        refine ⟨fun h => absurd h (by omega), fun _ => ⟨w.pos, lev_bad filled_c hbt ?_⟩⟩
        rw [hsimp, fnP]
        refine bnd_bad ?_
        show nestP s ⟨w :: (i ++ (c :: u :: rest)), nx⟩ = _
        rw [nestP, now_c]
      | succ m =>
        obtain ⟨i1, i2⟩ := ih m i (c :: u :: rest) nx hi (rst_c (.inr hc))
        have hg := core_brace (s := s) (m := m) (nx := nx) (rest := rest) hw hi hc hu
        constructor
        · intro hm
          obtain ⟨nd, h1⟩ := i1 (by omega)
          obtain ⟨nd, h2⟩ := hg.1 nd h1
          refine ⟨_, lev_ok filled_c hbt (nd := .mk 14 false false t.text [] [] [withR nd []]) ?_ hr⟩
          rw [hsimp, fnP]
          exact bnd_ok (comp_ok h2 hr)
        · intro hm
          obtain ⟨a, h1⟩ := i2 (by omega)
          refine ⟨a, lev_bad filled_c hbt ?_⟩
          rw [hsimp, fnP]
          exact bnd_bad (comp_nok (hg.2 a h1))
def dq (k : Nat) : Nat := if k = 4 then 2 else 1
theorem deep_any {k : Nat} (hk : k < 5) : Deep s k (dq k) := by
  match k, hk with
  | 0, _ => exact deep0
  | 1, _ => exact deep1
  | 2, _ => exact deep2
  | 3, _ => exact deep3
  | 4, _ => exact deep4
theorem first_deep {k n : Nat} (hk : k < 5) (hs : (deepS k n).length ≤ 65536) : (dq k * n ≤ 24 → (firstP' (deepS k n) 0).ok = true ∧ (firstP' (deepS k n) 0).err = 0) ∧ (24 < dq k * n → (firstP' (deepS k n) 0).ok = false ∧ (firstP' (deepS k n) 0).err = 52) := by
  obtain ⟨s, hsx⟩ : ∃ s, s = deepS k n := ⟨_, rfl⟩
  obtain ⟨ts, h1, h2⟩ := deep_line k n hs
  rw [← hsx] at h1 hs ⊢
  obtain ⟨t, r, rfl, h3, hb⟩ := deep_head h2
  have hpos : 0 < s.length := by
    have := deep_ne k n []
    rw [List.append_nil, ← hsx] at this
    exact List.length_pos_iff.2 this
  have hkind : t.kind ≠ 0 := by
    have key : ∃ c l, deepK k n = c :: l ∧ c.1 ≠ 0 := by
      cases n with
      | zero => exact ⟨_, _, rfl, by decide⟩
      | succ n =>
        match k with
        | 0 => exact ⟨_, _, rfl, by decide⟩
        | 1 => exact ⟨_, _, rfl, by decide⟩
        | 2 => exact ⟨_, _, rfl, by decide⟩
        | 3 => exact ⟨_, _, rfl, by decide⟩
        | k + 4 => exact ⟨_, _, rfl, by decide⟩
    obtain ⟨c, l, e, hc⟩ := key
    rw [e] at h2
    rw [ev_kind (List.cons.inj h2).1]; exact hc
  obtain ⟨d1, d2⟩ := deep_any (s := s) hk n 25 (t :: r) [] s.length h2 (rst_e (Nat.le_refl _))
  rw [List.append_nil] at d1 d2
  have hcomp : completeP s ⟨[], (0 : Int).toNat⟩ = compN s (muP s ⟨t :: r, s.length⟩ + 1) [] ⟨t :: r, s.length⟩ := by
    unfold completeP
    show bnd (linesP s) _ ⟨[], 0⟩ = _
    rw [lines_l h1 hpos h3, now_c, if_neg hkind]
  unfold firstP'
  rw [if_neg (by omega), if_neg (by omega), hcomp, compN]
  constructor
  · intro hm
    obtain ⟨nd, h⟩ := d1 (by omega)
    have hi : itemP s (levP s 25) ⟨t :: r, s.length⟩ = .ok (nd, false) ⟨[], s.length⟩ := by
      unfold itemP
      rw [bnd_ok h, now_e (Nat.le_refl _), if_neg (by unfold opB endT'; simp), if_neg (by unfold opB endT'; simp)]
    rw [bnd_ok hi, if_neg (by simp)]
    exact ⟨rfl, rfl⟩
  · intro hm
    obtain ⟨a, h⟩ := d2 (by omega)
    have hi : itemP s (levP s 25) ⟨t :: r, s.length⟩ = .bad a 52 := by
      unfold itemP
      rw [bnd_bad h]
    rw [bnd_bad hi]
    exact ⟨rfl, rfl⟩
end Go.Tri

/-
  A tree as a text, by which trees are compared.
-/
namespace Go.Tri
open Go.RowKit
def textC (t : List UInt8) : List UInt8 := Lib.itoa (t.length : Int) ++ [58] ++ t
def wordsC (ws : List (List UInt8)) : List UInt8 := ws.flatMap fun w => [119] ++ textC w
def rdrC (r : Rdr) : List UInt8 := [114] ++ Lib.itoa r.fd ++ textC r.op ++ textC r.word ++ textC r.doc ++ if r.raw then [114, 97, 119] else []
def rdrsC (rs : List Rdr) : List UInt8 := rs.flatMap rdrC
mutual
def codeP : Nd → List UInt8
  | .mk k nt isin nm ws rs ks => [40] ++ Lib.itoa (k : Int) ++ (if nt then [33] else []) ++ (if isin then [105, 110] else []) ++ [44] ++ textC nm ++ wordsC ws ++ rdrsC rs ++ codesP ks ++ [41]
def codesP : List Nd → List UInt8
  | [] => []
  | k :: ks => codeP k ++ codesP ks
end
theorem codesP_app : ∀ a b : List Nd, codesP (a ++ b) = codesP a ++ codesP b
  | [], b => by rw [List.nil_append, codesP, List.nil_append]
  | k :: a, b => by rw [List.cons_append, codesP, codesP, codesP_app a b, List.append_assoc]
theorem codesP_one (k : Nd) : codesP [k] = codeP k := by rw [codesP, codesP, List.append_nil]

mutual
def NdK : Nd → Prop
  | .mk k _ _ _ _ rs ks => k ≤ 1000 ∧ (∀ r ∈ rs, -10 ≤ r.fd ∧ r.fd ≤ 10) ∧ NdsK ks
def NdsK : List Nd → Prop
  | [] => True
  | k :: ks => NdK k ∧ NdsK ks
end
theorem NdsK.nth {ks : List Nd} (h : NdsK ks) : ∀ {i : Nat}, i < ks.length → NdK (nth ks i nd0) := by
  induction ks with
  | nil => intro i hi; exact absurd hi (Nat.not_lt_zero i)
  | cons k ks ih =>
    intro i hi
    unfold NdsK at h
    cases i with
    | zero => exact h.1
    | succ i => exact ih h.2 (by simpa using hi)
def rdr0 : Rdr := ⟨0, [], [], [], false⟩
theorem wordsC_snoc {ws : List (List UInt8)} {i : Nat} (h : i < ws.length) : wordsC (ws.take (i + 1)) = wordsC (ws.take i) ++ ([119] ++ textC (nth ws i [])) := by
  rw [take_nth [] h]; unfold wordsC; rw [List.flatMap_append]; simp
theorem rdrsC_snoc {rs : List Rdr} {i : Nat} (h : i < rs.length) : rdrsC (rs.take (i + 1)) = rdrsC (rs.take i) ++ rdrC (nth rs i rdr0) := by
  rw [take_nth rdr0 h]; unfold rdrsC; rw [List.flatMap_append]; simp
theorem codesP_snoc {ks : List Nd} {i : Nat} (h : i < ks.length) : codesP (ks.take (i + 1)) = codesP (ks.take i) ++ codeP (nth ks i nd0) := by
  rw [take_nth nd0 h, codesP_app, codesP_one]
theorem flat_take {α : Type} (f : α → List UInt8) (l : List α) (i : Nat) : ((l.take i).flatMap f).length ≤ (l.flatMap f).length := by
  conv => rhs; rw [← List.take_append_drop i l, List.flatMap_append, List.length_append]
  omega
theorem codes_take (l : List Nd) (i : Nat) : (codesP (l.take i)).length ≤ (codesP l).length := by
  conv => rhs; rw [← List.take_append_drop i l, codesP_app, List.length_append]
  omega
theorem wordsC_len (ws : List (List UInt8)) : ws.length ≤ (wordsC ws).length := by
  induction ws with
  | nil => exact Nat.le_refl _
  | cons w ws ih =>
    unfold wordsC at ih ⊢
    rw [List.flatMap_cons, List.length_append, List.length_append, List.length_cons]
    simp only [List.length_cons, List.length_nil]; omega
theorem rdrsC_len (rs : List Rdr) : rs.length ≤ (rdrsC rs).length := by
  induction rs with
  | nil => exact Nat.le_refl _
  | cons r rs ih =>
    unfold rdrsC at ih ⊢
    have h1 : 1 ≤ (rdrC r).length := by unfold rdrC; simp only [List.length_append, List.length_cons]; omega
    rw [List.flatMap_cons, List.length_append, List.length_cons]
    omega
theorem codeP_len (n : Nd) : 1 ≤ (codeP n).length := by
  obtain ⟨k, nt, isin, nm, ws, rs, ks⟩ := n
  rw [codeP]
  simp only [List.length_append, List.length_cons, List.length_nil]; omega
theorem codesP_len : ∀ ks : List Nd, ks.length ≤ (codesP ks).length
  | [] => by rw [codesP]; exact Nat.le_refl _
  | k :: ks => by
    have h1 := codeP_len k
    have h2 := codesP_len ks
    rw [codesP, List.length_append, List.length_cons]; omega
theorem codes_nth {ks : List Nd} {i : Nat} (h : i < ks.length) : (codeP (nth ks i nd0)).length ≤ (codesP ks).length := by
  have h1 := codes_take ks (i + 1)
  rw [codesP_snoc h, List.length_append] at h1
  omega
end Go.Tri
