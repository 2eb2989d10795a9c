/-
 Expressions of whole numbers in plain words: lexemes, trees, what they are worth.
-/
import Derived.Test.YtbogmbdfjgnfaaaGreatDoorPWord7
import Derived.Lib.SlTrimSet
import Derived.Test.YtbogmbdfjgnfaaaGreatDoorTriB24
namespace Go.Tri
open Go.RowKit
def w64 (n : Int) : Int := IntKind.i64.wrap n
def blS : List UInt8 := [32, 9, 10]
/-- a lexeme: its text, what it is worth, what it is -/
structure Lx where
 text : List UInt8
 worth : Int
 what : Nat
def lx0 : Lx := ⟨[], 0, 0⟩
def oddL : Lx := ⟨[], 0, 4⟩
def litU (s : List UInt8) : Nat × Nat := if nth s 0 0 = 48 then (if 1 < s.length ∧ nth s 1 0 ||| 32 = 120 then (16, 2) else (8, 0)) else (10, 0)
def digS (u : Nat) : List UInt8 := if u = 16 then [48, 49, 50, 51, 52, 53, 54, 55, 56, 57, 97, 98, 99, 100, 101, 102] else if u = 8 then [48, 49, 50, 51, 52, 53, 54, 55] else [48, 49, 50, 51, 52, 53, 54, 55, 56, 57]
def lowX (u : Nat) (c : UInt8) : UInt8 := if u = 16 ∧ 65 ≤ c.toNat ∧ c.toNat ≤ 70 then c ||| 32 else c
def digV (u : Nat) (c : UInt8) : Int := Lib.indexByte (digS u) (lowX u c)
/-- digits from a place on -/
def litG (u : Nat) (s : List UInt8) : Nat → Int → Nat → Int × Nat
 | 0, n, i => (n, i)
 | f + 1, n, i => if i < s.length then (if digV u (nth s i 0) < 0 then (n, i) else litG u s f (w64 (w64 (n * (u : Int)) + digV u (nth s i 0))) (i + 1)) else (n, i)
/-- a number at the beginning of a text -/
def numLit (s : List UInt8) : Option (Int × Nat) :=
 let r := litG (litU s).1 s s.length 0 (litU s).2
 if r.2 = (litU s).2 ∨ (r.2 < s.length ∧ nameB ([95] ++ (s.drop r.2).take 1) = true) then none else some r
def sgnS : List UInt8 := [32, 60, 60, 61, 32, 62, 62, 61, 32, 42, 61, 32, 47, 61, 32, 37, 61, 32, 43, 61, 32, 45, 61, 32, 38, 61, 32, 94, 61, 32, 124, 61, 32, 124, 124, 32, 38, 38, 32, 61, 61, 32, 33, 61, 32, 60, 61, 32, 62, 61, 32, 60, 60, 32, 62, 62, 32, 61, 32, 63, 32, 58, 32, 124, 32, 94, 32, 38, 32, 60, 32, 62, 32, 43, 32, 45, 32, 42, 32, 47, 32, 37, 32, 33, 32, 126, 32, 40, 32, 41, 32]
def sgnB (t : List UInt8) : Bool := Lib.contains sgnS ([32] ++ t ++ [32]) && !Lib.contains t [32]
def sgnN (s : List UInt8) : Nat → Nat
 | 0 => 0
 | n + 1 => if sgnB (s.take (n + 1)) = true then n + 1 else sgnN s n
/-- the lexeme at the beginning of a text -/
def firstP (s : List UInt8) : Lx × Nat :=
 if s = [] then (lx0, 0)
 else if digitB' (nth s 0 0) = true then (match numLit s with | none => (oddL, 0) | some r => (⟨s.take r.2, r.1, 1⟩, r.2))
 else if nameB (s.take 1) = true then (⟨s.take (nameN s.length 1 s), 0, 2⟩, nameN s.length 1 s)
 else if sgnN s (min 3 s.length) = 0 then (oddL, 0) else (⟨s.take (sgnN s (min 3 s.length)), 0, 3⟩, sgnN s (min 3 s.length))
def stopL (x : Lx) : Bool := decide (x.what = 0) || decide (x.what = 4)
/-- lexemes of a text without blanks ahead -/
def lexG : Nat → List UInt8 → List Lx
 | 0, _ => []
 | f + 1, t => (firstP t).1 :: (if stopL (firstP t).1 = true then [] else lexG f (Lib.trimLeftS (t.drop (firstP t).2) blS))
def lexL (s : List UInt8) : List Lx := lexG (s.length + 1) (Lib.trimLeftS s blS)
/-! ### trees -/
inductive Ex where
 | num (n : Int)
 | var (nm : List UInt8)
 | asg (op nm : List UInt8) (k : Ex)
 | una (op : List UInt8) (k : Ex)
 | bin (op : List UInt8) (a b : Ex)
 | cho (a b c : Ex)
inductive PA where
 | ok (x : Ex) (L : List Lx)
 | bad (e : Nat)
def nowL (L : List Lx) : Lx := nth L 0 lx0
def thenL (L : List Lx) : Lx := nth L (if L.length = 1 then 0 else 1) lx0
def stepL (L : List Lx) : List Lx := if L.length = 1 then L else L.drop 1
def isL (L : List Lx) (t : List UInt8) : Bool := decide ((nowL L).what = 3) && decide ((nowL L).text = t)
def lvS : Nat → List UInt8
 | 0 => [32, 124, 124, 32]
 | 1 => [32, 38, 38, 32]
 | 2 => [32, 124, 32]
 | 3 => [32, 94, 32]
 | 4 => [32, 38, 32]
 | 5 => [32, 61, 61, 32, 33, 61, 32]
 | 6 => [32, 60, 32, 60, 61, 32, 62, 32, 62, 61, 32]
 | 7 => [32, 60, 60, 32, 62, 62, 32]
 | 8 => [32, 43, 32, 45, 32]
 | _ => [32, 42, 32, 47, 32, 37, 32]
def asgS : List UInt8 := [32, 61, 32, 42, 61, 32, 47, 61, 32, 37, 61, 32, 43, 61, 32, 45, 61, 32, 60, 60, 61, 32, 62, 62, 61, 32, 38, 61, 32, 94, 61, 32, 124, 61, 32]
def asgB (L : List Lx) : Bool := decide ((nowL L).what = 2) && decide ((thenL L).what = 3) && Lib.contains asgS ([32] ++ (thenL L).text ++ [32])
def binB (v : Nat) (L : List Lx) : Bool := decide ((nowL L).what = 3) && Lib.contains (lvS v) ([32] ++ (nowL L).text ++ [32])
def unaB (L : List Lx) : Bool := isL L [43] || isL L [45] || isL L [33] || isL L [126]
/-- readers one level within: of an assignment, a choice, an operand -/
structure RdA where
 asg : List Lx → PA
 cho : List Lx → PA
 opd : List Lx → PA
def opdP (R : RdA) (L : List Lx) : PA :=
 if unaB L = true then (match R.opd (stepL L) with | .bad e => .bad e | .ok x L1 => .ok (.una ([49] ++ (nowL L).text) x) L1)
 else if isL L [40] = true then (match R.asg (stepL L) with | .bad e => .bad e | .ok x L1 => if isL L1 [41] = true then .ok x (stepL L1) else .bad 60)
 else if (nowL L).what = 1 then .ok (.num (nowL L).worth) (stepL L)
 else if (nowL L).what = 2 then .ok (.var (nowL L).text) (stepL L)
 else .bad 60
/-- what stands behind the first side -/
def sidG (v : Nat) (next : List Lx → PA) : Nat → Ex → List Lx → PA
 | 0, x, L => .ok x L
 | f + 1, x, L => if binB v L = true then (match next (stepL L) with | .bad e => .bad e | .ok y L1 => sidG v next f (.bin (nowL L).text x y) L1) else .ok x L
/-- sides from a rank on: k = 10 - the rank -/
def sidP (R : RdA) : Nat → List Lx → PA
 | 0, L => opdP R L
 | k + 1, L => match sidP R k L with | .bad e => .bad e | .ok x L1 => sidG (9 - k) (sidP R k) L1.length x L1
def choP (R : RdA) (L : List Lx) : PA :=
 match sidP R 10 L with
 | .bad e => .bad e
 | .ok x L1 => if isL L1 [63] = true then
   (match R.asg (stepL L1) with
   | .bad e => .bad e
   | .ok y L2 => if isL L2 [58] = true then (match R.cho (stepL L2) with | .bad e => .bad e | .ok z L3 => .ok (.cho x y z) L3) else .bad 60)
  else .ok x L1
def asgP (R : RdA) (L : List Lx) : PA :=
 if asgB L = true then (match R.asg (stepL (stepL L)) with | .bad e => .bad e | .ok x L1 => .ok (.asg (thenL L).text (nowL L).text x) L1)
 else choP R L
/-- the readers at depth 25 - n -/
def rdA : Nat → RdA
 | 0 => ⟨fun _ => .bad 52, fun _ => .bad 52, fun _ => .bad 52⟩
 | n + 1 => ⟨asgP (rdA n), choP (rdA n), opdP (rdA n)⟩
inductive RA where
 | ok (x : Ex)
 | bad (e : Nat)
def readA (s : List UInt8) : RA :=
 if Lib.trimS s blS = [] then .ok (.num 0)
 else match (rdA 25).asg (lexL s) with
  | .bad e => .bad e
  | .ok x L => if (nowL L).what = 0 then .ok x else .bad 60
/-! ### what they are worth -/
def trI (b : Bool) : Int := if b = true then 1 else 0
def andI (a b : Int) : Int := w64 (((BitVec.ofInt 64 a) &&& (BitVec.ofInt 64 b)).toNat : Int)
def orI (a b : Int) : Int := w64 (((BitVec.ofInt 64 a) ||| (BitVec.ofInt 64 b)).toNat : Int)
def xorI (a b : Int) : Int := w64 (((BitVec.ofInt 64 a) ^^^ (BitVec.ofInt 64 b)).toNat : Int)
def shlI (a n : Int) : Int := w64 (a * 2 ^ (min n.toNat 64))
def shrI (a n : Int) : Int := a.fdiv (2 ^ (min n.toNat 64))
/-- a sign of two sides: a value and an error -/
def twoP (op : List UInt8) (a b : Int) : Int × Nat :=
  if op = [124] then (orI a b, 0) else if op = [94] then (xorI a b, 0) else if op = [38] then (andI a b, 0)
  else if op = [60, 60] then (shlI a (andI b 63), 0) else if op = [62, 62] then (shrI a (andI b 63), 0)
  else if op = [43] then (w64 (a + b), 0) else if op = [45] then (w64 (a - b), 0) else if op = [42] then (w64 (a * b), 0)
  else if op = [47] ∨ op = [37] then
    (if b = 0 then (0, 61) else if a = -9223372036854775808 ∧ b = -1 ∧ op = [47] then (a, 0) else if b = -1 ∧ op = [37] then (0, 0)
     else if op = [47] then (w64 (a.tdiv b), 0) else (a.tmod b, 0))
  else if op = [61, 61] then (trI (decide (a = b)), 0) else if op = [33, 61] then (trI (decide (a ≠ b)), 0)
  else if op = [60] then (trI (decide (a < b)), 0) else if op = [60, 61] then (trI (decide (a ≤ b)), 0) else if op = [62] then (trI (decide (b < a)), 0)
  else (trI (decide (b ≤ a)), 0)
abbrev Ass := List UInt8 × Int
/-- a variable's text as a number -/
def numW (t : List UInt8) : Int × Nat :=
 let s := Lib.trimS t blS
 if s = [] then (0, 0)
 else
  let r := if nth s 0 0 = 45 ∨ nth s 0 0 = 43 then s.drop 1 else s
  if r = [] ∨ digitB' (nth r 0 0) = false then (0, 60)
  else match numLit r with
   | none => (0, 60)
   | some q => if q.2 = r.length then (if nth s 0 0 = 45 then w64 (-q.1) else q.1, 0) else (0, 60)
def worthP (vars : List (List UInt8 × List UInt8)) (S : List Ass) (n : List UInt8) : Int × Nat :=
 match S.reverse.find? (fun a => decide (a.1 = n)) with
 | some a => (a.2, 0)
 | none => match vars.find? (fun v => decide (v.1 = n)) with
  | some v => numW v.2
  | none => (0, 0)
inductive WR where
 | ok (v : Int) (S : List Ass)
 | bad (e : Nat)
def unaP (op : List UInt8) (a : Int) : Int := if op = [49, 43] then a else if op = [49, 45] then w64 (-a) else if op = [49, 126] then xorI (-1) a else trI (decide (a = 0))
def workP (vars : List (List UInt8 × List UInt8)) : Ex → List Ass → WR
  | .num n, S => .ok n S
  | .var nm, S => if (worthP vars S nm).2 = 0 then .ok (worthP vars S nm).1 S else .bad (worthP vars S nm).2
  | .asg op nm k, S =>
    if op = [61] then (match workP vars k S with | .bad e => .bad e | .ok b S1 => .ok b (S1 ++ [(nm, b)]))
    else if (worthP vars S nm).2 = 0 then
      (match workP vars k S with
      | .bad e => .bad e
      | .ok b S1 => if (twoP (Lib.trimSuffix op [61]) (worthP vars S nm).1 b).2 = 0 then .ok (twoP (Lib.trimSuffix op [61]) (worthP vars S nm).1 b).1 (S1 ++ [(nm, (twoP (Lib.trimSuffix op [61]) (worthP vars S nm).1 b).1)]) else .bad (twoP (Lib.trimSuffix op [61]) (worthP vars S nm).1 b).2)
    else .bad (worthP vars S nm).2
  | .una op k, S => match workP vars k S with | .bad e => .bad e | .ok a S1 => .ok (unaP op a) S1
  | .cho a b c, S => match workP vars a S with | .bad e => .bad e | .ok v S1 => if v ≠ 0 then workP vars b S1 else workP vars c S1
  | .bin op a b, S =>
    match workP vars a S with
    | .bad e => .bad e
    | .ok v S1 =>
      if op = [38, 38] ∨ op = [124, 124] then
        (if decide (v ≠ 0) = decide (op = [124, 124]) then .ok (trI (decide (v ≠ 0))) S1
         else match workP vars b S1 with | .bad e => .bad e | .ok u S2 => .ok (trI (decide (u ≠ 0))) S2)
      else match workP vars b S1 with
        | .bad e => .bad e
        | .ok u S2 => if (twoP op v u).2 = 0 then .ok (twoP op v u).1 S2 else .bad (twoP op v u).2
/-- what an expression is worth, what it assigns, its error -/
def evalP (s : List UInt8) (vars : List (List UInt8 × List UInt8)) : Int × List Ass × Nat :=
 match readA s with
 | .bad e => (0, [], e)
 | .ok x => match workP vars x [] with
  | .bad e => (0, [], e)
  | .ok v S => (v, S, 0)
theorem nameN_end {f n : Nat} {s : List UInt8} (h : ¬ (n < s.length ∧ nameB (s.take (n + 1)) = true)) : nameN f n s = n := by
 cases f with
 | zero => rfl
 | succ f => rw [nameN, if_neg h]
theorem nameN_step {f n : Nat} {s : List UInt8} (hf : s.length - n ≤ f) (h1 : n < s.length) (h2 : nameB (s.take (n + 1)) = true) : nameN f n s = nameN (f - 1) (n + 1) s := by
 obtain ⟨g, rfl⟩ : ∃ g, f = g + 1 := ⟨f - 1, by omega⟩
 rw [nameN, if_pos ⟨h1, h2⟩]; rfl
theorem trimL_le (s cs : List UInt8) : (Lib.trimLeftS s cs).length ≤ s.length := (List.dropWhile_sublist _).length_le
/-! ### lists of lexemes as readers hold them -/
/-- the last one stops; texts are not too long -/
def Tk (L : List Lx) : Prop := L ≠ [] ∧ stopL (nth L (L.length - 1) lx0) = true ∧ ∀ x ∈ L, x.text.length ≤ 1000000 ∧ (x.what = 2 → x.text ≠ [])
theorem Tk.pos {L : List Lx} (h : Tk L) : 1 ≤ L.length := List.length_pos_iff.2 h.1
theorem Tk.then {L : List Lx} (h : Tk L) : (thenL L).text.length ≤ 1000000 := (h.2.2 _ (nth_mem (by have := h.pos; split <;> omega))).1
theorem Tk.two {L : List Lx} (h : Tk L) (hs : stopL (nowL L) = false) : 2 ≤ L.length := by
 have h1 := h.pos
 rcases Nat.lt_or_ge L.length 2 with h2 | h2
 ·have h3 : L.length - 1 = 0 := by omega
  have h4 := h.2.1
  rw [h3] at h4
  rw [show nowL L = nth L 0 lx0 from rfl, h4] at hs
  cases hs
 ·exact h2
theorem nth_drop1 {α : Type} (l : List α) (i : Nat) (d : α) : nth (l.drop 1) i d = nth l (i + 1) d := by
 unfold nth
 rw [List.getD_eq_getElem?_getD, List.getD_eq_getElem?_getD, List.getElem?_drop, Nat.add_comm]
theorem Tk.step {L : List Lx} (h : Tk L) : Tk (stepL L) := by
 unfold stepL
 split
 ·exact h
 ·rename_i h1
  have h2 := h.pos
  have hl : (L.drop 1).length = L.length - 1 := List.length_drop
  refine ⟨List.length_pos_iff.1 (by omega), ?_, fun x hx => h.2.2 x (List.mem_of_mem_drop hx)⟩
  rw [nth_drop1, hl, show L.length - 1 - 1 + 1 = L.length - 1 by omega]
  exact h.2.1
end Go.Tri

/-
 Expressions: how great trees grow; operations on numbers of 64 bits.
-/
namespace Go.Tri
open Go.RowKit
/-! ### variables, assignments -/
/-- a variable -/
structure Vr where
 name : List UInt8
 value : List UInt8
 e : Bool
 r : Bool
 u : Bool
def vr0 : Vr := ⟨[], [], false, false, false⟩
def vrC (v : Vr) : List Value := [str v.name, str v.value, .bool v.e, .bool v.r, .bool v.u]
def Vr.nv (v : Vr) : List UInt8 × List UInt8 := (v.name, v.value)
theorem rds_vr {w0 : World} {I : Look} {H : List HA} {v : Value} {l : List Vr} (h : Sl I 5 v (l.map vrC)) {i : Nat} (hi : i < l.length) : Rds w0 I H (adr v).block ((adr v).off + i * 5) (vrC (nth l i vr0)) := h.rds (map_getD l vrC vr0 hi)
theorem rd_vrf {w0 : World} {I : Look} {H : List HA} {v : Value} {l : List Vr} (h : Sl I 5 v (l.map vrC)) {i j : Nat} {u : Value} (hi : i < l.length) (hu : (vrC (nth l i vr0))[j]? = some u) : Rd w0 I H (adr v).block ((adr v).off + i * 5 + j) u := h.rd (map_getD l vrC vr0 hi) hu
/-! ### operations -/
section ops
variable {C : Cx} {E : Env} {I : Look} {H : List HA} {o : Oper} {x y : Operand} {t t' : TypeId} {a b : Int}
theorem q_and (ho : o.op = .binOp .and t x y t') (hx : ev E x = some (.int .i64 a)) (hy : ev E y = some (.int .i64 b)) : Quiet C E I H o (.int .i64 (andI a b)) :=
 quiet_bin ho hx hy fun w => by simp [go_sem, eqGuard, Op.intBits, andI, w64, IntKind.bits]; rfl
end ops
end Go.Tri
