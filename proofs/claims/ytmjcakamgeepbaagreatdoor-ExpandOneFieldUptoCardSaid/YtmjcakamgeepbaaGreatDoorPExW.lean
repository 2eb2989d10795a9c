/-
 Expressions of whole numbers in plain words: lexemes, trees, what they are worth.
-/
import Derived.Test.YtmjcakamgeepbaaGreatDoorPWord7
import Derived.Lib.SlTrimSet
import Derived.Test.YtmjcakamgeepbaaGreatDoorTriZ
namespace Go.Tri
open Go.RowKit
def w64 (n : Int) : Int := IntKind.i64.wrap n
def blS : List UInt8 := [32, 9, 10]
/-- a lexeme: its text, what it is worth, what it is -/
structure Lx where
 text : List UInt8
 worth : Int
 what : Nat
def lx0 : Lx := ⟨[], 0, 0⟩
def oddL : Lx := ⟨[], 0, 4⟩
def litU (s : List UInt8) : Nat × Nat := if nth s 0 0 = 48 then (if 1 < s.length ∧ nth s 1 0 ||| 32 = 120 then (16, 2) else (8, 0)) else (10, 0)
def digS (u : Nat) : List UInt8 := if u = 16 then [48, 49, 50, 51, 52, 53, 54, 55, 56, 57, 97, 98, 99, 100, 101, 102] else if u = 8 then [48, 49, 50, 51, 52, 53, 54, 55] else [48, 49, 50, 51, 52, 53, 54, 55, 56, 57]
def lowX (u : Nat) (c : UInt8) : UInt8 := if u = 16 ∧ 65 ≤ c.toNat ∧ c.toNat ≤ 70 then c ||| 32 else c
def digV (u : Nat) (c : UInt8) : Int := Lib.indexByte (digS u) (lowX u c)
/-- digits from a place on -/
def litG (u : Nat) (s : List UInt8) : Nat → Int → Nat → Int × Nat
 | 0, n, i => (n, i)
 | f + 1, n, i => if i < s.length then (if digV u (nth s i 0) < 0 then (n, i) else litG u s f (w64 (w64 (n * (u : Int)) + digV u (nth s i 0))) (i + 1)) else (n, i)
/-- a number at the beginning of a text -/
def numLit (s : List UInt8) : Option (Int × Nat) :=
 let r := litG (litU s).1 s s.length 0 (litU s).2
 if r.2 = (litU s).2 ∨ (r.2 < s.length ∧ nameB ([95] ++ (s.drop r.2).take 1) = true) then none else some r
def sgnS : List UInt8 := [32, 60, 60, 61, 32, 62, 62, 61, 32, 42, 61, 32, 47, 61, 32, 37, 61, 32, 43, 61, 32, 45, 61, 32, 38, 61, 32, 94, 61, 32, 124, 61, 32, 124, 124, 32, 38, 38, 32, 61, 61, 32, 33, 61, 32, 60, 61, 32, 62, 61, 32, 60, 60, 32, 62, 62, 32, 61, 32, 63, 32, 58, 32, 124, 32, 94, 32, 38, 32, 60, 32, 62, 32, 43, 32, 45, 32, 42, 32, 47, 32, 37, 32, 33, 32, 126, 32, 40, 32, 41, 32]
def sgnB (t : List UInt8) : Bool := Lib.contains sgnS ([32] ++ t ++ [32]) && !Lib.contains t [32]
def sgnN (s : List UInt8) : Nat → Nat
 | 0 => 0
 | n + 1 => if sgnB (s.take (n + 1)) = true then n + 1 else sgnN s n
/-- the lexeme at the beginning of a text -/
def firstP (s : List UInt8) : Lx × Nat :=
 if s = [] then (lx0, 0)
 else if digitB' (nth s 0 0) = true then (match numLit s with | none => (oddL, 0) | some r => (⟨s.take r.2, r.1, 1⟩, r.2))
 else if nameB (s.take 1) = true then (⟨s.take (nameN s.length 1 s), 0, 2⟩, nameN s.length 1 s)
 else if sgnN s (min 3 s.length) = 0 then (oddL, 0) else (⟨s.take (sgnN s (min 3 s.length)), 0, 3⟩, sgnN s (min 3 s.length))
def stopL (x : Lx) : Bool := decide (x.what = 0) || decide (x.what = 4)
/-- lexemes of a text without blanks ahead -/
def lexG : Nat → List UInt8 → List Lx
 | 0, _ => []
 | f + 1, t => (firstP t).1 :: (if stopL (firstP t).1 = true then [] else lexG f (Lib.trimLeftS (t.drop (firstP t).2) blS))
def lexL (s : List UInt8) : List Lx := lexG (s.length + 1) (Lib.trimLeftS s blS)
/-! ### trees -/
inductive Ex where
 | num (n : Int)
 | var (nm : List UInt8)
 | asg (op nm : List UInt8) (k : Ex)
 | una (op : List UInt8) (k : Ex)
 | bin (op : List UInt8) (a b : Ex)
 | cho (a b c : Ex)
inductive PA where
 | ok (x : Ex) (L : List Lx)
 | bad (e : Nat)
def szE : Ex → Nat
 | .num _ => 1
 | .var _ => 1
 | .asg _ _ k => szE k + 1
 | .una _ k => szE k + 1
 | .bin _ a b => szE a + szE b + 1
 | .cho a b c => szE a + szE b + szE c + 1
def nowL (L : List Lx) : Lx := nth L 0 lx0
def thenL (L : List Lx) : Lx := nth L (if L.length = 1 then 0 else 1) lx0
def stepL (L : List Lx) : List Lx := if L.length = 1 then L else L.drop 1
def isL (L : List Lx) (t : List UInt8) : Bool := decide ((nowL L).what = 3) && decide ((nowL L).text = t)
def lvS : Nat → List UInt8
 | 0 => [32, 124, 124, 32]
 | 1 => [32, 38, 38, 32]
 | 2 => [32, 124, 32]
 | 3 => [32, 94, 32]
 | 4 => [32, 38, 32]
 | 5 => [32, 61, 61, 32, 33, 61, 32]
 | 6 => [32, 60, 32, 60, 61, 32, 62, 32, 62, 61, 32]
 | 7 => [32, 60, 60, 32, 62, 62, 32]
 | 8 => [32, 43, 32, 45, 32]
 | _ => [32, 42, 32, 47, 32, 37, 32]
def asgS : List UInt8 := [32, 61, 32, 42, 61, 32, 47, 61, 32, 37, 61, 32, 43, 61, 32, 45, 61, 32, 60, 60, 61, 32, 62, 62, 61, 32, 38, 61, 32, 94, 61, 32, 124, 61, 32]
def asgB (L : List Lx) : Bool := decide ((nowL L).what = 2) && decide ((thenL L).what = 3) && Lib.contains asgS ([32] ++ (thenL L).text ++ [32])
def binB (v : Nat) (L : List Lx) : Bool := decide ((nowL L).what = 3) && Lib.contains (lvS v) ([32] ++ (nowL L).text ++ [32])
def unaB (L : List Lx) : Bool := isL L [43] || isL L [45] || isL L [33] || isL L [126]
/-- readers one level within: of an assignment, a choice, an operand -/
structure RdA where
 asg : List Lx → PA
 cho : List Lx → PA
 opd : List Lx → PA
def opdP (R : RdA) (L : List Lx) : PA :=
 if unaB L = true then (match R.opd (stepL L) with | .bad e => .bad e | .ok x L1 => .ok (.una ([49] ++ (nowL L).text) x) L1)
 else if isL L [40] = true then (match R.asg (stepL L) with | .bad e => .bad e | .ok x L1 => if isL L1 [41] = true then .ok x (stepL L1) else .bad 60)
 else if (nowL L).what = 1 then .ok (.num (nowL L).worth) (stepL L)
 else if (nowL L).what = 2 then .ok (.var (nowL L).text) (stepL L)
 else .bad 60
/-- what stands behind the first side -/
def sidG (v : Nat) (next : List Lx → PA) : Nat → Ex → List Lx → PA
 | 0, x, L => .ok x L
 | f + 1, x, L => if binB v L = true then (match next (stepL L) with | .bad e => .bad e | .ok y L1 => sidG v next f (.bin (nowL L).text x y) L1) else .ok x L
/-- sides from a rank on: k = 10 - the rank -/
def sidP (R : RdA) : Nat → List Lx → PA
 | 0, L => opdP R L
 | k + 1, L => match sidP R k L with | .bad e => .bad e | .ok x L1 => sidG (9 - k) (sidP R k) L1.length x L1
def choP (R : RdA) (L : List Lx) : PA :=
 match sidP R 10 L with
 | .bad e => .bad e
 | .ok x L1 => if isL L1 [63] = true then
   (match R.asg (stepL L1) with
   | .bad e => .bad e
   | .ok y L2 => if isL L2 [58] = true then (match R.cho (stepL L2) with | .bad e => .bad e | .ok z L3 => .ok (.cho x y z) L3) else .bad 60)
  else .ok x L1
def asgP (R : RdA) (L : List Lx) : PA :=
 if asgB L = true then (match R.asg (stepL (stepL L)) with | .bad e => .bad e | .ok x L1 => .ok (.asg (thenL L).text (nowL L).text x) L1)
 else choP R L
/-- the readers at depth 25 - n -/
def rdA : Nat → RdA
 | 0 => ⟨fun _ => .bad 52, fun _ => .bad 52, fun _ => .bad 52⟩
 | n + 1 => ⟨asgP (rdA n), choP (rdA n), opdP (rdA n)⟩
inductive RA where
 | ok (x : Ex)
 | bad (e : Nat)
def readA (s : List UInt8) : RA :=
 if Lib.trimS s blS = [] then .ok (.num 0)
 else match (rdA 25).asg (lexL s) with
  | .bad e => .bad e
  | .ok x L => if (nowL L).what = 0 then .ok x else .bad 60
/-! ### what they are worth -/
def trI (b : Bool) : Int := if b = true then 1 else 0
def andI (a b : Int) : Int := w64 (((BitVec.ofInt 64 a) &&& (BitVec.ofInt 64 b)).toNat : Int)
def orI (a b : Int) : Int := w64 (((BitVec.ofInt 64 a) ||| (BitVec.ofInt 64 b)).toNat : Int)
def xorI (a b : Int) : Int := w64 (((BitVec.ofInt 64 a) ^^^ (BitVec.ofInt 64 b)).toNat : Int)
def shlI (a n : Int) : Int := w64 (a * 2 ^ (min n.toNat 64))
def shrI (a n : Int) : Int := a.fdiv (2 ^ (min n.toNat 64))
/-- a sign of two sides: a value and an error -/
def twoP (op : List UInt8) (a b : Int) : Int × Nat :=
  if op = [124] then (orI a b, 0) else if op = [94] then (xorI a b, 0) else if op = [38] then (andI a b, 0)
  else if op = [60, 60] then (shlI a (andI b 63), 0) else if op = [62, 62] then (shrI a (andI b 63), 0)
  else if op = [43] then (w64 (a + b), 0) else if op = [45] then (w64 (a - b), 0) else if op = [42] then (w64 (a * b), 0)
  else if op = [47] ∨ op = [37] then
    (if b = 0 then (0, 61) else if a = -9223372036854775808 ∧ b = -1 ∧ op = [47] then (a, 0) else if b = -1 ∧ op = [37] then (0, 0)
     else if op = [47] then (w64 (a.tdiv b), 0) else (a.tmod b, 0))
  else if op = [61, 61] then (trI (decide (a = b)), 0) else if op = [33, 61] then (trI (decide (a ≠ b)), 0)
  else if op = [60] then (trI (decide (a < b)), 0) else if op = [60, 61] then (trI (decide (a ≤ b)), 0) else if op = [62] then (trI (decide (b < a)), 0)
  else (trI (decide (b ≤ a)), 0)
abbrev Ass := List UInt8 × Int
/-- a variable's text as a number -/
def numW (t : List UInt8) : Int × Nat :=
 let s := Lib.trimS t blS
 if s = [] then (0, 0)
 else
  let r := if nth s 0 0 = 45 ∨ nth s 0 0 = 43 then s.drop 1 else s
  if r = [] ∨ digitB' (nth r 0 0) = false then (0, 60)
  else match numLit r with
   | none => (0, 60)
   | some q => if q.2 = r.length then (if nth s 0 0 = 45 then w64 (-q.1) else q.1, 0) else (0, 60)
def worthP (vars : List (List UInt8 × List UInt8)) (S : List Ass) (n : List UInt8) : Int × Nat :=
 match S.reverse.find? (fun a => decide (a.1 = n)) with
 | some a => (a.2, 0)
 | none => match vars.find? (fun v => decide (v.1 = n)) with
  | some v => numW v.2
  | none => (0, 0)
inductive WR where
 | ok (v : Int) (S : List Ass)
 | bad (e : Nat)
def unaP (op : List UInt8) (a : Int) : Int := if op = [49, 43] then a else if op = [49, 45] then w64 (-a) else if op = [49, 126] then xorI (-1) a else trI (decide (a = 0))
def workP (vars : List (List UInt8 × List UInt8)) : Ex → List Ass → WR
  | .num n, S => .ok n S
  | .var nm, S => if (worthP vars S nm).2 = 0 then .ok (worthP vars S nm).1 S else .bad (worthP vars S nm).2
  | .asg op nm k, S =>
    if op = [61] then (match workP vars k S with | .bad e => .bad e | .ok b S1 => .ok b (S1 ++ [(nm, b)]))
    else if (worthP vars S nm).2 = 0 then
      (match workP vars k S with
      | .bad e => .bad e
      | .ok b S1 => if (twoP (Lib.trimSuffix op [61]) (worthP vars S nm).1 b).2 = 0 then .ok (twoP (Lib.trimSuffix op [61]) (worthP vars S nm).1 b).1 (S1 ++ [(nm, (twoP (Lib.trimSuffix op [61]) (worthP vars S nm).1 b).1)]) else .bad (twoP (Lib.trimSuffix op [61]) (worthP vars S nm).1 b).2)
    else .bad (worthP vars S nm).2
  | .una op k, S => match workP vars k S with | .bad e => .bad e | .ok a S1 => .ok (unaP op a) S1
  | .cho a b c, S => match workP vars a S with | .bad e => .bad e | .ok v S1 => if v ≠ 0 then workP vars b S1 else workP vars c S1
  | .bin op a b, S =>
    match workP vars a S with
    | .bad e => .bad e
    | .ok v S1 =>
      if op = [38, 38] ∨ op = [124, 124] then
        (if decide (v ≠ 0) = decide (op = [124, 124]) then .ok (trI (decide (v ≠ 0))) S1
         else match workP vars b S1 with | .bad e => .bad e | .ok u S2 => .ok (trI (decide (u ≠ 0))) S2)
      else match workP vars b S1 with
        | .bad e => .bad e
        | .ok u S2 => if (twoP op v u).2 = 0 then .ok (twoP op v u).1 S2 else .bad (twoP op v u).2
/-- what an expression is worth, what it assigns, its error -/
def evalP (s : List UInt8) (vars : List (List UInt8 × List UInt8)) : Int × List Ass × Nat :=
 match readA s with
 | .bad e => (0, [], e)
 | .ok x => match workP vars x [] with
  | .bad e => (0, [], e)
  | .ok v S => (v, S, 0)
/-! ### small laws -/
theorem litU_hex {s : List UInt8} (h0 : nth s 0 0 = 48) (h : (decide ((1 : Int) < (s.length : Int)) && decide (nth s 1 0 ||| 32 = 120)) = true) : litU s = (16, 2) := by
 rw [Bool.and_eq_true, decide_eq_true_eq, decide_eq_true_eq] at h
 unfold litU
 rw [if_pos h0, if_pos ⟨by omega, h.2⟩]
theorem litU_oct {s : List UInt8} (h0 : nth s 0 0 = 48) (h : (decide ((1 : Int) < (s.length : Int)) && decide (nth s 1 0 ||| 32 = 120)) = false) : litU s = (8, 0) := by
 unfold litU
 rw [if_pos h0, if_neg]
 rintro ⟨h1, h2⟩
 rw [decide_eq_true (show (1 : Int) < (s.length : Int) by omega), decide_eq_true h2] at h
 cases h
theorem litU_dec {s : List UInt8} (h0 : ¬ nth s 0 0 = 48) : litU s = (10, 0) := by
 unfold litU
 rw [if_neg h0]
theorem litU_le {s : List UInt8} (h : s ≠ []) : (litU s).2 ≤ s.length := by
 have := List.length_pos_iff.2 h
 unfold litU
 split
 ·split
  ·rename_i h2; exact h2.1
  ·exact Nat.zero_le _
 ·exact Nat.zero_le _
theorem lowX_on {u : Nat} {c : UInt8} (h : ((decide ((u : Int) = 16) && decide ((65 : Int) ≤ (c.toNat : Int))) && decide ((c.toNat : Int) ≤ 70)) = true) : lowX u c = c ||| 32 := by
 simp only [Bool.and_eq_true, decide_eq_true_eq] at h
 unfold lowX
 rw [if_pos ⟨by omega, by omega, by omega⟩]
theorem lowX_off {u : Nat} {c : UInt8} (h : ((decide ((u : Int) = 16) && decide ((65 : Int) ≤ (c.toNat : Int))) && decide ((c.toNat : Int) ≤ 70)) = false) : lowX u c = c := by
 unfold lowX
 rw [if_neg]
 rintro ⟨h1, h2, h3⟩
 rw [decide_eq_true (show (u : Int) = 16 by omega), decide_eq_true (show (65 : Int) ≤ (c.toNat : Int) by omega), decide_eq_true (show (c.toNat : Int) ≤ 70 by omega)] at h
 cases h
theorem litG_end {u f i : Nat} {s : List UInt8} {n : Int} (h : ¬ i < s.length) : litG u s f n i = (n, i) := by
 cases f with
 | zero => rfl
 | succ f => rw [litG, if_neg h]
theorem litG_stop {u f i : Nat} {s : List UInt8} {n : Int} (h : digV u (nth s i 0) < 0) : litG u s f n i = (n, i) := by
 cases f with
 | zero => rfl
 | succ f => rw [litG]; split <;> rfl
theorem litG_step {u f i : Nat} {s : List UInt8} {n : Int} (hf : s.length - i ≤ f) (h : i < s.length) (hd : ¬ digV u (nth s i 0) < 0) : litG u s f n i = litG u s (f - 1) (w64 (w64 (n * (u : Int)) + digV u (nth s i 0))) (i + 1) := by
 obtain ⟨g, rfl⟩ : ∃ g, f = g + 1 := ⟨f - 1, by omega⟩
 rw [litG, if_pos h, if_neg hd]; rfl
theorem numLit_none {s : List UInt8} {n : Int} {i k : Nat} (hk : k = 1) (hr : litG (litU s).1 s s.length 0 (litU s).2 = (n, i)) (h : (decide ((i : Int) = ((litU s).2 : Int)) || (decide ((i : Int) < (s.length : Int)) && nameB ([95] ++ (s.drop i).take k))) = true) : numLit s = none := by
 subst hk
 unfold numLit
 simp only [hr]
 rw [if_pos]
 simp only [Bool.or_eq_true, Bool.and_eq_true, decide_eq_true_eq] at h
 rcases h with h | h
 ·exact .inl (by omega)
 ·exact .inr ⟨by omega, h.2⟩
theorem numLit_some {s : List UInt8} {n : Int} {i k : Nat} (hk : k = 1) (hr : litG (litU s).1 s s.length 0 (litU s).2 = (n, i)) (h : (decide ((i : Int) = ((litU s).2 : Int)) || (decide ((i : Int) < (s.length : Int)) && nameB ([95] ++ (s.drop i).take k))) = false) : numLit s = some (n, i) := by
 subst hk
 unfold numLit
 simp only [hr]
 rw [if_neg]
 rintro (h1 | ⟨h1, h2⟩)
 ·rw [decide_eq_true (show (i : Int) = ((litU s).2 : Int) by omega)] at h; cases h
 ·rw [h2, decide_eq_true (show (i : Int) < (s.length : Int) by omega)] at h
  simp at h
/-- what a literal tells -/
def litV (s : List UInt8) : Int × Nat := (numLit s).getD (0, 0)
def lxC (x : Lx) : List Value := [str x.text, .int .i64 x.worth, .int .i64 (x.what : Int)]
theorem lxC_ones (x : Lx) : ∀ u ∈ lxC x, u.oneCell' = true := fun u hu => by
 simp only [lxC, List.mem_cons, List.not_mem_nil, or_false] at hu
 rcases hu with rfl | rfl | rfl <;> rfl
theorem nameN_end {f n : Nat} {s : List UInt8} (h : ¬ (n < s.length ∧ nameB (s.take (n + 1)) = true)) : nameN f n s = n := by
 cases f with
 | zero => rfl
 | succ f => rw [nameN, if_neg h]
theorem nameN_step {f n : Nat} {s : List UInt8} (hf : s.length - n ≤ f) (h1 : n < s.length) (h2 : nameB (s.take (n + 1)) = true) : nameN f n s = nameN (f - 1) (n + 1) s := by
 obtain ⟨g, rfl⟩ : ∃ g, f = g + 1 := ⟨f - 1, by omega⟩
 rw [nameN, if_pos ⟨h1, h2⟩]; rfl
theorem sgnN_step {s : List UInt8} {n : Nat} (h : 0 < n) (hb : sgnB (s.take n) = false) : sgnN s n = sgnN s (n - 1) := by
 obtain ⟨m, rfl⟩ : ∃ m, n = m + 1 := ⟨n - 1, by omega⟩
 rw [sgnN, if_neg (by rw [hb]; simp)]; rfl
theorem sgnN_hit {s : List UInt8} {n : Nat} (h : 0 < n) (hb : sgnB (s.take n) = true) : sgnN s n = n := by
 obtain ⟨m, rfl⟩ : ∃ m, n = m + 1 := ⟨n - 1, by omega⟩
 rw [sgnN, if_pos hb]
theorem first_dig {s : List UInt8} (hne : s ≠ []) (hd : (decide ((48 : Int) ≤ ((nth s 0 0).toNat : Int)) && decide (((nth s 0 0).toNat : Int) ≤ 57)) = true) : firstP s = (match numLit s with | none => (oddL, 0) | some r => (⟨s.take r.2, r.1, 1⟩, r.2)) := by
 unfold firstP
 rw [if_neg hne, if_pos (show digitB' (nth s 0 0) = true from hd)]
theorem first_not {s : List UInt8} (hne : s ≠ []) (hd : (decide ((48 : Int) ≤ ((nth s 0 0).toNat : Int)) && decide (((nth s 0 0).toNat : Int) ≤ 57)) = false) : firstP s = if nameB (s.take 1) = true then (⟨s.take (nameN s.length 1 s), 0, 2⟩, nameN s.length 1 s)
 else if sgnN s (min 3 s.length) = 0 then (oddL, 0) else (⟨s.take (sgnN s (min 3 s.length)), 0, 3⟩, sgnN s (min 3 s.length)) := by
 unfold firstP
 rw [if_neg hne, if_neg (show ¬ digitB' (nth s 0 0) = true from fun h => by rw [show digitB' (nth s 0 0) = false from hd] at h; cases h)]
theorem litG_ge {u : Nat} {s : List UInt8} : ∀ (f : Nat) (n : Int) (i : Nat), i ≤ s.length → i ≤ (litG u s f n i).2 ∧ (litG u s f n i).2 ≤ s.length
 | 0, _, _, h => ⟨Nat.le_refl _, h⟩
 | f + 1, n, i, h => by
  rw [litG]
  split
  ·split
   ·exact ⟨Nat.le_refl _, h⟩
   ·rename_i h1 _
    have := litG_ge (u := u) f (w64 (w64 (n * (u : Int)) + digV u (nth s i 0))) (i + 1) h1
    exact ⟨by omega, this.2⟩
  ·exact ⟨Nat.le_refl _, h⟩
theorem numLit_le {s : List UInt8} (hne : s ≠ []) {r : Int × Nat} (h : numLit s = some r) : 0 < r.2 ∧ r.2 ≤ s.length := by
  have h1 := litG_ge (u := (litU s).1) (s := s) s.length 0 (litU s).2 (litU_le hne)
  unfold numLit at h
  simp only at h
  split at h
  · cases h
  · rename_i hc
    cases h
    exact ⟨by rcases Nat.eq_zero_or_pos (litG (litU s).1 s s.length 0 (litU s).2).2 with h0 | h0; · exact absurd (.inl (by omega)) hc
              · exact h0, h1.2⟩
theorem sgnN_le (s : List UInt8) : ∀ n, sgnN s n ≤ n
 | 0 => Nat.le_refl _
 | n + 1 => by
  rw [sgnN]; split
  ·exact Nat.le_refl _
  ·exact Nat.le_succ_of_le (sgnN_le s n)
theorem nameN_ge {s : List UInt8} : ∀ (f n : Nat), n ≤ s.length → n ≤ nameN f n s ∧ nameN f n s ≤ s.length
 | 0, n, h => ⟨Nat.le_refl _, h⟩
 | f + 1, n, h => by
  rw [nameN]; split
  ·rename_i hc
   have := nameN_ge f (n + 1) hc.1
   exact ⟨by omega, this.2⟩
  ·exact ⟨Nat.le_refl _, h⟩
theorem first_adv {t : List UInt8} (h : stopL (firstP t).1 = false) : 1 ≤ (firstP t).2 ∧ (firstP t).2 ≤ t.length := by
 unfold firstP at h ⊢
 split
 ·rename_i h0; rw [if_pos h0] at h; cases h
 ·rename_i h0
  have hp := List.length_pos_iff.2 h0
  rw [if_neg h0] at h
  split
  ·rename_i h1
   rw [if_pos h1] at h
   cases hn : numLit t with
   | none => rw [hn] at h; cases h
   | some r => exact numLit_le h0 hn
  ·rename_i h1
   rw [if_neg h1] at h
   split
   ·exact nameN_ge t.length 1 hp
   ·rename_i h2
    rw [if_neg h2] at h
    split
    ·rename_i h3; rw [if_pos h3] at h; cases h
    ·rename_i h3
     have := sgnN_le t (min 3 t.length)
     exact ⟨by show 1 ≤ sgnN t _; omega, by show sgnN t _ ≤ _; omega⟩
theorem trimL_le (s cs : List UInt8) : (Lib.trimLeftS s cs).length ≤ s.length := (List.dropWhile_sublist _).length_le
theorem lexG_len : ∀ (f : Nat) (t : List UInt8), (lexG f t).length ≤ t.length + 1
 | 0, _ => Nat.zero_le _
 | f + 1, t => by
  rw [lexG]
  split
  ·simp
  ·rename_i h
   have h1 := first_adv (t := t) (by simpa using h)
   have h2 := lexG_len f (Lib.trimLeftS (t.drop (firstP t).2) blS)
   have h3 := trimL_le (t.drop (firstP t).2) blS
   rw [List.length_drop] at h3
   rw [List.length_cons]; omega
theorem lexL_len (s : List UInt8) : (lexL s).length ≤ s.length + 1 := by
 have h1 := lexG_len (s.length + 1) (Lib.trimLeftS s blS)
 have h2 := trimL_le s blS
 unfold lexL; omega
theorem drop_one {α : Type} {l r : List α} {x : α} {n : Nat} (h : l.drop n = x :: r) : n < l.length ∧ l[n]? = some x ∧ l.drop (n + 1) = r := by
 have hn : n < l.length := by
  rcases Nat.lt_or_ge n l.length with h1 | h1
  ·exact h1
  ·rw [List.drop_eq_nil_of_le h1] at h; cases h
 rw [List.drop_eq_getElem_cons hn] at h
 cases h
 exact ⟨hn, List.getElem?_eq_getElem hn, rfl⟩
theorem lex_next {L : List Lx} {n f : Nat} {q : List UInt8} (h : L.drop n = lexG f q) (hf : q.length < f) : n < L.length ∧ L[n]? = some (firstP q).1 ∧ L.drop (n + 1) = (if stopL (firstP q).1 = true then [] else lexG (f - 1) (Lib.trimLeftS (q.drop (firstP q).2) blS)) := by
 obtain ⟨g, rfl⟩ : ∃ g, f = g + 1 := ⟨f - 1, by omega⟩
 exact drop_one h
theorem stop_of {x : Lx} {b c : Bool} (h : ((!c || decide ((x.what : Int) = 0)) || decide ((x.what : Int) = 4)) = b) (hc : c = true) : stopL x = b := by
 subst hc
 rw [← h]
 unfold stopL
 rw [show decide ((x.what : Int) = 0) = decide (x.what = 0) by by_cases h : x.what = 0 <;> simp [h] <;> omega, show decide ((x.what : Int) = 4) = decide (x.what = 4) by by_cases h : x.what = 4 <;> simp [h] <;> omega]
 rfl
/-- a lexeme handed on -/
def lxV (x : Lx) : List Value := [.agg (lxC x).toArray]
theorem lxV_one {L : List Lx} {n : Nat} {vs : List Value} (h : (L.map lxV)[n]? = some vs) : n < L.length ∧ vs = lxV (nth L n lx0) := by
 rw [List.getElem?_map] at h
 cases hx : L[n]? with
 | none => rw [hx] at h; cases h
 | some x =>
  rw [hx] at h
  cases h
  obtain ⟨hn, he⟩ := List.getElem?_eq_some_iff.1 hx
  exact ⟨hn, by rw [nth_eq hn, he]⟩
/-! ### lists of lexemes as readers hold them -/
/-- the last one stops; texts are not too long -/
def Tk (L : List Lx) : Prop := L ≠ [] ∧ stopL (nth L (L.length - 1) lx0) = true ∧ ∀ x ∈ L, x.text.length ≤ 900000000 ∧ (x.what = 2 → x.text ≠ [])
theorem Tk.pos {L : List Lx} (h : Tk L) : 1 ≤ L.length := List.length_pos_iff.2 h.1
theorem Tk.now2 {L : List Lx} (h : Tk L) : (nowL L).text.length ≤ 900000000 ∧ ((nowL L).what = 2 → (nowL L).text ≠ []) := h.2.2 _ (nth_mem (by have := h.pos; omega))
theorem Tk.now {L : List Lx} (h : Tk L) : (nowL L).text.length ≤ 900000000 := h.now2.1
theorem Tk.then {L : List Lx} (h : Tk L) : (thenL L).text.length ≤ 900000000 := (h.2.2 _ (nth_mem (by have := h.pos; split <;> omega))).1
theorem Tk.two {L : List Lx} (h : Tk L) (hs : stopL (nowL L) = false) : 2 ≤ L.length := by
 have h1 := h.pos
 rcases Nat.lt_or_ge L.length 2 with h2 | h2
 ·have h3 : L.length - 1 = 0 := by omega
  have h4 := h.2.1
  rw [h3] at h4
  rw [show nowL L = nth L 0 lx0 from rfl, h4] at hs
  cases hs
 ·exact h2
theorem nth_drop1 {α : Type} (l : List α) (i : Nat) (d : α) : nth (l.drop 1) i d = nth l (i + 1) d := by
 unfold nth
 rw [List.getD_eq_getElem?_getD, List.getD_eq_getElem?_getD, List.getElem?_drop, Nat.add_comm]
theorem Tk.step {L : List Lx} (h : Tk L) : Tk (stepL L) := by
 unfold stepL
 split
 ·exact h
 ·rename_i h1
  have h2 := h.pos
  have hl : (L.drop 1).length = L.length - 1 := List.length_drop
  refine ⟨List.length_pos_iff.1 (by omega), ?_, fun x hx => h.2.2 x (List.mem_of_mem_drop hx)⟩
  rw [nth_drop1, hl, show L.length - 1 - 1 + 1 = L.length - 1 by omega]
  exact h.2.1
theorem stepL_le (L : List Lx) : (stepL L).length ≤ L.length := by
 unfold stepL; split
 ·exact Nat.le_refl _
 ·rw [List.length_drop]; omega
theorem stepL_lt {L : List Lx} (h : Tk L) (hs : stopL (nowL L) = false) : (stepL L).length + 1 = L.length := by
 have := h.two hs
 unfold stepL
 rw [if_neg (by omega), List.length_drop]; omega
theorem nowL_step {L : List Lx} (h : L ≠ []) : nowL (stepL L) = thenL L := by
 unfold nowL thenL stepL
 split
 ·rfl
 ·rw [nth_drop1]
theorem thenL_step {L : List Lx} (h : L ≠ []) : thenL (stepL L) = nth (L.drop 2) 0 (thenL L) := by
 have hp := List.length_pos_iff.2 h
 unfold thenL stepL
 by_cases h1 : L.length = 1
 ·rw [if_pos h1, if_pos h1]
  rw [List.drop_eq_nil_of_le (by omega)]; rfl
 ·rw [if_neg h1, if_neg h1, List.length_drop]
  by_cases h2 : L.length = 2
  ·rw [if_pos (by omega), nth_drop1, List.drop_eq_nil_of_le (by omega : L.length ≤ 2)]; rfl
  ·rw [if_neg (by omega), nth_drop1]
   unfold nth
   rw [List.getD_eq_getElem?_getD, List.getD_eq_getElem?_getD, List.getElem?_drop]
   rw [List.getElem?_eq_getElem (show 1 + 1 < L.length by omega)]; rfl
theorem drop_step2 {L : List Lx} (h : L ≠ []) : (stepL L).drop 2 = (L.drop 2).drop 1 := by
 have hp := List.length_pos_iff.2 h
 unfold stepL
 split
 ·rw [List.drop_drop, List.drop_eq_nil_of_le (by omega), List.drop_eq_nil_of_le (by omega)]
 ·rw [List.drop_drop, List.drop_drop]
/-- what is read leaves the end of what was there -/
def Good (L : List Lx) (r : PA) : Prop := ∀ x L1, r = .ok x L1 → Tk L1 ∧ L1.length ≤ L.length
theorem good_bad {L : List Lx} {e : Nat} : Good L (.bad e) := fun _ _ h => by cases h
theorem good_ok {L L1 : List Lx} {x : Ex} (h : Tk L1) (hl : L1.length ≤ L.length) : Good L (.ok x L1) := fun _ _ h2 => by cases h2; exact ⟨h, hl⟩
structure GoodR (R : RdA) : Prop where
 asg : ∀ L, Tk L → Good L (R.asg L)
 cho : ∀ L, Tk L → Good L (R.cho L)
 opd : ∀ L, Tk L → Good L (R.opd L)
theorem good_opdP {R : RdA} (hR : GoodR R) {L : List Lx} (h : Tk L) : Good L (opdP R L) := by
 have hs := h.step
 have hl := stepL_le L
 unfold opdP
 split
 ·cases hr : R.opd (stepL L) with
  | bad e => exact good_bad
  | ok x L1 => have := hR.opd _ hs x L1 hr; exact good_ok this.1 (by omega)
 ·split
  ·cases hr : R.asg (stepL L) with
   | bad e => exact good_bad
   | ok x L1 =>
    have := hR.asg _ hs x L1 hr
    have h2 := stepL_le L1
    simp only
    split
    ·exact good_ok this.1.step (by omega)
    ·exact good_bad
  ·split
   ·exact good_ok hs hl
   ·split
    ·exact good_ok hs hl
    ·exact good_bad
theorem good_sidG {v : Nat} {next : List Lx → PA} (hn : ∀ L, Tk L → Good L (next L)) : ∀ (f : Nat) (x : Ex) (L : List Lx), Tk L → Good L (sidG v next f x L)
 | 0, x, L, h => good_ok h (Nat.le_refl _)
 | f + 1, x, L, h => by
  rw [sidG]
  split
  ·cases hr : next (stepL L) with
   | bad e => exact good_bad
   | ok y L1 =>
    have h1 := hn _ h.step y L1 hr
    have h2 := stepL_le L
    intro z L2 hz
    have h3 := good_sidG hn f _ L1 h1.1 z L2 hz
    exact ⟨h3.1, by omega⟩
  ·exact good_ok h (Nat.le_refl _)
theorem good_sidP {R : RdA} (hR : GoodR R) : ∀ (k : Nat) (L : List Lx), Tk L → Good L (sidP R k L)
 | 0, L, h => good_opdP hR h
 | k + 1, L, h => by
  rw [sidP]
  cases hr : sidP R k L with
  | bad e => exact good_bad
  | ok x L1 =>
   have h1 := good_sidP hR k L h x L1 hr
   intro z L2 hz
   have h3 := good_sidG (good_sidP hR k) _ _ _ h1.1 z L2 hz
   exact ⟨h3.1, by omega⟩
theorem good_choP {R : RdA} (hR : GoodR R) {L : List Lx} (h : Tk L) : Good L (choP R L) := by
 unfold choP
 cases hr : sidP R 10 L with
 | bad e => exact good_bad
 | ok x L1 =>
  have h1 := good_sidP hR 10 L h x L1 hr
  have hl1 := stepL_le L1
  simp only
  split
  ·cases ha : R.asg (stepL L1) with
   | bad e => exact good_bad
   | ok y L2 =>
    have h2 := hR.asg _ h1.1.step y L2 ha
    have hl2 := stepL_le L2
    simp only
    split
    ·cases hc : R.cho (stepL L2) with
     | bad e => exact good_bad
     | ok z L3 =>
      have h3 := hR.cho _ h2.1.step z L3 hc
      exact good_ok h3.1 (by omega)
    ·exact good_bad
  ·exact good_ok h1.1 h1.2
theorem good_asgP {R : RdA} (hR : GoodR R) {L : List Lx} (h : Tk L) : Good L (asgP R L) := by
 unfold asgP
 split
 ·cases hr : R.asg (stepL (stepL L)) with
  | bad e => exact good_bad
  | ok x L1 =>
   have := hR.asg _ h.step.step x L1 hr
   have h1 := stepL_le L
   have h2 := stepL_le (stepL L)
   exact good_ok this.1 (by omega)
 ·exact good_choP hR h
theorem good_rdA : ∀ n, GoodR (rdA n)
 | 0 => ⟨fun _ _ => good_bad, fun _ _ => good_bad, fun _ _ => good_bad⟩
 | n + 1 => ⟨fun _ h => good_asgP (good_rdA n) h, fun _ h => good_choP (good_rdA n) h, fun _ h => good_opdP (good_rdA n) h⟩
theorem first_text {t : List UInt8} {m : Nat} (ht : t.length ≤ m) : (firstP t).1.text.length ≤ m ∧ ((firstP t).1.what = 2 → (firstP t).1.text ≠ []) := by
 unfold firstP
 split
 ·exact ⟨Nat.zero_le _, fun h => by cases h⟩
 ·rename_i h0
  have hp := List.length_pos_iff.2 h0
  split
  ·cases numLit t with
   | none => exact ⟨Nat.zero_le _, fun h => by cases h⟩
   | some r => exact ⟨by show (t.take r.2).length ≤ _; rw [List.length_take]; omega, fun h => by cases h⟩
  ·split
   ·have hg := nameN_ge (s := t) t.length 1 hp
    exact ⟨by show (t.take _).length ≤ _; rw [List.length_take]; omega, fun _ => List.length_pos_iff.1 (by show 0 < (t.take _).length; rw [List.length_take]; omega)⟩
   ·split
    ·exact ⟨Nat.zero_le _, fun h => by cases h⟩
    ·exact ⟨by show (t.take _).length ≤ _; rw [List.length_take]; omega, fun h => by cases h⟩
theorem lexG_tk : ∀ (f : Nat) (t : List UInt8), t.length < f → t.length ≤ 900000000 → Tk (lexG f t)
 | 0, _, h, _ => absurd h (Nat.not_lt_zero _)
 | f + 1, t, h, ht => by
  rw [lexG]
  by_cases hs : stopL (firstP t).1 = true
  ·rw [if_pos hs]
   refine ⟨by simp, hs, fun x hx => ?_⟩
   rw [List.mem_singleton] at hx; subst hx; exact first_text ht
  ·rw [if_neg hs]
   have h1 := first_adv (t := t) (by simpa using hs)
   have h3 := trimL_le (t.drop (firstP t).2) blS
   rw [List.length_drop] at h3
   have ih := lexG_tk f (Lib.trimLeftS (t.drop (firstP t).2) blS) (by omega) (by omega)
   have hp := ih.pos
   refine ⟨by simp, ?_, fun x hx => ?_⟩
   ·rw [List.length_cons, show ∀ n, n + 1 - 1 = n from fun n => rfl]
    have h4 := ih.2.1
    rw [show (lexG f (Lib.trimLeftS (t.drop (firstP t).2) blS)).length = ((lexG f (Lib.trimLeftS (t.drop (firstP t).2) blS)).length - 1) + 1 by omega]
    exact h4
   ·rcases List.mem_cons.1 hx with rfl | hx
    ·exact first_text ht
    ·exact ih.2.2 x hx
theorem lexL_tk {s : List UInt8} (h : s.length ≤ 900000000) : Tk (lexL s) := by
 have := trimL_le s blS
 exact lexG_tk _ _ (by omega) (by omega)
end Go.Tri

/-
 Expressions: how great trees grow; operations on numbers of 64 bits.
-/
namespace Go.Tri
open Go.RowKit
/-- a tree is no greater than what was read -/
def Sz (L : List Lx) (r : PA) : Prop := ∀ x L1, r = .ok x L1 → szE x + L1.length ≤ L.length
theorem sz_bad {L : List Lx} {e : Nat} : Sz L (.bad e) := fun _ _ h => by cases h
theorem sz_ok {L L1 : List Lx} {x : Ex} (hl : szE x + L1.length ≤ L.length) : Sz L (.ok x L1) := fun _ _ h2 => by cases h2; exact hl
structure SzR (R : RdA) : Prop where
 asg : ∀ L, Tk L → Sz L (R.asg L)
 cho : ∀ L, Tk L → Sz L (R.cho L)
 opd : ∀ L, Tk L → Sz L (R.opd L)
theorem isL_stop {L : List Lx} {t : List UInt8} (h : isL L t = true) : stopL (nowL L) = false := by
 unfold isL at h
 rw [Bool.and_eq_true, decide_eq_true_eq] at h
 unfold stopL; rw [h.1]; rfl
theorem una_stop {L : List Lx} (h : unaB L = true) : stopL (nowL L) = false := by
 unfold unaB at h
 simp only [Bool.or_eq_true] at h
 rcases h with ((h | h) | h) | h <;> exact isL_stop h
theorem what_stop {L : List Lx} {n : Nat} (h : (nowL L).what = n) (hn : n ≠ 0 ∧ n ≠ 4) : stopL (nowL L) = false := by
 unfold stopL
 rw [h, decide_eq_false hn.1, decide_eq_false hn.2]; rfl
theorem binB_stop {v : Nat} {L : List Lx} (h : binB v L = true) : stopL (nowL L) = false := by
 unfold binB at h
 rw [Bool.and_eq_true, decide_eq_true_eq] at h
 exact what_stop h.1 (by decide)
theorem asgB_stop {L : List Lx} (h : asgB L = true) : stopL (nowL L) = false ∧ stopL (thenL L) = false := by
 unfold asgB at h
 rw [Bool.and_eq_true, Bool.and_eq_true, decide_eq_true_eq, decide_eq_true_eq] at h
 refine ⟨what_stop h.1.1 (by decide), ?_⟩
 unfold stopL; rw [h.1.2]; rfl
theorem sz_opdP {R : RdA} (hR : SzR R) (hG : GoodR R) {L : List Lx} (h : Tk L) : Sz L (opdP R L) := by
 have hs := h.step
 unfold opdP
 split
 ·rename_i hu
  have hl := stepL_lt h (una_stop hu)
  cases hr : R.opd (stepL L) with
  | bad e => exact sz_bad
  | ok x L1 => have := hR.opd _ hs x L1 hr; exact sz_ok (by simp only [szE]; omega)
 ·split
  ·rename_i hp
   have hl := stepL_lt h (isL_stop hp)
   cases hr : R.asg (stepL L) with
   | bad e => exact sz_bad
   | ok x L1 =>
    have := hR.asg _ hs x L1 hr
    have h2 := stepL_le L1
    simp only
    split
    ·exact sz_ok (by omega)
    ·exact sz_bad
  ·split
   ·rename_i hw
    have hl := stepL_lt h (what_stop hw (by decide))
    exact sz_ok (by simp only [szE]; omega)
   ·split
    ·rename_i hw
     have hl := stepL_lt h (what_stop hw (by decide))
     exact sz_ok (by simp only [szE]; omega)
    ·exact sz_bad
theorem sz_sidG {v : Nat} {next : List Lx → PA} (hn : ∀ L, Tk L → Sz L (next L)) (hg : ∀ L, Tk L → Good L (next L)) : ∀ (f : Nat) (x : Ex) (L : List Lx), Tk L → ∀ y L1, sidG v next f x L = .ok y L1 → szE y + L1.length ≤ szE x + L.length
 | 0, x, L, _, y, L1, h => by cases h; exact Nat.le_refl _
 | f + 1, x, L, h, y, L1, hy => by
  rw [sidG] at hy
  split at hy
  ·rename_i hb
   have hl := stepL_lt h (binB_stop hb)
   cases hr : next (stepL L) with
   | bad e => rw [hr] at hy; cases hy
   | ok z L2 =>
    rw [hr] at hy
    have h1 := hn _ h.step z L2 hr
    have h2 := sz_sidG hn hg f _ L2 (hg _ h.step z L2 hr).1 y L1 hy
    simp only [szE] at h2
    omega
  ·cases hy; exact Nat.le_refl _
theorem sz_sidP {R : RdA} (hR : SzR R) (hG : GoodR R) : ∀ (k : Nat) (L : List Lx), Tk L → Sz L (sidP R k L)
 | 0, L, h => sz_opdP hR hG h
 | k + 1, L, h => by
  rw [sidP]
  cases hr : sidP R k L with
  | bad e => exact sz_bad
  | ok x L1 =>
   have h1 := sz_sidP hR hG k L h x L1 hr
   have h2 := good_sidP hG k L h x L1 hr
   intro z L2 hz
   have h3 := sz_sidG (sz_sidP hR hG k) (good_sidP hG k) _ _ _ h2.1 z L2 hz
   omega
theorem sz_choP {R : RdA} (hR : SzR R) (hG : GoodR R) {L : List Lx} (h : Tk L) : Sz L (choP R L) := by
 unfold choP
 cases hr : sidP R 10 L with
 | bad e => exact sz_bad
 | ok x L1 =>
  have h1 := sz_sidP hR hG 10 L h x L1 hr
  have g1 := good_sidP hG 10 L h x L1 hr
  simp only
  split
  ·rename_i hq
   have hl1 := stepL_lt g1.1 (isL_stop hq)
   cases ha : R.asg (stepL L1) with
   | bad e => exact sz_bad
   | ok y L2 =>
    have h2 := hR.asg _ g1.1.step y L2 ha
    have g2 := hG.asg _ g1.1.step y L2 ha
    simp only
    split
    ·rename_i hc
     have hl2 := stepL_lt g2.1 (isL_stop hc)
     cases hc2 : R.cho (stepL L2) with
     | bad e => exact sz_bad
     | ok z L3 =>
      have h3 := hR.cho _ g2.1.step z L3 hc2
      exact sz_ok (by simp only [szE]; omega)
    ·exact sz_bad
  ·exact sz_ok h1
theorem sz_asgP {R : RdA} (hR : SzR R) (hG : GoodR R) {L : List Lx} (h : Tk L) : Sz L (asgP R L) := by
 unfold asgP
 split
 ·rename_i ha
  have hl := stepL_lt h (asgB_stop ha).1
  cases hr : R.asg (stepL (stepL L)) with
  | bad e => exact sz_bad
  | ok x L1 =>
   have := hR.asg _ h.step.step x L1 hr
   have h2 := stepL_le (stepL L)
   exact sz_ok (by simp only [szE]; omega)
 ·exact sz_choP hR hG h
theorem sz_rdA : ∀ n, SzR (rdA n)
 | 0 => ⟨fun _ _ => sz_bad, fun _ _ => sz_bad, fun _ _ => sz_bad⟩
 | n + 1 => ⟨fun _ h => sz_asgP (sz_rdA n) (good_rdA n) h, fun _ h => sz_choP (sz_rdA n) (good_rdA n) h, fun _ h => sz_opdP (sz_rdA n) (good_rdA n) h⟩
theorem readA_sz {s : List UInt8} {x : Ex} (hs : s.length ≤ 900000000) (h : readA s = .ok x) : szE x ≤ s.length + 1 := by
 unfold readA at h
 split at h
 ·cases h; simp only [szE]; omega
 ·cases hr : (rdA 25).asg (lexL s) with
  | bad e => rw [hr] at h; cases h
  | ok y L =>
   rw [hr] at h
   simp only at h
   split at h
   ·cases h
    have h1 := (sz_rdA 25).asg _ (lexL_tk hs) x L hr
    have h2 := lexL_len s
    have h3 := ((good_rdA 25).asg _ (lexL_tk hs) x L hr).1.pos
    omega
   ·cases h
theorem workP_len {vars : List (List UInt8 × List UInt8)} : ∀ (x : Ex) (S S1 : List Ass) (v : Int), workP vars x S = .ok v S1 → S1.length ≤ S.length + szE x
 | .num n, S, S1, v, h => by cases h; omega
 | .var nm, S, S1, v, h => by
  simp only [workP] at h
  split at h
  ·cases h; omega
  ·cases h
 | .asg op nm k, S, S1, v, h => by
  simp only [workP] at h
  split at h
  ·cases hk : workP vars k S with
   | bad e => rw [hk] at h; cases h
   | ok b S2 =>
    rw [hk] at h; cases h
    have := workP_len k S S2 v hk
    rw [List.length_append, List.length_singleton]; simp only [szE]; omega
  ·split at h
   ·cases hk : workP vars k S with
    | bad e => rw [hk] at h; cases h
    | ok b S2 =>
     rw [hk] at h
     simp only at h
     split at h
     ·cases h
      have := workP_len k S S2 b hk
      rw [List.length_append, List.length_singleton]; simp only [szE]; omega
     ·cases h
   ·cases h
 | .una op k, S, S1, v, h => by
  simp only [workP] at h
  cases hk : workP vars k S with
  | bad e => rw [hk] at h; cases h
  | ok b S2 =>
   rw [hk] at h; cases h
   have := workP_len k S S1 b hk
   simp only [szE]; omega
 | .cho a b c, S, S1, v, h => by
  simp only [workP] at h
  cases hk : workP vars a S with
  | bad e => rw [hk] at h; cases h
  | ok u S2 =>
   rw [hk] at h
   simp only at h
   have h1 := workP_len a S S2 u hk
   simp only [szE]
   split at h
   ·have := workP_len b S2 S1 v h; omega
   ·have := workP_len c S2 S1 v h; omega
 | .bin op a b, S, S1, v, h => by
  simp only [workP] at h
  cases hk : workP vars a S with
  | bad e => rw [hk] at h; cases h
  | ok u S2 =>
   rw [hk] at h
   simp only at h
   have h1 := workP_len a S S2 u hk
   simp only [szE]
   split at h
   ·split at h
    ·cases h; omega
    ·cases hb : workP vars b S2 with
     | bad e => rw [hb] at h; cases h
     | ok t S3 =>
      rw [hb] at h; cases h
      have := workP_len b S2 S1 t hb; omega
   ·cases hb : workP vars b S2 with
    | bad e => rw [hb] at h; cases h
    | ok t S3 =>
     rw [hb] at h
     simp only at h
     split at h
     ·cases h
      have := workP_len b S2 S1 t hb; omega
     ·cases h
/-! ### trees in general -/
def opE : Ex → List UInt8
 | .num _ => []
 | .var _ => [110, 97, 109, 101]
 | .asg op _ _ => op
 | .una op _ => op
 | .bin op _ _ => op
 | .cho _ _ _ => [63]
def nmE : Ex → List UInt8
 | .var nm => nm
 | .asg _ nm _ => nm
 | _ => []
def nE : Ex → Int
 | .num n => n
 | _ => 0
def kidsE : Ex → List Ex
 | .num _ => []
 | .var _ => []
 | .asg _ _ k => [k]
 | .una _ k => [k]
 | .bin _ a b => [a, b]
 | .cho a b c => [a, b, c]
/-! ### variables, assignments -/
/-- a variable -/
structure Vr where
 name : List UInt8
 value : List UInt8
 e : Bool
 r : Bool
 u : Bool
def vr0 : Vr := ⟨[], [], false, false, false⟩
def vrC (v : Vr) : List Value := [str v.name, str v.value, .bool v.e, .bool v.r, .bool v.u]
def Vr.nv (v : Vr) : List UInt8 × List UInt8 := (v.name, v.value)
def as0 : Ass := ([], 0)
def asC (a : Ass) : List Value := [str a.1, .int .i64 a.2]
theorem asC_ones (a : Ass) : ∀ u ∈ asC a, u.oneCell' = true := fun u hu => by
 simp only [asC, List.mem_cons, List.not_mem_nil, or_false] at hu
 rcases hu with rfl | rfl <;> rfl
theorem rds_vr {w0 : World} {I : Look} {H : List HA} {v : Value} {l : List Vr} (h : Sl I 5 v (l.map vrC)) {i : Nat} (hi : i < l.length) : Rds w0 I H (adr v).block ((adr v).off + i * 5) (vrC (nth l i vr0)) := h.rds (map_getD l vrC vr0 hi)
theorem rd_vrf {w0 : World} {I : Look} {H : List HA} {v : Value} {l : List Vr} (h : Sl I 5 v (l.map vrC)) {i j : Nat} {u : Value} (hi : i < l.length) (hu : (vrC (nth l i vr0))[j]? = some u) : Rd w0 I H (adr v).block ((adr v).off + i * 5 + j) u := h.rd (map_getD l vrC vr0 hi) hu
theorem rds_as {w0 : World} {I : Look} {H : List HA} {v : Value} {l : List Ass} (h : Sl I 2 v (l.map asC)) {i : Nat} (hi : i < l.length) : Rds w0 I H (adr v).block ((adr v).off + i * 2) (asC (nth l i as0)) := h.rds (map_getD l asC as0 hi)
/-- from the back: place and assignment -/
def bwV (S : List Ass) (k : Nat) : List Value := [.int .i64 ((S.length - 1 - k : Nat) : Int), .agg (asC (nth S (S.length - 1 - k) as0)).toArray]
def bwS (S : List Ass) : List (List Value) := (List.range S.length).map (bwV S)
theorem bwS_at {S : List Ass} {k : Nat} (h : k < S.length) : (bwS S)[k]? = some (bwV S k) := by
 unfold bwS
 rw [List.getElem?_map, List.getElem?_range h]; rfl
theorem bwS_of {S : List Ass} {k : Nat} {vs : List Value} (h : (bwS S)[k]? = some vs) : k < S.length ∧ vs = bwV S k := by
 have hk : k < S.length := by
  have := (List.getElem?_eq_some_iff.1 h).1
  simpa [bwS] using this
 rw [bwS_at hk] at h
 exact ⟨hk, (Option.some.inj h).symm⟩
theorem bwS_one {S : List Ass} : ∀ vs ∈ bwS S, vs.length = 2 := fun vs h => by
 obtain ⟨x, _, rfl⟩ := List.mem_map.1 h; rfl
theorem bwS_len (S : List Ass) : (bwS S).length = S.length := by unfold bwS; rw [List.length_map, List.length_range]
theorem find_back {n : List UInt8} : ∀ (S : List Ass) (k : Nat), k < S.length → (∀ j, j < k → (nth S (S.length - 1 - j) as0).1 ≠ n) → (nth S (S.length - 1 - k) as0).1 = n → S.reverse.find? (fun a => decide (a.1 = n)) = some (nth S (S.length - 1 - k) as0) := by
 intro S k hk hno hit
 have hr : ∀ j, j < S.length → S.reverse[j]? = some (nth S (S.length - 1 - j) as0) := fun j hj => by
  rw [List.getElem?_reverse hj, get_nth (d := as0) (by omega)]
 have hsplit : S.reverse = S.reverse.take k ++ (nth S (S.length - 1 - k) as0) :: S.reverse.drop (k + 1) := by
  have hk' : k < S.reverse.length := by rw [List.length_reverse]; exact hk
  conv => lhs; rw [← List.take_append_drop k S.reverse, List.drop_eq_getElem_cons hk']
  have := hr k hk
  rw [List.getElem?_eq_getElem hk'] at this
  rw [Option.some.inj this]
 rw [hsplit, List.find?_append]
 have h0 : (S.reverse.take k).find? (fun a => decide (a.1 = n)) = none := by
  rw [List.find?_eq_none]
  intro x hx
  obtain ⟨j, hj, rfl⟩ := List.getElem_of_mem hx
  rw [List.length_take, List.length_reverse] at hj
  have h2 := hr j (by omega)
  rw [List.getElem?_eq_getElem (by rw [List.length_reverse]; omega)] at h2
  rw [List.getElem_take, Option.some.inj h2]
  simpa using hno j (by omega)
 rw [h0, List.find?_cons_of_pos (by simpa using hit)]; rfl
theorem find_none {n : List UInt8} {S : List Ass} (hno : ∀ j, j < S.length → (nth S (S.length - 1 - j) as0).1 ≠ n) : S.reverse.find? (fun a => decide (a.1 = n)) = none := by
 rw [List.find?_eq_none]
 intro x hx
 rw [List.mem_reverse] at hx
 obtain ⟨j, hj, rfl⟩ := List.getElem_of_mem hx
 have := hno (S.length - 1 - j) (by omega)
 rw [show S.length - 1 - (S.length - 1 - j) = j by omega, nth_eq hj] at this
 simpa using this
/-- the first variable of a name -/
def vIdx (n : List UInt8) : List Vr → Nat → Int
 | [], _ => -1
 | v :: r, i => if v.name = n then (i : Int) else vIdx n r (i + 1)
theorem vIdx_find {n : List UInt8} : ∀ (l : List Vr) (i : Nat), (vIdx n l i = -1 ∧ l.find? (fun v => decide (v.name = n)) = none) ∨ (∃ k, k < l.length ∧ vIdx n l i = ((i + k : Nat) : Int) ∧ l.find? (fun v => decide (v.name = n)) = some (nth l k vr0))
 | [], _ => .inl ⟨rfl, rfl⟩
 | v :: r, i => by
  rw [vIdx, List.find?_cons]
  by_cases h : v.name = n
  ·rw [if_pos h, decide_eq_true h]
   exact .inr ⟨0, Nat.succ_pos _, rfl, rfl⟩
  ·rw [if_neg h, decide_eq_false h]
   rcases vIdx_find r (i + 1) with ⟨h1, h2⟩ | ⟨k, h1, h2, h3⟩
   ·exact .inl ⟨h1, h2⟩
   ·exact .inr ⟨k + 1, by rw [List.length_cons]; omega, by rw [h2]; congr 1; omega, h3⟩
theorem find_nv {n : List UInt8} : ∀ (l : List Vr), (l.map Vr.nv).find? (fun v => decide (v.1 = n)) = (l.find? (fun v => decide (v.name = n))).map Vr.nv
 | [] => rfl
 | v :: r => by
  rw [List.map_cons, List.find?_cons, List.find?_cons]
  show (match decide (v.name = n) with | true => some v.nv | false => _) = _
  cases decide (v.name = n) with
  | true => rfl
  | false => exact find_nv r
/-! ### operations -/
section ops
variable {C : Cx} {E : Env} {I : Look} {H : List HA} {o : Oper} {x y : Operand} {t t' : TypeId} {a b : Int}
theorem q_and (ho : o.op = .binOp .and t x y t') (hx : ev E x = some (.int .i64 a)) (hy : ev E y = some (.int .i64 b)) : Quiet C E I H o (.int .i64 (andI a b)) :=
 quiet_bin ho hx hy fun w => by simp [go_sem, eqGuard, Op.intBits, andI, w64, IntKind.bits]; rfl
theorem q_or (ho : o.op = .binOp .or t x y t') (hx : ev E x = some (.int .i64 a)) (hy : ev E y = some (.int .i64 b)) : Quiet C E I H o (.int .i64 (orI a b)) :=
 quiet_bin ho hx hy fun w => by simp [go_sem, eqGuard, Op.intBits, orI, w64, IntKind.bits]; rfl
theorem q_xor (ho : o.op = .binOp .xor t x y t') (hx : ev E x = some (.int .i64 a)) (hy : ev E y = some (.int .i64 b)) : Quiet C E I H o (.int .i64 (xorI a b)) :=
 quiet_bin ho hx hy fun w => by simp [go_sem, eqGuard, Op.intBits, xorI, w64, IntKind.bits]; rfl
theorem q_shl {k : IntKind} (ho : o.op = .binOp .shl t x y t') (hx : ev E x = some (.int .i64 a)) (hy : ev E y = some (.int k b)) (h : 0 ≤ b) : Quiet C E I H o (.int .i64 (shlI a b)) :=
 quiet_bin ho hx hy fun w => by
  have h1 : ¬ b < 0 := by omega
  simp [go_sem, eqGuard, Op.shift, h1, shlI, w64, IntKind.bits]
theorem q_shr {k : IntKind} (ho : o.op = .binOp .shr t x y t') (hx : ev E x = some (.int .i64 a)) (hy : ev E y = some (.int k b)) (h : 0 ≤ b) : Quiet C E I H o (.int .i64 (shrI a b)) :=
 quiet_bin ho hx hy fun w => by
  have h1 : ¬ b < 0 := by omega
  simp [go_sem, eqGuard, Op.shift, h1, shrI, IntKind.bits]
theorem q_unxor (ho : o.op = .unOp .xor t x) (hx : ev E x = some (.int .i64 a)) : Quiet C E I H o (.int .i64 (xorI (-1) a)) :=
 quiet_run (by rw [ho]; rfl) fun r w hs _ => by
  simp only [execOp, ho, hs.ev hx, Op.unary]
  rfl
theorem and63 (b : Int) : 0 ≤ andI b 63 ∧ andI b 63 < 64 := by
 unfold andI w64
 have h : ((BitVec.ofInt 64 b) &&& (BitVec.ofInt 64 63)).toNat < 64 := by
  rw [BitVec.toNat_and]
  have : (BitVec.ofInt 64 63).toNat = 63 := by decide
  rw [this]
  exact Nat.lt_of_le_of_lt Nat.and_le_right (by decide)
 rw [wrap_i64 (by omega)]
 omega
end ops
end Go.Tri

/-
 What an expression is worth is a whole number of 64 bits.
-/
namespace Go.Tri
open Go.RowKit
variable {m : Nat}
def In64 (a : Int) : Prop := -9223372036854775808 ≤ a ∧ a ≤ 9223372036854775807
theorem w64_I (a : Int) : In64 (w64 a) := by
 unfold In64 w64
 rw [IntKind.wrap_i64]
 omega
theorem z_I : In64 0 := by unfold In64; decide
theorem tr_I (b : Bool) : In64 (trI b) := by unfold In64 trI; split <;> decide
theorem litG_I (u : Nat) (s : List UInt8) : ∀ (f : Nat) (n : Int) (i : Nat), In64 n → In64 (litG u s f n i).1
 | 0, n, i, h => h
 | f + 1, n, i, h => by
  rw [litG]
  split
  ·split
   ·exact h
   ·exact litG_I u s f _ _ (w64_I _)
  ·exact h
theorem numLit_I {s : List UInt8} {r : Int × Nat} (h : numLit s = some r) : In64 r.1 := by
 unfold numLit at h
 simp only at h
 split at h
 ·cases h
 ·cases h; exact litG_I _ _ _ _ _ z_I
theorem firstP_I (s : List UInt8) : In64 (firstP s).1.worth := by
 unfold firstP
 split
 ·exact z_I
 ·split
  ·split
   ·exact z_I
   ·rename_i r hr; exact numLit_I hr
  ·split
   ·exact z_I
   ·split <;> exact z_I
def LxOk (m : Nat) (L : List Lx) : Prop := ∀ l ∈ L, In64 l.worth ∧ l.text.length ≤ m
theorem lexG_I : ∀ (f : Nat) (t : List UInt8), t.length ≤ m → LxOk m (lexG f t)
 | 0, t, _ => fun l hl => by cases hl
 | f + 1, t, ht => fun l hl => by
  rw [lexG] at hl
  rcases List.mem_cons.1 hl with rfl | hl
  ·exact ⟨firstP_I _, (first_text ht).1⟩
  ·split at hl
   ·cases hl
   ·have h1 := trimL_le (t.drop (firstP t).2) blS
    rw [List.length_drop] at h1
    exact lexG_I f _ (by omega) l hl
theorem lexL_I {s : List UInt8} (hs : s.length ≤ m) : LxOk m (lexL s) := by
 have := trimL_le s blS
 exact lexG_I _ _ (by omega)
theorem step_I {L : List Lx} (h : LxOk m L) : LxOk m (stepL L) := fun l hl => by
 unfold stepL at hl
 split at hl
 ·exact h l hl
 ·exact h l (List.mem_of_mem_drop hl)
theorem now_I {L : List Lx} (h : LxOk m L) : In64 (nowL L).worth := by
 unfold nowL
 cases L with
 | nil => exact z_I
 | cons a L => exact (h a (List.mem_cons_self)).1
theorem nowT {L : List Lx} (h : LxOk m L) : (nowL L).text.length ≤ m := by
 unfold nowL
 cases L with
 | nil => exact Nat.zero_le _
 | cons a L => exact (h a (List.mem_cons_self)).2
def NumOk (m : Nat) : Ex → Prop
 | .num n => In64 n
 | .var _ => True
 | .asg _ nm k => nm.length ≤ m ∧ NumOk m k
 | .una _ k => NumOk m k
 | .bin _ a b => NumOk m a ∧ NumOk m b
 | .cho a b c => NumOk m a ∧ NumOk m b ∧ NumOk m c
def Gd (m : Nat) (r : PA) : Prop := ∀ x L, r = .ok x L → NumOk m x ∧ LxOk m L
theorem bad_Gd {e : Nat} : Gd m (.bad e) := fun _ _ h => by cases h
theorem ok_Gd {x : Ex} {L : List Lx} (h1 : NumOk m x) (h2 : LxOk m L) : Gd m (.ok x L) := fun _ _ h => by cases h; exact ⟨h1, h2⟩
structure RdOk (m : Nat) (R : RdA) : Prop where
 asg : ∀ L, LxOk m L → Gd m (R.asg L)
 cho : ∀ L, LxOk m L → Gd m (R.cho L)
 opd : ∀ L, LxOk m L → Gd m (R.opd L)
theorem opd_Gd {R : RdA} (hR : RdOk m R) {L : List Lx} (h : LxOk m L) : Gd m (opdP R L) := by
 unfold opdP
 split
 ·have h1 := hR.opd _ (step_I h)
  cases hr : R.opd (stepL L) with
  | bad e => exact bad_Gd
  | ok x L1 => obtain ⟨h2, h3⟩ := h1 _ _ hr; exact ok_Gd h2 h3
 ·split
  ·have h1 := hR.asg _ (step_I h)
   cases hr : R.asg (stepL L) with
   | bad e => exact bad_Gd
   | ok x L1 =>
    obtain ⟨h2, h3⟩ := h1 _ _ hr
    simp only
    split
    ·exact ok_Gd h2 (step_I h3)
    ·exact bad_Gd
  ·split
   ·exact ok_Gd (now_I h) (step_I h)
   ·split
    ·exact ok_Gd trivial (step_I h)
    ·exact bad_Gd
theorem sidG_Gd {v : Nat} {next : List Lx → PA} (hn : ∀ L, LxOk m L → Gd m (next L)) : ∀ (f : Nat) (x : Ex) (L : List Lx), NumOk m x → LxOk m L → Gd m (sidG v next f x L)
 | 0, x, L, hx, h => ok_Gd hx h
 | f + 1, x, L, hx, h => by
  rw [sidG]
  split
  ·have h1 := hn _ (step_I h)
   cases hr : next (stepL L) with
   | bad e => exact bad_Gd
   | ok y L1 => obtain ⟨h2, h3⟩ := h1 _ _ hr; exact sidG_Gd hn f _ _ ⟨hx, h2⟩ h3
  ·exact ok_Gd hx h
theorem sid_Gd {R : RdA} (hR : RdOk m R) : ∀ (k : Nat) (L : List Lx), LxOk m L → Gd m (sidP R k L)
 | 0, L, h => opd_Gd hR h
 | k + 1, L, h => by
  rw [sidP]
  have h1 := sid_Gd hR k L h
  cases hr : sidP R k L with
  | bad e => exact bad_Gd
  | ok x L1 => obtain ⟨h2, h3⟩ := h1 _ _ hr; exact sidG_Gd (fun L h => sid_Gd hR k L h) _ _ _ h2 h3
theorem cho_Gd {R : RdA} (hR : RdOk m R) {L : List Lx} (h : LxOk m L) : Gd m (choP R L) := by
 unfold choP
 have h1 := sid_Gd hR 10 L h
 cases hr : sidP R 10 L with
 | bad e => exact bad_Gd
 | ok x L1 =>
  obtain ⟨h2, h3⟩ := h1 _ _ hr
  simp only
  split
  ·have h4 := hR.asg _ (step_I h3)
   cases hr2 : R.asg (stepL L1) with
   | bad e => exact bad_Gd
   | ok y L2 =>
    obtain ⟨h5, h6⟩ := h4 _ _ hr2
    simp only
    split
    ·have h7 := hR.cho _ (step_I h6)
     cases hr3 : R.cho (stepL L2) with
     | bad e => exact bad_Gd
     | ok z L3 => obtain ⟨h8, h9⟩ := h7 _ _ hr3; exact ok_Gd ⟨h2, h5, h8⟩ h9
    ·exact bad_Gd
  ·exact ok_Gd h2 h3
theorem asg_Gd {R : RdA} (hR : RdOk m R) {L : List Lx} (h : LxOk m L) : Gd m (asgP R L) := by
 unfold asgP
 split
 ·have h1 := hR.asg _ (step_I (step_I h))
  cases hr : R.asg (stepL (stepL L)) with
  | bad e => exact bad_Gd
  | ok x L1 => obtain ⟨h2, h3⟩ := h1 _ _ hr; exact ok_Gd ⟨nowT h, h2⟩ h3
 ·exact cho_Gd hR h
theorem rdA_ok : ∀ n, RdOk m (rdA n)
 | 0 => ⟨fun _ _ => bad_Gd, fun _ _ => bad_Gd, fun _ _ => bad_Gd⟩
 | n + 1 => ⟨fun _ h => asg_Gd (rdA_ok n) h, fun _ h => cho_Gd (rdA_ok n) h, fun _ h => opd_Gd (rdA_ok n) h⟩
theorem readA_I {s : List UInt8} {x : Ex} (hs : s.length ≤ m) (h : readA s = .ok x) : NumOk m x := by
 unfold readA at h
 split at h
 ·cases h; exact z_I
 ·cases hr : (rdA 25).asg (lexL s) with
  | bad e => rw [hr] at h; cases h
  | ok y L =>
   rw [hr] at h
   simp only at h
   split at h
   ·cases h; exact ((rdA_ok 25).asg _ (lexL_I hs) _ _ hr).1
   ·cases h
/-! ### worth -/
theorem shr_I {a n : Int} (h : In64 a) : In64 (shrI a n) := by
 unfold shrI
 have hp : (0 : Int) < 2 ^ (min n.toNat 64) := Int.pow_pos (by decide)
 have h1 : (1 : Int) ≤ 2 ^ (min n.toNat 64) := hp
 generalize (2 : Int) ^ (min n.toNat 64) = d at *
 unfold In64 at *
 rw [Int.fdiv_eq_ediv_of_nonneg _ (by omega)]
 rcases Int.lt_or_le a 0 with h0 | h0
 ·have h2 : a ≤ a / d := by
   rw [Int.le_ediv_iff_mul_le hp]
   have h8 : (-a) * 1 ≤ (-a) * d := Int.mul_le_mul_of_nonneg_left h1 (by omega)
   rw [Int.neg_mul, Int.neg_mul] at h8
   omega
  have h3 : a / d < 0 := Int.ediv_neg_of_neg_of_pos h0 hp
  omega
 ·have h2 : a / d ≤ a := Int.ediv_le_self _ h0
  have h3 : 0 ≤ a / d := Int.ediv_nonneg h0 (by omega)
  omega
theorem mod_I {a b : Int} (ha : In64 a) : In64 (a.tmod b) := by
 have h1 := Int.natAbs_tmod a b
 have h2 : (a.tmod b).natAbs ≤ a.natAbs := by rw [h1]; exact Nat.mod_le _ _
 unfold In64 at *
 rcases Int.lt_or_le a 0 with h0 | h0
 ·have h4 : a.tmod b ≤ 0 := by
   have h5 := Int.tmod_nonneg (a := -a) b (by omega)
   rw [Int.neg_tmod] at h5
   omega
  omega
 ·have h5 := Int.tmod_nonneg (a := a) b h0
  omega
theorem ite_I {c : Prop} [Decidable c] {x y : Int × Nat} (hx : In64 x.1) (hy : In64 y.1) : In64 (if c then x else y).1 := by
 by_cases h : c
 ·rw [if_pos h]; exact hx
 ·rw [if_neg h]; exact hy
theorem two_I {op : List UInt8} {a b : Int} (ha : In64 a) (hb : In64 b) : In64 (twoP op a b).1 := by
 unfold twoP
 repeat' (first | exact w64_I _ | exact tr_I _ | exact z_I | exact shr_I ha | exact ha | exact mod_I ha | refine ite_I ?_ ?_)
theorem numW_I (t : List UInt8) : In64 (numW t).1 := by
 unfold numW
 simp only
 refine ite_I z_I (ite_I z_I ?_)
 generalize (if nth (Lib.trimS t blS) 0 0 = 45 ∨ nth (Lib.trimS t blS) 0 0 = 43 then (Lib.trimS t blS).drop 1 else Lib.trimS t blS) = r
 cases hq : numLit r with
 | none => exact z_I
 | some q =>
  have h1 := numLit_I hq
  refine ite_I ?_ z_I
  show In64 (if nth (Lib.trimS t blS) 0 0 = 45 then w64 (-q.1) else q.1)
  split
  ·exact w64_I _
  ·exact h1
def AsOk (m : Nat) (S : List Ass) : Prop := ∀ a ∈ S, In64 a.2 ∧ a.1.length ≤ m
theorem worth_I {vars : List (List UInt8 × List UInt8)} {S : List Ass} (h : AsOk m S) (n : List UInt8) : In64 (worthP vars S n).1 := by
 unfold worthP
 split
 ·rename_i a ha
  exact (h _ (List.mem_reverse.1 (List.mem_of_find?_eq_some ha))).1
 ·split
  ·exact numW_I _
  ·exact z_I
theorem una_I {op : List UInt8} {a : Int} (h : In64 a) : In64 (unaP op a) := by
 unfold unaP
 split
 ·exact h
 ·split
  ·exact w64_I _
  ·split
   ·exact w64_I _
   ·exact tr_I _
theorem snoc_I {S : List Ass} {n : List UInt8} {b : Int} (h : AsOk m S) (hb : In64 b) (hn : n.length ≤ m) : AsOk m (S ++ [(n, b)]) := fun a ha => by
 rcases List.mem_append.1 ha with ha | ha
 ·exact h a ha
 ·rw [List.mem_singleton.1 ha]; exact ⟨hb, hn⟩
def Gw (m : Nat) (r : WR) : Prop := ∀ v S, r = .ok v S → In64 v ∧ AsOk m S
theorem badW {e : Nat} : Gw m (.bad e) := fun _ _ h => by cases h
theorem okW {v : Int} {S : List Ass} (h1 : In64 v) (h2 : AsOk m S) : Gw m (.ok v S) := fun _ _ h => by cases h; exact ⟨h1, h2⟩
theorem work_I (vars : List (List UInt8 × List UInt8)) : ∀ (x : Ex) (S : List Ass), NumOk m x → AsOk m S → Gw m (workP vars x S)
 | .num n, S, hx, hS => by rw [workP]; exact okW hx hS
 | .var nm, S, _, hS => by
  rw [workP]
  split
  ·exact okW (worth_I hS nm) hS
  ·exact badW
 | .asg op nm k, S, hx, hS => by
  have h1 := work_I vars k S hx.2 hS
  rw [workP]
  split
  ·cases hr : workP vars k S with
   | bad e => exact badW
   | ok b S1 => obtain ⟨h2, h3⟩ := h1 _ _ hr; exact okW h2 (snoc_I h3 h2 hx.1)
  ·split
   ·cases hr : workP vars k S with
    | bad e => exact badW
    | ok b S1 =>
     obtain ⟨h2, h3⟩ := h1 _ _ hr
     have h4 := two_I (op := Lib.trimSuffix op [61]) (worth_I (vars := vars) hS nm) h2
     simp only
     split
     ·exact okW h4 (snoc_I h3 h4 hx.1)
     ·exact badW
   ·exact badW
 | .una op k, S, hx, hS => by
  have h1 := work_I vars k S hx hS
  rw [workP]
  cases hr : workP vars k S with
  | bad e => exact badW
  | ok a S1 => obtain ⟨h2, h3⟩ := h1 _ _ hr; exact okW (una_I h2) h3
 | .cho a b c, S, hx, hS => by
  have h1 := work_I vars a S hx.1 hS
  rw [workP]
  cases hr : workP vars a S with
  | bad e => exact badW
  | ok v S1 =>
   obtain ⟨h2, h3⟩ := h1 _ _ hr
   simp only
   split
   ·exact work_I vars b S1 hx.2.1 h3
   ·exact work_I vars c S1 hx.2.2 h3
 | .bin op a b, S, hx, hS => by
  have h1 := work_I vars a S hx.1 hS
  rw [workP]
  cases hr : workP vars a S with
  | bad e => exact badW
  | ok v S1 =>
   obtain ⟨h2, h3⟩ := h1 _ _ hr
   have h4 := work_I vars b S1 hx.2 h3
   simp only
   split
   ·split
    ·exact okW (tr_I _) h3
    ·cases hr2 : workP vars b S1 with
     | bad e => exact badW
     | ok u S2 => obtain ⟨h5, h6⟩ := h4 _ _ hr2; exact okW (tr_I _) h6
   ·cases hr2 : workP vars b S1 with
    | bad e => exact badW
    | ok u S2 =>
     obtain ⟨h5, h6⟩ := h4 _ _ hr2
     simp only
     split
     ·exact okW (two_I h2 h5) h6
     ·exact badW
theorem eval_I (s : List UInt8) (vars : List (List UInt8 × List UInt8)) : In64 (evalP s vars).1 ∧ AsOk s.length (evalP s vars).2.1 := by
 have hn : In64 (0 : Int) ∧ AsOk s.length [] := ⟨z_I, fun _ h => by cases h⟩
 unfold evalP
 cases hr : readA s with
 | bad e => exact hn
 | ok x =>
  simp only
  have h1 := work_I vars x [] (readA_I (Nat.le_refl _) hr) (fun _ h => by cases h)
  cases hw : workP vars x [] with
  | bad e => exact hn
  | ok v S => exact h1 _ _ hw
end Go.Tri
