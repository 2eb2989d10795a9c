/-
  Expressions of whole numbers in plain words: lexemes, trees, what they are worth.
-/
import Derived.Test.YtjdcefhllbfacaaDoorPWord
import Derived.Lib.SlTrimSet
import Derived.Test.YtjdcefhllbfacaaDoorTriB17
import Derived.Test.YtjdcefhllbfacaaDoorPNum
namespace Go.Tri
open Go.RowKit
def w64 (n : Int) : Int := IntKind.i64.wrap n
def blS : List UInt8 := [32, 9, 10]
/-- a lexeme: its text, what it is worth, what it is -/
structure Lx where
  text : List UInt8
  worth : Int
  what : Nat
def lx0 : Lx := ⟨[], 0, 0⟩
def oddL : Lx := ⟨[], 0, 4⟩
def litU (s : List UInt8) : Nat × Nat := if nth s 0 0 = 48 then (if 1 < s.length ∧ nth s 1 0 ||| 32 = 120 then (16, 2) else (8, 0)) else (10, 0)
def digS (u : Nat) : List UInt8 := if u = 16 then [48, 49, 50, 51, 52, 53, 54, 55, 56, 57, 97, 98, 99, 100, 101, 102] else if u = 8 then [48, 49, 50, 51, 52, 53, 54, 55] else [48, 49, 50, 51, 52, 53, 54, 55, 56, 57]
def lowX (u : Nat) (c : UInt8) : UInt8 := if u = 16 ∧ 65 ≤ c.toNat ∧ c.toNat ≤ 70 then c ||| 32 else c
def digV (u : Nat) (c : UInt8) : Int := Lib.indexByte (digS u) (lowX u c)
/-- digits from a place on -/
def litG (u : Nat) (s : List UInt8) : Nat → Int → Nat → Int × Nat
  | 0, n, i => (n, i)
  | f + 1, n, i => if i < s.length then (if digV u (nth s i 0) < 0 then (n, i) else litG u s f (w64 (w64 (n * (u : Int)) + digV u (nth s i 0))) (i + 1)) else (n, i)
/-- a number at the beginning of a text -/
def numLit (s : List UInt8) : Option (Int × Nat) :=
  let r := litG (litU s).1 s s.length 0 (litU s).2
  if r.2 = (litU s).2 ∨ (r.2 < s.length ∧ nameB ([95] ++ (s.drop r.2).take 1) = true) then none else some r
def sgnS : List UInt8 := [32, 60, 60, 61, 32, 62, 62, 61, 32, 42, 61, 32, 47, 61, 32, 37, 61, 32, 43, 61, 32, 45, 61, 32, 38, 61, 32, 94, 61, 32, 124, 61, 32, 124, 124, 32, 38, 38, 32, 61, 61, 32, 33, 61, 32, 60, 61, 32, 62, 61, 32, 60, 60, 32, 62, 62, 32, 61, 32, 63, 32, 58, 32, 124, 32, 94, 32, 38, 32, 60, 32, 62, 32, 43, 32, 45, 32, 42, 32, 47, 32, 37, 32, 33, 32, 126, 32, 40, 32, 41, 32]
def sgnB (t : List UInt8) : Bool := Lib.contains sgnS ([32] ++ t ++ [32]) && !Lib.contains t [32]
def sgnN (s : List UInt8) : Nat → Nat
  | 0 => 0
  | n + 1 => if sgnB (s.take (n + 1)) = true then n + 1 else sgnN s n
/-- the lexeme at the beginning of a text -/
def firstP (s : List UInt8) : Lx × Nat :=
  if s = [] then (lx0, 0)
  else if digitB' (nth s 0 0) = true then (match numLit s with | none => (oddL, 0) | some r => (⟨s.take r.2, r.1, 1⟩, r.2))
  else if nameB (s.take 1) = true then (⟨s.take (nameN s.length 1 s), 0, 2⟩, nameN s.length 1 s)
  else if sgnN s (min 3 s.length) = 0 then (oddL, 0) else (⟨s.take (sgnN s (min 3 s.length)), 0, 3⟩, sgnN s (min 3 s.length))
def stopL (x : Lx) : Bool := decide (x.what = 0) || decide (x.what = 4)
/-- lexemes of a text without blanks ahead -/
def lexG : Nat → List UInt8 → List Lx
  | 0, _ => []
  | f + 1, t => (firstP t).1 :: (if stopL (firstP t).1 = true then [] else lexG f (Lib.trimLeftS (t.drop (firstP t).2) blS))
def lexL (s : List UInt8) : List Lx := lexG (s.length + 1) (Lib.trimLeftS s blS)
/-! ### trees -/
inductive Ex where
  | num (n : Int)
  | var (nm : List UInt8)
  | asg (op nm : List UInt8) (k : Ex)
  | una (op : List UInt8) (k : Ex)
  | bin (op : List UInt8) (a b : Ex)
  | cho (a b c : Ex)
inductive PA where
  | ok (x : Ex) (L : List Lx)
  | bad (e : Nat)
def szE : Ex → Nat
  | .num _ => 1
  | .var _ => 1
  | .asg _ _ k => szE k + 1
  | .una _ k => szE k + 1
  | .bin _ a b => szE a + szE b + 1
  | .cho a b c => szE a + szE b + szE c + 1
def nowL (L : List Lx) : Lx := nth L 0 lx0
def thenL (L : List Lx) : Lx := nth L (if L.length = 1 then 0 else 1) lx0
def stepL (L : List Lx) : List Lx := if L.length = 1 then L else L.drop 1
def isL (L : List Lx) (t : List UInt8) : Bool := decide ((nowL L).what = 3) && decide ((nowL L).text = t)
def lvS : Nat → List UInt8
  | 0 => [32, 124, 124, 32]
  | 1 => [32, 38, 38, 32]
  | 2 => [32, 124, 32]
  | 3 => [32, 94, 32]
  | 4 => [32, 38, 32]
  | 5 => [32, 61, 61, 32, 33, 61, 32]
  | 6 => [32, 60, 32, 60, 61, 32, 62, 32, 62, 61, 32]
  | 7 => [32, 60, 60, 32, 62, 62, 32]
  | 8 => [32, 43, 32, 45, 32]
  | _ => [32, 42, 32, 47, 32, 37, 32]
def asgS : List UInt8 := [32, 61, 32, 42, 61, 32, 47, 61, 32, 37, 61, 32, 43, 61, 32, 45, 61, 32, 60, 60, 61, 32, 62, 62, 61, 32, 38, 61, 32, 94, 61, 32, 124, 61, 32]
def asgB (L : List Lx) : Bool := decide ((nowL L).what = 2) && decide ((thenL L).what = 3) && Lib.contains asgS ([32] ++ (thenL L).text ++ [32])
def binB (v : Nat) (L : List Lx) : Bool := decide ((nowL L).what = 3) && Lib.contains (lvS v) ([32] ++ (nowL L).text ++ [32])
def unaB (L : List Lx) : Bool := isL L [43] || isL L [45] || isL L [33] || isL L [126]
/-- readers one level within: of an assignment, a choice, an operand -/
structure RdA where
  asg : List Lx → PA
  cho : List Lx → PA
  opd : List Lx → PA
def opdP (R : RdA) (L : List Lx) : PA :=
  if unaB L = true then (match R.opd (stepL L) with | .bad e => .bad e | .ok x L1 => .ok (.una ([49] ++ (nowL L).text) x) L1)
  else if isL L [40] = true then (match R.asg (stepL L) with | .bad e => .bad e | .ok x L1 => if isL L1 [41] = true then .ok x (stepL L1) else .bad 60)
  else if (nowL L).what = 1 then .ok (.num (nowL L).worth) (stepL L)
  else if (nowL L).what = 2 then .ok (.var (nowL L).text) (stepL L)
  else .bad 60
/-- what stands behind the first side -/
def sidG (v : Nat) (next : List Lx → PA) : Nat → Ex → List Lx → PA
  | 0, x, L => .ok x L
  | f + 1, x, L => if binB v L = true then (match next (stepL L) with | .bad e => .bad e | .ok y L1 => sidG v next f (.bin (nowL L).text x y) L1) else .ok x L
/-- sides from a rank on: k = 10 - the rank -/
def sidP (R : RdA) : Nat → List Lx → PA
  | 0, L => opdP R L
  | k + 1, L => match sidP R k L with | .bad e => .bad e | .ok x L1 => sidG (9 - k) (sidP R k) L1.length x L1
def choP (R : RdA) (L : List Lx) : PA :=
  match sidP R 10 L with
  | .bad e => .bad e
  | .ok x L1 => if isL L1 [63] = true then
      (match R.asg (stepL L1) with
      | .bad e => .bad e
      | .ok y L2 => if isL L2 [58] = true then (match R.cho (stepL L2) with | .bad e => .bad e | .ok z L3 => .ok (.cho x y z) L3) else .bad 60)
    else .ok x L1
def asgP (R : RdA) (L : List Lx) : PA :=
  if asgB L = true then (match R.asg (stepL (stepL L)) with | .bad e => .bad e | .ok x L1 => .ok (.asg (thenL L).text (nowL L).text x) L1)
  else choP R L
/-- the readers at depth 25 - n -/
def rdA : Nat → RdA
  | 0 => ⟨fun _ => .bad 52, fun _ => .bad 52, fun _ => .bad 52⟩
  | n + 1 => ⟨asgP (rdA n), choP (rdA n), opdP (rdA n)⟩
inductive RA where
  | ok (x : Ex)
  | bad (e : Nat)
def readA (s : List UInt8) : RA :=
  if Lib.trimS s blS = [] then .ok (.num 0)
  else match (rdA 25).asg (lexL s) with
    | .bad e => .bad e
    | .ok x L => if (nowL L).what = 0 then .ok x else .bad 60
/-! ### what they are worth -/
def trI (b : Bool) : Int := if b = true then 1 else 0
def andI (a b : Int) : Int := w64 (((BitVec.ofInt 64 a) &&& (BitVec.ofInt 64 b)).toNat : Int)
def orI (a b : Int) : Int := w64 (((BitVec.ofInt 64 a) ||| (BitVec.ofInt 64 b)).toNat : Int)
def xorI (a b : Int) : Int := w64 (((BitVec.ofInt 64 a) ^^^ (BitVec.ofInt 64 b)).toNat : Int)
def shlI (a n : Int) : Int := w64 (a * 2 ^ (min n.toNat 64))
def shrI (a n : Int) : Int := a.fdiv (2 ^ (min n.toNat 64))
/-- a sign of two sides: a value and an error -/
def twoP (op : List UInt8) (a b : Int) : Int × Nat :=
  if op = [124] then (orI a b, 0) else if op = [94] then (xorI a b, 0) else if op = [38] then (andI a b, 0)
  else if op = [60, 60] then (shlI a (andI b 63), 0) else if op = [62, 62] then (shrI a (andI b 63), 0)
  else if op = [43] then (w64 (a + b), 0) else if op = [45] then (w64 (a - b), 0) else if op = [42] then (w64 (a * b), 0)
  else if op = [47] ∨ op = [37] then
    (if b = 0 then (0, 61) else if a = -9223372036854775808 ∧ b = -1 ∧ op = [47] then (a, 0) else if b = -1 ∧ op = [37] then (0, 0)
     else if op = [47] then (w64 (a.tdiv b), 0) else (a.tmod b, 0))
  else if op = [61, 61] then (trI (decide (a = b)), 0) else if op = [33, 61] then (trI (decide (a ≠ b)), 0)
  else if op = [60] then (trI (decide (a < b)), 0) else if op = [60, 61] then (trI (decide (a ≤ b)), 0) else if op = [62] then (trI (decide (b < a)), 0)
  else (trI (decide (b ≤ a)), 0)
abbrev Ass := List UInt8 × Int
/-- a variable's text as a number -/
def numW (t : List UInt8) : Int × Nat :=
  let s := Lib.trimS t blS
  if s = [] then (0, 0)
  else
    let r := if nth s 0 0 = 45 ∨ nth s 0 0 = 43 then s.drop 1 else s
    if r = [] ∨ digitB' (nth r 0 0) = false then (0, 60)
    else match numLit r with
      | none => (0, 60)
      | some q => if q.2 = r.length then (if nth s 0 0 = 45 then w64 (-q.1) else q.1, 0) else (0, 60)
def worthP (vars : List (List UInt8 × List UInt8)) (S : List Ass) (n : List UInt8) : Int × Nat :=
  match S.reverse.find? (fun a => decide (a.1 = n)) with
  | some a => (a.2, 0)
  | none => match vars.find? (fun v => decide (v.1 = n)) with
    | some v => numW v.2
    | none => (0, 0)
inductive WR where
  | ok (v : Int) (S : List Ass)
  | bad (e : Nat)
def unaP (op : List UInt8) (a : Int) : Int := if op = [49, 43] then a else if op = [49, 45] then w64 (-a) else if op = [49, 126] then xorI (-1) a else trI (decide (a = 0))
def workP (vars : List (List UInt8 × List UInt8)) : Ex → List Ass → WR
  | .num n, S => .ok n S
  | .var nm, S => if (worthP vars S nm).2 = 0 then .ok (worthP vars S nm).1 S else .bad (worthP vars S nm).2
  | .asg op nm k, S =>
    if op = [61] then (match workP vars k S with | .bad e => .bad e | .ok b S1 => .ok b (S1 ++ [(nm, b)]))
    else if (worthP vars S nm).2 = 0 then
      (match workP vars k S with
      | .bad e => .bad e
      | .ok b S1 => if (twoP (Lib.trimSuffix op [61]) (worthP vars S nm).1 b).2 = 0 then .ok (twoP (Lib.trimSuffix op [61]) (worthP vars S nm).1 b).1 (S1 ++ [(nm, (twoP (Lib.trimSuffix op [61]) (worthP vars S nm).1 b).1)]) else .bad (twoP (Lib.trimSuffix op [61]) (worthP vars S nm).1 b).2)
    else .bad (worthP vars S nm).2
  | .una op k, S => match workP vars k S with | .bad e => .bad e | .ok a S1 => .ok (unaP op a) S1
  | .cho a b c, S => match workP vars a S with | .bad e => .bad e | .ok v S1 => if v ≠ 0 then workP vars b S1 else workP vars c S1
  | .bin op a b, S =>
    match workP vars a S with
    | .bad e => .bad e
    | .ok v S1 =>
      if op = [38, 38] ∨ op = [124, 124] then
        (if decide (v ≠ 0) = decide (op = [124, 124]) then .ok (trI (decide (v ≠ 0))) S1
         else match workP vars b S1 with | .bad e => .bad e | .ok u S2 => .ok (trI (decide (u ≠ 0))) S2)
      else match workP vars b S1 with
        | .bad e => .bad e
        | .ok u S2 => if (twoP op v u).2 = 0 then .ok (twoP op v u).1 S2 else .bad (twoP op v u).2
/-- what an expression is worth, what it assigns, its error -/
def evalP (s : List UInt8) (vars : List (List UInt8 × List UInt8)) : Int × List Ass × Nat :=
  match readA s with
  | .bad e => (0, [], e)
  | .ok x => match workP vars x [] with
    | .bad e => (0, [], e)
    | .ok v S => (v, S, 0)
/-! ### small laws -/
theorem litU_hex {s : List UInt8} (h0 : nth s 0 0 = 48) (h : (decide ((1 : Int) < (s.length : Int)) && decide (nth s 1 0 ||| 32 = 120)) = true) : litU s = (16, 2) := by
  rw [Bool.and_eq_true, decide_eq_true_eq, decide_eq_true_eq] at h
  unfold litU
  rw [if_pos h0, if_pos ⟨by omega, h.2⟩]
theorem litU_oct {s : List UInt8} (h0 : nth s 0 0 = 48) (h : (decide ((1 : Int) < (s.length : Int)) && decide (nth s 1 0 ||| 32 = 120)) = false) : litU s = (8, 0) := by
  unfold litU
  rw [if_pos h0, if_neg]
  rintro ⟨h1, h2⟩
  rw [decide_eq_true (show (1 : Int) < (s.length : Int) by omega), decide_eq_true h2] at h
  cases h
theorem litU_dec {s : List UInt8} (h0 : ¬ nth s 0 0 = 48) : litU s = (10, 0) := by
  unfold litU
  rw [if_neg h0]
theorem litU_le {s : List UInt8} (h : s ≠ []) : (litU s).2 ≤ s.length := by
  have := List.length_pos_iff.2 h
  unfold litU
  split
  · split
    · rename_i h2; exact h2.1
    · exact Nat.zero_le _
  · exact Nat.zero_le _
theorem litU_cases (s : List UInt8) : (litU s).1 = 16 ∨ (litU s).1 = 8 ∨ (litU s).1 = 10 := by
  unfold litU
  split
  · split
    · exact .inl rfl
    · exact .inr (.inl rfl)
  · exact .inr (.inr rfl)
theorem lowX_on {u : Nat} {c : UInt8} (h : ((decide ((u : Int) = 16) && decide ((65 : Int) ≤ (c.toNat : Int))) && decide ((c.toNat : Int) ≤ 70)) = true) : lowX u c = c ||| 32 := by
  simp only [Bool.and_eq_true, decide_eq_true_eq] at h
  unfold lowX
  rw [if_pos ⟨by omega, by omega, by omega⟩]
theorem lowX_off {u : Nat} {c : UInt8} (h : ((decide ((u : Int) = 16) && decide ((65 : Int) ≤ (c.toNat : Int))) && decide ((c.toNat : Int) ≤ 70)) = false) : lowX u c = c := by
  unfold lowX
  rw [if_neg]
  rintro ⟨h1, h2, h3⟩
  rw [decide_eq_true (show (u : Int) = 16 by omega), decide_eq_true (show (65 : Int) ≤ (c.toNat : Int) by omega), decide_eq_true (show (c.toNat : Int) ≤ 70 by omega)] at h
  cases h
theorem litG_end {u f i : Nat} {s : List UInt8} {n : Int} (h : ¬ i < s.length) : litG u s f n i = (n, i) := by
  cases f with
  | zero => rfl
  | succ f => rw [litG, if_neg h]
theorem litG_stop {u f i : Nat} {s : List UInt8} {n : Int} (h : digV u (nth s i 0) < 0) : litG u s f n i = (n, i) := by
  cases f with
  | zero => rfl
  | succ f => rw [litG]; split <;> rfl
theorem litG_step {u f i : Nat} {s : List UInt8} {n : Int} (hf : s.length - i ≤ f) (h : i < s.length) (hd : ¬ digV u (nth s i 0) < 0) : litG u s f n i = litG u s (f - 1) (w64 (w64 (n * (u : Int)) + digV u (nth s i 0))) (i + 1) := by
  obtain ⟨g, rfl⟩ : ∃ g, f = g + 1 := ⟨f - 1, by omega⟩
  rw [litG, if_pos h, if_neg hd]; rfl
theorem numLit_none {s : List UInt8} {n : Int} {i k : Nat} (hk : k = 1) (hr : litG (litU s).1 s s.length 0 (litU s).2 = (n, i)) (h : (decide ((i : Int) = ((litU s).2 : Int)) || (decide ((i : Int) < (s.length : Int)) && nameB ([95] ++ (s.drop i).take k))) = true) : numLit s = none := by
  subst hk
  unfold numLit
  simp only [hr]
  rw [if_pos]
  simp only [Bool.or_eq_true, Bool.and_eq_true, decide_eq_true_eq] at h
  rcases h with h | h
  · exact .inl (by omega)
  · exact .inr ⟨by omega, h.2⟩
theorem numLit_some {s : List UInt8} {n : Int} {i k : Nat} (hk : k = 1) (hr : litG (litU s).1 s s.length 0 (litU s).2 = (n, i)) (h : (decide ((i : Int) = ((litU s).2 : Int)) || (decide ((i : Int) < (s.length : Int)) && nameB ([95] ++ (s.drop i).take k))) = false) : numLit s = some (n, i) := by
  subst hk
  unfold numLit
  simp only [hr]
  rw [if_neg]
  rintro (h1 | ⟨h1, h2⟩)
  · rw [decide_eq_true (show (i : Int) = ((litU s).2 : Int) by omega)] at h; cases h
  · rw [h2, decide_eq_true (show (i : Int) < (s.length : Int) by omega)] at h
    simp at h
/-- what a literal tells -/
def litV (s : List UInt8) : Int × Nat := (numLit s).getD (0, 0)
def lxC (x : Lx) : List Value := [str x.text, .int .i64 x.worth, .int .i64 (x.what : Int)]
theorem lxC_ones (x : Lx) : ∀ u ∈ lxC x, u.oneCell' = true := fun u hu => by
  simp only [lxC, List.mem_cons, List.not_mem_nil, or_false] at hu
  rcases hu with rfl | rfl | rfl <;> rfl
theorem sgnB_of {t : List UInt8} {b : Bool} (h : (Lib.contains sgnS ([32] ++ t ++ [32]) && !Lib.contains t [32]) = b) : sgnB t = b := h
theorem nameN_end {f n : Nat} {s : List UInt8} (h : ¬ (n < s.length ∧ nameB (s.take (n + 1)) = true)) : nameN f n s = n := by
  cases f with
  | zero => rfl
  | succ f => rw [nameN, if_neg h]
theorem nameN_step {f n : Nat} {s : List UInt8} (hf : s.length - n ≤ f) (h1 : n < s.length) (h2 : nameB (s.take (n + 1)) = true) : nameN f n s = nameN (f - 1) (n + 1) s := by
  obtain ⟨g, rfl⟩ : ∃ g, f = g + 1 := ⟨f - 1, by omega⟩
  rw [nameN, if_pos ⟨h1, h2⟩]; rfl
theorem sgnN_step {s : List UInt8} {n : Nat} (h : 0 < n) (hb : sgnB (s.take n) = false) : sgnN s n = sgnN s (n - 1) := by
  obtain ⟨m, rfl⟩ : ∃ m, n = m + 1 := ⟨n - 1, by omega⟩
  rw [sgnN, if_neg (by rw [hb]; simp)]; rfl
theorem sgnN_hit {s : List UInt8} {n : Nat} (h : 0 < n) (hb : sgnB (s.take n) = true) : sgnN s n = n := by
  obtain ⟨m, rfl⟩ : ∃ m, n = m + 1 := ⟨n - 1, by omega⟩
  rw [sgnN, if_pos hb]
theorem first_dig {s : List UInt8} (hne : s ≠ []) (hd : (decide ((48 : Int) ≤ ((nth s 0 0).toNat : Int)) && decide (((nth s 0 0).toNat : Int) ≤ 57)) = true) : firstP s = (match numLit s with | none => (oddL, 0) | some r => (⟨s.take r.2, r.1, 1⟩, r.2)) := by
  unfold firstP
  rw [if_neg hne, if_pos (show digitB' (nth s 0 0) = true from hd)]
theorem first_not {s : List UInt8} (hne : s ≠ []) (hd : (decide ((48 : Int) ≤ ((nth s 0 0).toNat : Int)) && decide (((nth s 0 0).toNat : Int) ≤ 57)) = false) : firstP s = if nameB (s.take 1) = true then (⟨s.take (nameN s.length 1 s), 0, 2⟩, nameN s.length 1 s)
  else if sgnN s (min 3 s.length) = 0 then (oddL, 0) else (⟨s.take (sgnN s (min 3 s.length)), 0, 3⟩, sgnN s (min 3 s.length)) := by
  unfold firstP
  rw [if_neg hne, if_neg (show ¬ digitB' (nth s 0 0) = true from fun h => by rw [show digitB' (nth s 0 0) = false from hd] at h; cases h)]
theorem litG_ge {u : Nat} {s : List UInt8} : ∀ (f : Nat) (n : Int) (i : Nat), i ≤ s.length → i ≤ (litG u s f n i).2 ∧ (litG u s f n i).2 ≤ s.length
  | 0, _, _, h => ⟨Nat.le_refl _, h⟩
  | f + 1, n, i, h => by
    rw [litG]
    split
    · split
      · exact ⟨Nat.le_refl _, h⟩
      · rename_i h1 _
        have := litG_ge (u := u) f (w64 (w64 (n * (u : Int)) + digV u (nth s i 0))) (i + 1) h1
        exact ⟨by omega, this.2⟩
    · exact ⟨Nat.le_refl _, h⟩
theorem numLit_le {s : List UInt8} (hne : s ≠ []) {r : Int × Nat} (h : numLit s = some r) : 0 < r.2 ∧ r.2 ≤ s.length := by
  have h1 := litG_ge (u := (litU s).1) (s := s) s.length 0 (litU s).2 (litU_le hne)
  unfold numLit at h
  simp only at h
  split at h
  · cases h
  · rename_i hc
    cases h
    exact ⟨by rcases Nat.eq_zero_or_pos (litG (litU s).1 s s.length 0 (litU s).2).2 with h0 | h0; · exact absurd (.inl (by omega)) hc
              · exact h0, h1.2⟩
theorem sgnN_le (s : List UInt8) : ∀ n, sgnN s n ≤ n
  | 0 => Nat.le_refl _
  | n + 1 => by
    rw [sgnN]; split
    · exact Nat.le_refl _
    · exact Nat.le_succ_of_le (sgnN_le s n)
theorem nameN_ge {s : List UInt8} : ∀ (f n : Nat), n ≤ s.length → n ≤ nameN f n s ∧ nameN f n s ≤ s.length
  | 0, n, h => ⟨Nat.le_refl _, h⟩
  | f + 1, n, h => by
    rw [nameN]; split
    · rename_i hc
      have := nameN_ge f (n + 1) hc.1
      exact ⟨by omega, this.2⟩
    · exact ⟨Nat.le_refl _, h⟩
theorem first_adv {t : List UInt8} (h : stopL (firstP t).1 = false) : 1 ≤ (firstP t).2 ∧ (firstP t).2 ≤ t.length := by
  unfold firstP at h ⊢
  split
  · rename_i h0; rw [if_pos h0] at h; cases h
  · rename_i h0
    have hp := List.length_pos_iff.2 h0
    rw [if_neg h0] at h
    split
    · rename_i h1
      rw [if_pos h1] at h
      cases hn : numLit t with
      | none => rw [hn] at h; cases h
      | some r => exact numLit_le h0 hn
    · rename_i h1
      rw [if_neg h1] at h
      split
      · exact nameN_ge t.length 1 hp
      · rename_i h2
        rw [if_neg h2] at h
        split
        · rename_i h3; rw [if_pos h3] at h; cases h
        · rename_i h3
          have := sgnN_le t (min 3 t.length)
          exact ⟨by show 1 ≤ sgnN t _; omega, by show sgnN t _ ≤ _; omega⟩
theorem trimL_le (s cs : List UInt8) : (Lib.trimLeftS s cs).length ≤ s.length := (List.dropWhile_sublist _).length_le
theorem lexG_len : ∀ (f : Nat) (t : List UInt8), (lexG f t).length ≤ t.length + 1
  | 0, _ => Nat.zero_le _
  | f + 1, t => by
    rw [lexG]
    split
    · simp
    · rename_i h
      have h1 := first_adv (t := t) (by simpa using h)
      have h2 := lexG_len f (Lib.trimLeftS (t.drop (firstP t).2) blS)
      have h3 := trimL_le (t.drop (firstP t).2) blS
      rw [List.length_drop] at h3
      rw [List.length_cons]; omega
theorem lexL_len (s : List UInt8) : (lexL s).length ≤ s.length + 1 := by
  have h1 := lexG_len (s.length + 1) (Lib.trimLeftS s blS)
  have h2 := trimL_le s blS
  unfold lexL; omega
theorem drop_one {α : Type} {l r : List α} {x : α} {n : Nat} (h : l.drop n = x :: r) : n < l.length ∧ l[n]? = some x ∧ l.drop (n + 1) = r := by
  have hn : n < l.length := by
    rcases Nat.lt_or_ge n l.length with h1 | h1
    · exact h1
    · rw [List.drop_eq_nil_of_le h1] at h; cases h
  rw [List.drop_eq_getElem_cons hn] at h
  cases h
  exact ⟨hn, List.getElem?_eq_getElem hn, rfl⟩
theorem lex_next {L : List Lx} {n f : Nat} {q : List UInt8} (h : L.drop n = lexG f q) (hf : q.length < f) : n < L.length ∧ L[n]? = some (firstP q).1 ∧ L.drop (n + 1) = (if stopL (firstP q).1 = true then [] else lexG (f - 1) (Lib.trimLeftS (q.drop (firstP q).2) blS)) := by
  obtain ⟨g, rfl⟩ : ∃ g, f = g + 1 := ⟨f - 1, by omega⟩
  exact drop_one h
theorem stop_of {x : Lx} {b c : Bool} (h : ((!c || decide ((x.what : Int) = 0)) || decide ((x.what : Int) = 4)) = b) (hc : c = true) : stopL x = b := by
  subst hc
  rw [← h]
  unfold stopL
  rw [show decide ((x.what : Int) = 0) = decide (x.what = 0) by by_cases h : x.what = 0 <;> simp [h] <;> omega, show decide ((x.what : Int) = 4) = decide (x.what = 4) by by_cases h : x.what = 4 <;> simp [h] <;> omega]
  rfl
/-- a lexeme handed on -/
def lxV (x : Lx) : List Value := [.agg (lxC x).toArray]
theorem lxV_one {L : List Lx} {n : Nat} {vs : List Value} (h : (L.map lxV)[n]? = some vs) : n < L.length ∧ vs = lxV (nth L n lx0) := by
  rw [List.getElem?_map] at h
  cases hx : L[n]? with
  | none => rw [hx] at h; cases h
  | some x =>
    rw [hx] at h
    cases h
    obtain ⟨hn, he⟩ := List.getElem?_eq_some_iff.1 hx
    exact ⟨hn, by rw [nth_eq hn, he]⟩
/-! ### lists of lexemes as readers hold them -/
/-- the last one stops; texts are not too long -/
def Tk (L : List Lx) : Prop := L ≠ [] ∧ stopL (nth L (L.length - 1) lx0) = true ∧ ∀ x ∈ L, x.text.length ≤ 1000000 ∧ (x.what = 2 → x.text ≠ [])
theorem Tk.pos {L : List Lx} (h : Tk L) : 1 ≤ L.length := List.length_pos_iff.2 h.1
theorem Tk.now2 {L : List Lx} (h : Tk L) : (nowL L).text.length ≤ 1000000 ∧ ((nowL L).what = 2 → (nowL L).text ≠ []) := h.2.2 _ (nth_mem (by have := h.pos; omega))
theorem Tk.now {L : List Lx} (h : Tk L) : (nowL L).text.length ≤ 1000000 := h.now2.1
theorem Tk.then {L : List Lx} (h : Tk L) : (thenL L).text.length ≤ 1000000 := (h.2.2 _ (nth_mem (by have := h.pos; split <;> omega))).1
theorem Tk.two {L : List Lx} (h : Tk L) (hs : stopL (nowL L) = false) : 2 ≤ L.length := by
  have h1 := h.pos
  rcases Nat.lt_or_ge L.length 2 with h2 | h2
  · have h3 : L.length - 1 = 0 := by omega
    have h4 := h.2.1
    rw [h3] at h4
    rw [show nowL L = nth L 0 lx0 from rfl, h4] at hs
    cases hs
  · exact h2
theorem nth_drop1 {α : Type} (l : List α) (i : Nat) (d : α) : nth (l.drop 1) i d = nth l (i + 1) d := by
  unfold nth
  rw [List.getD_eq_getElem?_getD, List.getD_eq_getElem?_getD, List.getElem?_drop, Nat.add_comm]
theorem Tk.step {L : List Lx} (h : Tk L) : Tk (stepL L) := by
  unfold stepL
  split
  · exact h
  · rename_i h1
    have h2 := h.pos
    have hl : (L.drop 1).length = L.length - 1 := List.length_drop
    refine ⟨List.length_pos_iff.1 (by omega), ?_, fun x hx => h.2.2 x (List.mem_of_mem_drop hx)⟩
    rw [nth_drop1, hl, show L.length - 1 - 1 + 1 = L.length - 1 by omega]
    exact h.2.1
theorem stepL_le (L : List Lx) : (stepL L).length ≤ L.length := by
  unfold stepL; split
  · exact Nat.le_refl _
  · rw [List.length_drop]; omega
theorem stepL_lt {L : List Lx} (h : Tk L) (hs : stopL (nowL L) = false) : (stepL L).length + 1 = L.length := by
  have := h.two hs
  unfold stepL
  rw [if_neg (by omega), List.length_drop]; omega
theorem nowL_step {L : List Lx} (h : L ≠ []) : nowL (stepL L) = thenL L := by
  unfold nowL thenL stepL
  split
  · rfl
  · rw [nth_drop1]
theorem thenL_step {L : List Lx} (h : L ≠ []) : thenL (stepL L) = nth (L.drop 2) 0 (thenL L) := by
  have hp := List.length_pos_iff.2 h
  unfold thenL stepL
  by_cases h1 : L.length = 1
  · rw [if_pos h1, if_pos h1]
    rw [List.drop_eq_nil_of_le (by omega)]; rfl
  · rw [if_neg h1, if_neg h1, List.length_drop]
    by_cases h2 : L.length = 2
    · rw [if_pos (by omega), nth_drop1, List.drop_eq_nil_of_le (by omega : L.length ≤ 2)]; rfl
    · rw [if_neg (by omega), nth_drop1]
      unfold nth
      rw [List.getD_eq_getElem?_getD, List.getD_eq_getElem?_getD, List.getElem?_drop]
      rw [List.getElem?_eq_getElem (show 1 + 1 < L.length by omega)]; rfl
theorem drop_step2 {L : List Lx} (h : L ≠ []) : (stepL L).drop 2 = (L.drop 2).drop 1 := by
  have hp := List.length_pos_iff.2 h
  unfold stepL
  split
  · rw [List.drop_drop, List.drop_eq_nil_of_le (by omega), List.drop_eq_nil_of_le (by omega)]
  · rw [List.drop_drop, List.drop_drop]
/-- what is read leaves the end of what was there -/
def Good (L : List Lx) (r : PA) : Prop := ∀ x L1, r = .ok x L1 → Tk L1 ∧ L1.length ≤ L.length
theorem good_bad {L : List Lx} {e : Nat} : Good L (.bad e) := fun _ _ h => by cases h
theorem good_ok {L L1 : List Lx} {x : Ex} (h : Tk L1) (hl : L1.length ≤ L.length) : Good L (.ok x L1) := fun _ _ h2 => by cases h2; exact ⟨h, hl⟩
structure GoodR (R : RdA) : Prop where
  asg : ∀ L, Tk L → Good L (R.asg L)
  cho : ∀ L, Tk L → Good L (R.cho L)
  opd : ∀ L, Tk L → Good L (R.opd L)
theorem good_opdP {R : RdA} (hR : GoodR R) {L : List Lx} (h : Tk L) : Good L (opdP R L) := by
  have hs := h.step
  have hl := stepL_le L
  unfold opdP
  split
  · cases hr : R.opd (stepL L) with
    | bad e => exact good_bad
    | ok x L1 => have := hR.opd _ hs x L1 hr; exact good_ok this.1 (by omega)
  · split
    · cases hr : R.asg (stepL L) with
      | bad e => exact good_bad
      | ok x L1 =>
        have := hR.asg _ hs x L1 hr
        have h2 := stepL_le L1
        simp only
        split
        · exact good_ok this.1.step (by omega)
        · exact good_bad
    · split
      · exact good_ok hs hl
      · split
        · exact good_ok hs hl
        · exact good_bad
theorem good_sidG {v : Nat} {next : List Lx → PA} (hn : ∀ L, Tk L → Good L (next L)) : ∀ (f : Nat) (x : Ex) (L : List Lx), Tk L → Good L (sidG v next f x L)
  | 0, x, L, h => good_ok h (Nat.le_refl _)
  | f + 1, x, L, h => by
    rw [sidG]
    split
    · cases hr : next (stepL L) with
      | bad e => exact good_bad
      | ok y L1 =>
        have h1 := hn _ h.step y L1 hr
        have h2 := stepL_le L
        intro z L2 hz
        have h3 := good_sidG hn f _ L1 h1.1 z L2 hz
        exact ⟨h3.1, by omega⟩
    · exact good_ok h (Nat.le_refl _)
theorem good_sidP {R : RdA} (hR : GoodR R) : ∀ (k : Nat) (L : List Lx), Tk L → Good L (sidP R k L)
  | 0, L, h => good_opdP hR h
  | k + 1, L, h => by
    rw [sidP]
    cases hr : sidP R k L with
    | bad e => exact good_bad
    | ok x L1 =>
      have h1 := good_sidP hR k L h x L1 hr
      intro z L2 hz
      have h3 := good_sidG (good_sidP hR k) _ _ _ h1.1 z L2 hz
      exact ⟨h3.1, by omega⟩
theorem good_choP {R : RdA} (hR : GoodR R) {L : List Lx} (h : Tk L) : Good L (choP R L) := by
  unfold choP
  cases hr : sidP R 10 L with
  | bad e => exact good_bad
  | ok x L1 =>
    have h1 := good_sidP hR 10 L h x L1 hr
    have hl1 := stepL_le L1
    simp only
    split
    · cases ha : R.asg (stepL L1) with
      | bad e => exact good_bad
      | ok y L2 =>
        have h2 := hR.asg _ h1.1.step y L2 ha
        have hl2 := stepL_le L2
        simp only
        split
        · cases hc : R.cho (stepL L2) with
          | bad e => exact good_bad
          | ok z L3 =>
            have h3 := hR.cho _ h2.1.step z L3 hc
            exact good_ok h3.1 (by omega)
        · exact good_bad
    · exact good_ok h1.1 h1.2
theorem good_asgP {R : RdA} (hR : GoodR R) {L : List Lx} (h : Tk L) : Good L (asgP R L) := by
  unfold asgP
  split
  · cases hr : R.asg (stepL (stepL L)) with
    | bad e => exact good_bad
    | ok x L1 =>
      have := hR.asg _ h.step.step x L1 hr
      have h1 := stepL_le L
      have h2 := stepL_le (stepL L)
      exact good_ok this.1 (by omega)
  · exact good_choP hR h
theorem good_rdA : ∀ n, GoodR (rdA n)
  | 0 => ⟨fun _ _ => good_bad, fun _ _ => good_bad, fun _ _ => good_bad⟩
  | n + 1 => ⟨fun _ h => good_asgP (good_rdA n) h, fun _ h => good_choP (good_rdA n) h, fun _ h => good_opdP (good_rdA n) h⟩
theorem first_text {t : List UInt8} (ht : t.length ≤ 1000000) : (firstP t).1.text.length ≤ 1000000 ∧ ((firstP t).1.what = 2 → (firstP t).1.text ≠ []) := by
  unfold firstP
  split
  · exact ⟨Nat.zero_le _, fun h => by cases h⟩
  · rename_i h0
    have hp := List.length_pos_iff.2 h0
    split
    · cases numLit t with
      | none => exact ⟨Nat.zero_le _, fun h => by cases h⟩
      | some r => exact ⟨by show (t.take r.2).length ≤ _; rw [List.length_take]; omega, fun h => by cases h⟩
    · split
      · have hg := nameN_ge (s := t) t.length 1 hp
        exact ⟨by show (t.take _).length ≤ _; rw [List.length_take]; omega, fun _ => List.length_pos_iff.1 (by show 0 < (t.take _).length; rw [List.length_take]; omega)⟩
      · split
        · exact ⟨Nat.zero_le _, fun h => by cases h⟩
        · exact ⟨by show (t.take _).length ≤ _; rw [List.length_take]; omega, fun h => by cases h⟩
theorem lexG_tk : ∀ (f : Nat) (t : List UInt8), t.length < f → t.length ≤ 1000000 → Tk (lexG f t)
  | 0, _, h, _ => absurd h (Nat.not_lt_zero _)
  | f + 1, t, h, ht => by
    rw [lexG]
    by_cases hs : stopL (firstP t).1 = true
    · rw [if_pos hs]
      refine ⟨by simp, hs, fun x hx => ?_⟩
      rw [List.mem_singleton] at hx; subst hx; exact first_text ht
    · rw [if_neg hs]
      have h1 := first_adv (t := t) (by simpa using hs)
      have h3 := trimL_le (t.drop (firstP t).2) blS
      rw [List.length_drop] at h3
      have ih := lexG_tk f (Lib.trimLeftS (t.drop (firstP t).2) blS) (by omega) (by omega)
      have hp := ih.pos
      refine ⟨by simp, ?_, fun x hx => ?_⟩
      · rw [List.length_cons, show ∀ n, n + 1 - 1 = n from fun n => rfl]
        have h4 := ih.2.1
        rw [show (lexG f (Lib.trimLeftS (t.drop (firstP t).2) blS)).length = ((lexG f (Lib.trimLeftS (t.drop (firstP t).2) blS)).length - 1) + 1 by omega]
        exact h4
      · rcases List.mem_cons.1 hx with rfl | hx
        · exact first_text ht
        · exact ih.2.2 x hx
theorem lexL_tk {s : List UInt8} (h : s.length ≤ 1000000) : Tk (lexL s) := by
  have := trimL_le s blS
  exact lexG_tk _ _ (by omega) (by omega)
end Go.Tri

/-
  Expressions: how great trees grow; operations on numbers of 64 bits.
-/
namespace Go.Tri
open Go.RowKit
/-- a tree is no greater than what was read -/
def Sz (L : List Lx) (r : PA) : Prop := ∀ x L1, r = .ok x L1 → szE x + L1.length ≤ L.length
theorem sz_bad {L : List Lx} {e : Nat} : Sz L (.bad e) := fun _ _ h => by cases h
theorem sz_ok {L L1 : List Lx} {x : Ex} (hl : szE x + L1.length ≤ L.length) : Sz L (.ok x L1) := fun _ _ h2 => by cases h2; exact hl
structure SzR (R : RdA) : Prop where
  asg : ∀ L, Tk L → Sz L (R.asg L)
  cho : ∀ L, Tk L → Sz L (R.cho L)
  opd : ∀ L, Tk L → Sz L (R.opd L)
theorem isL_stop {L : List Lx} {t : List UInt8} (h : isL L t = true) : stopL (nowL L) = false := by
  unfold isL at h
  rw [Bool.and_eq_true, decide_eq_true_eq] at h
  unfold stopL; rw [h.1]; rfl
theorem una_stop {L : List Lx} (h : unaB L = true) : stopL (nowL L) = false := by
  unfold unaB at h
  simp only [Bool.or_eq_true] at h
  rcases h with ((h | h) | h) | h <;> exact isL_stop h
theorem what_stop {L : List Lx} {n : Nat} (h : (nowL L).what = n) (hn : n ≠ 0 ∧ n ≠ 4) : stopL (nowL L) = false := by
  unfold stopL
  rw [h, decide_eq_false hn.1, decide_eq_false hn.2]; rfl
theorem binB_stop {v : Nat} {L : List Lx} (h : binB v L = true) : stopL (nowL L) = false := by
  unfold binB at h
  rw [Bool.and_eq_true, decide_eq_true_eq] at h
  exact what_stop h.1 (by decide)
theorem asgB_stop {L : List Lx} (h : asgB L = true) : stopL (nowL L) = false ∧ stopL (thenL L) = false := by
  unfold asgB at h
  rw [Bool.and_eq_true, Bool.and_eq_true, decide_eq_true_eq, decide_eq_true_eq] at h
  refine ⟨what_stop h.1.1 (by decide), ?_⟩
  unfold stopL; rw [h.1.2]; rfl
theorem sz_opdP {R : RdA} (hR : SzR R) (hG : GoodR R) {L : List Lx} (h : Tk L) : Sz L (opdP R L) := by
  have hs := h.step
  unfold opdP
  split
  · rename_i hu
    have hl := stepL_lt h (una_stop hu)
    cases hr : R.opd (stepL L) with
    | bad e => exact sz_bad
    | ok x L1 => have := hR.opd _ hs x L1 hr; exact sz_ok (by simp only [szE]; omega)
  · split
    · rename_i hp
      have hl := stepL_lt h (isL_stop hp)
      cases hr : R.asg (stepL L) with
      | bad e => exact sz_bad
      | ok x L1 =>
        have := hR.asg _ hs x L1 hr
        have h2 := stepL_le L1
        simp only
        split
        · exact sz_ok (by omega)
        · exact sz_bad
    · split
      · rename_i hw
        have hl := stepL_lt h (what_stop hw (by decide))
        exact sz_ok (by simp only [szE]; omega)
      · split
        · rename_i hw
          have hl := stepL_lt h (what_stop hw (by decide))
          exact sz_ok (by simp only [szE]; omega)
        · exact sz_bad
theorem sz_sidG {v : Nat} {next : List Lx → PA} (hn : ∀ L, Tk L → Sz L (next L)) (hg : ∀ L, Tk L → Good L (next L)) : ∀ (f : Nat) (x : Ex) (L : List Lx), Tk L → ∀ y L1, sidG v next f x L = .ok y L1 → szE y + L1.length ≤ szE x + L.length
  | 0, x, L, _, y, L1, h => by cases h; exact Nat.le_refl _
  | f + 1, x, L, h, y, L1, hy => by
    rw [sidG] at hy
    split at hy
    · rename_i hb
      have hl := stepL_lt h (binB_stop hb)
      cases hr : next (stepL L) with
      | bad e => rw [hr] at hy; cases hy
      | ok z L2 =>
        rw [hr] at hy
        have h1 := hn _ h.step z L2 hr
        have h2 := sz_sidG hn hg f _ L2 (hg _ h.step z L2 hr).1 y L1 hy
        simp only [szE] at h2
        omega
    · cases hy; exact Nat.le_refl _
theorem sz_sidP {R : RdA} (hR : SzR R) (hG : GoodR R) : ∀ (k : Nat) (L : List Lx), Tk L → Sz L (sidP R k L)
  | 0, L, h => sz_opdP hR hG h
  | k + 1, L, h => by
    rw [sidP]
    cases hr : sidP R k L with
    | bad e => exact sz_bad
    | ok x L1 =>
      have h1 := sz_sidP hR hG k L h x L1 hr
      have h2 := good_sidP hG k L h x L1 hr
      intro z L2 hz
      have h3 := sz_sidG (sz_sidP hR hG k) (good_sidP hG k) _ _ _ h2.1 z L2 hz
      omega
theorem sz_choP {R : RdA} (hR : SzR R) (hG : GoodR R) {L : List Lx} (h : Tk L) : Sz L (choP R L) := by
  unfold choP
  cases hr : sidP R 10 L with
  | bad e => exact sz_bad
  | ok x L1 =>
    have h1 := sz_sidP hR hG 10 L h x L1 hr
    have g1 := good_sidP hG 10 L h x L1 hr
    simp only
    split
    · rename_i hq
      have hl1 := stepL_lt g1.1 (isL_stop hq)
      cases ha : R.asg (stepL L1) with
      | bad e => exact sz_bad
      | ok y L2 =>
        have h2 := hR.asg _ g1.1.step y L2 ha
        have g2 := hG.asg _ g1.1.step y L2 ha
        simp only
        split
        · rename_i hc
          have hl2 := stepL_lt g2.1 (isL_stop hc)
          cases hc2 : R.cho (stepL L2) with
          | bad e => exact sz_bad
          | ok z L3 =>
            have h3 := hR.cho _ g2.1.step z L3 hc2
            exact sz_ok (by simp only [szE]; omega)
        · exact sz_bad
    · exact sz_ok h1
theorem sz_asgP {R : RdA} (hR : SzR R) (hG : GoodR R) {L : List Lx} (h : Tk L) : Sz L (asgP R L) := by
  unfold asgP
  split
  · rename_i ha
    have hl := stepL_lt h (asgB_stop ha).1
    cases hr : R.asg (stepL (stepL L)) with
    | bad e => exact sz_bad
    | ok x L1 =>
      have := hR.asg _ h.step.step x L1 hr
      have h2 := stepL_le (stepL L)
      exact sz_ok (by simp only [szE]; omega)
  · exact sz_choP hR hG h
theorem sz_rdA : ∀ n, SzR (rdA n)
  | 0 => ⟨fun _ _ => sz_bad, fun _ _ => sz_bad, fun _ _ => sz_bad⟩
  | n + 1 => ⟨fun _ h => sz_asgP (sz_rdA n) (good_rdA n) h, fun _ h => sz_choP (sz_rdA n) (good_rdA n) h, fun _ h => sz_opdP (sz_rdA n) (good_rdA n) h⟩
theorem readA_sz {s : List UInt8} {x : Ex} (hs : s.length ≤ 1000000) (h : readA s = .ok x) : szE x ≤ s.length + 1 := by
  unfold readA at h
  split at h
  · cases h; simp only [szE]; omega
  · cases hr : (rdA 25).asg (lexL s) with
    | bad e => rw [hr] at h; cases h
    | ok y L =>
      rw [hr] at h
      simp only at h
      split at h
      · cases h
        have h1 := (sz_rdA 25).asg _ (lexL_tk hs) x L hr
        have h2 := lexL_len s
        have h3 := ((good_rdA 25).asg _ (lexL_tk hs) x L hr).1.pos
        omega
      · cases h
theorem workP_len {vars : List (List UInt8 × List UInt8)} : ∀ (x : Ex) (S S1 : List Ass) (v : Int), workP vars x S = .ok v S1 → S1.length ≤ S.length + szE x
  | .num n, S, S1, v, h => by cases h; omega
  | .var nm, S, S1, v, h => by
    simp only [workP] at h
    split at h
    · cases h; omega
    · cases h
  | .asg op nm k, S, S1, v, h => by
    simp only [workP] at h
    split at h
    · cases hk : workP vars k S with
      | bad e => rw [hk] at h; cases h
      | ok b S2 =>
        rw [hk] at h; cases h
        have := workP_len k S S2 v hk
        rw [List.length_append, List.length_singleton]; simp only [szE]; omega
    · split at h
      · cases hk : workP vars k S with
        | bad e => rw [hk] at h; cases h
        | ok b S2 =>
          rw [hk] at h
          simp only at h
          split at h
          · cases h
            have := workP_len k S S2 b hk
            rw [List.length_append, List.length_singleton]; simp only [szE]; omega
          · cases h
      · cases h
  | .una op k, S, S1, v, h => by
    simp only [workP] at h
    cases hk : workP vars k S with
    | bad e => rw [hk] at h; cases h
    | ok b S2 =>
      rw [hk] at h; cases h
      have := workP_len k S S1 b hk
      simp only [szE]; omega
  | .cho a b c, S, S1, v, h => by
    simp only [workP] at h
    cases hk : workP vars a S with
    | bad e => rw [hk] at h; cases h
    | ok u S2 =>
      rw [hk] at h
      simp only at h
      have h1 := workP_len a S S2 u hk
      simp only [szE]
      split at h
      · have := workP_len b S2 S1 v h; omega
      · have := workP_len c S2 S1 v h; omega
  | .bin op a b, S, S1, v, h => by
    simp only [workP] at h
    cases hk : workP vars a S with
    | bad e => rw [hk] at h; cases h
    | ok u S2 =>
      rw [hk] at h
      simp only at h
      have h1 := workP_len a S S2 u hk
      simp only [szE]
      split at h
      · split at h
        · cases h; omega
        · cases hb : workP vars b S2 with
          | bad e => rw [hb] at h; cases h
          | ok t S3 =>
            rw [hb] at h; cases h
            have := workP_len b S2 S1 t hb; omega
      · cases hb : workP vars b S2 with
        | bad e => rw [hb] at h; cases h
        | ok t S3 =>
          rw [hb] at h
          simp only at h
          split at h
          · cases h
            have := workP_len b S2 S1 t hb; omega
          · cases h
/-! ### trees in general -/
def opE : Ex → List UInt8
  | .num _ => []
  | .var _ => [110, 97, 109, 101]
  | .asg op _ _ => op
  | .una op _ => op
  | .bin op _ _ => op
  | .cho _ _ _ => [63]
def nmE : Ex → List UInt8
  | .var nm => nm
  | .asg _ nm _ => nm
  | _ => []
def nE : Ex → Int
  | .num n => n
  | _ => 0
def kidsE : Ex → List Ex
  | .num _ => []
  | .var _ => []
  | .asg _ _ k => [k]
  | .una _ k => [k]
  | .bin _ a b => [a, b]
  | .cho a b c => [a, b, c]
/-! ### variables, assignments -/
/-- a variable -/
structure Vr where
  name : List UInt8
  value : List UInt8
  e : Bool
  r : Bool
  u : Bool
def vr0 : Vr := ⟨[], [], false, false, false⟩
def vrC (v : Vr) : List Value := [str v.name, str v.value, .bool v.e, .bool v.r, .bool v.u]
def Vr.nv (v : Vr) : List UInt8 × List UInt8 := (v.name, v.value)
def as0 : Ass := ([], 0)
def asC (a : Ass) : List Value := [str a.1, .int .i64 a.2]
theorem asC_ones (a : Ass) : ∀ u ∈ asC a, u.oneCell' = true := fun u hu => by
  simp only [asC, List.mem_cons, List.not_mem_nil, or_false] at hu
  rcases hu with rfl | rfl <;> rfl
theorem rds_vr {w0 : World} {I : Look} {H : List HA} {v : Value} {l : List Vr} (h : Sl I 5 v (l.map vrC)) {i : Nat} (hi : i < l.length) : Rds w0 I H (adr v).block ((adr v).off + i * 5) (vrC (nth l i vr0)) := h.rds (map_getD l vrC vr0 hi)
theorem rd_vrf {w0 : World} {I : Look} {H : List HA} {v : Value} {l : List Vr} (h : Sl I 5 v (l.map vrC)) {i j : Nat} {u : Value} (hi : i < l.length) (hu : (vrC (nth l i vr0))[j]? = some u) : Rd w0 I H (adr v).block ((adr v).off + i * 5 + j) u := h.rd (map_getD l vrC vr0 hi) hu
theorem rds_as {w0 : World} {I : Look} {H : List HA} {v : Value} {l : List Ass} (h : Sl I 2 v (l.map asC)) {i : Nat} (hi : i < l.length) : Rds w0 I H (adr v).block ((adr v).off + i * 2) (asC (nth l i as0)) := h.rds (map_getD l asC as0 hi)
theorem rd_asf {w0 : World} {I : Look} {H : List HA} {v : Value} {l : List Ass} (h : Sl I 2 v (l.map asC)) {i j : Nat} {u : Value} (hi : i < l.length) (hu : (asC (nth l i as0))[j]? = some u) : Rd w0 I H (adr v).block ((adr v).off + i * 2 + j) u := h.rd (map_getD l asC as0 hi) hu
/-- from the back: place and assignment -/
def bwV (S : List Ass) (k : Nat) : List Value := [.int .i64 ((S.length - 1 - k : Nat) : Int), .agg (asC (nth S (S.length - 1 - k) as0)).toArray]
def bwS (S : List Ass) : List (List Value) := (List.range S.length).map (bwV S)
theorem bwS_at {S : List Ass} {k : Nat} (h : k < S.length) : (bwS S)[k]? = some (bwV S k) := by
  unfold bwS
  rw [List.getElem?_map, List.getElem?_range h]; rfl
theorem bwS_of {S : List Ass} {k : Nat} {vs : List Value} (h : (bwS S)[k]? = some vs) : k < S.length ∧ vs = bwV S k := by
  have hk : k < S.length := by
    have := (List.getElem?_eq_some_iff.1 h).1
    simpa [bwS] using this
  rw [bwS_at hk] at h
  exact ⟨hk, (Option.some.inj h).symm⟩
theorem bwS_one {S : List Ass} : ∀ vs ∈ bwS S, vs.length = 2 := fun vs h => by
  obtain ⟨x, _, rfl⟩ := List.mem_map.1 h; rfl
theorem bwS_len (S : List Ass) : (bwS S).length = S.length := by unfold bwS; rw [List.length_map, List.length_range]
theorem find_back {n : List UInt8} : ∀ (S : List Ass) (k : Nat), k < S.length → (∀ j, j < k → (nth S (S.length - 1 - j) as0).1 ≠ n) → (nth S (S.length - 1 - k) as0).1 = n → S.reverse.find? (fun a => decide (a.1 = n)) = some (nth S (S.length - 1 - k) as0) := by
  intro S k hk hno hit
  have hr : ∀ j, j < S.length → S.reverse[j]? = some (nth S (S.length - 1 - j) as0) := fun j hj => by
    rw [List.getElem?_reverse hj, get_nth (d := as0) (by omega)]
  have hsplit : S.reverse = S.reverse.take k ++ (nth S (S.length - 1 - k) as0) :: S.reverse.drop (k + 1) := by
    have hk' : k < S.reverse.length := by rw [List.length_reverse]; exact hk
    conv => lhs; rw [← List.take_append_drop k S.reverse, List.drop_eq_getElem_cons hk']
    have := hr k hk
    rw [List.getElem?_eq_getElem hk'] at this
    rw [Option.some.inj this]
  rw [hsplit, List.find?_append]
  have h0 : (S.reverse.take k).find? (fun a => decide (a.1 = n)) = none := by
    rw [List.find?_eq_none]
    intro x hx
    obtain ⟨j, hj, rfl⟩ := List.getElem_of_mem hx
    rw [List.length_take, List.length_reverse] at hj
    have h2 := hr j (by omega)
    rw [List.getElem?_eq_getElem (by rw [List.length_reverse]; omega)] at h2
    rw [List.getElem_take, Option.some.inj h2]
    simpa using hno j (by omega)
  rw [h0, List.find?_cons_of_pos (by simpa using hit)]; rfl
theorem find_none {n : List UInt8} {S : List Ass} (hno : ∀ j, j < S.length → (nth S (S.length - 1 - j) as0).1 ≠ n) : S.reverse.find? (fun a => decide (a.1 = n)) = none := by
  rw [List.find?_eq_none]
  intro x hx
  rw [List.mem_reverse] at hx
  obtain ⟨j, hj, rfl⟩ := List.getElem_of_mem hx
  have := hno (S.length - 1 - j) (by omega)
  rw [show S.length - 1 - (S.length - 1 - j) = j by omega, nth_eq hj] at this
  simpa using this
/-- the first variable of a name -/
def vIdx (n : List UInt8) : List Vr → Nat → Int
  | [], _ => -1
  | v :: r, i => if v.name = n then (i : Int) else vIdx n r (i + 1)
theorem vIdx_find {n : List UInt8} : ∀ (l : List Vr) (i : Nat), (vIdx n l i = -1 ∧ l.find? (fun v => decide (v.name = n)) = none) ∨ (∃ k, k < l.length ∧ vIdx n l i = ((i + k : Nat) : Int) ∧ l.find? (fun v => decide (v.name = n)) = some (nth l k vr0))
  | [], _ => .inl ⟨rfl, rfl⟩
  | v :: r, i => by
    rw [vIdx, List.find?_cons]
    by_cases h : v.name = n
    · rw [if_pos h, decide_eq_true h]
      exact .inr ⟨0, Nat.succ_pos _, rfl, rfl⟩
    · rw [if_neg h, decide_eq_false h]
      rcases vIdx_find r (i + 1) with ⟨h1, h2⟩ | ⟨k, h1, h2, h3⟩
      · exact .inl ⟨h1, h2⟩
      · exact .inr ⟨k + 1, by rw [List.length_cons]; omega, by rw [h2]; congr 1; omega, h3⟩
theorem find_nv {n : List UInt8} : ∀ (l : List Vr), (l.map Vr.nv).find? (fun v => decide (v.1 = n)) = (l.find? (fun v => decide (v.name = n))).map Vr.nv
  | [] => rfl
  | v :: r => by
    rw [List.map_cons, List.find?_cons, List.find?_cons]
    show (match decide (v.name = n) with | true => some v.nv | false => _) = _
    cases decide (v.name = n) with
    | true => rfl
    | false => exact find_nv r
/-! ### operations -/
section ops
variable {C : Cx} {E : Env} {I : Look} {H : List HA} {o : Oper} {x y : Operand} {t t' : TypeId} {a b : Int}
theorem q_and (ho : o.op = .binOp .and t x y t') (hx : ev E x = some (.int .i64 a)) (hy : ev E y = some (.int .i64 b)) : Quiet C E I H o (.int .i64 (andI a b)) :=
  quiet_bin ho hx hy fun w => by simp [go_sem, eqGuard, Op.intBits, andI, w64, IntKind.bits]; rfl
theorem q_or (ho : o.op = .binOp .or t x y t') (hx : ev E x = some (.int .i64 a)) (hy : ev E y = some (.int .i64 b)) : Quiet C E I H o (.int .i64 (orI a b)) :=
  quiet_bin ho hx hy fun w => by simp [go_sem, eqGuard, Op.intBits, orI, w64, IntKind.bits]; rfl
theorem q_xor (ho : o.op = .binOp .xor t x y t') (hx : ev E x = some (.int .i64 a)) (hy : ev E y = some (.int .i64 b)) : Quiet C E I H o (.int .i64 (xorI a b)) :=
  quiet_bin ho hx hy fun w => by simp [go_sem, eqGuard, Op.intBits, xorI, w64, IntKind.bits]; rfl
theorem q_shl {k : IntKind} (ho : o.op = .binOp .shl t x y t') (hx : ev E x = some (.int .i64 a)) (hy : ev E y = some (.int k b)) (h : 0 ≤ b) : Quiet C E I H o (.int .i64 (shlI a b)) :=
  quiet_bin ho hx hy fun w => by
    have h1 : ¬ b < 0 := by omega
    simp [go_sem, eqGuard, Op.shift, h1, shlI, w64, IntKind.bits]
theorem q_shr {k : IntKind} (ho : o.op = .binOp .shr t x y t') (hx : ev E x = some (.int .i64 a)) (hy : ev E y = some (.int k b)) (h : 0 ≤ b) : Quiet C E I H o (.int .i64 (shrI a b)) :=
  quiet_bin ho hx hy fun w => by
    have h1 : ¬ b < 0 := by omega
    simp [go_sem, eqGuard, Op.shift, h1, shrI, IntKind.bits]
theorem q_unxor (ho : o.op = .unOp .xor t x) (hx : ev E x = some (.int .i64 a)) : Quiet C E I H o (.int .i64 (xorI (-1) a)) :=
  quiet_run (by rw [ho]; rfl) fun r w hs _ => by
    simp only [execOp, ho, hs.ev hx, Op.unary]
    rfl
theorem and63 (b : Int) : 0 ≤ andI b 63 ∧ andI b 63 < 64 := by
  unfold andI w64
  have h : ((BitVec.ofInt 64 b) &&& (BitVec.ofInt 64 63)).toNat < 64 := by
    rw [BitVec.toNat_and]
    have : (BitVec.ofInt 64 63).toNat = 63 := by decide
    rw [this]
    exact Nat.lt_of_le_of_lt Nat.and_le_right (by decide)
  rw [wrap_i64 (by omega)]
  omega
end ops
end Go.Tri

/-
  Laws of expressions: numbers there and back; what stands in parentheses.
-/
namespace Go.Tri
open Go.RowKit
theorem w64_eq {a b : Int} (h : a % 18446744073709551616 = b % 18446744073709551616) : w64 a = w64 b := by
  unfold w64; rw [IntKind.wrap_i64, IntKind.wrap_i64]; omega
theorem w64_mod (a : Int) : w64 a % 18446744073709551616 = a % 18446744073709551616 := by
  unfold w64; rw [IntKind.wrap_i64]; omega
theorem w64_in {a : Int} (h : -9223372036854775808 ≤ a ∧ a ≤ 9223372036854775807) : w64 a = a := IntWalk.i64_in a h
theorem w64_mul (a b : Int) : w64 (w64 a * b) = w64 (a * b) := by
  refine w64_eq ?_
  rw [Int.mul_emod, w64_mod, ← Int.mul_emod]
theorem w64_dig (v : Nat) (d : Nat) : w64 (w64 (w64 (v : Int) * ((10 : Nat) : Int)) + (d : Int)) = w64 ((v * 10 + d : Nat) : Int) := by
  rw [w64_mul]
  refine w64_eq ?_
  rw [Int.add_emod, w64_mod, ← Int.add_emod]
  congr 1 <;> omega
theorem digV_dec {c : UInt8} (h : digitB' c = true) : digV 10 c = ((c.toNat - 48 : Nat) : Int) := by
  revert h
  exact u8_all (p := fun c => digitB' c = true → digV 10 c = ((c.toNat - 48 : Nat) : Int)) (by decide +kernel) c
theorem litG_dec {s : List UInt8} : ∀ (f i v v' : Nat), s.length - i ≤ f → i ≤ s.length → decV v (s.drop i) = some v' → litG 10 s f (w64 (v : Int)) i = (w64 (v' : Int), s.length)
  | 0, i, v, v', hf, hi, h => by
    have : i = s.length := by omega
    subst this
    rw [List.drop_length] at h
    cases h; rfl
  | f + 1, i, v, v', hf, hi, h => by
    rw [litG]
    by_cases hl : i < s.length
    · rw [if_pos hl]
      rw [drop_nth 0 hl, decV] at h
      split at h
      · rename_i hd
        rw [if_neg (by rw [digV_dec hd]; omega), digV_dec hd, w64_dig]
        exact litG_dec f (i + 1) _ v' (by omega) (by omega) h
      · cases h
    · have : i = s.length := by omega
      subst this
      rw [List.drop_length] at h
      cases h
      rw [if_neg hl]
theorem dig_head : ∀ (u : Nat), 0 < u → nth (Lib.decDigits u) 0 0 ≠ 48 := by
  intro u
  induction u using Nat.strongRecOn with
  | ind u ih =>
    intro h0
    by_cases h : u < 10
    · rw [digits_lt h]
      show UInt8.ofNat (48 + u % 10) ≠ 48
      intro he
      have := congrArg UInt8.toNat he
      rw [dig_nat] at this
      have h48 : (48 : UInt8).toNat = 48 := rfl
      omega
    · rw [digits_ge h]
      have hp := List.length_pos_iff.2 (digits_ne (u / 10))
      have := ih (u / 10) (by omega) (by omega)
      unfold nth at this ⊢
      rw [List.getD_eq_getElem?_getD, List.getElem?_append_left hp, ← List.getD_eq_getElem?_getD]
      exact this
theorem numLit_digits (u : Nat) : numLit (Lib.decDigits u) = some (w64 (u : Int), (Lib.decDigits u).length) := by
  have hu : ∃ k, litU (Lib.decDigits u) = (k, 0) ∧ litG k (Lib.decDigits u) (Lib.decDigits u).length 0 0 = (w64 (u : Int), (Lib.decDigits u).length) := by
    rcases Nat.eq_zero_or_pos u with rfl | h
    · rw [digits_lt (by decide)]
      exact ⟨8, by decide, by decide⟩
    · refine ⟨10, litU_dec (dig_head u h), ?_⟩
      have := litG_dec (s := Lib.decDigits u) (Lib.decDigits u).length 0 0 u (by omega) (Nat.zero_le _) (by rw [List.drop_zero]; exact decV_digits u)
      exact this
  obtain ⟨k, h1, h2⟩ := hu
  have hp := List.length_pos_iff.2 (digits_ne u)
  unfold numLit
  simp only [h1, h2]
  rw [if_neg]
  rintro (h | ⟨h, _⟩)
  · omega
  · omega
theorem trimS_same {s cs : List UInt8} (hne : s ≠ []) (h0 : cs.contains (nth s 0 0) = false) (h1 : cs.contains (nth s (s.length - 1) 0) = false) : Lib.trimS s cs = s := by
  have hp := List.length_pos_iff.2 hne
  have key : ∀ {l : List UInt8}, l ≠ [] → cs.contains (nth l 0 0) = false → l.dropWhile (cs.contains ·) = l := by
    intro l hl h
    cases l with
    | nil => exact absurd rfl hl
    | cons a l =>
      rw [List.dropWhile_cons, if_neg]
      rw [show nth (a :: l) 0 0 = a from rfl] at h
      rw [h]; simp
  have hr : s.reverse.dropWhile (cs.contains ·) = s.reverse := by
    refine key (by simpa using hne) ?_
    unfold nth
    rw [List.getD_eq_getElem?_getD, List.getElem?_reverse hp, ← List.getD_eq_getElem?_getD]
    exact h1
  unfold Lib.trimS Lib.trimRightS Lib.trimLeftS
  rw [hr, List.reverse_reverse, key hne h0]
theorem dig_last (u : Nat) : digitB' (nth (Lib.decDigits u) ((Lib.decDigits u).length - 1) 0) = true := by
  by_cases h : u < 10
  · rw [digits_lt h]; exact dig_digit u
  · rw [digits_ge h, List.length_append, List.length_singleton]
    unfold nth
    rw [List.getD_eq_getElem?_getD, List.getElem?_append_right (by omega)]
    rw [show (Lib.decDigits (u / 10)).length + 1 - 1 - (Lib.decDigits (u / 10)).length = 0 by omega]
    exact dig_digit u
theorem dig_blank {c : UInt8} (h : digitB' c = true) : blS.contains c = false := by
  revert h
  exact u8_all (p := fun c => digitB' c = true → blS.contains c = false) (by decide +kernel) c
/-- a number's text: as a value it is that number -/
theorem numW_core {t s : List UInt8} {n : Int} (hs : Lib.trimS t blS = s) (hn : s = Lib.itoa n) (hr : -9223372036854775808 ≤ n ∧ n ≤ 9223372036854775807) : numW t = (n, 0) := by
  have gen : ∀ (r : List UInt8) (u : Nat), s ≠ [] → (if nth s 0 0 = 45 ∨ nth s 0 0 = 43 then s.drop 1 else s) = r → r = Lib.decDigits u → numW t = (if nth s 0 0 = 45 then w64 (-w64 (u : Int)) else w64 (u : Int), 0) := by
    intro r u hne h1 h2
    unfold numW
    simp only [hs, h1]
    rw [if_neg hne, if_neg (by
      rintro (h3 | h3)
      · exact digits_ne u (h2 ▸ h3)
      · rw [h2, digits_head] at h3; cases h3), h2, numLit_digits]
    show (if (Lib.decDigits u).length = (Lib.decDigits u).length then _ else _) = _
    rw [if_pos rfl]
  subst hn
  unfold Lib.itoa at hs gen
  by_cases h : n < 0
  · rw [if_pos h] at gen
    rw [gen (Lib.decDigits n.natAbs) n.natAbs (by simp) (if_pos (Or.inl rfl)) rfl, if_pos (show nth (45 :: Lib.decDigits n.natAbs) 0 0 = 45 from rfl)]
    rw [show w64 (-w64 (n.natAbs : Int)) = n from by
      unfold w64; rw [IntKind.wrap_i64, IntKind.wrap_i64]; omega]
  · rw [if_neg h] at gen
    have hh := digits_head n.toNat
    have h45 : ¬ nth (Lib.decDigits n.toNat) 0 0 = 45 := fun he => by rw [he] at hh; revert hh; decide
    have h43 : ¬ nth (Lib.decDigits n.toNat) 0 0 = 43 := fun he => by rw [he] at hh; revert hh; decide
    rw [gen (Lib.decDigits n.toNat) n.toNat (digits_ne _) (if_neg (fun h1 => h1.elim h45 h43)) rfl, if_neg h45, w64_in (by omega)]
    rw [show ((n.toNat : Nat) : Int) = n by omega]
theorem itoa_ends (n : Int) : Lib.itoa n ≠ [] ∧ blS.contains (nth (Lib.itoa n) 0 0) = false ∧ blS.contains (nth (Lib.itoa n) ((Lib.itoa n).length - 1) 0) = false := by
  unfold Lib.itoa
  split
  · refine ⟨by simp, (show blS.contains 45 = false by decide), ?_⟩
    have hp := List.length_pos_iff.2 (digits_ne n.natAbs)
    rw [List.length_cons, show (Lib.decDigits n.natAbs).length + 1 - 1 = (Lib.decDigits n.natAbs).length - 1 + 1 by omega]
    exact dig_blank (dig_last n.natAbs)
  · exact ⟨digits_ne _, dig_blank (digits_head _), dig_blank (dig_last _)⟩
theorem numW_itoa {n : Int} (hr : -9223372036854775808 ≤ n ∧ n ≤ 9223372036854775807) : numW (Lib.itoa n) = (n, 0) :=
  numW_core (trimS_same (itoa_ends n).1 (itoa_ends n).2.1 (itoa_ends n).2.2) rfl hr
theorem trimS_wrap {s : List UInt8} (hne : s ≠ []) (h0 : blS.contains (nth s 0 0) = false) (h1 : blS.contains (nth s (s.length - 1) 0) = false) : Lib.trimS ([32] ++ s ++ [9]) blS = s := by
  have e1 : Lib.trimRightS ([32] ++ s ++ [9]) blS = [32] ++ s := by
    unfold Lib.trimRightS
    rw [List.reverse_append, show [(9 : UInt8)].reverse = [9] from rfl, List.singleton_append, List.dropWhile_cons, if_pos (by decide)]
    have : (([32] ++ s).reverse).dropWhile (blS.contains ·) = ([32] ++ s).reverse := by
      rcases List.eq_nil_or_concat s with hs | ⟨p, c, hs⟩
      · exact absurd hs hne
      · rw [List.concat_eq_append] at hs
        have hc : nth s (s.length - 1) 0 = c := by rw [hs]; simp [nth]
        rw [hc] at h1
        rw [hs, ← List.append_assoc, List.reverse_append, show [c].reverse = [c] from rfl, List.singleton_append, List.dropWhile_cons, if_neg (by rw [h1]; simp)]
    rw [this, List.reverse_reverse]
  unfold Lib.trimS
  rw [e1]
  unfold Lib.trimLeftS
  rw [List.singleton_append, List.dropWhile_cons, if_pos (by decide)]
  cases s with
  | nil => exact absurd rfl hne
  | cons a l =>
    rw [List.dropWhile_cons, if_neg]
    rw [show nth (a :: l) 0 0 = a from rfl] at h0
    rw [h0]; simp
theorem numW_wrap {n : Int} (hr : -9223372036854775808 ≤ n ∧ n ≤ 9223372036854775807) : numW ([32] ++ Lib.itoa n ++ [9]) = (n, 0) :=
  numW_core (trimS_wrap (itoa_ends n).1 (itoa_ends n).2.1 (itoa_ends n).2.2) rfl hr
theorem itoa_len (n : Int) (hr : -9223372036854775808 ≤ n ∧ n ≤ 9223372036854775807) : (Lib.itoa n).length ≤ 1000 := by
  have key : ∀ (k u : Nat), u < 10 ^ (k + 1) → (Lib.decDigits u).length ≤ k + 1 := by
    intro k
    induction k with
    | zero => intro u h; rw [digits_lt (by simpa using h)]; simp
    | succ k ih =>
      intro u h
      by_cases h10 : u < 10
      · rw [digits_lt h10]; simp
      · rw [digits_ge h10, List.length_append, List.length_singleton]
        have := ih (u / 10) (by rw [Nat.pow_succ] at h; omega)
        omega
  unfold Lib.itoa
  split
  · have := key 19 n.natAbs (by omega)
    rw [List.length_cons]; omega
  · have := key 19 n.toNat (by omega)
    omega
end Go.Tri

/-
  What stands in parentheses is worth the same.
-/
namespace Go.Tri
open Go.RowKit
def rpL : Lx := ⟨[41], 0, 3⟩
def lpL : Lx := ⟨[40], 0, 3⟩
theorem trimL_app : ∀ (x : List UInt8), Lib.trimLeftS (x ++ [41]) blS = Lib.trimLeftS x blS ++ [41]
  | [] => by decide
  | a :: x => by
    have ih := trimL_app x
    unfold Lib.trimLeftS at ih ⊢
    rw [List.cons_append, List.dropWhile_cons, List.dropWhile_cons]
    split
    · exact ih
    · rfl
theorem nthA {t x : List UInt8} {i : Nat} (h : i < t.length) : nth (t ++ x) i 0 = nth t i 0 := by
  unfold nth
  rw [List.getD_eq_getElem?_getD, List.getD_eq_getElem?_getD, List.getElem?_append_left h]
theorem nth_end {t : List UInt8} : nth (t ++ [41]) t.length 0 = 41 := by
  unfold nth
  rw [List.getD_eq_getElem?_getD, List.getElem?_append_right (Nat.le_refl _), Nat.sub_self]; rfl
theorem take_app {t x : List UInt8} {n : Nat} (h : n ≤ t.length) : (t ++ x).take n = t.take n := List.take_append_of_le_length h
theorem litU_app {t : List UInt8} (h : t ≠ []) : litU (t ++ [41]) = litU t := by
  have hp := List.length_pos_iff.2 h
  unfold litU
  rw [nthA hp]
  split
  · by_cases h2 : 2 ≤ t.length
    · rw [nthA (show 1 < t.length by omega), List.length_append]
      by_cases h3 : nth t 1 0 ||| 32 = 120
      · rw [if_pos ⟨(show 1 < t.length + 1 by omega), h3⟩, if_pos ⟨by omega, h3⟩]
      · rw [if_neg (fun h => h3 h.2), if_neg (fun h => h3 h.2)]
    · have h1 : t.length = 1 := by omega
      rw [if_neg, if_neg (fun h => by omega)]
      rintro ⟨_, h3⟩
      rw [show (1 : Nat) = t.length from h1.symm, nth_end] at h3
      revert h3; decide
  · rfl
theorem digV_close {u : Nat} (h : u = 16 ∨ u = 8 ∨ u = 10) : digV u 41 < 0 := by
  rcases h with rfl | rfl | rfl <;> decide
theorem litG_succ (u : Nat) (s : List UInt8) (f : Nat) (n : Int) (i : Nat) : litG u s (f + 1) n i = if i < s.length then (if digV u (nth s i 0) < 0 then (n, i) else litG u s f (w64 (w64 (n * (u : Int)) + digV u (nth s i 0))) (i + 1)) else (n, i) := rfl
theorem nameN_succ (f n : Nat) (s : List UInt8) : nameN (f + 1) n s = if n < s.length ∧ nameB (s.take (n + 1)) = true then nameN f (n + 1) s else n := rfl
theorem len_close (t : List UInt8) : (t ++ [41]).length = t.length + 1 := by rw [List.length_append]; rfl
theorem litG_app {u : Nat} (hu : u = 16 ∨ u = 8 ∨ u = 10) {t : List UInt8} : ∀ (f i : Nat) (n : Int), i ≤ t.length → t.length - i ≤ f → litG u (t ++ [41]) (f + 1) n i = litG u t f n i := by
  intro f
  induction f with
  | zero =>
    intro i n hi hf
    have : i = t.length := by omega
    subst this
    rw [litG_succ, if_pos (by rw [len_close]; omega), nth_end, if_pos (digV_close hu)]; rfl
  | succ g ih =>
    intro i n hi hf
    rw [litG_succ u (t ++ [41]) (g + 1)]
    rcases Nat.lt_or_ge i t.length with h | h
    · rw [litG_succ u t g, if_pos (by rw [len_close]; omega), if_pos h, nthA h]
      split
      · rfl
      · exact ih (i + 1) _ h (by omega)
    · have : i = t.length := by omega
      subst this
      rw [if_pos (by rw [len_close]; omega), nth_end, if_pos (digV_close hu), litG_end (by omega)]
theorem numLit_app {t : List UInt8} (h : t ≠ []) {r : Int × Nat} (hr : numLit t = some r) : numLit (t ++ [41]) = some r := by
  have hle := (numLit_le h hr).2
  have hul := litU_le h
  unfold numLit at hr ⊢
  simp only at hr ⊢
  rw [litU_app h, List.length_append, show t.length + [(41 : UInt8)].length = t.length + 1 from rfl, litG_app (litU_cases t) t.length _ 0 hul (by omega)]
  split at hr
  · cases hr
  · rename_i hc
    cases hr
    rw [if_neg]
    rintro (h1 | ⟨h1, h2⟩)
    · exact hc (.inl h1)
    · rcases Nat.lt_or_ge (litG (litU t).1 t t.length 0 (litU t).2).2 t.length with h3 | h3
      · refine hc (.inr ⟨h3, ?_⟩)
        rw [List.drop_append_of_le_length (by omega), List.take_append_of_le_length (by rw [List.length_drop]; omega)] at h2
        exact h2
      · have h4 : (litG (litU t).1 t t.length 0 (litU t).2).2 = t.length := by omega
        rw [h4, List.drop_append_of_le_length (Nat.le_refl _), List.drop_length] at h2
        revert h2; decide
theorem name_close {t : List UInt8} : nameB (t ++ [41]) = false := by
  refine nameB_false (i := t.length) (by rw [List.length_append]; simp) ?_
  unfold okN
  rw [nth_end]
  by_cases h : (t.length : Int) = 0
  · rw [decide_eq_true h]; decide
  · rw [decide_eq_false h]; decide
theorem nameN_app {t : List UInt8} : ∀ (f n : Nat), n ≤ t.length → t.length - n ≤ f → nameN (f + 1) n (t ++ [41]) = nameN f n t := by
  intro f
  have last : ∀ g, nameN (g + 1) t.length (t ++ [41]) = t.length := fun g => by
    rw [nameN_succ, if_neg]
    rintro ⟨_, h2⟩
    rw [List.take_of_length_le (by rw [len_close]; omega), name_close] at h2
    cases h2
  induction f with
  | zero =>
    intro n hn hf
    have : n = t.length := by omega
    subst this
    rw [last]; rfl
  | succ g ih =>
    intro n hn hf
    rcases Nat.lt_or_ge n t.length with h | h
    · rw [nameN_succ (g + 1) n (t ++ [41]), nameN_succ g n t, take_app (show n + 1 ≤ t.length by omega)]
      by_cases hb : nameB (t.take (n + 1)) = true
      · rw [if_pos ⟨by rw [len_close]; omega, hb⟩, if_pos ⟨h, hb⟩]
        exact ih (n + 1) h (by omega)
      · rw [if_neg (fun h => hb h.2), if_neg (fun h => hb h.2)]
    · have : n = t.length := by omega
      subst this
      rw [last, nameN_end (fun h => by omega)]
theorem contains_at {s sub : List UInt8} (h : Lib.contains s sub = true) : ∃ i, ∀ j, j < sub.length → i + j < s.length ∧ nth s (i + j) 0 = nth sub j 0 := by
  unfold Lib.contains at h
  have h0 := of_decide_eq_true h
  rcases Lib.index_spec s sub with ⟨h1, _⟩ | ⟨i, h1, h2, h3, _⟩
  · omega
  · refine ⟨i, fun j hj => ?_⟩
    unfold Lib.occAt at h3
    obtain ⟨r, hr⟩ := List.isPrefixOf_iff_prefix.1 h3
    have hl := congrArg List.length hr
    rw [List.length_append, List.length_drop] at hl
    refine ⟨by omega, ?_⟩
    unfold nth
    rw [List.getD_eq_getElem?_getD, List.getD_eq_getElem?_getD, ← List.getElem?_drop, ← hr, List.getElem?_append_left hj]
theorem contains_blank {t : List UInt8} (h : (32 : UInt8) ∈ t) : Lib.contains t [32] = true := by
  unfold Lib.contains
  rw [index_one, indexByte_has]
  unfold hasB
  rw [List.any_eq_true]
  exact ⟨32, h, by decide⟩
theorem sgn_close {p : List UInt8} (hp : p ≠ []) : sgnB (p ++ [41]) = false := by
  obtain ⟨m, hm⟩ : ∃ m, p.length = m + 1 := ⟨p.length - 1, by have := List.length_pos_iff.2 hp; omega⟩
  cases hb : sgnB (p ++ [41]) with
  | false => rfl
  | true =>
    unfold sgnB at hb
    rw [Bool.and_eq_true, Bool.not_eq_true'] at hb
    obtain ⟨i, hi⟩ := contains_at hb.1
    have hl : ([32] ++ (p ++ [41]) ++ [32]).length = m + 4 := by
      rw [List.length_append, List.length_append, len_close, hm]; show 1 + (m + 1 + 1) + 1 = m + 4; omega
    have h1 := hi (m + 2) (by rw [hl]; omega)
    have h2 := hi (m + 1) (by rw [hl]; omega)
    have e1 : nth ([32] ++ (p ++ [41]) ++ [32]) (m + 2) 0 = 41 := by
      show nth ((p ++ [41]) ++ [32]) (m + 1) 0 = 41
      rw [nthA (by rw [len_close]; omega), ← hm, nth_end]
    have e2 : nth ([32] ++ (p ++ [41]) ++ [32]) (m + 1) 0 = nth p m 0 := by
      show nth ((p ++ [41]) ++ [32]) m 0 = nth p m 0
      rw [nthA (by rw [len_close]; omega), nthA (by omega)]
    have key : ∀ j, j < sgnS.length - 1 → nth sgnS (j + 1) 0 = 41 → nth sgnS j 0 = 32 := by decide +kernel
    have h3 := key (i + (m + 1)) (by have := h1.1; omega) (by rw [show i + (m + 1) + 1 = i + (m + 2) by omega, h1.2, e1])
    rw [h2.2, e2] at h3
    have hmm : (32 : UInt8) ∈ p ++ [41] := List.mem_append.2 (.inl (h3 ▸ nth_mem (by omega)))
    rw [contains_blank hmm] at hb
    exact absurd hb.2 (by simp)
theorem sgn_open {p : List UInt8} (hp : p ≠ []) : sgnB ([40] ++ p) = false := by
  have hl := List.length_pos_iff.2 hp
  cases hb : sgnB ([40] ++ p) with
  | false => rfl
  | true =>
    unfold sgnB at hb
    rw [Bool.and_eq_true, Bool.not_eq_true'] at hb
    obtain ⟨i, hi⟩ := contains_at hb.1
    have hll : ([32] ++ ([40] ++ p) ++ [32]).length = p.length + 3 := by
      rw [List.length_append, List.length_append, List.length_append]; show 1 + (1 + p.length) + 1 = p.length + 3; omega
    have h1 := hi 1 (by rw [hll]; omega)
    have h2 := hi 2 (by rw [hll]; omega)
    have e1 : nth ([32] ++ ([40] ++ p) ++ [32]) 1 0 = 40 := rfl
    have e2 : nth ([32] ++ ([40] ++ p) ++ [32]) 2 0 = nth p 0 0 := by
      cases p with
      | nil => exact absurd rfl hp
      | cons a p => rfl
    have key : ∀ j, j < sgnS.length - 1 → nth sgnS j 0 = 40 → nth sgnS (j + 1) 0 = 32 := by decide +kernel
    have h3 := key (i + 1) (by have := h2.1; omega) (by rw [h1.2, e1])
    rw [show i + 1 + 1 = i + 2 by omega, h2.2, e2] at h3
    have hmm : (32 : UInt8) ∈ [40] ++ p := List.mem_append.2 (.inr (h3 ▸ nth_mem (by omega)))
    rw [contains_blank hmm] at hb
    exact absurd hb.2 (by simp)
theorem sgnN_take {t x : List UInt8} : ∀ n, n ≤ t.length → sgnN (t ++ x) n = sgnN t n
  | 0, _ => rfl
  | n + 1, h => by
    rw [sgnN, sgnN, take_app h, sgnN_take n (by omega)]
theorem sgnN_app {t : List UInt8} (h : t ≠ []) : sgnN (t ++ [41]) (min 3 (t ++ [41]).length) = sgnN t (min 3 t.length) := by
  have hp := List.length_pos_iff.2 h
  rw [List.length_append, show t.length + [(41 : UInt8)].length = t.length + 1 from rfl]
  by_cases h3 : 3 ≤ t.length
  · rw [show min 3 (t.length + 1) = 3 by omega, show min 3 t.length = 3 by omega]
    exact sgnN_take 3 h3
  · rw [show min 3 (t.length + 1) = t.length + 1 by omega, show min 3 t.length = t.length by omega]
    rw [sgnN, List.take_of_length_le (by rw [List.length_append]; simp), sgn_close h, if_neg (by simp)]
    exact sgnN_take _ (Nat.le_refl _)
theorem first_app {t : List UInt8} (h : t ≠ []) (ho : (firstP t).1.what ≠ 4) : firstP (t ++ [41]) = firstP t := by
  have hp := List.length_pos_iff.2 h
  unfold firstP at ho ⊢
  rw [if_neg h] at ho
  rw [if_neg h, if_neg (by simp), nthA hp]
  split
  · rename_i hd
    rw [if_pos hd] at ho
    cases hn : numLit t with
    | none => rw [hn] at ho; exact absurd rfl ho
    | some r =>
      rw [numLit_app h hn]
      have := (numLit_le h hn).2
      simp only
      rw [take_app this]
  · rename_i hd
    rw [if_neg hd] at ho
    rw [take_app (show 1 ≤ t.length from hp)]
    split
    · have hg := nameN_ge (s := t) t.length 1 hp
      rw [List.length_append, show t.length + [(41 : UInt8)].length = t.length + 1 from rfl, nameN_app t.length 1 hp (by omega), take_app hg.2]
    · rename_i hn
      rw [if_neg hn] at ho
      rw [sgnN_app h]
      split
      · rfl
      · have := sgnN_le t (min 3 t.length)
        rw [take_app (show sgnN t (min 3 t.length) ≤ t.length by omega)]
theorem first_kind {t : List UInt8} (h : t ≠ []) : (firstP t).1.what ≠ 0 := by
  unfold firstP
  rw [if_neg h]
  split
  · cases numLit t <;> simp [oddL]
  · split
    · simp
    · split <;> simp [oddL]
theorem lexG_app : ∀ (f : Nat) (t : List UInt8), t.length < f → (∀ x ∈ lexG f t, x.what ≠ 4) → lexG (f + 1) (t ++ [41]) = (lexG f t).dropLast ++ [rpL, lx0]
  | 0, _, h, _ => absurd h (Nat.not_lt_zero _)
  | f + 1, t, h, ho => by
    by_cases ht : t = []
    · subst ht
      have e1 : lexG (f + 1) [] = [lx0] := rfl
      rw [e1]
      show lexG (f + 2) [41] = [rpL, lx0]
      rw [lexG]
      have e2 : firstP [41] = (rpL, 1) := by kernel_rfl
      rw [e2, if_neg (by decide)]
      rfl
    · have h4 : (firstP t).1.what ≠ 4 := ho _ (by rw [lexG]; exact List.mem_cons_self)
      have h0 := first_kind ht
      have hs : stopL (firstP t).1 = false := by unfold stopL; rw [decide_eq_false h0, decide_eq_false h4]; rfl
      have ha := first_adv hs
      have hl := trimL_le (t.drop (firstP t).2) blS
      rw [List.length_drop] at hl
      rw [lexG, first_app ht h4, if_neg (by rw [hs]; simp), List.drop_append_of_le_length ha.2, trimL_app]
      have eL : lexG (f + 1) t = (firstP t).1 :: lexG f (Lib.trimLeftS (t.drop (firstP t).2) blS) := by
        rw [lexG, if_neg (by rw [hs]; simp)]
      have ih := lexG_app f (Lib.trimLeftS (t.drop (firstP t).2) blS) (by omega) (fun x hx => ho x (by rw [eL]; exact List.mem_cons_of_mem _ hx))
      rw [eL, ih, List.dropLast_cons_of_ne_nil]
      · rfl
      · intro hn
        obtain ⟨g, rfl⟩ : ∃ g, f = g + 1 := ⟨f - 1, by omega⟩
        rw [lexG] at hn; cases hn
theorem first_open {u : List UInt8} (h : u ≠ []) : firstP ([40] ++ u) = (lpL, 1) := by
  have hp := List.length_pos_iff.2 h
  have hs : sgnN ([40] ++ u) (min 3 ([40] ++ u).length) = 1 := by
    have key : ∀ n, 1 ≤ n → sgnN ([40] ++ u) n = 1 := by
      intro n
      induction n with
      | zero => intro h; omega
      | succ n ih =>
        intro _
        rcases Nat.eq_zero_or_pos n with rfl | hn
        · show (if sgnB [40] = true then 1 else 0) = 1
          rw [if_pos (by decide +kernel)]
        · rw [sgnN, if_neg, ih hn]
          have : ([40] ++ u).take (n + 1) = [40] ++ u.take n := rfl
          rw [this, sgn_open (List.length_pos_iff.1 (by rw [List.length_take]; omega))]
          simp
    exact key _ (by rw [List.length_append]; simp; omega)
  unfold firstP
  rw [if_neg (by simp), if_neg (by show ¬ digitB' 40 = true; decide), if_neg (by show ¬ nameB [40] = true; decide), hs, if_neg (by decide)]
  rfl
theorem lexL_par {s : List UInt8} (ho : ∀ x ∈ lexL s, x.what ≠ 4) : lexL ([40] ++ s ++ [41]) = lpL :: ((lexL s).dropLast ++ [rpL, lx0]) := by
  have ht : Lib.trimLeftS ([40] ++ s ++ [41]) blS = [40] ++ (s ++ [41]) := by
    rw [List.append_assoc]
    unfold Lib.trimLeftS
    rw [List.singleton_append, List.dropWhile_cons, if_neg (by decide)]
  have hl := trimL_le s blS
  have hlen : ([40] ++ s ++ [41]).length + 1 = ((s.length + 1) + 1) + 1 := by
    rw [len_close, List.length_append]; show 1 + s.length + 1 + 1 = _; omega
  unfold lexL
  rw [ht, hlen]
  rw [lexG, first_open (by simp), if_neg (by decide)]
  simp only
  have hd : List.drop 1 ([40] ++ (s ++ [41])) = s ++ [41] := rfl
  rw [hd, trimL_app, lexG_app (s.length + 1) _ (by omega) ho]
/-! ### readers -/
/-- one end, nothing ahead of it stops -/
def Fin (e : Lx) (L : List Lx) : Prop := L ≠ [] ∧ nth L (L.length - 1) lx0 = e ∧ stopL e = true ∧ ∀ i, i + 1 < L.length → stopL (nth L i lx0) = false
def sim (L : List Lx) : List Lx := L.dropLast ++ [rpL, lx0]
theorem Fin.pos {e : Lx} {L : List Lx} (h : Fin e L) : 1 ≤ L.length := List.length_pos_iff.2 h.1
theorem Fin.two {e : Lx} {L : List Lx} (h : Fin e L) (hs : stopL (nowL L) = false) : 2 ≤ L.length := by
  have h1 := h.pos
  rcases Nat.lt_or_ge L.length 2 with h2 | h2
  · have h3 := h.2.1
    rw [show L.length - 1 = 0 by omega] at h3
    rw [show nowL L = nth L 0 lx0 from rfl, h3, h.2.2.1] at hs
    cases hs
  · exact h2
theorem Fin.one {e : Lx} {L : List Lx} (h : Fin e L) (hs : stopL (nowL L) = true) : L.length = 1 ∧ nowL L = e := by
  have h1 := h.pos
  have h2 : L.length = 1 := by
    rcases Nat.lt_or_ge 1 L.length with h2 | h2
    · have := h.2.2.2 0 (by omega)
      rw [show nowL L = nth L 0 lx0 from rfl, this] at hs
      cases hs
    · omega
  refine ⟨h2, ?_⟩
  have := h.2.1
  rw [h2] at this
  exact this
theorem Fin.step {e : Lx} {L : List Lx} (h : Fin e L) : Fin e (stepL L) := by
  have h1 := h.pos
  unfold stepL
  split
  · exact h
  · have hl : (L.drop 1).length = L.length - 1 := List.length_drop
    refine ⟨List.length_pos_iff.1 (by omega), ?_, h.2.2.1, fun i hi => ?_⟩
    · rw [nth_drop1, hl, show L.length - 1 - 1 + 1 = L.length - 1 by omega]; exact h.2.1
    · rw [nth_drop1]; exact h.2.2.2 (i + 1) (by omega)
theorem sim_len (L : List Lx) (h : 1 ≤ L.length) : (sim L).length = L.length + 1 := by
  unfold sim
  rw [List.length_append, List.length_dropLast]; simp; omega
theorem nth_sim {L : List Lx} {i : Nat} (h : i + 1 < L.length) : nth (sim L) i lx0 = nth L i lx0 := by
  unfold sim nth
  rw [List.getD_eq_getElem?_getD, List.getD_eq_getElem?_getD, List.getElem?_append_left (by rw [List.length_dropLast]; omega), List.getElem?_dropLast, if_pos (by omega)]
theorem nth_sim_end {L : List Lx} (h : 1 ≤ L.length) : nth (sim L) (L.length - 1) lx0 = rpL := by
  unfold sim nth
  rw [List.getD_eq_getElem?_getD, List.getElem?_append_right (by rw [List.length_dropLast]; omega), List.length_dropLast, Nat.sub_self]; rfl
theorem now_sim {L : List Lx} (h : 2 ≤ L.length) : nowL (sim L) = nowL L := nth_sim (by omega)
theorem now_sim1 {L : List Lx} (h : L.length = 1) : nowL (sim L) = rpL := by
  have := nth_sim_end (L := L) (by omega)
  rw [h] at this; exact this
theorem step_sim {L : List Lx} (h : 2 ≤ L.length) : stepL (sim L) = sim (stepL L) := by
  have hl := sim_len L (by omega)
  unfold stepL
  rw [if_neg (by omega), if_neg (by omega)]
  unfold sim
  rw [List.drop_append_of_le_length (by rw [List.length_dropLast]; omega)]
  congr 1
  apply List.ext_getElem?
  intro i
  rw [List.getElem?_drop, List.getElem?_dropLast, List.getElem?_dropLast, List.length_drop, List.getElem?_drop]
  by_cases hi : 1 + i < L.length - 1
  · rw [if_pos hi, if_pos (by omega)]
  · rw [if_neg hi, if_neg (by omega)]
theorem Fin.two_of {e : Lx} {L : List Lx} {p : Lx → Prop} (h : Fin e L) (hp : p (nowL L)) (hn : ∀ x, stopL x = true → ¬ p x) : 2 ≤ L.length := by
  refine h.two ?_
  cases hs : stopL (nowL L) with
  | false => rfl
  | true => exact absurd hp (hn _ hs)
theorem stop_what {x : Lx} (h : stopL x = true) : x.what = 0 ∨ x.what = 4 := by
  unfold stopL at h
  simpa using h
theorem isL_sim {e : Lx} {L : List Lx} {t : List UInt8} (h : Fin e L) (ht : t ≠ [41]) : isL (sim L) t = isL L t := by
  cases hs : stopL (nowL L) with
  | false => unfold isL; rw [now_sim (h.two hs)]
  | true =>
    obtain ⟨h1, _⟩ := h.one hs
    have hw := stop_what hs
    unfold isL
    rw [now_sim1 h1, decide_eq_false (show ¬ (nowL L).what = 3 by omega)]
    rw [show decide (rpL.text = t) = false from decide_eq_false (fun h => ht h.symm)]
    simp
theorem isL_sim2 {e : Lx} {L : List Lx} {t : List UInt8} (h : Fin e L) (ht : isL L t = true) : 2 ≤ L.length ∧ isL (sim L) t = true := by
  have h2 := h.two (isL_stop ht)
  exact ⟨h2, by unfold isL at ht ⊢; rw [now_sim h2]; exact ht⟩
theorem unaB_sim {e : Lx} {L : List Lx} (h : Fin e L) : unaB (sim L) = unaB L := by
  unfold unaB
  rw [isL_sim h (by decide), isL_sim h (by decide), isL_sim h (by decide), isL_sim h (by decide)]
theorem close_lv (v : Nat) : Lib.contains (lvS v) ([32] ++ [41] ++ [32]) = false := by
  have h10 : ∀ k, k < 10 → Lib.contains (lvS k) ([32] ++ [41] ++ [32]) = false := by decide +kernel
  rcases Nat.lt_or_ge v 10 with h | h
  · exact h10 v h
  · have : lvS v = lvS 9 := by unfold lvS; split <;> first | omega | rfl
    rw [this]; exact h10 9 (by decide)
theorem binB_sim {e : Lx} {L : List Lx} {v : Nat} (h : Fin e L) : binB v (sim L) = binB v L := by
  cases hs : stopL (nowL L) with
  | false => unfold binB; rw [now_sim (h.two hs)]
  | true =>
    obtain ⟨h1, _⟩ := h.one hs
    have hw := stop_what hs
    unfold binB
    rw [now_sim1 h1, decide_eq_false (show ¬ (nowL L).what = 3 by omega), show rpL.text = [41] from rfl, close_lv]
    simp
theorem asgB_sim {e : Lx} {L : List Lx} (h : Fin e L) : asgB (sim L) = asgB L := by
  cases hs : stopL (nowL L) with
  | true =>
    obtain ⟨h1, _⟩ := h.one hs
    have hw := stop_what hs
    unfold asgB
    rw [now_sim1 h1, decide_eq_false (show ¬ (nowL L).what = 2 by omega), show decide (rpL.what = 2) = false from rfl]
    simp
  | false =>
    have h2 := h.two hs
    have hl := sim_len L (by omega)
    unfold asgB
    rw [now_sim h2]
    have et : thenL (sim L) = nth (sim L) 1 lx0 := by unfold thenL; rw [if_neg (by omega)]
    have et2 : thenL L = nth L 1 lx0 := by unfold thenL; rw [if_neg (by omega)]
    rw [et, et2]
    by_cases h3 : 3 ≤ L.length
    · rw [nth_sim (by omega)]
    · have e1 : L.length = 2 := by omega
      have hr := nth_sim_end (L := L) (by omega)
      have he := h.2.1
      rw [e1] at hr he
      have hr' : nth (sim L) 1 lx0 = rpL := hr
      have he' : nth L 1 lx0 = e := he
      rw [hr', he']
      have hw := stop_what h.2.2.1
      rw [decide_eq_false (show ¬ e.what = 3 by omega), show Lib.contains asgS ([32] ++ rpL.text ++ [32]) = false from by show Lib.contains asgS ([32] ++ [41] ++ [32]) = false; decide +kernel]
      simp
theorem what_sim {e : Lx} {L : List Lx} {n : Nat} (h : Fin e L) (hn : n = 1 ∨ n = 2) : ((nowL (sim L)).what = n ↔ (nowL L).what = n) := by
  cases hs : stopL (nowL L) with
  | false => rw [now_sim (h.two hs)]
  | true =>
    obtain ⟨h1, _⟩ := h.one hs
    have hw := stop_what hs
    rw [now_sim1 h1]
    constructor
    · intro h; rw [show rpL.what = 3 from rfl] at h; omega
    · intro h; omega
/-- one level deeper the same comes of it, or it is too deep -/
def Sm (e : Lx) (L : List Lx) (r r' : PA) : Prop := ∀ x L1, r = .ok x L1 → (Fin e L1 ∧ L1.length ≤ L.length) ∧ (r' = .ok x (sim L1) ∨ r' = .bad 52)
theorem sm_bad {e : Lx} {L : List Lx} {k : Nat} {r' : PA} : Sm e L (.bad k) r' := fun _ _ h => by cases h
theorem sm_ok {e : Lx} {L L1 : List Lx} {x : Ex} (h : Fin e L1) (hl : L1.length ≤ L.length) : Sm e L (.ok x L1) (.ok x (sim L1)) := fun _ _ h2 => by cases h2; exact ⟨⟨h, hl⟩, .inl rfl⟩
theorem sm_deep {e : Lx} {L L1 : List Lx} {x : Ex} (h : Fin e L1) (hl : L1.length ≤ L.length) : Sm e L (.ok x L1) (.bad 52) := fun _ _ h2 => by cases h2; exact ⟨⟨h, hl⟩, .inr rfl⟩
structure SmR (e : Lx) (R R' : RdA) : Prop where
  asg : ∀ L, Fin e L → Sm e L (R.asg L) (R'.asg (sim L))
  cho : ∀ L, Fin e L → Sm e L (R.cho L) (R'.cho (sim L))
  opd : ∀ L, Fin e L → Sm e L (R.opd L) (R'.opd (sim L))
theorem sm_opdP {e : Lx} {R R' : RdA} (hR : SmR e R R') {L : List Lx} (h : Fin e L) : Sm e L (opdP R L) (opdP R' (sim L)) := by
  have hle := stepL_le L
  unfold opdP
  rw [unaB_sim h]
  split
  · rename_i hu
    have h2 := h.two (una_stop hu)
    rw [step_sim h2, now_sim h2]
    cases hr : R.opd (stepL L) with
    | bad k => exact sm_bad
    | ok x L1 =>
      obtain ⟨⟨g1, g2⟩, g3⟩ := hR.opd _ h.step x L1 hr
      rcases g3 with g3 | g3
      · rw [g3]; exact sm_ok g1 (by omega)
      · rw [g3]; exact sm_deep g1 (by omega)
  · rw [isL_sim h (by decide)]
    split
    · rename_i hp
      have h2 := h.two (isL_stop hp)
      rw [step_sim h2]
      cases hr : R.asg (stepL L) with
      | bad k => exact sm_bad
      | ok x L1 =>
        obtain ⟨⟨g1, g2⟩, g3⟩ := hR.asg _ h.step x L1 hr
        have hl1 := stepL_le L1
        simp only
        split
        · rename_i hc
          obtain ⟨k1, k2⟩ := isL_sim2 g1 hc
          rcases g3 with g3 | g3
          · rw [g3]; simp only
            rw [if_pos k2, step_sim k1]
            exact sm_ok g1.step (by omega)
          · rw [g3]; exact sm_deep g1.step (by omega)
        · exact sm_bad
    · by_cases hw : (nowL L).what = 1
      · have h2 := h.two (what_stop hw (by decide))
        rw [if_pos hw, if_pos ((what_sim h (.inl rfl)).2 hw), now_sim h2, step_sim h2]
        exact sm_ok h.step hle
      · rw [if_neg hw, if_neg (fun h3 => hw ((what_sim h (.inl rfl)).1 h3))]
        by_cases hw2 : (nowL L).what = 2
        · have h2 := h.two (what_stop hw2 (by decide))
          rw [if_pos hw2, if_pos ((what_sim h (.inr rfl)).2 hw2), now_sim h2, step_sim h2]
          exact sm_ok h.step hle
        · rw [if_neg hw2]
          exact sm_bad
theorem sm_sidG {e : Lx} {v : Nat} {next next' : List Lx → PA} (hn : ∀ L, Fin e L → Sm e L (next L) (next' (sim L))) : ∀ (f : Nat) (x : Ex) (L : List Lx), Fin e L → L.length ≤ f → Sm e L (sidG v next f x L) (sidG v next' (f + 1) x (sim L))
  | 0, x, L, h, hf => by have := h.pos; omega
  | f + 1, x, L, h, hf => by
    rw [sidG, sidG, binB_sim h]
    split
    · rename_i hb
      have h2 := h.two (binB_stop hb)
      have hl : (stepL L).length + 1 = L.length := by
        unfold stepL; rw [if_neg (by omega), List.length_drop]; omega
      rw [step_sim h2, now_sim h2]
      cases hr : next (stepL L) with
      | bad k => exact sm_bad
      | ok y L1 =>
        obtain ⟨⟨g1, g2⟩, g3⟩ := hn _ h.step y L1 hr
        simp only
        rcases g3 with g3 | g3
        · rw [g3]; simp only
          intro z L2 hz
          have := sm_sidG hn f _ L1 g1 (by omega) z L2 hz
          exact ⟨⟨this.1.1, by omega⟩, this.2⟩
        · rw [g3]
          intro z L2 hz
          have := sm_sidG hn f _ L1 g1 (by omega) z L2 hz
          exact ⟨⟨this.1.1, by omega⟩, .inr rfl⟩
    · exact sm_ok h (Nat.le_refl _)
theorem sm_sidP {e : Lx} {R R' : RdA} (hR : SmR e R R') : ∀ (k : Nat) (L : List Lx), Fin e L → Sm e L (sidP R k L) (sidP R' k (sim L))
  | 0, L, h => sm_opdP hR h
  | k + 1, L, h => by
    rw [sidP, sidP]
    cases hr : sidP R k L with
    | bad k => exact sm_bad
    | ok x L1 =>
      obtain ⟨⟨g1, g2⟩, g3⟩ := sm_sidP hR k L h x L1 hr
      simp only
      rcases g3 with g3 | g3
      · rw [g3]; simp only
        rw [sim_len L1 g1.pos]
        intro z L2 hz
        have := sm_sidG (v := 9 - k) (sm_sidP hR k) L1.length x L1 g1 (Nat.le_refl _) z L2 hz
        exact ⟨⟨this.1.1, by omega⟩, this.2⟩
      · rw [g3]
        intro z L2 hz
        have := sm_sidG (v := 9 - k) (sm_sidP hR k) L1.length x L1 g1 (Nat.le_refl _) z L2 hz
        exact ⟨⟨this.1.1, by omega⟩, .inr rfl⟩
theorem sm_choP {e : Lx} {R R' : RdA} (hR : SmR e R R') {L : List Lx} (h : Fin e L) : Sm e L (choP R L) (choP R' (sim L)) := by
  unfold choP
  cases hr : sidP R 10 L with
  | bad k => exact sm_bad
  | ok x L1 =>
    obtain ⟨⟨g1, g2⟩, g3⟩ := sm_sidP hR 10 L h x L1 hr
    have hl1 := stepL_le L1
    rcases g3 with g3 | g3
    · rw [g3]; simp only
      rw [isL_sim g1 (by decide)]
      split
      · rename_i hq
        have k1 := g1.two (isL_stop hq)
        rw [step_sim k1]
        cases ha : R.asg (stepL L1) with
        | bad k => exact sm_bad
        | ok y L2 =>
          obtain ⟨⟨m1, m2⟩, m3⟩ := hR.asg _ g1.step y L2 ha
          have hl2 := stepL_le L2
          simp only
          split
          · rename_i hc
            obtain ⟨n1, n2⟩ := isL_sim2 m1 hc
            cases hcc : R.cho (stepL L2) with
            | bad k => exact sm_bad
            | ok z L3 =>
              obtain ⟨⟨p1, p2⟩, p3⟩ := hR.cho _ m1.step z L3 hcc
              rcases m3 with m3 | m3
              · rw [m3]; simp only
                rw [if_pos n2, step_sim n1]
                rcases p3 with p3 | p3
                · rw [p3]; exact sm_ok p1 (by omega)
                · rw [p3]; exact sm_deep p1 (by omega)
              · rw [m3]; exact sm_deep p1 (by omega)
          · exact sm_bad
      · exact sm_ok g1 g2
    · rw [g3]; simp only
      split
      · cases ha : R.asg (stepL L1) with
        | bad k => exact sm_bad
        | ok y L2 =>
          obtain ⟨⟨m1, m2⟩, _⟩ := hR.asg _ g1.step y L2 ha
          have hl2 := stepL_le L2
          simp only
          split
          · cases hcc : R.cho (stepL L2) with
            | bad k => exact sm_bad
            | ok z L3 =>
              obtain ⟨⟨p1, p2⟩, _⟩ := hR.cho _ m1.step z L3 hcc
              exact sm_deep p1 (by omega)
          · exact sm_bad
      · exact sm_deep g1 g2
theorem sm_asgP {e : Lx} {R R' : RdA} (hR : SmR e R R') {L : List Lx} (h : Fin e L) : Sm e L (asgP R L) (asgP R' (sim L)) := by
  unfold asgP
  rw [asgB_sim h]
  split
  · rename_i ha
    have hs := asgB_stop ha
    have h2 := h.two hs.1
    have h2' : 2 ≤ (stepL L).length := h.step.two (by rw [nowL_step h.1]; exact hs.2)
    have hl1 := stepL_le L
    have hl2 := stepL_le (stepL L)
    have ht : thenL (sim L) = thenL L := by
      have : nowL (sim (stepL L)) = nowL (stepL L) := now_sim h2'
      rw [← step_sim h2, nowL_step (List.length_pos_iff.1 (by rw [sim_len L (by omega)]; omega)), nowL_step h.1] at this
      exact this
    rw [step_sim h2, step_sim h2', now_sim h2, ht]
    cases hr : R.asg (stepL (stepL L)) with
    | bad k => exact sm_bad
    | ok x L1 =>
      obtain ⟨⟨g1, g2⟩, g3⟩ := hR.asg _ h.step.step x L1 hr
      rcases g3 with g3 | g3
      · rw [g3]; exact sm_ok g1 (by omega)
      · rw [g3]; exact sm_deep g1 (by omega)
  · exact sm_choP hR h
theorem sm_rdA (e : Lx) : ∀ n, SmR e (rdA (n + 1)) (rdA n)
  | 0 => by
    have h0 : SmR e (rdA 0) (rdA 0) := ⟨fun _ _ => sm_bad, fun _ _ => sm_bad, fun _ _ => sm_bad⟩
    have key : ∀ {L : List Lx} {r r' : PA}, Sm e L r r' → Sm e L r (.bad 52) := fun h x L1 hx => ⟨(h x L1 hx).1, .inr rfl⟩
    exact ⟨fun L h => key (sm_asgP h0 h), fun L h => key (sm_choP h0 h), fun L h => key (sm_opdP h0 h)⟩
  | n + 1 => ⟨fun L h => sm_asgP (sm_rdA e n) h, fun L h => sm_choP (sm_rdA e n) h, fun L h => sm_opdP (sm_rdA e n) h⟩
theorem lexG_fin : ∀ (f : Nat) (t : List UInt8), t.length < f → ∃ e, Fin e (lexG f t)
  | 0, _, h => absurd h (Nat.not_lt_zero _)
  | f + 1, t, h => by
    rw [lexG]
    by_cases hs : stopL (firstP t).1 = true
    · rw [if_pos hs]
      exact ⟨(firstP t).1, by simp, rfl, hs, fun i hi => by simp at hi⟩
    · rw [if_neg hs]
      have h1 := first_adv (t := t) (by simpa using hs)
      have h3 := trimL_le (t.drop (firstP t).2) blS
      rw [List.length_drop] at h3
      obtain ⟨e, g1, g2, g3, g4⟩ := lexG_fin f (Lib.trimLeftS (t.drop (firstP t).2) blS) (by omega)
      have hp := List.length_pos_iff.2 g1
      refine ⟨e, by simp, ?_, g3, fun i hi => ?_⟩
      · rw [List.length_cons, show ∀ n, n + 1 - 1 = n from fun n => rfl]
        rw [show (lexG f (Lib.trimLeftS (t.drop (firstP t).2) blS)).length = ((lexG f (Lib.trimLeftS (t.drop (firstP t).2) blS)).length - 1) + 1 by omega]
        exact g2
      · match i with
        | 0 => show stopL (firstP t).1 = false; simpa using hs
        | i + 1 => exact g4 i (by rw [List.length_cons] at hi; omega)
theorem lexL_fin (s : List UInt8) : ∃ e, Fin e (lexL s) := by
  have := trimL_le s blS
  exact lexG_fin _ _ (by omega)
theorem rdA_succ (n : Nat) : rdA (n + 1) = ⟨asgP (rdA n), choP (rdA n), opdP (rdA n)⟩ := rfl
theorem par_sid {R : RdA} {x : Ex} {L : List Lx} (h : opdP R L = .ok x [lx0]) : ∀ k, sidP R k L = .ok x [lx0]
  | 0 => h
  | k + 1 => by
    rw [sidP, par_sid h k]
    simp only
    have : binB (9 - k) [lx0] = false := rfl
    rw [show [lx0].length = 0 + 1 from rfl, sidG, this]; rfl
theorem par_sidE {R : RdA} {e : Nat} {L : List Lx} (h : opdP R L = .bad e) : ∀ k, sidP R k L = .bad e
  | 0 => h
  | k + 1 => by rw [sidP, par_sidE h k]
theorem asg_par (L : List Lx) : asgB (lpL :: L) = false := rfl
theorem par_not (s : List UInt8) : Lib.trimS ([40] ++ s ++ [41]) blS ≠ [] := by
  rw [trimS_same (by simp) (show blS.contains 40 = false by decide)]
  · simp
  · have hl : ([40] ++ s ++ [41]).length - 1 = ([40] ++ s).length := by rw [len_close]; omega
    rw [hl, nth_end]; decide
theorem read_par {s : List UInt8} {x : Ex} (hb : Lib.trimS s blS ≠ []) (h : readA s = .ok x) : readA ([40] ++ s ++ [41]) = .ok x ∨ readA ([40] ++ s ++ [41]) = .bad 52 := by
  obtain ⟨e, hF⟩ := lexL_fin s
  unfold readA at h
  rw [if_neg hb] at h
  cases hr : (rdA 25).asg (lexL s) with
  | bad k => rw [hr] at h; cases h
  | ok y L1 =>
    rw [hr] at h
    simp only at h
    split at h
    · rename_i hw
      cases h
      obtain ⟨⟨g1, _⟩, g3⟩ := (sm_rdA e 24).asg _ hF x L1 hr
      have hs : stopL (nowL L1) = true := by unfold stopL; rw [hw]; rfl
      obtain ⟨h1, h2⟩ := g1.one hs
      have hsim : sim L1 = [rpL, lx0] := by
        unfold sim
        rw [List.eq_nil_of_length_eq_zero (show L1.dropLast.length = 0 by rw [List.length_dropLast]; omega)]; rfl
      have hno : ∀ z ∈ lexL s, z.what ≠ 4 := by
        intro z hz
        obtain ⟨i, hi, rfl⟩ := List.getElem_of_mem hz
        rw [← nth_eq (d := lx0) hi]
        by_cases hl : i + 1 < (lexL s).length
        · have := hF.2.2.2 i hl
          unfold stopL at this
          simp only [Bool.or_eq_false_iff, decide_eq_false_iff_not] at this
          exact this.2
        · rw [show i = (lexL s).length - 1 by omega, hF.2.1, ← h2, hw]; decide
      have hL := lexL_par hno
      have hst : stepL (lpL :: sim (lexL s)) = sim (lexL s) := by
        unfold stepL
        rw [if_neg (by rw [List.length_cons, sim_len _ hF.pos]; omega)]; rfl
      have hread : readA ([40] ++ s ++ [41]) = (match (rdA 25).asg (lpL :: sim (lexL s)) with | .bad e => .bad e | .ok x L => if (nowL L).what = 0 then .ok x else .bad 60) := by
        unfold readA
        rw [if_neg (par_not s), hL]; rfl
      have hasg : (rdA 25).asg (lpL :: sim (lexL s)) = choP (rdA 24) (lpL :: sim (lexL s)) := by
        rw [show (25 : Nat) = 24 + 1 from rfl, rdA_succ]
        dsimp only
        unfold asgP
        rw [if_neg (by rw [asg_par]; simp)]
      rw [hread, hasg]
      rcases g3 with g3 | g3
      · left
        have ho : opdP (rdA 24) (lpL :: sim (lexL s)) = .ok x [lx0] := by
          unfold opdP
          rw [if_neg (show ¬ unaB (lpL :: sim (lexL s)) = true by show ¬ false = true; simp), if_pos (show isL (lpL :: sim (lexL s)) [40] = true from rfl), hst, g3, hsim]
          rfl
        unfold choP
        rw [par_sid ho 10]
        rfl
      · right
        have ho : opdP (rdA 24) (lpL :: sim (lexL s)) = .bad 52 := by
          unfold opdP
          rw [if_neg (show ¬ unaB (lpL :: sim (lexL s)) = true by show ¬ false = true; simp), if_pos (show isL (lpL :: sim (lexL s)) [40] = true from rfl), hst, g3]
        unfold choP
        rw [par_sidE ho 10]
    · cases h
theorem dropW_nil {p : UInt8 → Bool} : ∀ {l : List UInt8}, l.dropWhile p = [] ↔ ∀ x ∈ l, p x = true
  | [] => ⟨fun _ _ h => (by cases h), fun _ => rfl⟩
  | a :: l => by
    rw [List.dropWhile_cons]
    cases h : p a with
    | false => exact ⟨fun h2 => (by simp at h2), fun h2 => (by rw [h2 a List.mem_cons_self] at h; cases h)⟩
    | true =>
      rw [if_pos rfl, dropW_nil]
      exact ⟨fun h2 x hx => (List.mem_cons.1 hx).elim (fun e => e ▸ h) (h2 x), fun h2 x hx => h2 x (List.mem_cons_of_mem _ hx)⟩
theorem dropW_mem {p : UInt8 → Bool} {c : UInt8} (hc : p c = false) : ∀ {l : List UInt8}, c ∈ l → c ∈ l.dropWhile p
  | [], h => by cases h
  | a :: l, h => by
    rw [List.dropWhile_cons]
    cases ha : p a with
    | false => exact h
    | true =>
      rw [if_pos rfl]
      rcases List.mem_cons.1 h with rfl | h
      · rw [hc] at ha; cases ha
      · exact dropW_mem hc h
theorem blank_trim {s : List UInt8} : Lib.trimS s blS = [] ↔ s.all (blS.contains ·) = true := by
  unfold Lib.trimS Lib.trimRightS Lib.trimLeftS
  rw [dropW_nil, List.all_eq_true]
  constructor
  · intro h c hc
    cases hb : blS.contains c with
    | true => rfl
    | false =>
      have hm := dropW_mem (p := (blS.contains ·)) hb (List.mem_reverse.2 hc)
      have := h c (List.mem_reverse.2 hm)
      rw [hb] at this; cases this
  · intro h c hc
    have := (List.dropWhile_sublist (l := s.reverse) (blS.contains ·)).mem (List.mem_reverse.1 hc)
    exact h c (List.mem_reverse.1 this)
theorem blank_lex {s : List UInt8} (h : s.all (blS.contains ·) = true) : lexL s = [lx0] := by
  have : Lib.trimLeftS s blS = [] := by
    unfold Lib.trimLeftS
    exact dropW_nil.2 (fun x hx => List.all_eq_true.1 h x hx)
  unfold lexL
  rw [this]; rfl
theorem blank_par {s : List UInt8} (h : s.all (blS.contains ·) = true) : readA ([40] ++ s ++ [41]) = .bad 60 := by
  have hl := blank_lex h
  have hL := lexL_par (s := s) (by rw [hl]; intro x hx; rw [List.mem_singleton] at hx; subst hx; decide)
  unfold readA
  rw [if_neg (par_not s), hL, hl]
  have : (rdA 25).asg (lpL :: ([lx0].dropLast ++ [rpL, lx0])) = .bad 60 := by kernel_rfl
  rw [this]
/-! errors have numbers -/
def Nz (r : PA) : Prop := ∀ e, r = .bad e → e ≠ 0
theorem nz_ok {x : Ex} {L : List Lx} : Nz (.ok x L) := fun _ h => by cases h
theorem nz_bad {k : Nat} (h : k ≠ 0) : Nz (.bad k) := fun _ h2 => by cases h2; exact h
structure NzR (R : RdA) : Prop where
  asg : ∀ L, Nz (R.asg L)
  cho : ∀ L, Nz (R.cho L)
  opd : ∀ L, Nz (R.opd L)
theorem nz_opdP {R : RdA} (h : NzR R) (L : List Lx) : Nz (opdP R L) := by
  unfold opdP
  split
  · cases hr : R.opd (stepL L) with
    | bad k => exact nz_bad (h.opd _ k hr)
    | ok x L1 => exact nz_ok
  · split
    · cases hr : R.asg (stepL L) with
      | bad k => exact nz_bad (h.asg _ k hr)
      | ok x L1 => simp only; split; exact nz_ok; exact nz_bad (by decide)
    · split
      · exact nz_ok
      · split
        · exact nz_ok
        · exact nz_bad (by decide)
theorem nz_sidG {v : Nat} {next : List Lx → PA} (hn : ∀ L, Nz (next L)) : ∀ (f : Nat) (x : Ex) (L : List Lx), Nz (sidG v next f x L)
  | 0, _, _ => nz_ok
  | f + 1, x, L => by
    rw [sidG]
    split
    · cases hr : next (stepL L) with
      | bad k => exact nz_bad (hn _ k hr)
      | ok y L1 => exact nz_sidG hn f _ _
    · exact nz_ok
theorem nz_sidP {R : RdA} (h : NzR R) : ∀ (k : Nat) (L : List Lx), Nz (sidP R k L)
  | 0, L => nz_opdP h L
  | k + 1, L => by
    rw [sidP]
    cases hr : sidP R k L with
    | bad j => exact nz_bad (nz_sidP h k L j hr)
    | ok x L1 => exact nz_sidG (nz_sidP h k) _ _ _
theorem nz_choP {R : RdA} (h : NzR R) (L : List Lx) : Nz (choP R L) := by
  unfold choP
  cases hr : sidP R 10 L with
  | bad j => exact nz_bad (nz_sidP h 10 L j hr)
  | ok x L1 =>
    simp only
    split
    · cases ha : R.asg (stepL L1) with
      | bad j => exact nz_bad (h.asg _ j ha)
      | ok y L2 =>
        simp only
        split
        · cases hc : R.cho (stepL L2) with
          | bad j => exact nz_bad (h.cho _ j hc)
          | ok z L3 => exact nz_ok
        · exact nz_bad (by decide)
    · exact nz_ok
theorem nz_asgP {R : RdA} (h : NzR R) (L : List Lx) : Nz (asgP R L) := by
  unfold asgP
  split
  · cases ha : R.asg (stepL (stepL L)) with
    | bad j => exact nz_bad (h.asg _ j ha)
    | ok y L2 => exact nz_ok
  · exact nz_choP h L
theorem nz_rdA : ∀ n, NzR (rdA n)
  | 0 => ⟨fun _ => nz_bad (by decide), fun _ => nz_bad (by decide), fun _ => nz_bad (by decide)⟩
  | n + 1 => ⟨nz_asgP (nz_rdA n), nz_choP (nz_rdA n), nz_opdP (nz_rdA n)⟩
theorem read_err {s : List UInt8} {k : Nat} (h : readA s = .bad k) : k ≠ 0 := by
  unfold readA at h
  split at h
  · cases h
  · cases hr : (rdA 25).asg (lexL s) with
    | bad j => rw [hr] at h; cases h; exact (nz_rdA 25).asg _ _ hr
    | ok x L =>
      rw [hr] at h
      simp only at h
      split at h
      · cases h
      · cases h; decide
/-- the law -/
theorem parens (s : List UInt8) (vs : List (List UInt8 × List UInt8)) :
    (s.all (blS.contains ·) = true → (evalP s vs).1 = 0 ∧ (evalP s vs).2.2 = 0 ∧ (evalP ([40] ++ s ++ [41]) vs).2.2 = 60) ∧
    (s.all (blS.contains ·) = false → ((evalP s vs).2.2 = 0 → (evalP ([40] ++ s ++ [41]) vs).2.2 = 0 → evalP ([40] ++ s ++ [41]) vs = evalP s vs) ∧
      ((evalP s vs).2.2 = 0 → (evalP ([40] ++ s ++ [41]) vs).2.2 ≠ 0 → (evalP ([40] ++ s ++ [41]) vs).2.2 = 52) ∧
      ((evalP s vs).2.2 ≠ 0 → (evalP s vs).1 = 0 ∧ (evalP s vs).2.1 = [])) := by
  refine ⟨fun h => ?_, fun h => ?_⟩
  · have h1 : readA s = .ok (.num 0) := by unfold readA; rw [if_pos (blank_trim.2 h)]
    have h2 := blank_par h
    unfold evalP
    rw [h1, h2]
    exact ⟨rfl, rfl, rfl⟩
  · have hb : Lib.trimS s blS ≠ [] := fun h2 => by rw [blank_trim.1 h2] at h; cases h
    cases hr : readA s with
    | bad k =>
      have e1 : evalP s vs = (0, [], k) := by unfold evalP; rw [hr]
      have hk : k ≠ 0 ∨ k = 0 := by omega
      refine ⟨fun h0 => ?_, fun h0 => ?_, fun _ => by rw [e1]; exact ⟨rfl, rfl⟩⟩
      · rw [e1] at h0
        exact absurd h0 (read_err hr)
      · rw [e1] at h0
        exact absurd h0 (read_err hr)
    | ok x =>
      rcases read_par hb hr with h2 | h2
      · have e1 : evalP ([40] ++ s ++ [41]) vs = evalP s vs := by unfold evalP; rw [hr, h2]
        refine ⟨fun _ _ => e1, fun h0 h3 => ?_, fun h0 => ?_⟩
        · rw [e1] at h3; exact absurd h0 h3
        · unfold evalP at h0 ⊢
          rw [hr] at h0 ⊢
          simp only at h0 ⊢
          cases hw : workP vs x [] with
          | bad k => exact ⟨rfl, rfl⟩
          | ok v S => rw [hw] at h0; exact absurd rfl h0
      · have e1 : (evalP ([40] ++ s ++ [41]) vs).2.2 = 52 := by unfold evalP; rw [h2]
        refine ⟨fun _ h3 => (by rw [e1] at h3; cases h3), fun _ _ => e1, fun h0 => ?_⟩
        unfold evalP at h0 ⊢
        rw [hr] at h0 ⊢
        simp only at h0 ⊢
        cases hw : workP vs x [] with
        | bad k => exact ⟨rfl, rfl⟩
        | ok v S => rw [hw] at h0; exact absurd rfl h0
end Go.Tri

/-
  What some expressions are worth, whatever the variables' numbers.
-/
namespace Go.Tri
open Go.RowKit
def I64 (a : Int) : Prop := -9223372036854775808 ≤ a ∧ a ≤ 9223372036854775807
theorem evT {s : List UInt8} {vs : List (List UInt8 × List UInt8)} {x : Ex} {v : Int} {S : List Ass} (h : readA s = .ok x) (hw : workP vs x [] = .ok v S) : evalP s vs = (v, S, 0) := by
  unfold evalP; rw [h]; simp only; rw [hw]
theorem evE {s : List UInt8} {vs : List (List UInt8 × List UInt8)} {x : Ex} {k : Nat} (h : readA s = .ok x) (hw : workP vs x [] = .bad k) : evalP s vs = (0, [], k) := by
  unfold evalP; rw [h]; simp only; rw [hw]
theorem wk_var {vs : List (List UInt8 × List UInt8)} {S : List Ass} {nm : List UInt8} {a : Int} (h : worthP vs S nm = (a, 0)) : workP vs (.var nm) S = .ok a S := by
  simp only [workP]; rw [h]; rfl
theorem wk_asg {vs : List (List UInt8 × List UInt8)} {S S1 : List Ass} {op nm : List UInt8} {k : Ex} {a : Int} (ho : op = [61]) (h : workP vs k S = .ok a S1) : workP vs (.asg op nm k) S = .ok a (S1 ++ [(nm, a)]) := by
  simp only [workP]; rw [if_pos ho, h]
theorem wk_asg2 {vs : List (List UInt8 × List UInt8)} {S S1 : List Ass} {op nm : List UInt8} {k : Ex} {a b r : Int} (ho : op ≠ [61]) (hw : worthP vs S nm = (a, 0)) (h : workP vs k S = .ok b S1) (ht : twoP (Lib.trimSuffix op [61]) a b = (r, 0)) : workP vs (.asg op nm k) S = .ok r (S1 ++ [(nm, r)]) := by
  have h0 : (worthP vs S nm).2 = 0 := by rw [hw]
  have h1 : (twoP (Lib.trimSuffix op [61]) (worthP vs S nm).1 b).2 = 0 := by rw [hw, ht]
  simp only [workP]; rw [if_neg ho, if_pos h0, h]; simp only; rw [if_pos h1, hw, ht]
theorem wk_choT {vs : List (List UInt8 × List UInt8)} {S S1 : List Ass} {x y z : Ex} {a : Int} {r : WR} (h1 : workP vs x S = .ok a S1) (ha : a ≠ 0) (h2 : workP vs y S1 = r) : workP vs (.cho x y z) S = r := by
  simp only [workP]; rw [h1]; simp only; rw [if_pos ha, h2]
theorem wk_choF {vs : List (List UInt8 × List UInt8)} {S S1 : List Ass} {x y z : Ex} {a : Int} {r : WR} (h1 : workP vs x S = .ok a S1) (ha : ¬ a ≠ 0) (h2 : workP vs z S1 = r) : workP vs (.cho x y z) S = r := by
  simp only [workP]; rw [h1]; simp only; rw [if_neg ha, h2]
theorem wk_log1 {vs : List (List UInt8 × List UInt8)} {S S1 : List Ass} {op : List UInt8} {x y : Ex} {a : Int} (ho : op = [38, 38] ∨ op = [124, 124]) (h1 : workP vs x S = .ok a S1) (h : decide (a ≠ 0) = decide (op = [124, 124])) : workP vs (.bin op x y) S = .ok (trI (decide (a ≠ 0))) S1 := by
  simp only [workP]; rw [h1]; simp only; rw [if_pos ho, if_pos h]
theorem wk_log2 {vs : List (List UInt8 × List UInt8)} {S S1 S2 : List Ass} {op : List UInt8} {x y : Ex} {a b : Int} (ho : op = [38, 38] ∨ op = [124, 124]) (h1 : workP vs x S = .ok a S1) (h : ¬ decide (a ≠ 0) = decide (op = [124, 124])) (h2 : workP vs y S1 = .ok b S2) : workP vs (.bin op x y) S = .ok (trI (decide (b ≠ 0))) S2 := by
  simp only [workP]; rw [h1]; simp only; rw [if_pos ho, if_neg h, h2]
theorem wk_bin {vs : List (List UInt8 × List UInt8)} {S S1 S2 : List Ass} {op : List UInt8} {x y : Ex} {a b r : Int} (ho : ¬ (op = [38, 38] ∨ op = [124, 124])) (h1 : workP vs x S = .ok a S1) (h2 : workP vs y S1 = .ok b S2) (ht : twoP op a b = (r, 0)) : workP vs (.bin op x y) S = .ok r S2 := by
  have h0 : (twoP op a b).2 = 0 := by rw [ht]
  simp only [workP]; rw [h1]; simp only; rw [if_neg ho, h2]; simp only; rw [if_pos h0, ht]
theorem wk_binE {vs : List (List UInt8 × List UInt8)} {S S1 S2 : List Ass} {op : List UInt8} {x y : Ex} {a b r : Int} {k : Nat} (ho : ¬ (op = [38, 38] ∨ op = [124, 124])) (h1 : workP vs x S = .ok a S1) (h2 : workP vs y S1 = .ok b S2) (ht : twoP op a b = (r, k)) (hk : k ≠ 0) : workP vs (.bin op x y) S = .bad k := by
  have h0 : ¬ (twoP op a b).2 = 0 := by rw [ht]; exact hk
  simp only [workP]; rw [h1]; simp only; rw [if_neg ho, h2]; simp only; rw [if_neg h0, ht]
theorem wk_binL {vs : List (List UInt8 × List UInt8)} {S : List Ass} {op : List UInt8} {x y : Ex} {k : Nat} (h1 : workP vs x S = .bad k) : workP vs (.bin op x y) S = .bad k := by
  simp only [workP]; rw [h1]
theorem wk_una {vs : List (List UInt8 × List UInt8)} {S S1 : List Ass} {op : List UInt8} {x : Ex} {a : Int} (h : workP vs x S = .ok a S1) : workP vs (.una op x) S = .ok (unaP op a) S1 := by
  simp only [workP]; rw [h]
/-! ### names -/
def nmV (a b : Int) : List Vr := [⟨[97], Lib.itoa a, false, false, false⟩, ⟨[98], [32] ++ Lib.itoa b ++ [9], false, false, false⟩]
theorem nm_a {a b : Int} (ha : I64 a) : worthP ((nmV a b).map Vr.nv) [] [97] = (a, 0) := (show worthP ((nmV a b).map Vr.nv) [] [97] = numW (Lib.itoa a) from rfl).trans (numW_itoa ha)
theorem nm_b {a b : Int} (hb : I64 b) : worthP ((nmV a b).map Vr.nv) [] [98] = (b, 0) := (show worthP ((nmV a b).map Vr.nv) [] [98] = numW ([32] ++ Lib.itoa b ++ [9]) from rfl).trans (numW_wrap hb)
theorem nm1 {a b : Int} (ha : I64 a) : evalP [97] ((nmV a b).map Vr.nv) = (a, [], 0) := evT (x := .var [97]) (by kernel_rfl) (wk_var (nm_a ha))
theorem nm2 {a b : Int} (hb : I64 b) : evalP [40, 97, 61, 98, 41, 43, 40, 98, 61, 97, 41] ((nmV a b).map Vr.nv) = (w64 (b + b), [([97], b), ([98], b)], 0) :=
  evT (x := .bin [43] (.asg [61] [97] (.var [98])) (.asg [61] [98] (.var [97]))) (by kernel_rfl)
    (wk_bin (by decide) (wk_asg rfl (wk_var (nm_b hb))) (wk_asg rfl (wk_var (show worthP _ ([] ++ [([97], b)]) [97] = (b, 0) from rfl))) rfl)
theorem nm3 {a b : Int} (ha : I64 a) (hb : I64 b) : evalP [97, 45, 61, 98] ((nmV a b).map Vr.nv) = (w64 (a - b), [([97], w64 (a - b))], 0) :=
  evT (x := .asg [45, 61] [97] (.var [98])) (by kernel_rfl) (wk_asg2 (by decide) (nm_a ha) (wk_var (nm_b hb)) (by rw [show Lib.trimSuffix [45, 61] [61] = [45] from by decide]; rfl))
theorem vars_ok2 {x y : Vr} (hx : x.value.length ≤ 1000000000) (hy : y.value.length ≤ 1000000000) : [x, y].length ≤ 1000000000 ∧ ∀ v ∈ [x, y], v.value.length ≤ 1000000000 := by
  refine ⟨by simp, fun v hv => ?_⟩
  simp only [List.mem_cons, List.not_mem_nil, or_false] at hv
  rcases hv with rfl | rfl
  · exact hx
  · exact hy
/-! ### choices -/
def chV (a b c : Int) : List Vr := [⟨[97], Lib.itoa a, false, false, false⟩, ⟨[98], Lib.itoa b, false, false, false⟩, ⟨[99], Lib.itoa c, false, false, false⟩]
def chW (a b c : Int) : Ass := if a ≠ 0 then ([120], b) else ([121], c)
theorem ch_a {a b c : Int} (S : List Ass) (hS : S = []) (ha : I64 a) : worthP ((chV a b c).map Vr.nv) S [97] = (a, 0) := by subst hS; exact (show worthP ((chV a b c).map Vr.nv) [] [97] = numW (Lib.itoa a) from rfl).trans (numW_itoa ha)
theorem ch_b {a b c : Int} (hb : I64 b) : worthP ((chV a b c).map Vr.nv) [] [98] = (b, 0) := (show worthP ((chV a b c).map Vr.nv) [] [98] = numW (Lib.itoa b) from rfl).trans (numW_itoa hb)
theorem ch_c {a b c : Int} (hc : I64 c) : worthP ((chV a b c).map Vr.nv) [] [99] = (c, 0) := (show worthP ((chV a b c).map Vr.nv) [] [99] = numW (Lib.itoa c) from rfl).trans (numW_itoa hc)
theorem ch1 {a b c : Int} (ha : I64 a) (hb : I64 b) (hc : I64 c) : evalP [97, 63, 40, 120, 61, 98, 41, 58, 40, 121, 61, 99, 41] ((chV a b c).map Vr.nv) = ((chW a b c).2, [chW a b c], 0) := by
  refine evT (x := .cho (.var [97]) (.asg [61] [120] (.var [98])) (.asg [61] [121] (.var [99]))) (by kernel_rfl) ?_
  unfold chW
  by_cases h : a ≠ 0
  · rw [if_pos h]
    exact wk_choT (wk_var (ch_a [] rfl ha)) h (wk_asg rfl (wk_var (ch_b hb)))
  · rw [if_neg h]
    exact wk_choF (wk_var (ch_a [] rfl ha)) h (wk_asg rfl (wk_var (ch_c hc)))
theorem ch2 {a b c : Int} (ha : I64 a) (hb : I64 b) : evalP [97, 38, 38, 98] ((chV a b c).map Vr.nv) = (trI (decide (a ≠ 0) && decide (b ≠ 0)), [], 0) := by
  refine evT (x := .bin [38, 38] (.var [97]) (.var [98])) (by kernel_rfl) ?_
  have hd : decide (([38, 38] : List UInt8) = [124, 124]) = false := by decide
  by_cases h : a ≠ 0
  · rw [decide_eq_true h, Bool.true_and]
    exact wk_log2 (.inl rfl) (wk_var (ch_a [] rfl ha)) (by rw [decide_eq_true h, hd]; simp) (wk_var (ch_b hb))
  · have := wk_log1 (y := .var [98]) (.inl rfl) (wk_var (ch_a (b := b) (c := c) [] rfl ha)) (by rw [decide_eq_false h, hd])
    rw [decide_eq_false h] at this ⊢
    exact this
theorem ch3 {a b c : Int} (ha : I64 a) (hb : I64 b) : evalP [97, 124, 124, 98] ((chV a b c).map Vr.nv) = (trI (decide (a ≠ 0) || decide (b ≠ 0)), [], 0) := by
  refine evT (x := .bin [124, 124] (.var [97]) (.var [98])) (by kernel_rfl) ?_
  have hd : decide (([124, 124] : List UInt8) = [124, 124]) = true := by decide
  by_cases h : a ≠ 0
  · have := wk_log1 (y := .var [98]) (.inr rfl) (wk_var (ch_a (b := b) (c := c) [] rfl ha)) (by rw [decide_eq_true h, hd])
    rw [decide_eq_true h] at this ⊢
    exact this
  · rw [decide_eq_false h, Bool.false_or]
    exact wk_log2 (.inr rfl) (wk_var (ch_a [] rfl ha)) (by rw [decide_eq_false h, hd]; simp) (wk_var (ch_b hb))
theorem ch4 {a b c : Int} (ha : I64 a) : evalP [33, 97] ((chV a b c).map Vr.nv) = (trI (decide (a = 0)), [], 0) :=
  evT (x := .una [49, 33] (.var [97])) (by kernel_rfl) (wk_una (wk_var (ch_a [] rfl ha)))
/-! ### sums -/
def smV (a b : Int) : List Vr := [⟨[97], Lib.itoa a, false, false, false⟩, ⟨[98], Lib.itoa b, false, false, false⟩]
theorem sm_a {a b : Int} (ha : I64 a) : worthP ((smV a b).map Vr.nv) [] [97] = (a, 0) := (show worthP ((smV a b).map Vr.nv) [] [97] = numW (Lib.itoa a) from rfl).trans (numW_itoa ha)
theorem sm_b {a b : Int} (hb : I64 b) : worthP ((smV a b).map Vr.nv) [] [98] = (b, 0) := (show worthP ((smV a b).map Vr.nv) [] [98] = numW (Lib.itoa b) from rfl).trans (numW_itoa hb)
/-- a sign between two names -/
theorem sm_two {a b : Int} {op : List UInt8} {r : Int} (ha : I64 a) (hb : I64 b) (ho : ¬ (op = [38, 38] ∨ op = [124, 124])) (hr : readA ([97] ++ op ++ [98]) = .ok (.bin op (.var [97]) (.var [98]))) (ht : twoP op a b = (r, 0)) : evalP ([97] ++ op ++ [98]) ((smV a b).map Vr.nv) = (r, [], 0) :=
  evT hr (wk_bin ho (wk_var (sm_a ha)) (wk_var (sm_b hb)) ht)
def sumT (a b : Int) : List (List UInt8 × Int) :=
  [([97, 43, 98], w64 (a + b)), ([97, 45, 98], w64 (a - b)), ([97, 42, 98], w64 (a * b)), ([97, 38, 98], andI a b), ([97, 124, 98], orI a b), ([97, 94, 98], xorI a b), ([126, 97], xorI (-1) a), ([45, 97], w64 (-a)), ([97, 60, 60, 98], shlI a (andI b 63)), ([97, 62, 62, 98], shrI a (andI b 63))]
theorem sums_ok {a b : Int} (ha : I64 a) (hb : I64 b) : ∀ p ∈ sumT a b, evalP p.1 ((smV a b).map Vr.nv) = (p.2, [], 0) := by
  intro p hp
  simp only [sumT, List.mem_cons, List.not_mem_nil, or_false] at hp
  rcases hp with rfl | rfl | rfl | rfl | rfl | rfl | rfl | rfl | rfl | rfl
  · exact sm_two (op := [43]) ha hb (by decide) (by kernel_rfl) rfl
  · exact sm_two (op := [45]) ha hb (by decide) (by kernel_rfl) rfl
  · exact sm_two (op := [42]) ha hb (by decide) (by kernel_rfl) rfl
  · exact sm_two (op := [38]) ha hb (by decide) (by kernel_rfl) rfl
  · exact sm_two (op := [124]) ha hb (by decide) (by kernel_rfl) rfl
  · exact sm_two (op := [94]) ha hb (by decide) (by kernel_rfl) rfl
  · exact evT (x := .una [49, 126] (.var [97])) (by kernel_rfl) (wk_una (wk_var (sm_a ha)))
  · exact evT (x := .una [49, 45] (.var [97])) (by kernel_rfl) (wk_una (wk_var (sm_a ha)))
  · exact sm_two (op := [60, 60]) ha hb (by decide) (by kernel_rfl) rfl
  · exact sm_two (op := [62, 62]) ha hb (by decide) (by kernel_rfl) rfl
theorem sm_less {a b : Int} (ha : I64 a) (hb : I64 b) : evalP [97, 60, 98] ((smV a b).map Vr.nv) = (trI (decide (a < b)), [], 0) := sm_two (op := [60]) ha hb (by decide) (by kernel_rfl) rfl
theorem sm_same {a b : Int} (ha : I64 a) (hb : I64 b) : evalP [97, 61, 61, 98] ((smV a b).map Vr.nv) = (trI (decide (a = b)), [], 0) := sm_two (op := [61, 61]) ha hb (by decide) (by kernel_rfl) rfl
theorem quo_tree : readA [97, 47, 98, 42, 98, 43, 97, 37, 98] = .ok (.bin [43] (.bin [42] (.bin [47] (.var [97]) (.var [98])) (.var [98])) (.bin [37] (.var [97]) (.var [98]))) := by kernel_rfl
theorem two_quo {a b : Int} (ha : I64 a) (hb : b ≠ 0) : twoP [47] a b = (w64 (a.tdiv b), 0) := by
  unfold twoP
  rw [if_neg (by decide), if_neg (by decide), if_neg (by decide), if_neg (by decide), if_neg (by decide), if_neg (by decide), if_neg (by decide), if_neg (by decide), if_pos (Or.inl rfl), if_neg hb]
  by_cases h : a = -9223372036854775808 ∧ b = -1
  · rw [if_pos ⟨h.1, h.2, rfl⟩, h.1, h.2]; rfl
  · rw [if_neg (fun h2 => h ⟨h2.1, h2.2.1⟩), if_neg (fun h2 => absurd h2.2 (by decide)), if_pos rfl]
theorem two_rem {a b : Int} (hb : b ≠ 0) : twoP [37] a b = (a.tmod b, 0) := by
  unfold twoP
  rw [if_neg (by decide), if_neg (by decide), if_neg (by decide), if_neg (by decide), if_neg (by decide), if_neg (by decide), if_neg (by decide), if_neg (by decide), if_pos (Or.inr rfl), if_neg hb, if_neg (fun h2 => absurd h2.2.2 (by decide))]
  by_cases h : b = -1
  · rw [if_pos ⟨h, rfl⟩, h, Int.tmod_neg, Int.tmod_one]
  · rw [if_neg (fun h2 => h h2.1), if_neg (by decide)]
theorem sm_zero {a b : Int} (ha : I64 a) (hb : I64 b) (h0 : b = 0) : evalP [97, 47, 98, 42, 98, 43, 97, 37, 98] ((smV a b).map Vr.nv) = (0, [], 61) := by
  refine evE quo_tree (wk_binL (wk_binL (wk_binE (by decide) (wk_var (sm_a ha)) (wk_var (sm_b hb)) (r := 0) (k := 61) ?_ (by decide))))
  unfold twoP
  rw [if_neg (by decide), if_neg (by decide), if_neg (by decide), if_neg (by decide), if_neg (by decide), if_neg (by decide), if_neg (by decide), if_neg (by decide), if_pos (Or.inl rfl), if_pos h0]
theorem sm_quo {a b : Int} (ha : I64 a) (hb : I64 b) (h0 : b ≠ 0) : evalP [97, 47, 98, 42, 98, 43, 97, 37, 98] ((smV a b).map Vr.nv) = (a, [], 0) := by
  refine evT quo_tree (wk_bin (by decide) (wk_bin (by decide) (wk_bin (by decide) (wk_var (sm_a ha)) (wk_var (sm_b hb)) (two_quo ha h0)) (wk_var (sm_b hb)) (r := w64 (w64 (a.tdiv b) * b)) rfl) (wk_bin (by decide) (wk_var (sm_a ha)) (wk_var (sm_b hb)) (two_rem h0)) ?_)
  show (w64 (w64 (w64 (a.tdiv b) * b) + a.tmod b), 0) = (a, 0)
  rw [w64_mul]
  have h1 : a.tdiv b * b + a.tmod b = a := by rw [Int.mul_comm]; exact Int.mul_tdiv_add_tmod a b
  have h2 : w64 (w64 (a.tdiv b * b) + a.tmod b) = w64 a := by
    refine w64_eq ?_
    rw [Int.add_emod, w64_mod, ← Int.add_emod, h1]
  rw [h2, w64_in ha]
end Go.Tri
