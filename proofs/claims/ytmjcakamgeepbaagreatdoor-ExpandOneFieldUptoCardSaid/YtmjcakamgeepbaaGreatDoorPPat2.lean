/-
 What layer 2 computes, in plain words: brackets, one element, whole texts.
-/
import Derived.Test.YtmjcakamgeepbaaGreatDoorPGen
namespace Go.Tri
open Go.RowKit

def ch0 : Ch := ⟨0, false⟩
def uq (b : UInt8) : Ch := ⟨b, false⟩
def startsP : List Ch → List UInt8 → Bool
 | _, [] => true
 | [], _ :: _ => false
 | c :: p, b :: s => decide (c = uq b) && startsP p s
theorem startsP_nil (p : List Ch) : startsP p [] = true := by cases p <;> rfl
theorem startsP_short : ∀ (p : List Ch) (s : List UInt8), p.length < s.length → startsP p s = false
 | [], [], h => absurd h (by simp)
 | [], _ :: _, _ => rfl
 | _ :: _, [], h => absurd h (by simp)
 | c :: p, b :: s, h => by
  have := startsP_short p s (by simp at h; omega)
  simp [startsP, this]
theorem startsP_drop (p : List Ch) (s : List UInt8) (i : Nat) (h : i < s.length) (hp : i < p.length) : startsP (p.drop i) (s.drop i) = (decide (nth p i ch0 = uq (nth s i 0)) && startsP (p.drop (i + 1)) (s.drop (i + 1))) := by
 rw [drop_nth ch0 hp, drop_nth 0 h]; rfl
theorem startsP_len {p : List Ch} {s : List UInt8} (h : startsP p s = true) : s.length ≤ p.length := by
 rcases Nat.lt_or_ge p.length s.length with h1 | h1
 ·rw [startsP_short p s h1] at h; cases h
 ·exact h1
/-! members -/
def clsNames : List (List UInt8) := [[97, 108, 112, 104, 97], [100, 105, 103, 105, 116], [97, 108, 110, 117, 109], [117, 112, 112, 101, 114], [108, 111, 119, 101, 114], [115, 112, 97, 99, 101]]
def clsText (n : List UInt8) : List UInt8 := [91, 58] ++ n ++ [58, 93]
theorem cls_len {n : List UInt8} (h : n ∈ clsNames) : n.length = 5 := by
 simp only [clsNames, List.mem_cons, List.not_mem_nil, or_false] at h
 rcases h with rfl | rfl | rfl | rfl | rfl | rfl <;> rfl
def clsStep (p : List Ch) (cl n : List UInt8) : List UInt8 := if startsP p (clsText n) then n else cl
def clsP (p : List Ch) : List UInt8 := clsNames.foldl (clsStep p) []
theorem cls_fold {p : List Ch} : ∀ (l : List (List UInt8)) (a : List UInt8), (∀ n ∈ l, n ∈ clsNames) → (l.foldl (clsStep p) a = a ∧ ∀ n ∈ l, startsP p (clsText n) = false) ∨ ∃ n ∈ l, startsP p (clsText n) = true ∧ l.foldl (clsStep p) a = n
 | [], a, _ => .inl ⟨rfl, fun _ h => by cases h⟩
 | n :: l, a, h => by
  rw [List.foldl_cons]
  rcases cls_fold (p := p) l (clsStep p a n) (fun m hm => h m (List.mem_cons_of_mem _ hm)) with ⟨h1, h2⟩ | ⟨m, h1, h2, h3⟩
  ·by_cases hn : startsP p (clsText n) = true
   ·exact .inr ⟨n, List.mem_cons_self, hn, by rw [h1, clsStep, if_pos hn]⟩
   ·refine .inl ⟨by rw [h1, clsStep, if_neg hn], fun m hm => ?_⟩
    rcases List.mem_cons.1 hm with rfl | hm
    ·simpa using hn
    ·exact h2 m hm
  ·exact .inr ⟨m, List.mem_cons_of_mem _ h1, h2, h3⟩
theorem cls_cases (p : List Ch) : (clsP p = [] ∧ ∀ n ∈ clsNames, startsP p (clsText n) = false) ∨ ∃ n ∈ clsNames, startsP p (clsText n) = true ∧ clsP p = n := cls_fold clsNames [] (fun _ h => h)
def upperB (c : UInt8) : Bool := decide ((65 : Int) ≤ (c.toNat : Int)) && decide ((c.toNat : Int) ≤ 90)
def lowerB (c : UInt8) : Bool := decide ((97 : Int) ≤ (c.toNat : Int)) && decide ((c.toNat : Int) ≤ 122)
def digitB (c : UInt8) : Bool := decide ((48 : Int) ≤ (c.toNat : Int)) && decide ((c.toNat : Int) ≤ 57)
def spaceB (c : UInt8) : Bool := (decide ((9 : Int) ≤ (c.toNat : Int)) && decide ((c.toNat : Int) ≤ 13)) || decide (c = 32)
def classB (n : List UInt8) (c : UInt8) : Bool :=
 if n = [97, 108, 112, 104, 97] then upperB c || lowerB c else if n = [100, 105, 103, 105, 116] then digitB c else if n = [97, 108, 110, 117, 109] then upperB c || lowerB c || digitB c
 else if n = [117, 112, 112, 101, 114] then upperB c else if n = [108, 111, 119, 101, 114] then lowerB c else spaceB c
structure Mem where
 cl : List UInt8
 lo : UInt8
 hi : UInt8
 deriving DecidableEq
def holdsM (m : Mem) (c : UInt8) : Bool := if m.cl ∈ clsNames then classB m.cl c else decide ((m.lo.toNat : Int) ≤ (c.toNat : Int)) && decide ((c.toNat : Int) ≤ (m.hi.toNat : Int))
def memC (m : Mem) : List Value := [str m.cl, u8 m.lo, u8 m.hi]
/-- the member at the beginning, and how long it is -/
def memP (p : List Ch) : Mem × Nat :=
 if clsP p ≠ [] then (⟨clsP p, 0, 0⟩, (clsP p).length + 4)
 else if decide ((2 : Int) < (p.length : Int)) && startsP (p.drop 1) [45] && !startsP (p.drop 2) [93] then (⟨[], (nth p 0 ch0).b, (nth p 2 ch0).b⟩, 3)
 else (⟨[], (nth p 0 ch0).b, (nth p 0 ch0).b⟩, 1)
theorem memP_pos (p : List Ch) : 1 ≤ (memP p).2 := by
 unfold memP; split
 ·simp
 ·split <;> simp
theorem memP_len {p : List Ch} (h : p ≠ []) : (memP p).2 ≤ p.length := by
 unfold memP; split
 ·rcases cls_cases p with ⟨h1, _⟩ | ⟨n, hn, h1, h2⟩
  ·contradiction
  ·rw [h2]
   have := startsP_len h1
   simp [clsText] at this
   simp; omega
 ·split
  ·rename_i h2
   simp at h2; simp; omega
  ·exact List.length_pos_iff.2 h

/-! a bracket, behind its [ and its ! -/
def brGo : Nat → List Ch → Bool → UInt8 → Bool → Option (Bool × List Ch)
 | 0, _, _, _, _ => none
 | n + 1, p, first, c, found =>
  if p = [] then none else if !first && startsP p [93] then some (found, p.drop 1) else brGo n (p.drop (memP p).2) false c (found || holdsM (memP p).1 c)
theorem brGo_fuel : ∀ (n m : Nat) (p : List Ch) (first : Bool) (c : UInt8) (found : Bool), p.length ≤ n → p.length ≤ m → brGo n p first c found = brGo m p first c found
 | 0, 0, _, _, _, _, _, _ => rfl
 | 0, m + 1, p, _, _, _, h, _ => by
  have : p = [] := List.eq_nil_of_length_eq_zero (by omega)
  subst this; simp [brGo]
 | n + 1, 0, p, _, _, _, _, h => by
  have : p = [] := List.eq_nil_of_length_eq_zero (by omega)
  subst this; simp [brGo]
 | n + 1, m + 1, p, first, c, found, h1, h2 => by
  unfold brGo
  split
  ·rfl
  ·rename_i hp
   have h3 := memP_pos p
   have h4 := memP_len hp
   split
   ·rfl
   ·exact brGo_fuel n m _ _ _ _ (by simp; omega) (by simp; omega)
def brG (p : List Ch) (first : Bool) (c : UInt8) (found : Bool) : Option (Bool × List Ch) := brGo p.length p first c found
theorem brG_eq {p : List Ch} (hp : p ≠ []) (first : Bool) (c : UInt8) (found : Bool) :
  brG p first c found = if !first && startsP p [93] then some (found, p.drop 1) else brG (p.drop (memP p).2) false c (found || holdsM (memP p).1 c) := by
 have h3 := memP_pos p
 have h4 := memP_len hp
 unfold brG
 rw [brGo_fuel p.length (p.length - 1 + 1) p first c found (Nat.le_refl _) (by omega)]
 rw [brGo, if_neg hp]
 split
 ·rfl
 ·exact brGo_fuel _ _ _ _ _ _ (by simp; omega) (Nat.le_refl _)
/-- the members, each with what stands behind -/
def memsGo : Nat → List Ch → Bool → List (Mem × Nat)
 | 0, _, _ => []
 | n + 1, p, first => if p = [] then [] else if !first && startsP p [93] then [] else memP p :: memsGo n (p.drop (memP p).2) false
theorem memsGo_fuel : ∀ (n m : Nat) (p : List Ch) (first : Bool), p.length ≤ n → p.length ≤ m → memsGo n p first = memsGo m p first
 | 0, 0, _, _, _, _ => rfl
 | 0, m + 1, p, _, h, _ => by
  have : p = [] := List.eq_nil_of_length_eq_zero (by omega)
  subst this; simp [memsGo]
 | n + 1, 0, p, _, _, h => by
  have : p = [] := List.eq_nil_of_length_eq_zero (by omega)
  subst this; simp [memsGo]
 | n + 1, m + 1, p, first, h1, h2 => by
  unfold memsGo
  split
  ·rfl
  ·rename_i hp
   have h3 := memP_pos p
   have h4 := memP_len hp
   split
   ·rfl
   ·rw [memsGo_fuel n m _ _ (by simp; omega) (by simp; omega)]
def memsG (p : List Ch) (first : Bool) : List (Mem × Nat) := memsGo p.length p first
theorem memsG_eq {p : List Ch} (hp : p ≠ []) (first : Bool) : memsG p first = if !first && startsP p [93] then [] else memP p :: memsG (p.drop (memP p).2) false := by
 have h3 := memP_pos p
 have h4 := memP_len hp
 unfold memsG
 rw [memsGo_fuel p.length (p.length - 1 + 1) p first (Nat.le_refl _) (by omega)]
 rw [memsGo, if_neg hp]
 split
 ·rfl
 ·rw [memsGo_fuel _ _ _ _ (by simp; omega) (Nat.le_refl _)]
/-- the same as the walk meets them -/
def memVs : Nat → Value → List (Mem × Nat) → List (List Value)
 | _, _, [] => []
 | n, v, (m, k) :: r => [.agg (memC m).toArray, cutV 2 k n v] :: memVs (n - k) (cutV 2 k n v) r
theorem memVs_step {p : List Ch} (hp : p ≠ []) (first : Bool) (h : (!first && startsP p [93]) = false) (v : Value) : memVs p.length v (memsG p first) =
  [.agg (memC (memP p).1).toArray, cutV 2 (memP p).2 p.length v] :: memVs (p.drop (memP p).2).length (cutV 2 (memP p).2 p.length v) (memsG (p.drop (memP p).2) false) := by
 rw [memsG_eq hp, h, if_neg (by simp), List.length_drop]
 rfl
def bracketP (p : List Ch) (c : UInt8) : Option (Bool × List Ch) :=
 let not := startsP (p.drop 1) [33]
 let inner := if not then p.drop 2 else p.drop 1
 (brG inner true c false).map fun x => (x.1 != not, x.2)
theorem brG_len : ∀ (n : Nat) (p : List Ch) (first : Bool) (c : UInt8) (found : Bool) (x : Bool × List Ch), p.length ≤ n → brG p first c found = some x → x.2.length < p.length
 | 0, p, _, _, _, _, h, hx => by
  have : p = [] := List.eq_nil_of_length_eq_zero (by omega)
  subst this; cases hx
 | n + 1, p, first, c, found, x, h, hx => by
  by_cases hp : p = []
  ·subst hp; cases hx
  ·have h3 := memP_pos p
   have h4 := memP_len hp
   have h5 := List.length_pos_iff.2 hp
   rw [brG_eq hp] at hx
   split at hx
   ·cases hx; simp; omega
   ·have := brG_len n _ _ _ _ _ (by simp; omega) hx
    simp at this; omega
/-- where the bracket ends hangs on its own bytes alone -/
theorem brG_behind : ∀ (n : Nat) (p : List Ch) (first : Bool) (c d : UInt8) (f g : Bool), p.length ≤ n → (brG p first c f).map (·.2) = (brG p first d g).map (·.2)
 | 0, p, _, _, _, _, _, h => by
  have : p = [] := List.eq_nil_of_length_eq_zero (by omega)
  subst this; rfl
 | n + 1, p, first, c, d, f, g, h => by
  by_cases hp : p = []
  ·subst hp; rfl
  ·have h3 := memP_pos p
   have h4 := memP_len hp
   have h5 := List.length_pos_iff.2 hp
   rw [brG_eq hp, brG_eq hp]
   split
   ·rfl
   ·exact brG_behind n _ _ _ _ _ _ (by simp; omega)
/-- does the first element take a byte, and what is behind it? -/
def oneP (p : List Ch) (c : UInt8) : Bool × List Ch :=
 if startsP p [63] then (true, p.drop 1)
 else if startsP p [91] then match bracketP p c with
  | some x => x
  | none => (decide ((nth p 0 ch0).b = c), p.drop 1)
 else (decide ((nth p 0 ch0).b = c), p.drop 1)
theorem bracketP_len {p : List Ch} {c : UInt8} {x : Bool × List Ch} (h : bracketP p c = some x) : x.2.length < p.length := by
 unfold bracketP at h
 simp only [Option.map_eq_some_iff] at h
 obtain ⟨y, hy, rfl⟩ := h
 have := brG_len _ _ _ _ _ _ (Nat.le_refl _) hy
 split at this <;> simp at this ⊢ <;> omega
theorem oneP_len {p : List Ch} (hp : p ≠ []) (c : UInt8) : (oneP p c).2.length < p.length := by
 have h5 := List.length_pos_iff.2 hp
 unfold oneP
 split
 ·simp; omega
 ·split
  ·split
   ·rename_i x hx; exact bracketP_len hx
   ·simp; omega
  ·simp; omega
theorem oneP_behind (p : List Ch) (c d : UInt8) : (oneP p c).2 = (oneP p d).2 := by
 unfold oneP
 split
 ·rfl
 ·split
  ·have : (bracketP p c).map (·.2) = (bracketP p d).map (·.2) := by
    unfold bracketP
    simp only [Option.map_map]
    exact brG_behind _ _ _ _ _ _ _ (Nat.le_refl _)
   cases h1 : bracketP p c <;> cases h2 : bracketP p d <;> rw [h1, h2] at this <;> simp at this ⊢
   exact this
  ·rfl

def MtF : Nat → List Ch → List UInt8 → Bool
 | 0, _, s => s.isEmpty
 | n + 1, p, s =>
  if p = [] then s.isEmpty else if startsP p [42] then (List.range (s.length + 1)).any fun i => MtF n (p.drop 1) (s.drop i)
  else if s = [] then false else (oneP p (nth s 0 0)).1 && MtF n (oneP p (nth s 0 0)).2 (s.drop 1)
theorem MtF_fuel : ∀ (n m : Nat) (p : List Ch) (s : List UInt8), p.length ≤ n → p.length ≤ m → MtF n p s = MtF m p s
 | 0, 0, _, _, _, _ => rfl
 | 0, m + 1, p, _, h, _ => by
  have : p = [] := List.eq_nil_of_length_eq_zero (by omega)
  subst this; simp [MtF]
 | n + 1, 0, p, _, _, h => by
  have : p = [] := List.eq_nil_of_length_eq_zero (by omega)
  subst this; simp [MtF]
 | n + 1, m + 1, p, s, h1, h2 => by
  unfold MtF
  split
  ·rfl
  ·rename_i hp
   have h5 := List.length_pos_iff.2 hp
   split
   ·congr 1; funext i; exact MtF_fuel n m _ _ (by simp; omega) (by simp; omega)
   ·split
    ·rfl
    ·have := oneP_len hp (nth s 0 0)
     rw [MtF_fuel n m _ _ (by omega) (by omega)]
def Mt (p : List Ch) (s : List UInt8) : Bool := MtF p.length p s
theorem Mt_nil (s : List UInt8) : Mt [] s = s.isEmpty := rfl
theorem Mt_star {p : List Ch} (h : startsP p [42] = true) (s : List UInt8) : Mt p s = (List.range (s.length + 1)).any fun i => Mt (p.drop 1) (s.drop i) := by
 have hp : p ≠ [] := by rintro rfl; cases h
 have h5 := List.length_pos_iff.2 hp
 unfold Mt
 rw [MtF_fuel p.length (p.length - 1 + 1) p s (Nat.le_refl _) (by omega), MtF, if_neg hp, if_pos h]
 congr 1; funext i; exact MtF_fuel _ _ _ _ (by simp) (Nat.le_refl _)
theorem Mt_end {p : List Ch} (hp : p ≠ []) (h : startsP p [42] = false) : Mt p [] = false := by
 have h5 := List.length_pos_iff.2 hp
 unfold Mt
 rw [MtF_fuel p.length (p.length - 1 + 1) p [] (Nat.le_refl _) (by omega), MtF, if_neg hp, if_neg (by simp [h]), if_pos rfl]
theorem Mt_one {p : List Ch} (hp : p ≠ []) (h : startsP p [42] = false) {s : List UInt8} (hs : s ≠ []) : Mt p s = ((oneP p (nth s 0 0)).1 && Mt (oneP p (nth s 0 0)).2 (s.drop 1)) := by
 have h5 := List.length_pos_iff.2 hp
 unfold Mt
 rw [MtF_fuel p.length (p.length - 1 + 1) p s (Nat.le_refl _) (by omega), MtF, if_neg hp, if_neg (by simp [h]), if_neg hs]
 congr 1
 have := oneP_len hp (nth s 0 0)
 exact MtF_fuel _ _ _ _ (by omega) (Nat.le_refl _)

/-- what a star takes is of some length -/
theorem Mt_star_iff {p : List Ch} (h : startsP p [42] = true) {s : List UInt8} : Mt p s = true ↔ ∃ i, i ≤ s.length ∧ Mt (p.drop 1) (s.drop i) = true := by
 rw [Mt_star h, List.any_eq_true]
 constructor
 ·rintro ⟨i, h1, h2⟩; exact ⟨i, by simpa [Nat.lt_succ_iff] using h1, h2⟩
 ·rintro ⟨i, h1, h2⟩; exact ⟨i, by simpa [Nat.lt_succ_iff] using h1, h2⟩

/-! the last star alone is tried again -/
/-- 'again' stands behind a star, tried from 'fr' on; (p, s) is where it stands -/
structure Tried (ag : List Ch) (fr : List UInt8) (p : List Ch) (s : List UInt8) : Prop where
 len : s.length ≤ fr.length
 back : ∀ i, i ≤ fr.length → Mt ag (fr.drop i) = true → ∃ j, j ≤ s.length ∧ Mt p (s.drop j) = true
/-- some later place helps -/
def later (ag : List Ch) (fr : List UInt8) : Prop := ∃ i, 1 ≤ i ∧ i ≤ fr.length ∧ Mt ag (fr.drop i) = true
structure MInv (p0 : List Ch) (s0 : List UInt8) (star : Bool) (ag : List Ch) (fr : List UInt8) (p : List Ch) (s : List UInt8) : Prop where
 what : Mt p0 s0 = true ↔ Mt p s = true ∨ (star = true ∧ later ag fr)
 tried : star = true → Tried ag fr p s
theorem MInv.start (p : List Ch) (s : List UInt8) : MInv p s false [] [] p s := ⟨by simp, fun h => by cases h⟩
theorem MInv.star {p0 : List Ch} {s0 : List UInt8} {star : Bool} {ag : List Ch} {fr : List UInt8} {p : List Ch} {s : List UInt8} (h : MInv p0 s0 star ag fr p s) (hs : startsP p [42] = true) : MInv p0 s0 true (p.drop 1) s (p.drop 1) s := by
 refine ⟨?_, fun _ => ⟨Nat.le_refl _, fun i hi h => ⟨i, hi, h⟩⟩⟩
 rw [h.what]
 constructor
 ·rintro (h1 | ⟨h1, i, hi1, hi2, h2⟩)
  ·obtain ⟨j, hj, hm⟩ := (Mt_star_iff hs).1 h1
   cases j with
   | zero => exact .inl (by simpa using hm)
   | succ j => exact .inr ⟨rfl, j + 1, by omega, hj, hm⟩
  ·obtain ⟨j, hj, hm⟩ := (h.tried h1).back i hi2 h2
   obtain ⟨k, hk, hm⟩ := (Mt_star_iff hs).1 hm
   rw [List.drop_drop] at hm
   simp at hk
   rcases Nat.eq_zero_or_pos (j + k) with h0 | h0
   ·rw [h0] at hm; exact .inl (by simpa using hm)
   ·exact .inr ⟨rfl, j + k, h0, by omega, hm⟩
 ·rintro (h1 | ⟨_, i, hi1, hi2, h2⟩)
  ·exact .inl ((Mt_star_iff hs).2 ⟨0, by omega, by simpa using h1⟩)
  ·exact .inl ((Mt_star_iff hs).2 ⟨i, hi2, h2⟩)
theorem MInv.one {p0 : List Ch} {s0 : List UInt8} {star : Bool} {ag : List Ch} {fr : List UInt8} {p : List Ch} {s : List UInt8} (h : MInv p0 s0 star ag fr p s) (hp : p ≠ []) (hst : startsP p [42] = false) (hs : s ≠ []) (ho : (oneP p (nth s 0 0)).1 = true) :
  MInv p0 s0 star ag fr (oneP p (nth s 0 0)).2 (s.drop 1) := by
 have h5 := List.length_pos_iff.2 hs
 refine ⟨?_, fun hh => ⟨?_, fun i hi hm => ?_⟩⟩
 ·rw [h.what, Mt_one hp hst hs, ho, Bool.true_and]
 ·have := (h.tried hh).len; simp; omega
 ·obtain ⟨j, hj, hm⟩ := (h.tried hh).back i hi hm
  by_cases hjs : j < s.length
  ·have hne : s.drop j ≠ [] := by simp; omega
   rw [Mt_one hp hst hne, Bool.and_eq_true] at hm
   refine ⟨j, by simp; omega, ?_⟩
   rw [List.drop_drop]
   have := hm.2
   rw [List.drop_drop] at this
   rw [oneP_behind p (nth s 0 0) (nth (s.drop j) 0 0), Nat.add_comm 1 j]
   exact this
  ·rw [List.drop_of_length_le (by omega), Mt_end hp hst] at hm; cases hm
theorem MInv.back {p0 : List Ch} {s0 : List UInt8} {ag : List Ch} {fr : List UInt8} {p : List Ch} {s : List UInt8} (h : MInv p0 s0 true ag fr p s) (hm : Mt p s = false) (hf : fr ≠ []) : MInv p0 s0 true ag (fr.drop 1) ag (fr.drop 1) := by
 have h5 := List.length_pos_iff.2 hf
 refine ⟨?_, fun _ => ⟨Nat.le_refl _, fun i hi h => ⟨i, hi, h⟩⟩⟩
 rw [h.what, hm]
 constructor
 ·rintro (h1 | ⟨_, i, hi1, hi2, h2⟩)
  ·cases h1
  ·rcases Nat.lt_or_ge 1 i with h3 | h3
   ·exact .inr ⟨rfl, i - 1, by omega, by simp; omega, by rw [List.drop_drop, show 1 + (i - 1) = i by omega]; exact h2⟩
   ·rw [show i = 1 by omega] at h2; exact .inl h2
 ·rintro (h1 | ⟨_, i, hi1, hi2, h2⟩)
  ·exact .inr ⟨rfl, 1, by omega, h5, h1⟩
  ·rw [List.drop_drop] at h2
   simp at hi2
   exact .inr ⟨rfl, 1 + i, by omega, by omega, h2⟩
theorem MInv.fail {p0 : List Ch} {s0 : List UInt8} {star : Bool} {ag : List Ch} {fr : List UInt8} {p : List Ch} {s : List UInt8} (h : MInv p0 s0 star ag fr p s) (hm : Mt p s = false) (hf : star = false ∨ fr = []) : Mt p0 s0 = false := by
 cases hq : Mt p0 s0 with
 | false => rfl
 | true =>
  rcases h.what.1 hq with h1 | ⟨h1, i, hi1, hi2, _⟩
  ·rw [hm] at h1; cases h1
  ·rcases hf with hf | hf
   ·rw [hf] at h1; cases h1
   ·subst hf; simp at hi2; omega
theorem MInv.done {p0 : List Ch} {s0 : List UInt8} {star : Bool} {ag : List Ch} {fr : List UInt8} {p : List Ch} {s : List UInt8} (h : MInv p0 s0 star ag fr p s) (hm : Mt p s = true) : Mt p0 s0 = true := h.what.2 (.inl hm)
/-- nothing matches here -/
theorem Mt_stuck {p : List Ch} {s : List UInt8} (hne : ¬ (p = [] ∧ s = [])) (hst : startsP p [42] = false) (ho : p ≠ [] → s ≠ [] → (oneP p (nth s 0 0)).1 = false) : Mt p s = false := by
 by_cases hp : p = []
 ·subst hp
  rw [Mt_nil]
  cases s with
  | nil => exact absurd ⟨rfl, rfl⟩ hne
  | cons _ _ => rfl
 ·by_cases hs : s = []
  ·subst hs; exact Mt_end hp hst
  ·rw [Mt_one hp hst hs, ho hp hs, Bool.false_and]
/-- the measure of the machine -/
theorem mu_step {a n m A x y : Nat} (h1 : a + 1 ≤ A) (hx : x ≤ n) (hy : y ≤ m) (k : Nat) (hk : 0 ≤ k) : a * (n + m + 1) + (x + y) < A * (n + m + 1) + k := by
 have : (a + 1) * (n + m + 1) ≤ A * (n + m + 1) := Nat.mul_le_mul_right _ h1
 rw [Nat.add_mul, Nat.one_mul] at this
 omega
end Go.Tri
namespace Go.Tri
end Go.Tri
namespace Go.Tri
end Go.Tri

/-
 What layer 2's statements say, in plain words.
-/
namespace Go.Tri
open Go.RowKit

/-! patterns without brackets -/
def noBr (p : List Ch) : Prop := ∀ c ∈ p, c ≠ uq 91
theorem noBr.tail {c : Ch} {p : List Ch} (h : noBr (c :: p)) : noBr p := fun d hd => h d (List.mem_cons_of_mem _ hd)
def wildC (c : Ch) : Bool := !c.q && hasB [42, 63, 91] c.b
def wildP (p : List Ch) : Bool := p.any wildC
def wIdx : List Ch → Nat → Int
 | [], _ => -1
 | c :: p, i => if wildC c then (i : Int) else wIdx p (i + 1)
theorem wIdx_nn (p : List Ch) (i : Nat) : decide (0 ≤ wIdx p i) = wildP p := by
 induction p generalizing i with
 | nil => rfl
 | cons c p ih =>
  rw [wIdx, wildP, List.any_cons]
  cases h : wildC c with
  | true => rw [if_pos rfl]; simp
  | false => rw [if_neg (by simp), Bool.false_or]; exact ih _
/-! a piece cut off -/
def cutLen (s : List UInt8) (g : Bool) (i : Nat) : Nat := if g then s.length - i else i
def cutOk (p : List Ch) (s : List UInt8) (e g : Bool) (i : Nat) : Bool := if e then Mt p (s.drop (s.length - cutLen s g i)) else Mt p (s.take (cutLen s g i))
def cutRes (s : List UInt8) (e g : Bool) (i : Nat) : List UInt8 := if e then s.take (s.length - cutLen s g i) else s.drop (cutLen s g i)
def cutP (p : List Ch) (s : List UInt8) (e g : Bool) : List UInt8 := match (List.range (s.length + 1)).find? (cutOk p s e g) with
 | some i => cutRes s e g i
 | none => s
theorem cutP_hit {p : List Ch} {s : List UInt8} {e g : Bool} {i : Nat} (hi : i ≤ s.length) (hno : ∀ j, j < i → cutOk p s e g j = false) (h : cutOk p s e g i = true) : cutP p s e g = cutRes s e g i := by
 have : (List.range (s.length + 1)).find? (cutOk p s e g) = some i := by
  rw [List.find?_range_eq_some]
  exact ⟨h, by simp; omega, fun j hj => by simp [hno j hj]⟩
 rw [cutP, this]
theorem cutP_none {p : List Ch} {s : List UInt8} {e g : Bool} (hno : ∀ j, j < s.length + 1 → cutOk p s e g j = false) : cutP p s e g = s := by
 have : (List.range (s.length + 1)).find? (cutOk p s e g) = none := by
  rw [List.find?_eq_none]
  intro j hj
  simp [hno j (by simpa using hj)]
 rw [cutP, this]
theorem cutLen_le {s : List UInt8} {g : Bool} {i : Nat} (h : i ≤ s.length) : cutLen s g i ≤ s.length := by
 unfold cutLen; split <;> omega
theorem cut_law (p : List Ch) (s : List UInt8) (e g : Bool) : (cutP p s e g).length ≤ s.length ∧
  (e = true → cutP p s e g = s.take (cutP p s e g).length ∧ (cutP p s e g = s ∨ Mt p (s.drop (cutP p s e g).length) = true)) ∧
  (e = false → cutP p s e g = s.drop (s.length - (cutP p s e g).length) ∧ (cutP p s e g = s ∨ Mt p (s.take (s.length - (cutP p s e g).length)) = true)) := by
 cases hf : (List.range (s.length + 1)).find? (cutOk p s e g) with
 | none =>
  have h : cutP p s e g = s := by rw [cutP, hf]
  rw [h]
  exact ⟨Nat.le_refl _, fun _ => ⟨by simp, .inl rfl⟩, fun _ => ⟨by simp, .inl rfl⟩⟩
 | some i =>
  have h : cutP p s e g = cutRes s e g i := by rw [cutP, hf]
  have hk := List.find?_some hf
  have hm := List.mem_of_find?_eq_some hf
  have hi : i ≤ s.length := by simp at hm; omega
  have hl := cutLen_le (g := g) hi
  rw [h]
  unfold cutOk at hk
  unfold cutRes
  cases e with
  | true =>
   simp only [if_true] at hk ⊢
   have e1 : (s.take (s.length - cutLen s g i)).length = s.length - cutLen s g i := by simp
   rw [e1]
   exact ⟨by omega, fun _ => ⟨rfl, .inr hk⟩, fun h => by cases h⟩
  | false =>
   simp only [Bool.false_eq_true, if_false] at hk ⊢
   have e1 : s.length - (s.drop (cutLen s g i)).length = cutLen s g i := by simp; omega
   rw [e1]
   exact ⟨by simp, (fun h => by cases h), fun _ => ⟨rfl, .inr hk⟩⟩
end Go.Tri
