/-
  What layer 2 computes, in plain words: brackets, one element, whole texts.
-/
import Derived.Test.YtlhjbemcapnmjaaPGen
namespace Go.Tri
open Go.RowKit

def ch0 : Ch := ⟨0, false⟩
def uq (b : UInt8) : Ch := ⟨b, false⟩
def startsP : List Ch → List UInt8 → Bool
  | _, [] => true
  | [], _ :: _ => false
  | c :: p, b :: s => decide (c = uq b) && startsP p s
theorem startsP_nil (p : List Ch) : startsP p [] = true := by cases p <;> rfl
theorem startsP_short : ∀ (p : List Ch) (s : List UInt8), p.length < s.length → startsP p s = false
  | [], [], h => absurd h (by simp)
  | [], _ :: _, _ => rfl
  | _ :: _, [], h => absurd h (by simp)
  | c :: p, b :: s, h => by
    have := startsP_short p s (by simp at h; omega)
    simp [startsP, this]
theorem startsP_drop (p : List Ch) (s : List UInt8) (i : Nat) (h : i < s.length) (hp : i < p.length) : startsP (p.drop i) (s.drop i) = (decide (nth p i ch0 = uq (nth s i 0)) && startsP (p.drop (i + 1)) (s.drop (i + 1))) := by
  rw [drop_nth ch0 hp, drop_nth 0 h]; rfl
theorem startsP_len {p : List Ch} {s : List UInt8} (h : startsP p s = true) : s.length ≤ p.length := by
  rcases Nat.lt_or_ge p.length s.length with h1 | h1
  · rw [startsP_short p s h1] at h; cases h
  · exact h1
theorem startsP_one (c : Ch) (p : List Ch) (b : UInt8) : startsP (c :: p) [b] = decide (c = uq b) := by
  show (decide (c = uq b) && startsP p []) = _
  rw [startsP_nil, Bool.and_true]
theorem startsP_two : ∀ (p : List Ch) (s t : List UInt8), startsP p s = true → startsP p t = true → s.length = t.length → s = t
  | _, [], [], _, _, _ => rfl
  | _, [], _ :: _, _, _, h => by simp at h
  | _, _ :: _, [], _, _, h => by simp at h
  | [], _ :: _, _ :: _, h, _, _ => by cases h
  | c :: p, b :: s, d :: t, h1, h2, hl => by
    simp only [startsP, Bool.and_eq_true, decide_eq_true_eq] at h1 h2
    have e : b = d := by
      have := h1.1.symm.trans h2.1
      simpa [uq] using this
    rw [e, startsP_two p s t h1.2 h2.2 (by simpa using hl)]

/-! members -/
def clsNames : List (List UInt8) := [[97, 108, 112, 104, 97], [100, 105, 103, 105, 116], [97, 108, 110, 117, 109], [117, 112, 112, 101, 114], [108, 111, 119, 101, 114], [115, 112, 97, 99, 101]]
def clsText (n : List UInt8) : List UInt8 := [91, 58] ++ n ++ [58, 93]
theorem cls_len {n : List UInt8} (h : n ∈ clsNames) : n.length = 5 := by
  simp only [clsNames, List.mem_cons, List.not_mem_nil, or_false] at h
  rcases h with rfl | rfl | rfl | rfl | rfl | rfl <;> rfl
def clsStep (p : List Ch) (cl n : List UInt8) : List UInt8 := if startsP p (clsText n) then n else cl
def clsP (p : List Ch) : List UInt8 := clsNames.foldl (clsStep p) []
/-- at most one name stands there -/
theorem cls_one {p : List Ch} {n m : List UInt8} (hn : n ∈ clsNames) (hm : m ∈ clsNames) (h1 : startsP p (clsText n) = true) (h2 : startsP p (clsText m) = true) : n = m := by
  have := startsP_two p _ _ h1 h2 (by simp [clsText, cls_len hn, cls_len hm])
  simp only [clsText, List.append_assoc, List.cons_append, List.nil_append, List.cons.injEq, true_and] at this
  exact (List.append_inj this (by rw [cls_len hn, cls_len hm])).1
theorem cls_fold {p : List Ch} : ∀ (l : List (List UInt8)) (a : List UInt8), (∀ n ∈ l, n ∈ clsNames) → (l.foldl (clsStep p) a = a ∧ ∀ n ∈ l, startsP p (clsText n) = false) ∨ ∃ n ∈ l, startsP p (clsText n) = true ∧ l.foldl (clsStep p) a = n
  | [], a, _ => .inl ⟨rfl, fun _ h => by cases h⟩
  | n :: l, a, h => by
    rw [List.foldl_cons]
    rcases cls_fold (p := p) l (clsStep p a n) (fun m hm => h m (List.mem_cons_of_mem _ hm)) with ⟨h1, h2⟩ | ⟨m, h1, h2, h3⟩
    · by_cases hn : startsP p (clsText n) = true
      · exact .inr ⟨n, List.mem_cons_self, hn, by rw [h1, clsStep, if_pos hn]⟩
      · refine .inl ⟨by rw [h1, clsStep, if_neg hn], fun m hm => ?_⟩
        rcases List.mem_cons.1 hm with rfl | hm
        · simpa using hn
        · exact h2 m hm
    · exact .inr ⟨m, List.mem_cons_of_mem _ h1, h2, h3⟩
theorem cls_cases (p : List Ch) : (clsP p = [] ∧ ∀ n ∈ clsNames, startsP p (clsText n) = false) ∨ ∃ n ∈ clsNames, startsP p (clsText n) = true ∧ clsP p = n := cls_fold clsNames [] (fun _ h => h)
theorem cls_of {p : List Ch} {n : List UInt8} (hn : n ∈ clsNames) (h : startsP p (clsText n) = true) : clsP p = n := by
  rcases cls_cases p with ⟨_, h2⟩ | ⟨m, hm, h1, h2⟩
  · rw [h2 n hn] at h; cases h
  · rw [h2]; exact cls_one hm hn h1 h
def upperB (c : UInt8) : Bool := decide ((65 : Int) ≤ (c.toNat : Int)) && decide ((c.toNat : Int) ≤ 90)
def lowerB (c : UInt8) : Bool := decide ((97 : Int) ≤ (c.toNat : Int)) && decide ((c.toNat : Int) ≤ 122)
def digitB (c : UInt8) : Bool := decide ((48 : Int) ≤ (c.toNat : Int)) && decide ((c.toNat : Int) ≤ 57)
def spaceB (c : UInt8) : Bool := (decide ((9 : Int) ≤ (c.toNat : Int)) && decide ((c.toNat : Int) ≤ 13)) || decide (c = 32)
def classB (n : List UInt8) (c : UInt8) : Bool :=
  if n = [97, 108, 112, 104, 97] then upperB c || lowerB c else if n = [100, 105, 103, 105, 116] then digitB c else if n = [97, 108, 110, 117, 109] then upperB c || lowerB c || digitB c
  else if n = [117, 112, 112, 101, 114] then upperB c else if n = [108, 111, 119, 101, 114] then lowerB c else spaceB c
structure Mem where
  cl : List UInt8
  lo : UInt8
  hi : UInt8
  deriving DecidableEq
def holdsM (m : Mem) (c : UInt8) : Bool := if m.cl ∈ clsNames then classB m.cl c else decide ((m.lo.toNat : Int) ≤ (c.toNat : Int)) && decide ((c.toNat : Int) ≤ (m.hi.toNat : Int))
def memC (m : Mem) : List Value := [str m.cl, u8 m.lo, u8 m.hi]
/-- the member at the beginning, and how long it is -/
def memP (p : List Ch) : Mem × Nat :=
  if clsP p ≠ [] then (⟨clsP p, 0, 0⟩, (clsP p).length + 4)
  else if decide ((2 : Int) < (p.length : Int)) && startsP (p.drop 1) [45] && !startsP (p.drop 2) [93] then (⟨[], (nth p 0 ch0).b, (nth p 2 ch0).b⟩, 3)
  else (⟨[], (nth p 0 ch0).b, (nth p 0 ch0).b⟩, 1)
theorem memP_pos (p : List Ch) : 1 ≤ (memP p).2 := by
  unfold memP; split
  · simp
  · split <;> simp
theorem memP_len {p : List Ch} (h : p ≠ []) : (memP p).2 ≤ p.length := by
  unfold memP; split
  · rcases cls_cases p with ⟨h1, _⟩ | ⟨n, hn, h1, h2⟩
    · contradiction
    · rw [h2]
      have := startsP_len h1
      simp [clsText] at this
      simp; omega
  · split
    · rename_i h2
      simp at h2; simp; omega
    · exact List.length_pos_iff.2 h

/-! a bracket, behind its [ and its ! -/
def brGo : Nat → List Ch → Bool → UInt8 → Bool → Option (Bool × List Ch)
  | 0, _, _, _, _ => none
  | n + 1, p, first, c, found =>
    if p = [] then none else if !first && startsP p [93] then some (found, p.drop 1) else brGo n (p.drop (memP p).2) false c (found || holdsM (memP p).1 c)
theorem brGo_fuel : ∀ (n m : Nat) (p : List Ch) (first : Bool) (c : UInt8) (found : Bool), p.length ≤ n → p.length ≤ m → brGo n p first c found = brGo m p first c found
  | 0, 0, _, _, _, _, _, _ => rfl
  | 0, m + 1, p, _, _, _, h, _ => by
    have : p = [] := List.eq_nil_of_length_eq_zero (by omega)
    subst this; simp [brGo]
  | n + 1, 0, p, _, _, _, _, h => by
    have : p = [] := List.eq_nil_of_length_eq_zero (by omega)
    subst this; simp [brGo]
  | n + 1, m + 1, p, first, c, found, h1, h2 => by
    unfold brGo
    split
    · rfl
    · rename_i hp
      have h3 := memP_pos p
      have h4 := memP_len hp
      split
      · rfl
      · exact brGo_fuel n m _ _ _ _ (by simp; omega) (by simp; omega)
def brG (p : List Ch) (first : Bool) (c : UInt8) (found : Bool) : Option (Bool × List Ch) := brGo p.length p first c found
theorem brG_nil (first : Bool) (c : UInt8) (found : Bool) : brG [] first c found = none := rfl
theorem brG_eq {p : List Ch} (hp : p ≠ []) (first : Bool) (c : UInt8) (found : Bool) :
    brG p first c found = if !first && startsP p [93] then some (found, p.drop 1) else brG (p.drop (memP p).2) false c (found || holdsM (memP p).1 c) := by
  have h3 := memP_pos p
  have h4 := memP_len hp
  unfold brG
  rw [brGo_fuel p.length (p.length - 1 + 1) p first c found (Nat.le_refl _) (by omega)]
  rw [brGo, if_neg hp]
  split
  · rfl
  · exact brGo_fuel _ _ _ _ _ _ (by simp; omega) (Nat.le_refl _)
/-- the members, each with what stands behind -/
def memsGo : Nat → List Ch → Bool → List (Mem × Nat)
  | 0, _, _ => []
  | n + 1, p, first => if p = [] then [] else if !first && startsP p [93] then [] else memP p :: memsGo n (p.drop (memP p).2) false
theorem memsGo_fuel : ∀ (n m : Nat) (p : List Ch) (first : Bool), p.length ≤ n → p.length ≤ m → memsGo n p first = memsGo m p first
  | 0, 0, _, _, _, _ => rfl
  | 0, m + 1, p, _, h, _ => by
    have : p = [] := List.eq_nil_of_length_eq_zero (by omega)
    subst this; simp [memsGo]
  | n + 1, 0, p, _, _, h => by
    have : p = [] := List.eq_nil_of_length_eq_zero (by omega)
    subst this; simp [memsGo]
  | n + 1, m + 1, p, first, h1, h2 => by
    unfold memsGo
    split
    · rfl
    · rename_i hp
      have h3 := memP_pos p
      have h4 := memP_len hp
      split
      · rfl
      · rw [memsGo_fuel n m _ _ (by simp; omega) (by simp; omega)]
def memsG (p : List Ch) (first : Bool) : List (Mem × Nat) := memsGo p.length p first
theorem memsG_eq {p : List Ch} (hp : p ≠ []) (first : Bool) : memsG p first = if !first && startsP p [93] then [] else memP p :: memsG (p.drop (memP p).2) false := by
  have h3 := memP_pos p
  have h4 := memP_len hp
  unfold memsG
  rw [memsGo_fuel p.length (p.length - 1 + 1) p first (Nat.le_refl _) (by omega)]
  rw [memsGo, if_neg hp]
  split
  · rfl
  · rw [memsGo_fuel _ _ _ _ (by simp; omega) (Nat.le_refl _)]
/-- the same as the walk meets them -/
def memVs : Nat → Value → List (Mem × Nat) → List (List Value)
  | _, _, [] => []
  | n, v, (m, k) :: r => [.agg (memC m).toArray, cutV 2 k n v] :: memVs (n - k) (cutV 2 k n v) r
theorem memVs_step {p : List Ch} (hp : p ≠ []) (first : Bool) (h : (!first && startsP p [93]) = false) (v : Value) : memVs p.length v (memsG p first) =
    [.agg (memC (memP p).1).toArray, cutV 2 (memP p).2 p.length v] :: memVs (p.drop (memP p).2).length (cutV 2 (memP p).2 p.length v) (memsG (p.drop (memP p).2) false) := by
  rw [memsG_eq hp, h, if_neg (by simp), List.length_drop]
  rfl
def bracketP (p : List Ch) (c : UInt8) : Option (Bool × List Ch) :=
  let not := startsP (p.drop 1) [33]
  let inner := if not then p.drop 2 else p.drop 1
  (brG inner true c false).map fun x => (x.1 != not, x.2)
theorem brG_len : ∀ (n : Nat) (p : List Ch) (first : Bool) (c : UInt8) (found : Bool) (x : Bool × List Ch), p.length ≤ n → brG p first c found = some x → x.2.length < p.length
  | 0, p, _, _, _, _, h, hx => by
    have : p = [] := List.eq_nil_of_length_eq_zero (by omega)
    subst this; cases hx
  | n + 1, p, first, c, found, x, h, hx => by
    by_cases hp : p = []
    · subst hp; cases hx
    · have h3 := memP_pos p
      have h4 := memP_len hp
      have h5 := List.length_pos_iff.2 hp
      rw [brG_eq hp] at hx
      split at hx
      · cases hx; simp; omega
      · have := brG_len n _ _ _ _ _ (by simp; omega) hx
        simp at this; omega
/-- where the bracket ends hangs on its own bytes alone -/
theorem brG_behind : ∀ (n : Nat) (p : List Ch) (first : Bool) (c d : UInt8) (f g : Bool), p.length ≤ n → (brG p first c f).map (·.2) = (brG p first d g).map (·.2)
  | 0, p, _, _, _, _, _, h => by
    have : p = [] := List.eq_nil_of_length_eq_zero (by omega)
    subst this; rfl
  | n + 1, p, first, c, d, f, g, h => by
    by_cases hp : p = []
    · subst hp; rfl
    · have h3 := memP_pos p
      have h4 := memP_len hp
      have h5 := List.length_pos_iff.2 hp
      rw [brG_eq hp, brG_eq hp]
      split
      · rfl
      · exact brG_behind n _ _ _ _ _ _ (by simp; omega)
/-- does the first element take a byte, and what is behind it? -/
def oneP (p : List Ch) (c : UInt8) : Bool × List Ch :=
  if startsP p [63] then (true, p.drop 1)
  else if startsP p [91] then match bracketP p c with
    | some x => x
    | none => (decide ((nth p 0 ch0).b = c), p.drop 1)
  else (decide ((nth p 0 ch0).b = c), p.drop 1)
theorem bracketP_len {p : List Ch} {c : UInt8} {x : Bool × List Ch} (h : bracketP p c = some x) : x.2.length < p.length := by
  unfold bracketP at h
  simp only [Option.map_eq_some_iff] at h
  obtain ⟨y, hy, rfl⟩ := h
  have := brG_len _ _ _ _ _ _ (Nat.le_refl _) hy
  split at this <;> simp at this ⊢ <;> omega
theorem oneP_len {p : List Ch} (hp : p ≠ []) (c : UInt8) : (oneP p c).2.length < p.length := by
  have h5 := List.length_pos_iff.2 hp
  unfold oneP
  split
  · simp; omega
  · split
    · split
      · rename_i x hx; exact bracketP_len hx
      · simp; omega
    · simp; omega
theorem oneP_behind (p : List Ch) (c d : UInt8) : (oneP p c).2 = (oneP p d).2 := by
  unfold oneP
  split
  · rfl
  · split
    · have : (bracketP p c).map (·.2) = (bracketP p d).map (·.2) := by
        unfold bracketP
        simp only [Option.map_map]
        exact brG_behind _ _ _ _ _ _ _ (Nat.le_refl _)
      cases h1 : bracketP p c <;> cases h2 : bracketP p d <;> rw [h1, h2] at this <;> simp at this ⊢
      exact this
    · rfl

/-! a whole text -/
def starP (p : List Ch) : Bool := startsP p [42]
def MtF : Nat → List Ch → List UInt8 → Bool
  | 0, _, s => s.isEmpty
  | n + 1, p, s =>
    if p = [] then s.isEmpty else if startsP p [42] then (List.range (s.length + 1)).any fun i => MtF n (p.drop 1) (s.drop i)
    else if s = [] then false else (oneP p (nth s 0 0)).1 && MtF n (oneP p (nth s 0 0)).2 (s.drop 1)
theorem MtF_fuel : ∀ (n m : Nat) (p : List Ch) (s : List UInt8), p.length ≤ n → p.length ≤ m → MtF n p s = MtF m p s
  | 0, 0, _, _, _, _ => rfl
  | 0, m + 1, p, _, h, _ => by
    have : p = [] := List.eq_nil_of_length_eq_zero (by omega)
    subst this; simp [MtF]
  | n + 1, 0, p, _, _, h => by
    have : p = [] := List.eq_nil_of_length_eq_zero (by omega)
    subst this; simp [MtF]
  | n + 1, m + 1, p, s, h1, h2 => by
    unfold MtF
    split
    · rfl
    · rename_i hp
      have h5 := List.length_pos_iff.2 hp
      split
      · congr 1; funext i; exact MtF_fuel n m _ _ (by simp; omega) (by simp; omega)
      · split
        · rfl
        · have := oneP_len hp (nth s 0 0)
          rw [MtF_fuel n m _ _ (by omega) (by omega)]
def Mt (p : List Ch) (s : List UInt8) : Bool := MtF p.length p s
theorem Mt_nil (s : List UInt8) : Mt [] s = s.isEmpty := rfl
theorem Mt_star {p : List Ch} (h : startsP p [42] = true) (s : List UInt8) : Mt p s = (List.range (s.length + 1)).any fun i => Mt (p.drop 1) (s.drop i) := by
  have hp : p ≠ [] := by rintro rfl; cases h
  have h5 := List.length_pos_iff.2 hp
  unfold Mt
  rw [MtF_fuel p.length (p.length - 1 + 1) p s (Nat.le_refl _) (by omega), MtF, if_neg hp, if_pos h]
  congr 1; funext i; exact MtF_fuel _ _ _ _ (by simp) (Nat.le_refl _)
theorem Mt_end {p : List Ch} (hp : p ≠ []) (h : startsP p [42] = false) : Mt p [] = false := by
  have h5 := List.length_pos_iff.2 hp
  unfold Mt
  rw [MtF_fuel p.length (p.length - 1 + 1) p [] (Nat.le_refl _) (by omega), MtF, if_neg hp, if_neg (by simp [h]), if_pos rfl]
theorem Mt_one {p : List Ch} (hp : p ≠ []) (h : startsP p [42] = false) {s : List UInt8} (hs : s ≠ []) : Mt p s = ((oneP p (nth s 0 0)).1 && Mt (oneP p (nth s 0 0)).2 (s.drop 1)) := by
  have h5 := List.length_pos_iff.2 hp
  unfold Mt
  rw [MtF_fuel p.length (p.length - 1 + 1) p s (Nat.le_refl _) (by omega), MtF, if_neg hp, if_neg (by simp [h]), if_neg hs]
  congr 1
  have := oneP_len hp (nth s 0 0)
  exact MtF_fuel _ _ _ _ (by omega) (Nat.le_refl _)

/-- what a star takes is of some length -/
theorem Mt_star_iff {p : List Ch} (h : startsP p [42] = true) {s : List UInt8} : Mt p s = true ↔ ∃ i, i ≤ s.length ∧ Mt (p.drop 1) (s.drop i) = true := by
  rw [Mt_star h, List.any_eq_true]
  constructor
  · rintro ⟨i, h1, h2⟩; exact ⟨i, by simpa [Nat.lt_succ_iff] using h1, h2⟩
  · rintro ⟨i, h1, h2⟩; exact ⟨i, by simpa [Nat.lt_succ_iff] using h1, h2⟩

/-! the last star alone is tried again -/
/-- 'again' stands behind a star, tried from 'fr' on; (p, s) is where it stands -/
structure Tried (ag : List Ch) (fr : List UInt8) (p : List Ch) (s : List UInt8) : Prop where
  len : s.length ≤ fr.length
  back : ∀ i, i ≤ fr.length → Mt ag (fr.drop i) = true → ∃ j, j ≤ s.length ∧ Mt p (s.drop j) = true
/-- some later place helps -/
def later (ag : List Ch) (fr : List UInt8) : Prop := ∃ i, 1 ≤ i ∧ i ≤ fr.length ∧ Mt ag (fr.drop i) = true
structure MInv (p0 : List Ch) (s0 : List UInt8) (star : Bool) (ag : List Ch) (fr : List UInt8) (p : List Ch) (s : List UInt8) : Prop where
  what : Mt p0 s0 = true ↔ Mt p s = true ∨ (star = true ∧ later ag fr)
  tried : star = true → Tried ag fr p s
theorem MInv.start (p : List Ch) (s : List UInt8) : MInv p s false [] [] p s := ⟨by simp, fun h => by cases h⟩
theorem MInv.star {p0 : List Ch} {s0 : List UInt8} {star : Bool} {ag : List Ch} {fr : List UInt8} {p : List Ch} {s : List UInt8} (h : MInv p0 s0 star ag fr p s) (hs : startsP p [42] = true) : MInv p0 s0 true (p.drop 1) s (p.drop 1) s := by
  refine ⟨?_, fun _ => ⟨Nat.le_refl _, fun i hi h => ⟨i, hi, h⟩⟩⟩
  rw [h.what]
  constructor
  · rintro (h1 | ⟨h1, i, hi1, hi2, h2⟩)
    · obtain ⟨j, hj, hm⟩ := (Mt_star_iff hs).1 h1
      cases j with
      | zero => exact .inl (by simpa using hm)
      | succ j => exact .inr ⟨rfl, j + 1, by omega, hj, hm⟩
    · obtain ⟨j, hj, hm⟩ := (h.tried h1).back i hi2 h2
      obtain ⟨k, hk, hm⟩ := (Mt_star_iff hs).1 hm
      rw [List.drop_drop] at hm
      simp at hk
      rcases Nat.eq_zero_or_pos (j + k) with h0 | h0
      · rw [h0] at hm; exact .inl (by simpa using hm)
      · exact .inr ⟨rfl, j + k, h0, by omega, hm⟩
  · rintro (h1 | ⟨_, i, hi1, hi2, h2⟩)
    · exact .inl ((Mt_star_iff hs).2 ⟨0, by omega, by simpa using h1⟩)
    · exact .inl ((Mt_star_iff hs).2 ⟨i, hi2, h2⟩)
theorem MInv.one {p0 : List Ch} {s0 : List UInt8} {star : Bool} {ag : List Ch} {fr : List UInt8} {p : List Ch} {s : List UInt8} (h : MInv p0 s0 star ag fr p s) (hp : p ≠ []) (hst : startsP p [42] = false) (hs : s ≠ []) (ho : (oneP p (nth s 0 0)).1 = true) :
    MInv p0 s0 star ag fr (oneP p (nth s 0 0)).2 (s.drop 1) := by
  have h5 := List.length_pos_iff.2 hs
  refine ⟨?_, fun hh => ⟨?_, fun i hi hm => ?_⟩⟩
  · rw [h.what, Mt_one hp hst hs, ho, Bool.true_and]
  · have := (h.tried hh).len; simp; omega
  · obtain ⟨j, hj, hm⟩ := (h.tried hh).back i hi hm
    by_cases hjs : j < s.length
    · have hne : s.drop j ≠ [] := by simp; omega
      rw [Mt_one hp hst hne, Bool.and_eq_true] at hm
      refine ⟨j, by simp; omega, ?_⟩
      rw [List.drop_drop]
      have := hm.2
      rw [List.drop_drop] at this
      rw [oneP_behind p (nth s 0 0) (nth (s.drop j) 0 0), Nat.add_comm 1 j]
      exact this
    · rw [List.drop_of_length_le (by omega), Mt_end hp hst] at hm; cases hm
theorem MInv.back {p0 : List Ch} {s0 : List UInt8} {ag : List Ch} {fr : List UInt8} {p : List Ch} {s : List UInt8} (h : MInv p0 s0 true ag fr p s) (hm : Mt p s = false) (hf : fr ≠ []) : MInv p0 s0 true ag (fr.drop 1) ag (fr.drop 1) := by
  have h5 := List.length_pos_iff.2 hf
  refine ⟨?_, fun _ => ⟨Nat.le_refl _, fun i hi h => ⟨i, hi, h⟩⟩⟩
  rw [h.what, hm]
  constructor
  · rintro (h1 | ⟨_, i, hi1, hi2, h2⟩)
    · cases h1
    · rcases Nat.lt_or_ge 1 i with h3 | h3
      · exact .inr ⟨rfl, i - 1, by omega, by simp; omega, by rw [List.drop_drop, show 1 + (i - 1) = i by omega]; exact h2⟩
      · rw [show i = 1 by omega] at h2; exact .inl h2
  · rintro (h1 | ⟨_, i, hi1, hi2, h2⟩)
    · exact .inr ⟨rfl, 1, by omega, h5, h1⟩
    · rw [List.drop_drop] at h2
      simp at hi2
      exact .inr ⟨rfl, 1 + i, by omega, by omega, h2⟩
theorem MInv.fail {p0 : List Ch} {s0 : List UInt8} {star : Bool} {ag : List Ch} {fr : List UInt8} {p : List Ch} {s : List UInt8} (h : MInv p0 s0 star ag fr p s) (hm : Mt p s = false) (hf : star = false ∨ fr = []) : Mt p0 s0 = false := by
  cases hq : Mt p0 s0 with
  | false => rfl
  | true =>
    rcases h.what.1 hq with h1 | ⟨h1, i, hi1, hi2, _⟩
    · rw [hm] at h1; cases h1
    · rcases hf with hf | hf
      · rw [hf] at h1; cases h1
      · subst hf; simp at hi2; omega
theorem MInv.done {p0 : List Ch} {s0 : List UInt8} {star : Bool} {ag : List Ch} {fr : List UInt8} {p : List Ch} {s : List UInt8} (h : MInv p0 s0 star ag fr p s) (hm : Mt p s = true) : Mt p0 s0 = true := h.what.2 (.inl hm)
/-- nothing matches here -/
theorem Mt_stuck {p : List Ch} {s : List UInt8} (hne : ¬ (p = [] ∧ s = [])) (hst : startsP p [42] = false) (ho : p ≠ [] → s ≠ [] → (oneP p (nth s 0 0)).1 = false) : Mt p s = false := by
  by_cases hp : p = []
  · subst hp
    rw [Mt_nil]
    cases s with
    | nil => exact absurd ⟨rfl, rfl⟩ hne
    | cons _ _ => rfl
  · by_cases hs : s = []
    · subst hs; exact Mt_end hp hst
    · rw [Mt_one hp hst hs, ho hp hs, Bool.false_and]
/-- the measure of the machine -/
theorem mu_step {a n m A x y : Nat} (h1 : a + 1 ≤ A) (hx : x ≤ n) (hy : y ≤ m) (k : Nat) (hk : 0 ≤ k) : a * (n + m + 1) + (x + y) < A * (n + m + 1) + k := by
  have : (a + 1) * (n + m + 1) ≤ A * (n + m + 1) := Nat.mul_le_mul_right _ h1
  rw [Nat.add_mul, Nat.one_mul] at this
  omega
end Go.Tri
namespace Go.Tri
/-! as the reference walks -/
def isP (p : List Ch) (i : Nat) (b : UInt8) : Bool := decide ((i : Int) < (p.length : Int)) && decide ((nth p i ch0).b = b) && !(nth p i ch0).q
theorem isP_starts (p : List Ch) (i : Nat) (b : UInt8) : isP p i b = startsP (p.drop i) [b] := by
  rcases Nat.lt_or_ge i p.length with h | h
  · rw [drop_nth ch0 h, startsP_one]
    unfold isP
    have h1 : decide ((i : Int) < (p.length : Int)) = true := by rw [decide_eq_true_eq]; omega
    rw [h1, Bool.true_and]
    obtain ⟨cb, cq⟩ := nth p i ch0
    cases cq <;> by_cases hb : cb = b <;> simp [uq, hb]
  · rw [List.drop_of_length_le h]
    unfold isP
    have h1 : decide ((i : Int) < (p.length : Int)) = false := by rw [decide_eq_false_iff_not]; omega
    rw [h1]; rfl
def isAll (p : List Ch) (i : Nat) (s : List UInt8) (m : Nat) : Bool := (List.range m).all fun j => isP p (i + j) (nth s j 0)
theorem isAll_snoc (p : List Ch) (i : Nat) (s : List UInt8) (m : Nat) : isAll p i s (m + 1) = (isAll p i s m && isP p (i + m) (nth s m 0)) := by
  unfold isAll
  rw [List.range_succ, List.all_append]; simp
theorem startsP_cons {p : List Ch} {b : UInt8} {s : List UInt8} : startsP p (b :: s) = (startsP p [b] && startsP (p.drop 1) s) := by
  cases p with
  | nil => rfl
  | cons c p => rw [startsP_one]; rfl
theorem isAll_starts : ∀ (s : List UInt8) (p : List Ch) (i : Nat), isAll p i s s.length = startsP (p.drop i) s
  | [], p, i => by rw [startsP_nil]; rfl
  | b :: s, p, i => by
    rw [startsP_cons, ← isP_starts, List.drop_drop, ← isAll_starts s p (i + 1)]
    unfold isAll
    rw [List.length_cons, List.range_succ_eq_map, List.all_cons, List.all_map]
    congr 2
    funext j
    show isP p (i + (j + 1)) (nth (b :: s) (j + 1) 0) = isP p (i + 1 + j) (nth s j 0)
    rw [show i + (j + 1) = i + 1 + j by omega]
    rfl
def clsN (p : List Ch) : Nat := if clsP p = [] then 0 else 9
def clsH (p : List Ch) (c : UInt8) : Bool := if clsP p = [] then false else classB (clsP p) c
def holdsL (c : UInt8) : List Bool := [upperB c || lowerB c, digitB c, upperB c || lowerB c || digitB c, upperB c, lowerB c, spaceB c]
theorem holdsL_at (c : UInt8) {k : Nat} (h : k < 6) : nth (holdsL c) k false = classB (nth clsNames k []) c := by
  match k, h with
  | 0, _ => rfl
  | 1, _ => rfl
  | 2, _ => rfl
  | 3, _ => rfl
  | 4, _ => rfl
  | 5, _ => rfl
theorem cls_hit {p : List Ch} {k : Nat} (hk : k < 6) (h : startsP p (clsText (nth clsNames k [])) = true) (c : UInt8) : clsN p = 9 ∧ clsH p c = nth (holdsL c) k false := by
  have hm : nth clsNames k [] ∈ clsNames := nth_mem hk
  have h1 := cls_of hm h
  have h2 : nth clsNames k [] ≠ [] := fun e => by have := cls_len hm; rw [e] at this; simp at this
  unfold clsN clsH
  rw [h1, if_neg h2, if_neg h2, holdsL_at c hk]
  exact ⟨rfl, rfl⟩
theorem cls_miss {p : List Ch} (h : ∀ k, k < 6 → startsP p (clsText (nth clsNames k [])) = false) (c : UInt8) : clsN p = 0 ∧ clsH p c = false := by
  have h1 : clsP p = [] := by
    rcases cls_cases p with ⟨h1, _⟩ | ⟨n, hn, h1, _⟩
    · exact h1
    · obtain ⟨k, hk, rfl⟩ := List.getElem_of_mem hn
      have := h k hk
      rw [nth_eq hk] at this
      rw [this] at h1; cases h1
  unfold clsN clsH
  rw [if_pos h1, if_pos h1]
  exact ⟨rfl, rfl⟩
/-- a member, as the reference tells it -/
theorem memP_cls {q : List Ch} {c : UInt8} (h : 0 < clsN q) : (memP q).2 = clsN q ∧ holdsM (memP q).1 c = clsH q c := by
  have h1 : clsP q ≠ [] := fun e => by simp [clsN, e] at h
  rcases cls_cases q with ⟨h2, _⟩ | ⟨n, hn, _, h2⟩
  · contradiction
  · unfold memP clsN clsH
    rw [if_pos h1, if_neg h1, if_neg h1]
    refine ⟨by rw [h2, cls_len hn], ?_⟩
    unfold holdsM
    rw [if_pos (show clsP q ∈ clsNames by rw [h2]; exact hn)]
theorem clsN_zero {q : List Ch} (h : ¬ 0 < clsN q) : clsP q = [] := by
  cases hc : clsP q with
  | nil => rfl
  | cons a l => simp [clsN, hc] at h
theorem holdsM_nil {lo hi c : UInt8} : holdsM ⟨[], lo, hi⟩ c = (decide ((lo.toNat : Int) ≤ (c.toNat : Int)) && decide ((c.toNat : Int) ≤ (hi.toNat : Int))) := by
  unfold holdsM
  rw [if_neg (by simp [clsNames])]
theorem holdsM_one {b c : UInt8} : holdsM ⟨[], b, b⟩ c = decide (b = c) := by
  rw [holdsM_nil]
  by_cases h : b = c
  · subst h; simp
  · have : ¬ (b.toNat : Int) = (c.toNat : Int) := fun e => h ((u8_eq b c).1 e)
    rw [decide_eq_false h, Bool.and_eq_false_iff]
    simp only [decide_eq_false_iff_not]
    omega
theorem drop_nth2 (p : List Ch) (i k : Nat) : nth (p.drop i) k ch0 = nth p (i + k) ch0 := by
  unfold nth
  rw [List.getD_eq_getElem?_getD, List.getD_eq_getElem?_getD, List.getElem?_drop]
/-- where a bracket ends is a place of the pattern -/
theorem brG_drop : ∀ (n : Nat) (p : List Ch) (i : Nat) (first : Bool) (c : UInt8) (f : Bool) (x : Bool × List Ch), p.length - i ≤ n → i ≤ p.length → brG (p.drop i) first c f = some x → ∃ j, i < j ∧ j ≤ p.length ∧ x.2 = p.drop j
  | 0, p, i, _, _, _, _, h, hi, hx => by
    rw [List.drop_of_length_le (by omega)] at hx; cases hx
  | n + 1, p, i, first, c, f, x, h, hi, hx => by
    by_cases hp : p.drop i = []
    · rw [hp] at hx; cases hx
    · have hlt := List.length_pos_iff.2 hp
      rw [List.length_drop] at hlt
      have h3 := memP_pos (p.drop i)
      have h4 := memP_len hp
      rw [List.length_drop] at h4
      rw [brG_eq hp] at hx
      split at hx
      · cases hx; exact ⟨i + 1, by omega, by omega, by rw [List.drop_drop]⟩
      · rw [List.drop_drop] at hx
        obtain ⟨j, h5, h6, h7⟩ := brG_drop n p _ _ _ _ _ (by omega) (by omega) hx
        exact ⟨j, by omega, h6, h7⟩
end Go.Tri
namespace Go.Tri
theorem clsN_le (p : List Ch) : clsN p ≤ 9 := by unfold clsN; split <;> omega
end Go.Tri
