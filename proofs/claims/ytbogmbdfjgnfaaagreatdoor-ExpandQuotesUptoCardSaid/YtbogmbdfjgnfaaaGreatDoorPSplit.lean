/-
 What layer 15 computes, in plain words: pieces, bytes one by one, fields.
-/
import Derived.Test.YtbogmbdfjgnfaaaGreatDoorTriB5
namespace Go.Tri
open Go.RowKit

structure Ch where
 b : UInt8
 q : Bool
 deriving DecidableEq
structure Pc where
 t : List UInt8
 q : Bool
 s : Bool
 deriving DecidableEq
def pc0 : Pc := ⟨[], false, false⟩
def chC (c : Ch) : List Value := [u8 c.b, .bool c.q]
def pcC (p : Pc) : List Value := [str p.t, .bool p.q, .bool p.s]

theorem chC_ones (c : Ch) : ∀ u ∈ chC c, u.oneCell' = true := fun u hu => by
 simp only [chC, List.mem_cons, List.not_mem_nil, or_false] at hu
 rcases hu with rfl | rfl <;> rfl
theorem pcC_ones (c : Pc) : ∀ u ∈ pcC c, u.oneCell' = true := fun u hu => by
 simp only [pcC, List.mem_cons, List.not_mem_nil, or_false] at hu
 rcases hu with rfl | rfl | rfl <;> rfl
/-- a list of slices -/
def RowsOf (I : Look) (vs : List Value) (ls : List (List Ch)) : Prop := vs.length = ls.length ∧ ∀ (i : Nat) (v : Value) (l : List Ch), vs[i]? = some v → ls[i]? = some l → Sl I 2 v (l.map chC)

def hasB (s : List UInt8) (b : UInt8) : Bool := s.any (· == b)
theorem RowsOf.at_ {I : Look} {vs : List Value} {ls : List (List Ch)} (h : RowsOf I vs ls) {i : Nat} (hi : i < ls.length) : Sl I 2 (nth vs i undef) ((nth ls i []).map chC) := by
 have h1 : i < vs.length := by rw [h.1]; exact hi
 exact h.2 i _ _ (get_nth h1) (get_nth hi)
theorem RowsOf.mono {I J : Look} {vs : List Value} {ls : List (List Ch)} (h : RowsOf I vs ls) (hle : Le I J) : RowsOf J vs ls := ⟨h.1, fun i v l h1 h2 => (h.2 i v l h1 h2).mono hle⟩
theorem RowsOf.snoc {I : Look} {vs : List Value} {ls : List (List Ch)} {v : Value} {l : List Ch} (h : RowsOf I vs ls) (hv : Sl I 2 v (l.map chC)) : RowsOf I (vs ++ [v]) (ls ++ [l]) := by
 refine ⟨by simp [h.1], fun i u m h1 h2 => ?_⟩
 rcases Nat.lt_or_ge i ls.length with hlt | hge
 ·rw [List.getElem?_append_left (by rw [h.1]; exact hlt)] at h1
  rw [List.getElem?_append_left hlt] at h2
  exact h.2 i u m h1 h2
 ·rw [List.getElem?_append_right (by rw [h.1]; exact hge), h.1] at h1
  rw [List.getElem?_append_right hge] at h2
  cases hk : i - ls.length with
  | zero =>
   rw [hk] at h1 h2
   simp only [List.getElem?_cons_zero, Option.some.injEq] at h1 h2
   subst h1 h2
   exact hv
  | succ n => rw [hk] at h1; simp at h1
def oneC (v : Value) : List Value := [v]
/-- a slice of slices -/
def RL (I : Look) (v : Value) (ls : List (List Ch)) : Prop := ∃ vs, Sl I 1 v (vs.map oneC) ∧ RowsOf I vs ls
theorem RL.mono {I J : Look} {v : Value} {ls : List (List Ch)} (h : RL I v ls) (hle : Le I J) : RL J v ls := by
 obtain ⟨vs, h1, h2⟩ := h
 exact ⟨vs, h1.mono hle, h2.mono hle⟩
theorem beq_lists {α : Type} {xs ys : List α} (h : xs.length = ys.length) (d : α) (he : ∀ i, i < xs.length → nth xs i d = nth ys i d) : xs = ys := by
 apply List.ext_getElem h
 intro i h1 h2
 have := he i h1
 rwa [nth_eq h1, nth_eq h2] at this
/-! elements as the walk meets them -/
section
variable {w0 : World} {I : Look} {H : List HA} {v : Value}
theorem map_getD {α : Type} (l : List α) (f : α → List Value) (d : α) {i : Nat} (h : i < l.length) : (l.map f)[i]? = some (f (nth l i d)) := by
 rw [List.getElem?_map, get_nth (d := d) h]; rfl
theorem rd_ch_b {l : List Ch} (h : Sl I 2 v (l.map chC)) {i : Nat} (hi : i < l.length) : Rd w0 I H (adr v).block ((adr v).off + i * 2 + 0) (u8 (nth l i ⟨0, false⟩).b) := h.rd (map_getD l chC ⟨0, false⟩ hi) rfl
theorem rds_ch {l : List Ch} (h : Sl I 2 v (l.map chC)) {i : Nat} (hi : i < l.length) : Rds w0 I H (adr v).block ((adr v).off + i * 2) (chC (nth l i ⟨0, false⟩)) := h.rds (map_getD l chC ⟨0, false⟩ hi)
theorem rds_pc {l : List Pc} (h : Sl I 3 v (l.map pcC)) {i : Nat} (hi : i < l.length) : Rds w0 I H (adr v).block ((adr v).off + i * 3) (pcC (nth l i pc0)) := h.rds (map_getD l pcC pc0 hi)
theorem rd_row1 {vs : List Value} (h : Sl I 1 v (vs.map oneC)) {i : Nat} (hi : i < vs.length) : Rd w0 I H (adr v).block ((adr v).off + i * 1) (nth vs i undef) := h.rd (j := 0) (map_getD vs oneC undef hi) rfl
end

/-! a field's bytes -/
def chText (l : List Ch) : List UInt8 := l.map Ch.b

/-! the machine -/
structure FSt where
 out : List (List Ch)
 cur : List Ch
 begun : Bool
 soft : Bool
 deriving DecidableEq
inductive Ev where
 | begin
 | plain (c : Ch)
 | soft
 | hard
 deriving DecidableEq
def isSoftB (b : UInt8) : Bool := decide (b = 9) || decide (b = 10) || decide (b = 32)
def evB (p : Pc) (ifs : List UInt8) (b : UInt8) : Ev :=
 if p.q || !p.s || !hasB ifs b then .plain ⟨b, p.q⟩ else if isSoftB b then .soft else .hard
def evP' (ifs : List UInt8) (p : Pc) : List Ev := (if p.q then [Ev.begin] else []) ++ p.t.map (evB p ifs)
def evs' (l : List Pc) (ifs : List UInt8) : List Ev := l.flatMap (evP' ifs)
def stepF (f : FSt) : Ev → FSt
 | .begin => { f with begun := true, soft := false }
 | .plain c => { f with cur := f.cur ++ [c], begun := true, soft := false }
 | .soft => if f.begun then ⟨f.out ++ [f.cur], [], false, true⟩ else f
 | .hard => if f.begun then ⟨f.out ++ [f.cur], [], false, false⟩ else if f.soft then { f with soft := false } else { f with out := f.out ++ [[]] }
def endF (f : FSt) : List (List Ch) := if f.begun then f.out ++ [f.cur] else f.out
def fieldsAll (l : List Pc) (ifs : List UInt8) : List (List Ch) := endF ((evs' l ifs).foldl stepF ⟨[], [], false, false⟩)
def startF : FSt := ⟨[], [], false, false⟩

def tot (l : List Pc) : Nat := (l.map (fun p => p.t.length)).sum
theorem evB_plain {p : Pc} {ifs : List UInt8} {b : UInt8} (h : (p.q || !p.s || !hasB ifs b) = true) : evB p ifs b = .plain ⟨b, p.q⟩ := by unfold evB; rw [if_pos h]
def okFields (o : List (List Ch)) : Bool := o.all (fun f => decide (f.length ≤ 4096)) && decide (o.length ≤ 200)
theorem okFields_iff {o : List (List Ch)} : okFields o = true ↔ (∀ i, i < o.length → (nth o i []).length ≤ 4096) ∧ o.length ≤ 200 := by
 unfold okFields
 rw [Bool.and_eq_true, List.all_eq_true, decide_eq_true_iff]
 constructor
 ·rintro ⟨h, k⟩
  exact ⟨fun i hi => of_decide_eq_true (h _ (nth_mem hi)), k⟩
 ·rintro ⟨h, k⟩
  refine ⟨fun x hx => ?_, k⟩
  obtain ⟨i, hi, rfl⟩ := List.getElem_of_mem hx
  have := h i hi
  rw [nth_eq hi] at this
  simpa using this

/-! the program's own way: events as a byte with what it is -/
def kindB (p : Pc) (ifs : List UInt8) (b : UInt8) : Nat := if p.s && !p.q && hasB ifs b then (if isSoftB b then 2 else 3) else 0
def evq (ifs : List UInt8) (p : Pc) : List (Ch × Nat) := (if p.q then [((⟨0, false⟩ : Ch), 1)] else []) ++ p.t.map (fun b => ((⟨b, p.q⟩ : Ch), kindB p ifs b))
def evsq (l : List Pc) (ifs : List UInt8) : List (Ch × Nat) := l.flatMap (evq ifs)
def evV (x : Ch × Nat) : List Value := [.agg (chC x.1).toArray, .int .i64 (x.2 : Int)]
def toEv (x : Ch × Nat) : Ev := if x.2 = 1 then .begin else if x.2 = 0 then .plain x.1 else if x.2 = 2 then .soft else .hard
theorem evq_ev (ifs : List UInt8) (p : Pc) : (evq ifs p).map toEv = evP' ifs p := by
 unfold evq evP'
 rw [List.map_append, List.map_map]
 congr 1
 ·cases p.q <;> rfl
 ·refine List.map_congr_left fun b _ => ?_
  show toEv (⟨b, p.q⟩, kindB p ifs b) = evB p ifs b
  unfold toEv kindB evB
  cases p.q <;> cases p.s <;> cases hasB ifs b <;> cases isSoftB b <;> rfl
theorem evsq_ev (l : List Pc) (ifs : List UInt8) : (evsq l ifs).map toEv = evs' l ifs := by
 unfold evsq evs'
 rw [List.map_flatMap]
 congr 1
 funext p
 exact evq_ev ifs p
theorem evsq_drop {l : List Pc} {i : Nat} (ifs : List UInt8) (h : i < l.length) : evsq (l.drop i) ifs = evq ifs (nth l i pc0) ++ evsq (l.drop (i + 1)) ifs := by
 rw [drop_nth pc0 h]; rfl
theorem drop_step {α : Type} {l r : List α} {n : Nat} {x : α} (h : l.drop n = x :: r) : n < l.length ∧ l[n]? = some x ∧ l.drop (n + 1) = r := by
 have hn : n < l.length := by
  rcases Nat.lt_or_ge n l.length with h' | h'
  ·exact h'
  ·rw [List.drop_of_length_le h'] at h; cases h
 rw [List.drop_eq_getElem_cons hn] at h
 cases h
 exact ⟨hn, List.getElem?_eq_getElem hn, rfl⟩
theorem drop_end {α : Type} {l : List α} {n : Nat} (h : l.drop n = []) (hn : n ≤ l.length) : n = l.length := by
 have := List.drop_eq_nil_iff.1 h
 omega
theorem evV_at {xs : List (Ch × Nat)} {n : Nat} {x : Ch × Nat} {r : List (Ch × Nat)} (h : xs.drop n = x :: r) : (xs.map evV)[n]? = some (evV x) := by
 rw [List.getElem?_map, (drop_step h).2.1]; rfl

def cntN (xs : List (Ch × Nat)) : Nat := (xs.filter (fun x => x.2 != 1)).length
theorem evV_inv {xs : List (Ch × Nat)} {n : Nat} {vs : List Value} (h : (xs.map evV)[n]? = some vs) : ∃ c k, vs = evV (c, k) ∧ n < xs.length ∧ xs.drop n = (c, k) :: xs.drop (n + 1) ∧ xs.take (n + 1) = xs.take n ++ [(c, k)] := by
 rw [List.getElem?_map] at h
 obtain ⟨x, hx, rfl⟩ := Option.map_eq_some_iff.1 h
 obtain ⟨hn, hx'⟩ := List.getElem?_eq_some_iff.1 hx
 subst hx'
 exact ⟨_, _, rfl, hn, List.drop_eq_getElem_cons hn, List.take_succ_eq_append_getElem hn⟩
theorem fold_step {xs : List (Ch × Nat)} {n : Nat} {x : Ch × Nat} (s : FSt) (h : xs.take (n + 1) = xs.take n ++ [x]) : ((xs.take (n + 1)).map toEv).foldl stepF s = stepF (((xs.take n).map toEv).foldl stepF s) (toEv x) := by
 rw [h, List.map_append, List.foldl_append]; rfl
theorem cntN_cons (x : Ch × Nat) (xs : List (Ch × Nat)) : cntN (x :: xs) = (if x.2 = 1 then 0 else 1) + cntN xs := by
 unfold cntN
 rw [List.filter_cons]
 by_cases h : x.2 = 1
 ·simp [h]
 ·simp [h]; omega
theorem cntN_app (xs ys : List (Ch × Nat)) : cntN (xs ++ ys) = cntN xs + cntN ys := by simp [cntN]
theorem cntN_evsq (l : List Pc) (ifs : List UInt8) : cntN (evsq l ifs) = tot l := by
 induction l with
 | nil => rfl
 | cons p l ih =>
  show cntN (evq ifs p ++ evsq l ifs) = _
  rw [cntN_app, ih]
  show _ = p.t.length + tot l
  congr 1
  unfold evq
  rw [cntN_app]
  have h1 : cntN (if p.q = true then [((⟨0, false⟩ : Ch), 1)] else []) = 0 := by cases p.q <;> rfl
  rw [h1, Nat.zero_add]
  unfold cntN
  rw [List.filter_eq_self.2]
  ·simp
  ·intro x hx
   obtain ⟨b, _, rfl⟩ := List.mem_map.1 hx
   show (kindB p ifs b != 1) = true
   unfold kindB
   split
   ·split <;> rfl
   ·rfl
def longB (o : List (List Ch)) : Bool := o.any (fun x => decide ((4096 : Int) < (x.length : Int)))
theorem longB_snoc (o : List (List Ch)) (x : List Ch) : longB (o ++ [x]) = (longB o || decide ((4096 : Int) < (x.length : Int))) := by simp [longB]
theorem okFields_long (o : List (List Ch)) : okFields o = (!longB o && decide (o.length ≤ 200)) := by
 unfold okFields longB
 congr 1
 rw [List.not_any_eq_all_not]
 congr 1
 funext x
 rw [Bool.eq_iff_iff]
 simp
 omega
end Go.Tri
