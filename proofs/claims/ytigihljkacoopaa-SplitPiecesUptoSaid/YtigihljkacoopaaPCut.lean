/-
  Pieces that are cut in two.
-/
import Derived.Test.YtigihljkacoopaaPBack
namespace Go.Tri
open Go.RowKit
def cutA (p : Pc) (j : Nat) : Pc := ⟨p.t.take j, p.q, p.s⟩
def cutB (p : Pc) (j : Nat) : Pc := ⟨p.t.drop j, p.q, p.s⟩
theorem evs_app (a b : List Pc) (ifs : List UInt8) : evs' (a ++ b) ifs = evs' a ifs ++ evs' b ifs := by simp [evs']
theorem keep_quoted (p : Pc) (ifs : List UInt8) (hq : p.q = true) : ∀ (t : List UInt8) (f : FSt), f.begun = true → f.soft = false → ((t.map (evB p ifs)).foldl stepF f).begun = true ∧ ((t.map (evB p ifs)).foldl stepF f).soft = false
  | [], f, h1, h2 => ⟨h1, h2⟩
  | b :: t, f, _, _ => by
    rw [List.map_cons, List.foldl_cons, evB_plain (by simp [hq])]
    exact keep_quoted p ifs hq t _ rfl rfl
theorem cut_step (p : Pc) (j : Nat) (ifs : List UInt8) (f : FSt) : (evs' [cutA p j, cutB p j] ifs).foldl stepF f = (evP' ifs p).foldl stepF f := by
  have e : evs' [cutA p j, cutB p j] ifs = ((if p.q then [Ev.begin] else []) ++ (p.t.take j).map (evB p ifs)) ++ ((if p.q then [Ev.begin] else []) ++ (p.t.drop j).map (evB p ifs)) := by
    simp only [evs', List.flatMap_cons, List.flatMap_nil, List.append_nil]
    rfl
  rw [e]
  cases hq : p.q with
  | false =>
    simp only [Bool.false_eq_true, if_false, List.nil_append, evP', hq]
    rw [← List.map_append, List.take_append_drop]
  | true =>
    simp only [if_true, evP', hq, List.foldl_append, List.foldl_cons, List.foldl_nil]
    obtain ⟨h1, h2⟩ := keep_quoted p ifs hq (p.t.take j) (stepF f .begin) rfl rfl
    have h3 : stepF (((p.t.take j).map (evB p ifs)).foldl stepF (stepF f .begin)) .begin = ((p.t.take j).map (evB p ifs)).foldl stepF (stepF f .begin) := by
      generalize ((p.t.take j).map (evB p ifs)).foldl stepF (stepF f .begin) = g at h1 h2
      obtain ⟨a, b, c, d⟩ := g
      simp only at h1 h2
      subst h1 h2
      rfl
    rw [h3, ← List.foldl_append, ← List.map_append, List.take_append_drop]
/-- the same fields, whatever came before -/
def SameEv (a b : List Pc) : Prop := ∀ ifs f, (evs' a ifs).foldl stepF f = (evs' b ifs).foldl stepF f
theorem same_step {l cl : List Pc} {k : Nat} (j : Nat) (hk : k < l.length) (h : SameEv cl (l.take k)) : SameEv (cl ++ [cutA (nth l k pc0) j, cutB (nth l k pc0) j]) (l.take (k + 1)) := by
  intro ifs f
  rw [evs_app, take_nth pc0 hk, evs_app, List.foldl_append, List.foldl_append, h ifs f, cut_step]
  simp only [evs', List.flatMap_cons, List.flatMap_nil, List.append_nil]
theorem same_fields {a b : List Pc} (h : SameEv a b) (ifs : List UInt8) : fieldsAll a ifs = fieldsAll b ifs := by
  unfold fieldsAll; rw [h]
theorem mod_nat (a : Int) (n : Nat) (h : 0 < n) : -(n : Int) < a.tmod n ∧ a.tmod n < n ∧ ∃ j : Nat, j ≤ n ∧ (a.tmod n + n).tmod n = (j : Int) := by
  have h1 : a.tmod n < n := Int.tmod_lt_of_pos a (by omega)
  have h2 : -(n : Int) < a.tmod n := Int.lt_tmod_of_pos a (by omega)
  refine ⟨h2, h1, ((a.tmod n + n).tmod n).toNat, ?_, ?_⟩
  · have := Int.tmod_lt_of_pos (a.tmod n + n) (show (0 : Int) < n by omega)
    omega
  · have := Int.tmod_nonneg (b := (n : Int)) (show 0 ≤ a.tmod n + n by omega)
    omega
end Go.Tri
