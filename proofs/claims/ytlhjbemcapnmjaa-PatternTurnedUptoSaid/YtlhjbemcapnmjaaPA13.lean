/-
  Patterns as arguments: what they read as.
-/
import Derived.Test.YtlhjbemcapnmjaaPA12
import Derived.Test.YtlhjbemcapnmjaaPOpen
import Derived.Test.YtlhjbemcapnmjaaRows
namespace Go.Tri
open Go.ChangeShapes Go.WideShapes Go.ChangeAt Go.RowKit Go.Proofs
open Go.Proofs.Ytlhjbemcapnmjaa
def chD {H : Type} (c : Ch) : DataW H := .agg [.lit (.int .u8 (c.b.toNat : Int)), .lit (.bool c.q)]
theorem bulk_chs {H : Type} {D : Nat → DataW H} {f : Nat → Ch} : ∀ L : List Nat, (∀ i ∈ L, D i = chD (f i)) → (L.map f).length ≤ Rows.uptoBulkAll (L.map D)
  | [], _ => by simp
  | i :: L, h => by
    have ih := bulk_chs L (fun j hj => h j (List.mem_cons_of_mem _ hj))
    simp only [List.map_cons, Rows.uptoBulkAll, List.length_cons]
    rw [h i (List.mem_cons_self)]
    simp only [chD, Rows.uptoBulk, Rows.uptoBulkAll]
    omega
theorem open_chars {H : Type} {enc : TypeId × Value → H} {W : World} {vl : Value} {d : DataW H} {ps : List MemPlace} {base : Nat} (hval : Value.okWide Try.prog W .any base 22 vl)
    (h : DataW.Trod enc Try.prog W 0 (fun _ => true) true 22 vl d ps) : ∃ l : List Ch, Sl (look W) 2 vl (l.map chC) ∧ l.length ≤ Rows.uptoBulk d := by
  obtain ⟨a0, len0, cap0, rfl⟩ := okWide_slice Try.underlying22 hval
  obtain ⟨fuel, hf⟩ := h
  rcases open_slice_fields Try.underlying22 Try.underlying29 (by kernel_rfl) (by kernel_rfl) hf with ⟨hcs, hx⟩ | ⟨a, len, cap, m, D, Pl, hcs, hb, hl, hm, hmm, hx, hi⟩
  · simp [Value.cells] at hcs
    obtain ⟨rfl, rfl, rfl⟩ := hcs
    exact ⟨[], sl_nil (fun _ h => by cases h), by simp⟩
  · simp [Value.cells] at hcs
    obtain ⟨rfl, rfl, rfl⟩ := hcs
    simp only [if_true] at hmm
    subst hmm
    have key : ∀ i, ∃ c : Ch, i < m → D i = chD c ∧ ∀ j u, (chC c)[j]? = some u → W.cell? (a.add (i * 2 + j)) = some u := by
      intro i
      by_cases him : i < m
      · obtain ⟨ys, n, hD, _, hlen, hf⟩ := hi i him
        obtain ⟨v0, y0, hc0, hy0, ht0⟩ := hf 0 _ rfl
        obtain ⟨v1, y1, hc1, hy1, ht1⟩ := hf 1 _ rfl
        obtain ⟨b0, hb0, hx0, hw0⟩ := DataW.trod_int Try.underlying5 ht0
        obtain ⟨b1, hb1, hx1⟩ := DataW.trod_bool Try.underlying4 ht1
        cases hb0; cases hb1
        subst hx0 hx1
        obtain ⟨c, rfl⟩ := u8_of hw0
        refine ⟨⟨c, b1⟩, fun _ => ⟨?_, ?_⟩⟩
        · match ys, hlen with
          | [z0, z1], _ =>
            cases hy0; cases hy1
            rw [hD]; rfl
        · intro j u hu
          match j, hu with
          | 0, hu => cases hu; exact hc0
          | 1, hu => cases hu; exact hc1
          | j + 2, hu => simp [chC] at hu
      · exact ⟨⟨0, false⟩, fun h => absurd h him⟩
    obtain ⟨f, hf2⟩ := Classical.axiomOfChoice key
    refine ⟨(List.range len0).map f, sl_of_elems f chC 2 hl (fun _ => by simp [chC]) (fun i hi => (hf2 i hi).2), ?_⟩
    cases hx
    have := bulk_chs (H := H) (D := D) (f := f) (List.range len0) (fun i hi => (hf2 i (by have := List.mem_range.1 hi; omega)).1)
    simp only [Rows.uptoBulk]
    omega
theorem open_bool2 {H : Type} {enc : TypeId × Value → H} {W : World} {v : Value} {d : DataW H} {ps : List MemPlace} {base : Nat} (hval : Value.okWide Try.prog W .any base 23 v)
    (h : DataW.Trod enc Try.prog W 0 (fun _ => true) true 23 v d ps) : ∃ x y : Bool, v = .agg #[.bool x, .bool y] := by
  unfold Value.okWide at hval
  rw [Try.underlying23] at hval
  obtain ⟨cs, rfl, hsz, _⟩ := hval
  obtain ⟨fuel, hf⟩ := h
  obtain ⟨xs, m, _, _, hl, hlen, hx⟩ := DataW.trod_array Try.underlying23 hf
  have hc1 : Try.prog.cellsOf 4 = 1 := by kernel_rfl
  have hc2 : Try.prog.cellsOf 23 = 2 := by kernel_rfl
  rw [hc2] at hsz
  have h0 := hx 0 (by decide)
  have h1 := hx 1 (by decide)
  rw [hc1, List.getElem?_eq_getElem (by omega)] at h0 h1
  obtain ⟨x, h2, _⟩ := DataW.trod_bool Try.underlying4 h0
  obtain ⟨y, h3, _⟩ := DataW.trod_bool Try.underlying4 h1
  obtain ⟨cs⟩ := cs
  match cs, hsz with
  | [a, b], _ =>
    simp [Value.cells] at h2 h3
    subst h2 h3
    exact ⟨x, y, rfl⟩
end Go.Tri
