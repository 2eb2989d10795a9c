/-
  Lists of texts as arguments: what they read as.
-/
import Derived.Test.YtomcodpgickmgaaGreatDoorQE3
import Derived.Test.YtomcodpgickmgaaGreatDoorPOpen
import Derived.Test.YtomcodpgickmgaaGreatDoorRows
set_option maxRecDepth 100000
namespace Go.Tri
open Go.ChangeShapes Go.WideShapes Go.ChangeAt Go.RowKit Go.Proofs
open Go.Proofs.YtomcodpgickmgaaGreatDoor
theorem bulk_strs {H : Type} : ∀ ss : List ByteArray, totS (ss.map fun s => s.data.toList) + (ss.map fun s => s.data.toList).length ≤ Rows.uptoBulkAll (strs ss : List (DataW H))
  | [] => by simp [totS, strs, Rows.uptoBulkAll]
  | s :: ss => by
    have ih := bulk_strs (H := H) ss
    show totS (s.data.toList :: ss.map fun s => s.data.toList) + _ ≤ Rows.uptoBulkAll (DataW.lit (.string s.data.toList) :: (strs ss : List (DataW H)))
    rw [totS_cons]
    simp only [Rows.uptoBulkAll, Rows.uptoBulk, List.map_cons, List.length_cons]
    omega
theorem open_strs {H : Type} {enc : TypeId × Value → H} {W : World} {vl : Value} {d : DataW H} {ps : List MemPlace} {base : Nat} (hval : Value.okWide Tryz.prog W .any base 25 vl)
    (h : DataW.Trod enc Tryz.prog W 0 (fun _ => true) true 25 vl d ps) : ∃ l : List (List UInt8), Sl (look W) 1 vl (l.map stC) ∧ totS l + l.length ≤ Rows.uptoBulk d := by
  obtain ⟨a0, len0, cap0, rfl⟩ := okWide_slice Tryz.underlying25 hval
  obtain ⟨fuel, hf⟩ := h
  rcases open_strings Tryz.underlying25 Tryz.underlying9 (by kernel_rfl) hf with ⟨hcs, hx⟩ | ⟨a, len, cap, ss, hcs, hb, hl, hm, hlen, hx, hcell, _⟩
  · simp [Value.cells] at hcs
    obtain ⟨rfl, rfl, rfl⟩ := hcs
    exact ⟨[], sl_nil (fun _ h => by cases h), by simp [totS]⟩
  · simp [Value.cells] at hcs
    obtain ⟨rfl, rfl, rfl⟩ := hcs
    simp only [if_true] at hlen
    have key : ∀ i, ∃ c : List UInt8, i < cap0 → (ss.map fun s => s.data.toList)[i]? = some c ∧ ∀ j u, (stC c)[j]? = some u → W.cell? (a.add (i * 1 + j)) = some u := by
      intro i
      by_cases him : i < cap0
      · have hi2 : i < ss.length := by omega
        refine ⟨ss[i].data.toList, fun _ => ⟨by simp [hi2], fun j u hu => ?_⟩⟩
        match j, hu with
        | 0, hu =>
          cases hu
          rw [str_data]
          have := hcell i hi2
          simpa [hi2] using this
        | j + 1, hu => simp [stC] at hu
      · exact ⟨[], fun h => absurd h him⟩
    obtain ⟨f, hf2⟩ := Classical.axiomOfChoice key
    have hl2 : (ss.take len0).map (fun s => s.data.toList) = (List.range len0).map f := by
      apply List.ext_getElem?
      intro i
      rw [List.getElem?_map, List.getElem?_map, List.getElem?_take]
      by_cases hi : i < len0
      · rw [if_pos hi, List.getElem?_range hi]
        have := (hf2 i (by omega)).1
        rw [List.getElem?_map] at this
        rw [this]; rfl
      · rw [if_neg hi, List.getElem?_eq_none (by simpa using hi)]; rfl
    refine ⟨(List.range len0).map f, sl_of_elems f stC 1 hl (fun _ => by simp [stC]) (fun i hi => (hf2 i hi).2), ?_⟩
    rw [← hl2]
    cases hx
    have := bulk_strs (H := H) (ss.take len0)
    simp only [Rows.uptoBulk]
    omega
end Go.Tri
