/-
  A slice of texts, and a byte, as arguments.
-/
import Derived.Test.YtigihljkacoopaaSJ
import Derived.Test.YtigihljkacoopaaPBack
import Derived.SliceStrings
namespace Go.Tri
open Go.ChangeShapes Go.WideShapes Go.ChangeAt Go.RowKit Go.Proofs
open Go.Proofs.Ytigihljkacoopaa
theorem u8_of {a : Int} (h : (Lit.int .u8 a).wf = true) : ∃ c : UInt8, a = (c.toNat : Int) := by
  have hx : 0 ≤ a ∧ a ≤ 255 := by simpa [Lit.wf, IntKind.min, IntKind.max, IntKind.signed, IntKind.bits] using h
  refine ⟨UInt8.ofNat a.toNat, ?_⟩
  rw [UInt8.toNat_ofNat']
  have : a.toNat % 2 ^ 8 = a.toNat := Nat.mod_eq_of_lt (by omega)
  omega
theorem bulk_strs {H : Type} : ∀ ss : List ByteArray, totS (ss.map fun s => s.data.toList) + (ss.map fun s => s.data.toList).length ≤ Rows.uptoBulkAll (strs ss : List (DataW H))
  | [] => by simp [totS, strs, Rows.uptoBulkAll]
  | s :: ss => by
    have ih := bulk_strs (H := H) ss
    show totS (s.data.toList :: ss.map fun s => s.data.toList) + _ ≤ Rows.uptoBulkAll (DataW.lit (.string s.data.toList) :: (strs ss : List (DataW H)))
    rw [totS_cons]
    simp only [Rows.uptoBulkAll, Rows.uptoBulk, List.map_cons, List.length_cons]
    omega
theorem open_strs {H : Type} {enc : TypeId × Value → H} {W : World} {vl : Value} {d : DataW H} {ps : List MemPlace} {base : Nat} (hval : Value.okWide Try.prog W .any base 36 vl)
    (h : DataW.Trod enc Try.prog W 0 (fun _ => true) true 36 vl d ps) : ∃ l : List (List UInt8), Sl (look W) 1 vl (l.map stC) ∧ totS l + l.length ≤ Rows.uptoBulk d := by
  obtain ⟨a0, len0, cap0, rfl⟩ := okWide_slice Try.underlying36 hval
  obtain ⟨fuel, hf⟩ := h
  rcases open_strings Try.underlying36 Try.underlying9 (by kernel_rfl) hf with ⟨hcs, hx⟩ | ⟨a, len, cap, ss, hcs, hb, hl, hm, hlen, hx, hcell, _⟩
  · simp [Value.cells] at hcs
    obtain ⟨rfl, rfl, rfl⟩ := hcs
    exact ⟨[], sl_nil (fun _ h => by cases h), by simp [totS]⟩
  · simp [Value.cells] at hcs
    obtain ⟨rfl, rfl, rfl⟩ := hcs
    simp only [if_true] at hlen
    have hat : ∀ i j cs u, (((ss.take len0).map fun s => s.data.toList).map stC)[i]? = some cs → cs[j]? = some u → i < len0 ∧ j = 0 ∧ W.cell? (a.add i) = some u := by
      intro i j cs u h1 h2
      rw [List.getElem?_map, List.getElem?_map, List.getElem?_take] at h1
      split at h1
      · rename_i hi
        have hi2 : i < ss.length := by omega
        rw [List.getElem?_eq_getElem hi2] at h1
        cases h1
        match j, h2 with
        | 0, h2 =>
          cases h2
          refine ⟨hi, rfl, ?_⟩
          rw [hcell i hi2, str_data]
          simp [hi2]
        | j + 1, h2 => simp [stC] at h2
      · cases h1
    refine ⟨(ss.take len0).map fun s => s.data.toList, ⟨⟨some a, cap0, by simp [hlen, hl], by simp [hlen]; omega, fun hne b hb => ?_, fun _ h => by cases h⟩, fun i j cs u h1 h2 => ?_⟩, ?_⟩
    · cases hb
      have h0 : 0 < len0 := by
        rcases Nat.eq_zero_or_pos len0 with h | h
        · subst h; exact absurd rfl hne
        · exact h
      have := (hat 0 0 _ _ (by rw [List.getElem?_map, List.getElem?_map, List.getElem?_take, if_pos h0, List.getElem?_eq_getElem (show 0 < ss.length by omega)]; rfl) rfl).2.2
      exact (cell_parts (by simpa [Addr.add] using this)).1
    · obtain ⟨_, rfl, h3⟩ := hat i j cs u h1 h2
      show CellI (look W) a.block (a.off + i * 1 + 0) u
      have := cellI_of h3
      simpa using this
    · cases hx
      have := bulk_strs (H := H) (ss.take len0)
      simp only [Rows.uptoBulk]
      omega
end Go.Tri
