/-
  A slice of pieces as an argument: what it reads as, and its bulk.
-/
import Derived.Test.YtigihljkacoopaaSI
import Derived.Test.YtigihljkacoopaaRows
import Derived.WalkKit
import Derived.ProofKit
import Derived.OpenShut
import Derived.JoinedCond
import Derived.Below
import Derived.Deep.Slices
import Derived.Deep.Fields
import Derived.ChangeSame
namespace Go.Tri
open Go.ChangeShapes Go.WideShapes Go.Deep
section
variable {H : Type} {enc : TypeId × Value → H} {P : Program} {w : World} {base : Nat} {spare : Nat → Bool} {held : Bool}
theorem open_slice_fields {t e : TypeId} {fs : Array Field} {fuel : Nat} {cs : List Value} {x : DataW H × List MemPlace} (ht : P.underlying t = some (.slice e)) (he : P.underlying e = some (.struct fs))
    (hone : oneCellFields P fs = true) (hC : P.cellsOf e = fs.size) (h : DataW.trod enc P w base spare held fuel t cs = some x) :
    (cs = [.slice none 0 0] ∧ x = (.nil, [])) ∨
    ∃ (a : Addr) (len cap m : Nat) (D : Nat → DataW H) (Pl : Nat → List MemPlace), cs = [.slice (some a) len cap] ∧ base ≤ a.block ∧ len ≤ cap ∧ cap ≤ maxLen ∧ m = (if spare a.block then cap else len) ∧
      x = (.slice ((List.range len).map D) ((List.range (m - len)).map fun j => D (len + j)), MemPlace.row a (m * fs.size) ++ (List.range m).flatMap Pl) ∧
      ∀ i, i < m → ∃ (ys : List (DataW H × List MemPlace)) (n : Nat), D i = .agg (ys.map (·.1)) ∧ Pl i = ys.flatMap (·.2) ∧ ys.length = fs.size ∧
        ∀ (j : Nat) (f : Field), fs[j]? = some f → ∃ (v : Value) (y : DataW H × List MemPlace), w.cell? (a.add (i * fs.size + j)) = some v ∧ ys[j]? = some y ∧ DataW.trod enc P w base spare held n f.type [v] = some y := by
  rcases open_slice ht h with h0 | ⟨a, len, cap, m, n, D, Pl, hcs, hb, hl, hm, hmm, hx, hi⟩
  · exact .inl h0
  · refine .inr ⟨a, len, cap, m, D, Pl, hcs, hb, hl, hm, hmm, by rw [hC] at hx; exact hx, fun i him => ?_⟩
    obtain ⟨cs', hc, ht'⟩ := hi i him
    rw [hC] at hc
    obtain ⟨ys, n', hn', hy, hlen, hyl, hf⟩ := DataW.trod_struct he ht'
    obtain ⟨_, hcl, hat⟩ := World.cells?_some hc
    simp only [Prod.mk.injEq] at hy
    refine ⟨ys, n', hy.1, hy.2, hyl, fun j f hj => ?_⟩
    obtain ⟨ho, hk⟩ := hone_of hone j f hj
    have hjl : j < fs.size := (Array.getElem?_eq_some_iff.1 hj).1
    have hcell := hat j hjl
    have hv : cs'[j]? = some (cs'[j]'(by omega)) := List.getElem?_eq_getElem (by omega)
    have h1 := hf j f hj
    rw [ho, hk] at h1
    have hone' : (cs'.drop j).take 1 = [cs'[j]'(by omega)] := by
      rw [List.drop_eq_getElem_cons (by omega)]
      rfl
    rw [hone'] at h1
    have hys : ys[j]? = some (ys[j]'(by omega)) := List.getElem?_eq_getElem (by omega)
    refine ⟨_, _, ?_, hys, h1.trans hys⟩
    rw [← Go.Deep.add_add, hcell, hv]
end

end Go.Tri
namespace Go.Tri
open Go.ChangeShapes Go.WideShapes Go.ChangeAt Go.RowKit Go.Proofs
open Go.Proofs.Ytigihljkacoopaa
theorem cell_parts {w : World} {a : Addr} {v : Value} (h : w.cell? a = some v) : a.spot = none ∧ ∃ cur T fr, w.heap[a.block]? = some (.cells cur T fr) ∧ cur[a.off]? = some v := by
  unfold World.cell? at h
  split at h
  · rename_i c T fr hb
    split at h
    · cases h
    · rename_i hs
      exact ⟨by simpa using hs, c, T, fr, hb, h⟩
  · cases h
theorem cellI_of {w : World} {a : Addr} {k : Nat} {v : Value} (h : w.cell? (a.add k) = some v) : CellI (look w) a.block (a.off + k) v := by
  obtain ⟨_, cur, T, fr, hb, hc⟩ := cell_parts h
  by_cases hk : k = 0
  · subst hk
    simp only [Addr.add, if_true] at hb hc
    exact ⟨cur, T, fr, hb, hc⟩
  · simp only [Addr.add, hk, if_false] at hb hc
    exact ⟨cur, T, fr, hb, hc⟩
theorem str_data (s : ByteArray) : str s.data.toList = .string s := by
  obtain ⟨⟨l⟩⟩ := s
  rfl
def pcD {H : Type} (p : Pc) : DataW H := .agg [.lit (.string p.t), .lit (.bool p.q), .lit (.bool p.s)]
theorem bulk_pc {H : Type} (p : Pc) : Rows.uptoBulk (pcD p : DataW H) = p.t.length + 4 := by
  simp only [pcD, Rows.uptoBulk, Rows.uptoBulkAll]
theorem bulk_pieces {H : Type} {D : Nat → DataW H} {f : Nat → Pc} : ∀ L : List Nat, (∀ i ∈ L, D i = pcD (f i)) → tot (L.map f) + (L.map f).length ≤ Rows.uptoBulkAll (L.map D)
  | [], _ => by simp [tot, Rows.uptoBulkAll]
  | i :: L, h => by
    have ih := bulk_pieces L (fun j hj => h j (List.mem_cons_of_mem _ hj))
    simp only [List.map_cons, Rows.uptoBulkAll, tot_cons, List.length_cons]
    rw [h i (List.mem_cons_self), bulk_pc]
    omega
theorem open_pieces {H : Type} {enc : TypeId × Value → H} {W : World} {vl : Value} {d : DataW H} {ps : List MemPlace} {base : Nat} (hval : Value.okWide Try.prog W .any base 22 vl)
    (h : DataW.Trod enc Try.prog W 0 (fun _ => true) true 22 vl d ps) : ∃ l : List Pc, Sl (look W) 3 vl (l.map pcC) ∧ tot l + l.length ≤ Rows.uptoBulk d := by
  obtain ⟨a0, len0, cap0, rfl⟩ := okWide_slice Try.underlying22 hval
  obtain ⟨fuel, hf⟩ := h
  rcases open_slice_fields Try.underlying22 Try.underlying25 (by kernel_rfl) (by kernel_rfl) hf with ⟨hcs, hx⟩ | ⟨a, len, cap, m, D, Pl, hcs, hb, hl, hm, hmm, hx, hi⟩
  · simp [Value.cells] at hcs
    obtain ⟨rfl, rfl, rfl⟩ := hcs
    exact ⟨[], sl_nil (fun _ h => by cases h), by simp [tot]⟩
  · simp [Value.cells] at hcs
    obtain ⟨rfl, rfl, rfl⟩ := hcs
    simp only [if_true] at hmm
    subst hmm
    have key : ∀ i, ∃ p : Pc, i < m → D i = pcD p ∧ ∀ j u, (pcC p)[j]? = some u → W.cell? (a.add (i * 3 + j)) = some u := by
      intro i
      by_cases him : i < m
      · obtain ⟨ys, n, hD, _, hlen, hf⟩ := hi i him
        obtain ⟨v0, y0, hc0, hy0, ht0⟩ := hf 0 _ rfl
        obtain ⟨v1, y1, hc1, hy1, ht1⟩ := hf 1 _ rfl
        obtain ⟨v2, y2, hc2, hy2, ht2⟩ := hf 2 _ rfl
        obtain ⟨s, hs, hx0, _⟩ := DataW.trod_string Try.underlying9 ht0
        obtain ⟨b1, hb1, hx1⟩ := DataW.trod_bool Try.underlying4 ht1
        obtain ⟨b2, hb2, hx2⟩ := DataW.trod_bool Try.underlying4 ht2
        cases hs; cases hb1; cases hb2
        subst hx0 hx1 hx2
        refine ⟨⟨s.data.toList, b1, b2⟩, fun _ => ⟨?_, ?_⟩⟩
        · match ys, hlen with
          | [z0, z1, z2], _ =>
            cases hy0; cases hy1; cases hy2
            rw [hD]; rfl
        · intro j u hu
          match j, hu with
          | 0, hu => cases hu; rw [str_data]; exact hc0
          | 1, hu => cases hu; exact hc1
          | 2, hu => cases hu; exact hc2
          | j + 3, hu => simp [pcC] at hu
      · exact ⟨pc0, fun h => absurd h him⟩
    obtain ⟨f, hf2⟩ := Classical.axiomOfChoice key
    have hcell : ∀ i j cs u, (((List.range len0).map f).map pcC)[i]? = some cs → cs[j]? = some u → i < len0 ∧ W.cell? (a.add (i * 3 + j)) = some u := by
      intro i j cs u h1 h2
      rw [List.getElem?_map, List.getElem?_map] at h1
      rcases Nat.lt_or_ge i len0 with hlt | hge
      · rw [List.getElem?_range hlt] at h1
        cases h1
        exact ⟨hlt, (hf2 i (by omega)).2 j u h2⟩
      · rw [List.getElem?_eq_none (by simpa using hge)] at h1
        cases h1
    refine ⟨(List.range len0).map f, ⟨⟨some a, m, by simp, by simpa using hl, fun hne b hb => ?_, fun _ h => by cases h⟩, fun i j cs u h1 h2 => ?_⟩, ?_⟩
    · cases hb
      have h0 : 0 < len0 := by
        rcases Nat.eq_zero_or_pos len0 with h | h
        · subst h; exact absurd rfl hne
        · exact h
      have := (hcell 0 0 _ _ (by rw [List.getElem?_map, List.getElem?_map, List.getElem?_range h0]; rfl) rfl).2
      exact (cell_parts (by simpa [Addr.add] using this)).1
    · have := cellI_of (hcell i j cs u h1 h2).2
      rw [← Nat.add_assoc] at this
      exact this
    · cases hx
      have := bulk_pieces (H := H) (D := D) (f := f) (List.range len0) (fun i hi => (hf2 i (by have := List.mem_range.1 hi; omega)).1)
      simp only [Rows.uptoBulk]
      omega
end Go.Tri
