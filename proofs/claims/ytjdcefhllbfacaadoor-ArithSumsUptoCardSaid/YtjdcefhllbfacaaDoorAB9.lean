/-
  What the package variables hold when a law is called; a world for the witness.
-/
import Derived.Test.YtjdcefhllbfacaaDoorAB4
import Derived.Test.YtjdcefhllbfacaaDoorPOpen
import Derived.Test.YtjdcefhllbfacaaDoorRows
import Derived.WalkKit
import Derived.ProofKit
import Derived.OpenShut
import Derived.Deep.DeepHandedRow
import Derived.Deep.DeepWitnessRowRef
import Derived.Lib.LaidTab
import Derived.Lib.LaidIn
import Derived.Stop.LaidErr
namespace Go.Tri
open Go.ChangeShapes Go.WideShapes Go.ChangeAt Go.RowKit Go.Proofs
open Go.Proofs.YtjdcefhllbfacaaDoor
set_option maxRecDepth 100000
theorem int_of {n : Int} (h : (Lit.int .i64 n).wf = true) : -9223372036854775808 ≤ n ∧ n ≤ 9223372036854775807 := by
  simpa [Lit.wf, IntKind.min, IntKind.max, IntKind.signed, IntKind.bits] using h
noncomputable def low : Nat := (World.holding Tryd.prog default ⟨#[], #[], []⟩).heap.size
def put (h : Array Obj) (g : Nat) (cs : Array Value) : Array Obj := h.modify g fun
  | .cells _ t frozen => .cells cs t frozen
  | o => o
noncomputable def laidWorld (os : Os) : World :=
  let w0 := World.holding Tryd.prog os ⟨#[], #[], []⟩
  { w0 with heap := put (put (w0.heap) 1 #[.int .u8 128, .int .u8 191, .int .u8 160, .int .u8 191, .int .u8 128, .int .u8 159, .int .u8 144, .int .u8 191, .int .u8 128, .int .u8 143, .int .u8 0, .int .u8 0, .int .u8 0, .int .u8 0, .int .u8 0, .int .u8 0, .int .u8 0, .int .u8 0, .int .u8 0, .int .u8 0, .int .u8 0, .int .u8 0, .int .u8 0, .int .u8 0, .int .u8 0, .int .u8 0, .int .u8 0, .int .u8 0, .int .u8 0, .int .u8 0, .int .u8 0, .int .u8 0]) 0 (Go.Pinned.utf8FirstZ.map fun (z : Nat) => Value.int .u8 (z : Int)).toArray }
theorem laid_met (os : Os) (args : Array Value) : laidMetH Tryd.prog Rows.arithNamesUptoRow.laid ((laidWorld os).forCall (fun _ _ => 0) ⟨#[], args, []⟩).memory :=
  laidMet_of_run' 8 (by kernel_rfl) (by kernel_rfl)
theorem gw_of {W : World} (hL : laidMetH Tryd.prog Rows.arithNamesUptoRow.laid W) (hS : W.ShapedOpen Tryd.prog) : EnvI (look W) := by
  obtain ⟨m, hm⟩ := Tryd.laysM144.s1_3 W hS
  refine ⟨m, ?_⟩
  have hm' : W.cell? ⟨2, 0, none⟩ = some (.int .i64 m) := hm
  unfold World.cell? at hm'
  cases hb : W.heap[2]? with
  | none => rw [hb] at hm'; cases hm'
  | some o =>
    rw [hb] at hm'
    cases o with
    | cells cur U fr =>
      exact ⟨cur, U, fr, hb, by simpa using hm'⟩
    | _ => cases hm'
def vrD {H : Type} (v : Vr) : DataW H := .agg [.lit (.string v.name), .lit (.string v.value), .lit (.bool v.e), .lit (.bool v.r), .lit (.bool v.u)]
def totV (l : List Vr) : Nat := (l.map fun v => v.name.length + v.value.length).sum
theorem totV_cons (v : Vr) (l : List Vr) : totV (v :: l) = v.name.length + v.value.length + totV l := rfl
theorem totV_mem {l : List Vr} {v : Vr} (h : v ∈ l) : v.value.length ≤ totV l := by
  induction l with
  | nil => cases h
  | cons a l ih =>
    rw [totV_cons]
    rcases List.mem_cons.1 h with rfl | h
    · omega
    · have := ih h; omega
theorem bulk_vrs {H : Type} {D : Nat → DataW H} {f : Nat → Vr} : ∀ L : List Nat, (∀ i ∈ L, D i = vrD (f i)) → totV (L.map f) + (L.map f).length ≤ Rows.uptoBulkAll (L.map D)
  | [], _ => by simp [totV, Rows.uptoBulkAll]
  | i :: L, h => by
    have ih := bulk_vrs L (fun j hj => h j (List.mem_cons_of_mem _ hj))
    simp only [List.map_cons, Rows.uptoBulkAll, totV_cons, List.length_cons]
    rw [h i (List.mem_cons_self)]
    simp only [vrD, Rows.uptoBulk, Rows.uptoBulkAll]
    omega
theorem open_vars {H : Type} {enc : TypeId × Value → H} {W : World} {vl : Value} {d : DataW H} {ps : List MemPlace} {base : Nat} (hval : Value.okWide Tryd.prog W .any base 22 vl)
    (h : DataW.Trod enc Tryd.prog W 0 (fun _ => true) true 22 vl d ps) : ∃ l : List Vr, Sl (look W) 5 vl (l.map vrC) ∧ totV l + l.length ≤ Rows.uptoBulk d := by
  obtain ⟨a0, len0, cap0, rfl⟩ := okWide_slice Tryd.underlying22 hval
  obtain ⟨fuel, hf⟩ := h
  rcases open_slice_fields Tryd.underlying22 Tryd.underlying32 (by kernel_rfl) (by kernel_rfl) hf with ⟨hcs, hx⟩ | ⟨a, len, cap, m, D, Pl, hcs, hb, hl, hm, hmm, hx, hi⟩
  · simp [Value.cells] at hcs
    obtain ⟨rfl, rfl, rfl⟩ := hcs
    exact ⟨[], sl_nil (fun _ h => by cases h), by simp [totV]⟩
  · simp [Value.cells] at hcs
    obtain ⟨rfl, rfl, rfl⟩ := hcs
    simp only [if_true] at hmm
    subst hmm
    have key : ∀ i, ∃ p : Vr, i < m → D i = vrD p ∧ ∀ j u, (vrC p)[j]? = some u → W.cell? (a.add (i * 5 + j)) = some u := by
      intro i
      by_cases him : i < m
      · obtain ⟨ys, n, hD, _, hlen, hf⟩ := hi i him
        obtain ⟨v0, y0, hc0, hy0, ht0⟩ := hf 0 _ rfl
        obtain ⟨v1, y1, hc1, hy1, ht1⟩ := hf 1 _ rfl
        obtain ⟨v2, y2, hc2, hy2, ht2⟩ := hf 2 _ rfl
        obtain ⟨v3, y3, hc3, hy3, ht3⟩ := hf 3 _ rfl
        obtain ⟨v4, y4, hc4, hy4, ht4⟩ := hf 4 _ rfl
        obtain ⟨s0, hs0, hx0, _⟩ := DataW.trod_string Tryd.underlying9 ht0
        obtain ⟨s1, hs1, hx1, _⟩ := DataW.trod_string Tryd.underlying9 ht1
        obtain ⟨b2, hb2, hx2⟩ := DataW.trod_bool Tryd.underlying4 ht2
        obtain ⟨b3, hb3, hx3⟩ := DataW.trod_bool Tryd.underlying4 ht3
        obtain ⟨b4, hb4, hx4⟩ := DataW.trod_bool Tryd.underlying4 ht4
        cases hs0; cases hs1; cases hb2; cases hb3; cases hb4
        subst hx0 hx1 hx2 hx3 hx4
        refine ⟨⟨s0.data.toList, s1.data.toList, b2, b3, b4⟩, fun _ => ⟨?_, ?_⟩⟩
        · match ys, hlen with
          | [z0, z1, z2, z3, z4], _ =>
            cases hy0; cases hy1; cases hy2; cases hy3; cases hy4
            rw [hD]; rfl
        · intro j u hu
          match j, hu with
          | 0, hu => cases hu; rw [str_data]; exact hc0
          | 1, hu => cases hu; rw [str_data]; exact hc1
          | 2, hu => cases hu; exact hc2
          | 3, hu => cases hu; exact hc3
          | 4, hu => cases hu; exact hc4
          | j + 5, hu => simp [vrC] at hu
      · exact ⟨vr0, fun h => absurd h him⟩
    obtain ⟨f, hf2⟩ := Classical.axiomOfChoice key
    refine ⟨(List.range len0).map f, sl_of_elems f vrC 5 hl (fun _ => by simp [vrC]) (fun i hi => (hf2 i hi).2), ?_⟩
    cases hx
    have := bulk_vrs (H := H) (D := D) (f := f) (List.range len0) (fun i hi => (hf2 i (by have := List.mem_range.1 hi; omega)).1)
    simp only [Rows.uptoBulk]
    omega
theorem vok_of {l : List Vr} {n : Nat} (h : totV l + l.length ≤ n) (hn : n ≤ 1048576) : VarsOk l := ⟨by omega, fun v hv => by have := totV_mem hv; omega⟩

end Go.Tri
