/-
  What the package variables hold when a law is called; a world for the witness.
-/
import Derived.Test.YtblgilokdmmjeaaDoorWC1
import Derived.Test.YtblgilokdmmjeaaDoorPOpen
import Derived.Test.YtblgilokdmmjeaaDoorRows
import Derived.WalkKit
import Derived.ProofKit
import Derived.OpenShut
import Derived.Deep.DeepHandedRow
import Derived.Deep.DeepWitnessRowRef
import Derived.Lib.LaidTab
import Derived.Lib.LaidIn
import Derived.Stop.LaidErr
namespace Go.Tri
open Go.ChangeShapes Go.WideShapes Go.ChangeAt Go.RowKit Go.Proofs
open Go.Proofs.YtblgilokdmmjeaaDoor
set_option maxRecDepth 100000
theorem int_of {n : Int} (h : (Lit.int .i64 n).wf = true) : -9223372036854775808 ≤ n ∧ n ≤ 9223372036854775807 := by
  simpa [Lit.wf, IntKind.min, IntKind.max, IntKind.signed, IntKind.bits] using h
noncomputable def low : Nat := (World.holding Tryd.prog default ⟨#[], #[], []⟩).heap.size
def put (h : Array Obj) (g : Nat) (cs : Array Value) : Array Obj := h.modify g fun
  | .cells _ t frozen => .cells cs t frozen
  | o => o
noncomputable def laidWorld (os : Os) : World :=
  let w0 := World.holding Tryd.prog os ⟨#[], #[], []⟩
  { w0 with heap := put (put (w0.heap) 2 #[.int .u8 128, .int .u8 191, .int .u8 160, .int .u8 191, .int .u8 128, .int .u8 159, .int .u8 144, .int .u8 191, .int .u8 128, .int .u8 143, .int .u8 0, .int .u8 0, .int .u8 0, .int .u8 0, .int .u8 0, .int .u8 0, .int .u8 0, .int .u8 0, .int .u8 0, .int .u8 0, .int .u8 0, .int .u8 0, .int .u8 0, .int .u8 0, .int .u8 0, .int .u8 0, .int .u8 0, .int .u8 0, .int .u8 0, .int .u8 0, .int .u8 0, .int .u8 0]) 1 (Go.Pinned.utf8FirstZ.map fun (z : Nat) => Value.int .u8 (z : Int)).toArray }
theorem laid_met (os : Os) (args : Array Value) : laidMetH Tryd.prog Rows.wordQuotesUptoRow.laid ((laidWorld os).forCall (fun _ _ => 0) ⟨#[], args, []⟩).memory :=
  laidMet_of_run' 8 (by kernel_rfl) (by kernel_rfl)
theorem gw_of {W : World} (hL : laidMetH Tryd.prog Rows.wordQuotesUptoRow.laid W) (hS : W.ShapedOpen Tryd.prog) : EnvI (look W) := by
  obtain ⟨m, hm⟩ := Tryd.laysM144.s1_3 W hS
  refine ⟨m, ?_⟩
  have hm' : W.cell? ⟨0, 0, none⟩ = some (.int .i64 m) := hm
  unfold World.cell? at hm'
  cases hb : W.heap[0]? with
  | none => rw [hb] at hm'; cases hm'
  | some o =>
    rw [hb] at hm'
    cases o with
    | cells cur U fr =>
      exact ⟨cur, U, fr, hb, by simpa using hm'⟩
    | _ => cases hm'

end Go.Tri
