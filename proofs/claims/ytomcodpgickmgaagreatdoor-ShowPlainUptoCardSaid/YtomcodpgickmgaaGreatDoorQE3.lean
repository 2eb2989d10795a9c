/-
  The statements: awake, ParseDepth.
-/
import Derived.Test.YtomcodpgickmgaaGreatDoorQD5
import Derived.Test.YtomcodpgickmgaaGreatDoorPShow2
import Derived.Test.YtomcodpgickmgaaGreatDoorPOpen
namespace Go.Tri
open Go.Proofs Go.RowKit
set_option maxRecDepth 100000
end Go.Tri

/-
  Trees as texts.
-/
namespace Go.Tri
open Go.Proofs Go.RowKit
theorem NdsAt.nth {I : Look} : ∀ {ks : List Nd} {cs : List NC}, NdsAt I ks cs → ∀ {i : Nat}, i < ks.length → NdAt I (nth ks i nd0) (nth cs i nc0)
  | [], _, _, i, hi => absurd hi (Nat.not_lt_zero i)
  | k :: ks, [], h, _, _ => by unfold NdsAt at h; exact h.elim
  | k :: ks, c :: cs, h, i, hi => by
    unfold NdsAt at h
    cases i with
    | zero => exact h.1
    | succ i => exact NdsAt.nth h.2 (by simpa using hi)
theorem nc_get {cs : List NC} {i : Nat} (h : i < cs.length) : (cs.map ncC)[i]? = some (ncC (nth cs i nc0)) := by
  rw [List.getElem?_map, List.getElem?_eq_getElem h, nth_eq h]; rfl
end Go.Tri

/-
  The statement: ParseWords.
-/
namespace Go.Tri
open Go.Proofs Go.RowKit
end Go.Tri
