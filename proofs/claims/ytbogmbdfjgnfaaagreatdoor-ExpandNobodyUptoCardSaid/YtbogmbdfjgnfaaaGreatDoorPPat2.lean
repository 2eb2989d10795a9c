/-
  What layer 2's statements say, in plain words.
-/
import Derived.Test.YtbogmbdfjgnfaaaGreatDoorPPat
namespace Go.Tri
open Go.RowKit

/-! patterns without brackets -/
def noBr (p : List Ch) : Prop := ∀ c ∈ p, c ≠ uq 91
theorem noBr.tail {c : Ch} {p : List Ch} (h : noBr (c :: p)) : noBr p := fun d hd => h d (List.mem_cons_of_mem _ hd)
def wildC (c : Ch) : Bool := !c.q && hasB [42, 63, 91] c.b
def wildP (p : List Ch) : Bool := p.any wildC
def wIdx : List Ch → Nat → Int
  | [], _ => -1
  | c :: p, i => if wildC c then (i : Int) else wIdx p (i + 1)
theorem wIdx_nn (p : List Ch) (i : Nat) : decide (0 ≤ wIdx p i) = wildP p := by
  induction p generalizing i with
  | nil => rfl
  | cons c p ih =>
    rw [wIdx, wildP, List.any_cons]
    cases h : wildC c with
    | true => rw [if_pos rfl]; simp
    | false => rw [if_neg (by simp), Bool.false_or]; exact ih _
/-! a piece cut off -/
def cutLen (s : List UInt8) (g : Bool) (i : Nat) : Nat := if g then s.length - i else i
def cutOk (p : List Ch) (s : List UInt8) (e g : Bool) (i : Nat) : Bool := if e then Mt p (s.drop (s.length - cutLen s g i)) else Mt p (s.take (cutLen s g i))
def cutRes (s : List UInt8) (e g : Bool) (i : Nat) : List UInt8 := if e then s.take (s.length - cutLen s g i) else s.drop (cutLen s g i)
def cutP (p : List Ch) (s : List UInt8) (e g : Bool) : List UInt8 := match (List.range (s.length + 1)).find? (cutOk p s e g) with
  | some i => cutRes s e g i
  | none => s
end Go.Tri
