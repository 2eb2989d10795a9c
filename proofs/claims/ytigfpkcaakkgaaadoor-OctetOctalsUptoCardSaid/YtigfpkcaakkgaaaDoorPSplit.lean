/-
  What layer 15 computes, in plain words: pieces, bytes one by one, fields.
-/
import Derived.Test.YtigfpkcaakkgaaaDoorTriB5
namespace Go.Tri
open Go.RowKit

structure Ch where
  b : UInt8
  q : Bool
  deriving DecidableEq
def chC (c : Ch) : List Value := [u8 c.b, .bool c.q]
/-- a list of slices -/
def RowsOf (I : Look) (vs : List Value) (ls : List (List Ch)) : Prop := vs.length = ls.length ∧ ∀ (i : Nat) (v : Value) (l : List Ch), vs[i]? = some v → ls[i]? = some l → Sl I 2 v (l.map chC)

def hasB (s : List UInt8) (b : UInt8) : Bool := s.any (· == b)
theorem RowsOf.mono {I J : Look} {vs : List Value} {ls : List (List Ch)} (h : RowsOf I vs ls) (hle : Le I J) : RowsOf J vs ls := ⟨h.1, fun i v l h1 h2 => (h.2 i v l h1 h2).mono hle⟩
def oneC (v : Value) : List Value := [v]
/-- a slice of slices -/
def RL (I : Look) (v : Value) (ls : List (List Ch)) : Prop := ∃ vs, Sl I 1 v (vs.map oneC) ∧ RowsOf I vs ls
theorem RL.mono {I J : Look} {v : Value} {ls : List (List Ch)} (h : RL I v ls) (hle : Le I J) : RL J v ls := by
  obtain ⟨vs, h1, h2⟩ := h
  exact ⟨vs, h1.mono hle, h2.mono hle⟩
/-! elements as the walk meets them -/
section
variable {w0 : World} {I : Look} {H : List HA} {v : Value}
theorem map_getD {α : Type} (l : List α) (f : α → List Value) (d : α) {i : Nat} (h : i < l.length) : (l.map f)[i]? = some (f (nth l i d)) := by
  rw [List.getElem?_map, get_nth (d := d) h]; rfl
end

end Go.Tri
