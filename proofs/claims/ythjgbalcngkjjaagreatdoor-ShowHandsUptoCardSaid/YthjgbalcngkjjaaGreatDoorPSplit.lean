/-
 What layer 15 computes, in plain words: pieces, bytes one by one, fields.
-/
import Derived.Test.YthjgbalcngkjjaaGreatDoorTriB5
namespace Go.Tri
open Go.RowKit

structure Ch where
 b : UInt8
 q : Bool
 deriving DecidableEq
def chC (c : Ch) : List Value := [u8 c.b, .bool c.q]
def Ke (I : AU) (vs : List Value) (ls : List (List Ch)) : Prop := vs.length = ls.length ∧ ∀ (i : Nat) (v : Value) (l : List Ch), vs[i]? = some v → ls[i]? = some l → Sl I 2 v (l.map chC)

def DX (s : List UInt8) (b : UInt8) : Bool := s.any (· == b)
theorem Ke.mono {I J : AU} {vs : List Value} {ls : List (List Ch)} (h : Ke I vs ls) (Ec : Le I J) : Ke J vs ls := ⟨h.1, fun i v l h1 h2 => (h.2 i v l h1 h2).mono Ec⟩
theorem Ke.snoc {I : AU} {vs : List Value} {ls : List (List Ch)} {v : Value} {l : List Ch} (h : Ke I vs ls) (hv : Sl I 2 v (l.map chC)) : Ke I (vs ++ [v]) (ls ++ [l]) := by
 refine ⟨by simp [h.1], fun i u m h1 h2 => ?_⟩
 rcases Nat.lt_or_ge i ls.length with FA | NL
 ·rw [List.getElem?_append_left (by rw [h.1]; exact FA)] at h1
  rw [List.getElem?_append_left FA] at h2
  exact h.2 i u m h1 h2
 ·rw [List.getElem?_append_right (by rw [h.1]; exact NL), h.1] at h1
  rw [List.getElem?_append_right NL] at h2
  cases hk : i - ls.length with
  | zero =>
   rw [hk] at h1 h2
   simp only [List.getElem?_cons_zero, Option.some.injEq] at h1 h2
   subst h1 h2
   exact hv
  | succ n => rw [hk] at h1; simp at h1
def ALG (v : Value) : List Value := [v]
def RL (I : AU) (v : Value) (ls : List (List Ch)) : Prop := ∃ vs, Sl I 1 v (vs.map ALG) ∧ Ke I vs ls
theorem RL.mono {I J : AU} {v : Value} {ls : List (List Ch)} (h : RL I v ls) (Ec : Le I J) : RL J v ls := by
 obtain ⟨vs, h1, h2⟩ := h
 exact ⟨vs, h1.mono Ec, h2.mono Ec⟩
section
variable {w0 : World} {I : AU} {H : List HA} {v : Value}
theorem Jn {α : Type} (l : List α) (f : α → List Value) (d : α) {i : Nat} (h : i < l.length) : (l.map f)[i]? = some (f (nth l i d)) := by
 rw [List.getElem?_map, Mz (d := d) h]; rfl
end

end Go.Tri
