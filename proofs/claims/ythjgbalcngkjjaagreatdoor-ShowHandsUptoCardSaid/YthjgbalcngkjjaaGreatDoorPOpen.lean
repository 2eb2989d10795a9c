/-
 Slices of structs and texts as arguments: what they read as.
-/
import Derived.Test.YthjgbalcngkjjaaGreatDoorPGen
import Derived.WalkKit
import Derived.ProofKit
import Derived.OpenShut
import Derived.JoinedCond
import Derived.Below
import Derived.Deep.Slices
import Derived.Deep.Fields
import Derived.ChangeSame
import Derived.SliceStrings
import Derived.ShutString
import Derived.ChangeOld
namespace Go.Tri
open Go.ChangeShapes Go.WideShapes Go.Deep
section
variable {H : Type} {enc : TypeId × Value → H} {P : Program} {w : World} {base : Nat} {spare : Nat → Bool} {AGf : Bool}
theorem Fd {t e : TypeId} {fs : Array Field} {fuel : Nat} {cs : List Value} {x : DataW H × List MemPlace} (ht : P.underlying t = some (.slice e)) (he : P.underlying e = some (.struct fs))
  (Df : oneCellFields P fs = true) (hC : P.cellsOf e = fs.size) (h : DataW.trod enc P w base spare AGf fuel t cs = some x) :
  (cs = [.slice none 0 0] ∧ x = (.nil, [])) ∨
  ∃ (a : Addr) (len cap m : Nat) (D : Nat → DataW H) (Pl : Nat → List MemPlace), cs = [.slice (some a) len cap] ∧ base ≤ a.block ∧ len ≤ cap ∧ cap ≤ maxLen ∧ m = (if spare a.block then cap else len) ∧
   x = (.slice ((List.range len).map D) ((List.range (m - len)).map fun j => D (len + j)), MemPlace.row a (m * fs.size) ++ (List.range m).flatMap Pl) ∧
   ∀ i, i < m → ∃ (ys : List (DataW H × List MemPlace)) (n : Nat), D i = .agg (ys.map (·.1)) ∧ Pl i = ys.flatMap (·.2) ∧ ys.length = fs.size ∧
    ∀ (j : Nat) (f : Field), fs[j]? = some f → ∃ (v : Value) (y : DataW H × List MemPlace), w.cell? (a.add (i * fs.size + j)) = some v ∧ ys[j]? = some y ∧ DataW.trod enc P w base spare AGf n f.type [v] = some y := by
 rcases open_slice ht h with h0 | ⟨a, len, cap, m, n, D, Pl, JU, hb, hl, hm, hmm, hx, hi⟩
 ·exact .inl h0
 ·refine .inr ⟨a, len, cap, m, D, Pl, JU, hb, hl, hm, hmm, by rw [hC] at hx; exact hx, fun i him => ?_⟩
  obtain ⟨cs', hc, ht'⟩ := hi i him
  rw [hC] at hc
  obtain ⟨ys, n', hn', hy, BH, hyl, hf⟩ := DataW.trod_struct he ht'
  obtain ⟨_, EP, hat⟩ := World.cells?_some hc
  simp only [Prod.mk.injEq] at hy
  refine ⟨ys, n', hy.1, hy.2, hyl, fun j f hj => ?_⟩
  obtain ⟨ho, hk⟩ := hone_of Df j f hj
  have Qs : j < fs.size := (Array.getElem?_eq_some_iff.1 hj).1
  have Iv := hat j Qs
  have hv : cs'[j]? = some (cs'[j]'(by omega)) := List.getElem?_eq_getElem (by omega)
  have h1 := hf j f hj
  rw [ho, hk] at h1
  have AIe : (cs'.drop j).take 1 = [cs'[j]'(by omega)] := by
   rw [List.drop_eq_getElem_cons (by omega)]
   rfl
  rw [AIe] at h1
  have hys : ys[j]? = some (ys[j]'(by omega)) := List.getElem?_eq_getElem (by omega)
  refine ⟨_, _, ?_, hys, h1.trans hys⟩
  rw [← Go.Deep.add_add, Iv, hv]
end

end Go.Tri
namespace Go.Tri
open Go.ChangeShapes Go.WideShapes Go.ChangeAt Go.RowKit
theorem OV {w : World} {a : Addr} {v : Value} (h : w.cell? a = some v) : a.spot = none ∧ ∃ cur T fr, w.heap[a.block]? = some (.cells cur T fr) ∧ cur[a.off]? = some v := by
 unfold World.cell? at h
 split at h
 ·rename_i c T fr hb
  split at h
  ·cases h
  ·rename_i hs
   exact ⟨by simpa using hs, c, T, fr, hb, h⟩
 ·cases h
theorem Yz {w : World} {a : Addr} {k : Nat} {v : Value} (h : w.cell? (a.add k) = some v) : GF (BF w) a.block (a.off + k) v := by
 obtain ⟨_, cur, T, fr, hb, hc⟩ := OV h
 by_cases hk : k = 0
 ·subst hk
  simp only [Addr.add, if_true] at hb hc
  exact ⟨cur, T, fr, hb, hc⟩
 ·simp only [Addr.add, hk, if_false] at hb hc
  exact ⟨cur, T, fr, hb, hc⟩
theorem JO (s : ByteArray) : Bj s.data.toList = .string s := by
 obtain ⟨⟨l⟩⟩ := s
 rfl
def Sd (l : List (List UInt8)) : Nat := (l.map List.length).sum
theorem Pe (s : List UInt8) (l : List (List UInt8)) : Sd (s :: l) = s.length + Sd l := rfl
theorem LU {α : Type} {W : World} {a : Addr} {len0 m : Nat} (f : Nat → α) (C : α → List Value) (n : Nat) (hl : len0 ≤ m) (hn : ∀ x, C x ≠ []) 
  (VO : ∀ i, i < len0 → ∀ j u, (C (f i))[j]? = some u → W.cell? (a.add (i * n + j)) = some u) :
  Sl (BF W) n (.slice (some a) len0 m) (((List.range len0).map f).map C) := by
 have Iv : ∀ i j cs u, (((List.range len0).map f).map C)[i]? = some cs → cs[j]? = some u → i < len0 ∧ W.cell? (a.add (i * n + j)) = some u := by
  intro i j cs u h1 h2
  rw [List.getElem?_map, List.getElem?_map] at h1
  rcases Nat.lt_or_ge i len0 with FA | NL
  ·rw [List.getElem?_range FA] at h1
   cases h1
   exact ⟨FA, VO i FA j u h2⟩
  ·rw [List.getElem?_eq_none (by simpa using NL)] at h1
   cases h1
 refine ⟨⟨some a, m, by simp, by simpa using hl, fun EZ b hb => ?_, fun _ h => by cases h⟩, fun i j cs u h1 h2 => ?_⟩
 ·cases hb
  have h0 : 0 < len0 := by
   rcases Nat.eq_zero_or_pos len0 with h | h
   ·subst h; exact absurd rfl EZ
   ·exact h
  obtain ⟨u, us, hu⟩ : ∃ u us, C (f 0) = u :: us := by
   cases hc : C (f 0) with
   | nil => exact absurd hc (hn _)
   | cons u us => exact ⟨u, us, rfl⟩
  have := (Iv 0 0 (C (f 0)) u (by rw [List.getElem?_map, List.getElem?_map, List.getElem?_range h0]; rfl) (by rw [hu]; rfl)).2
  exact (OV (by simpa [Addr.add] using this)).1
 ·have := Yz (Iv i j cs u h1 h2).2
  rw [← Nat.add_assoc] at this
  exact this
theorem MN {α : Type} {W : World} {a : Addr} {len0 m : Nat} (f : Nat → α) (C : α → List Value) (n : Nat) (hl : len0 ≤ m) (hn : ∀ x, C x ≠ [])
  (VO : ∀ i, i < m → ∀ j u, (C (f i))[j]? = some u → W.cell? (a.add (i * n + j)) = some u) :
  Sl (BF W) n (.slice (some a) len0 m) (((List.range len0).map f).map C) := LU f C n hl hn fun i hi => VO i (by omega)
end Go.Tri
