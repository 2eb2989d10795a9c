/-
  Expressions of whole numbers in plain words: lexemes, trees, what they are worth.
-/
import Derived.Test.YtbogmbdfjgnfaaaGreatDoorPWord5
import Derived.Lib.SlTrimSet
import Derived.Test.YtbogmbdfjgnfaaaGreatDoorTriB21
namespace Go.Tri
open Go.RowKit
/-- a lexeme: its text, what it is worth, what it is -/
structure Lx where
  text : List UInt8
  worth : Int
  what : Nat
def lx0 : Lx := ⟨[], 0, 0⟩
def stopL (x : Lx) : Bool := decide (x.what = 0) || decide (x.what = 4)
/-! ### trees -/
inductive Ex where
  | num (n : Int)
  | var (nm : List UInt8)
  | asg (op nm : List UInt8) (k : Ex)
  | una (op : List UInt8) (k : Ex)
  | bin (op : List UInt8) (a b : Ex)
  | cho (a b c : Ex)
def nowL (L : List Lx) : Lx := nth L 0 lx0
def thenL (L : List Lx) : Lx := nth L (if L.length = 1 then 0 else 1) lx0
def stepL (L : List Lx) : List Lx := if L.length = 1 then L else L.drop 1
theorem nameN_end {f n : Nat} {s : List UInt8} (h : ¬ (n < s.length ∧ nameB (s.take (n + 1)) = true)) : nameN f n s = n := by
  cases f with
  | zero => rfl
  | succ f => rw [nameN, if_neg h]
theorem nameN_step {f n : Nat} {s : List UInt8} (hf : s.length - n ≤ f) (h1 : n < s.length) (h2 : nameB (s.take (n + 1)) = true) : nameN f n s = nameN (f - 1) (n + 1) s := by
  obtain ⟨g, rfl⟩ : ∃ g, f = g + 1 := ⟨f - 1, by omega⟩
  rw [nameN, if_pos ⟨h1, h2⟩]; rfl
theorem trimL_le (s cs : List UInt8) : (Lib.trimLeftS s cs).length ≤ s.length := (List.dropWhile_sublist _).length_le
/-! ### lists of lexemes as readers hold them -/
/-- the last one stops; texts are not too long -/
def Tk (L : List Lx) : Prop := L ≠ [] ∧ stopL (nth L (L.length - 1) lx0) = true ∧ ∀ x ∈ L, x.text.length ≤ 1000000 ∧ (x.what = 2 → x.text ≠ [])
theorem Tk.pos {L : List Lx} (h : Tk L) : 1 ≤ L.length := List.length_pos_iff.2 h.1
theorem Tk.then {L : List Lx} (h : Tk L) : (thenL L).text.length ≤ 1000000 := (h.2.2 _ (nth_mem (by have := h.pos; split <;> omega))).1
theorem Tk.two {L : List Lx} (h : Tk L) (hs : stopL (nowL L) = false) : 2 ≤ L.length := by
  have h1 := h.pos
  rcases Nat.lt_or_ge L.length 2 with h2 | h2
  · have h3 : L.length - 1 = 0 := by omega
    have h4 := h.2.1
    rw [h3] at h4
    rw [show nowL L = nth L 0 lx0 from rfl, h4] at hs
    cases hs
  · exact h2
theorem nth_drop1 {α : Type} (l : List α) (i : Nat) (d : α) : nth (l.drop 1) i d = nth l (i + 1) d := by
  unfold nth
  rw [List.getD_eq_getElem?_getD, List.getD_eq_getElem?_getD, List.getElem?_drop, Nat.add_comm]
theorem Tk.step {L : List Lx} (h : Tk L) : Tk (stepL L) := by
  unfold stepL
  split
  · exact h
  · rename_i h1
    have h2 := h.pos
    have hl : (L.drop 1).length = L.length - 1 := List.length_drop
    refine ⟨List.length_pos_iff.1 (by omega), ?_, fun x hx => h.2.2 x (List.mem_of_mem_drop hx)⟩
    rw [nth_drop1, hl, show L.length - 1 - 1 + 1 = L.length - 1 by omega]
    exact h.2.1
end Go.Tri

/-
  Expressions: how great trees grow; operations on numbers of 64 bits.
-/
namespace Go.Tri
open Go.RowKit
/-! ### variables, assignments -/
/-- a variable -/
structure Vr where
  name : List UInt8
  value : List UInt8
  e : Bool
  r : Bool
  u : Bool
def vr0 : Vr := ⟨[], [], false, false, false⟩
def vrC (v : Vr) : List Value := [str v.name, str v.value, .bool v.e, .bool v.r, .bool v.u]
theorem rds_vr {w0 : World} {I : Look} {H : List HA} {v : Value} {l : List Vr} (h : Sl I 5 v (l.map vrC)) {i : Nat} (hi : i < l.length) : Rds w0 I H (adr v).block ((adr v).off + i * 5) (vrC (nth l i vr0)) := h.rds (map_getD l vrC vr0 hi)
theorem rd_vrf {w0 : World} {I : Look} {H : List HA} {v : Value} {l : List Vr} (h : Sl I 5 v (l.map vrC)) {i j : Nat} {u : Value} (hi : i < l.length) (hu : (vrC (nth l i vr0))[j]? = some u) : Rd w0 I H (adr v).block ((adr v).off + i * 5 + j) u := h.rd (map_getD l vrC vr0 hi) hu
/-! ### operations -/
section ops
variable {C : Cx} {E : Env} {I : Look} {H : List HA} {o : Oper} {x y : Operand} {t t' : TypeId} {a b : Int}
end ops
end Go.Tri
