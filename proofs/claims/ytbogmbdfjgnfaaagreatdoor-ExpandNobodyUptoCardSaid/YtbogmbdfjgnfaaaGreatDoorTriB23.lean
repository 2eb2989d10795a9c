/-
  More of slices.
-/
import Derived.Test.YtbogmbdfjgnfaaaGreatDoorTriB22
namespace Go.Tri
open Go.RowKit
section
variable {C : Cx} {E : Env} {I : Look} {H : List HA} {D : List Deferred} {Q : Exit → Act → World → Prop}
/-- what the value of an owned slice is like -/
theorem l_len {ops : Array Oper} {l : List Oper} {T : TypeId} {sz n : Nat} {xs : List Value} (v : Value) [hm : InVec v T sz n xs H]
    (k : (∃ A c, v = .slice A n c ∧ (0 < n → ∀ a, A = some a → a.spot = none) ∧ (0 < n → A ≠ none)) → One v → L C ops l E I H D Q) : L C ops l E I H D Q :=
  fun a w hs hd hw => k (vec_len hw) (vec_one hw) a w hs hd hw
end
section
variable {C : Cx} {ops : Array Oper} {X Z : List Nat} {I0 : Look} {R0 : List HA} {fuel : Nat} {listed : Array Bool} {E : Env} {I : Look} {H : List HA} {D : List Deferred} {Q : Exit → Act → World → Prop}
theorem r_three (i j n : Nat) (hok : (Region.ready .any ops listed).all (fun m => Nat.beq m i || Nat.beq m j || Nat.beq m n) = true) (hne : (Region.ready .any ops listed).isEmpty = false)
    (hi : RX C ops X Z I0 R0 fuel listed E I H D Q i) (hj : RX C ops X Z I0 R0 fuel listed E I H D Q j) (hn : RX C ops X Z I0 R0 fuel listed E I H D Q n) : R C ops X Z I0 R0 (fuel + 1) listed E I H D Q := by
  intro hpl hQ a w hs hda hw w2 hb
  refine ⟨fun h => (by rw [h] at hne; cases hne), fun m hm => ?_⟩
  have := List.all_eq_true.1 hok m hm
  rw [Bool.or_eq_true, Bool.or_eq_true] at this
  rcases this with (h | h) | h
  · obtain rfl := Nat.eq_of_beq_eq_true h
    exact hi hpl hQ a w2 hs hda (hw.garb hb)
  · obtain rfl := Nat.eq_of_beq_eq_true h
    exact hj hpl hQ a w2 hs hda (hw.garb hb)
  · obtain rfl := Nat.eq_of_beq_eq_true h
    exact hn hpl hQ a w2 hs hda (hw.garb hb)
end
theorem picks_st5 {H : List HA} {I : Look} {w0 w : World} {F : List HA} (a b c d e : HA) [h : Picks [a, b, c, d, e] F H] (hw : St w0 I H w) : St w0 I (a :: b :: c :: d :: e :: F) w := hw.perm h.perm
/-- a method of a pointer, as the type's row tells it -/
def methB (P : Program) (t : TypeId) (name : String) (f : FuncId) : Bool := match P.info? t with
  | some i => match i.methods.find? (fun m => m.name == name) with
    | some m => m.path.isEmpty && (match m.func with | some (g, b) => Nat.beq g f && b | none => false)
    | none => false
  | none => false
theorem meth_is {P : Program} {t e : TypeId} {name : String} {f : FuncId} (h : methB P t name f = true) (hu : P.underlying t = some (.pointer e)) : MethIs P t name f := fun p w => by
  unfold methB at h
  split at h
  · rename_i i hi
    split at h
    · rename_i m hm
      rw [Bool.and_eq_true] at h
      obtain ⟨h1, h2⟩ := h
      have h1 : m.path = #[] := by simpa using h1
      split at h2
      · rename_i g b hf
        rw [Bool.and_eq_true] at h2
        obtain ⟨h2, rfl⟩ := h2
        obtain rfl := Nat.eq_of_beq_eq_true h2
        have ht : (typeInfo t).run P w = .ok i w := by simp [typeInfo, hi, go_sem]
        rw [show P.types.size + Made.depth = (P.types.size + 99) + 1 from rfl]
        unfold method
        simp [ht, hm, h1, hf, follow, receiverAt, run_underlying hu, Place.get]
      · cases h2
    · cases h
  · cases h
/-- a row that does not turn any more, as a slice -/
theorem sl_row {α : Type} {f : α → List Value} {sz : Nat} {J : Look} {b n : Nat} {cs : List Value} (l : List α) (h : ∀ k u, cs[k]? = some u → CellI J b k u) (hcs : cs = (l.map f).flatten) (hn : l.length = n) (hu : ∀ c, (f c).length = sz) :
    Sl J sz (.slice (some ⟨b, 0, none⟩) n n) (l.map f) := by
  subst hcs hn
  refine ⟨⟨some ⟨b, 0, none⟩, l.length, by rw [List.length_map], by rw [List.length_map]; exact Nat.le_refl _, (fun _ a ha => by cases ha; rfl), (fun _ h => by cases h)⟩, fun i j c u hi hj => ?_⟩
  show CellI J b (0 + i * sz + j) u
  refine h _ _ ?_
  rw [Nat.zero_add]
  have hc : c.length = sz := by
    obtain ⟨a, _, rfl⟩ := List.mem_map.1 (List.mem_of_getElem? hi)
    exact hu a
  have key : ∀ (l : List (List Value)) (i : Nat), (∀ c ∈ l, c.length = sz) → l[i]? = some c → l.flatten[i * sz + j]? = some u := by
    intro l
    induction l with
    | nil => intro i _ hi; cases hi
    | cons d l ih =>
      intro i hl hi
      have hd := hl d List.mem_cons_self
      cases i with
      | zero =>
        simp only [List.getElem?_cons_zero, Option.some.injEq] at hi
        subst hi
        rw [List.flatten_cons, Nat.zero_mul, Nat.zero_add, List.getElem?_append_left (List.getElem?_eq_some_iff.1 hj).1]
        exact hj
      | succ i =>
        rw [List.getElem?_cons_succ] at hi
        rw [List.flatten_cons, Nat.add_mul, Nat.one_mul, List.getElem?_append_right (by omega), show i * sz + sz + j - d.length = i * sz + j by omega]
        exact ih i (fun x hx => hl x (List.mem_cons_of_mem _ hx)) hi
  exact key (l.map f) i (fun c hc => by obtain ⟨a, _, rfl⟩ := List.mem_map.1 hc; exact hu a) hi
end Go.Tri
