/-
  Slices of several elements written out; remainders; two rows made in either order.
-/
import Derived.Test.YtfnmioggkmkmcaaDoorTriBuild
namespace Go.Tri
open Go.RowKit
theorem fold_set : ∀ (l : List Value) (k : Nat) (A : Array Value), k + l.length ≤ A.size → ((l.zipIdx k).foldl (fun cs (x : Value × Nat) => cs.setIfInBounds x.2 x.1) A) = (A.toList.take k ++ l ++ A.toList.drop (k + l.length)).toArray
  | [], k, A, hk => by simp
  | v :: l, k, A, hk => by
    simp only [List.length_cons] at hk
    rw [List.zipIdx_cons, List.foldl_cons, fold_set l (k + 1) _ (by simp; omega)]
    congr 1
    simp only [Array.toList_setIfInBounds, List.length_cons]
    rw [List.take_set, List.drop_set, if_pos (by omega), List.set_eq_take_append_cons_drop, if_pos (by simp; omega), List.take_take, Nat.min_eq_left (by omega), show k + 1 + l.length = k + (l.length + 1) by omega]
    simp
theorem foldA (c : Array Value) (off : Nat) (A : Array Value) (h : off + c.size ≤ A.size) : (c.zipIdx.foldl (fun cs (x : Value × Nat) => cs.setIfInBounds (off + x.2) x.1) A) = (A.toList.take off ++ c.toList ++ A.toList.drop (off + c.size)).toArray := by
  have h1 := fold_set c.toList off A (by simpa using h)
  rw [← Array.foldl_toList]
  have h2 : (c.toList.zipIdx off) = c.toList.zipIdx.map (fun x => (x.1, off + x.2)) := by
    rw [List.zipIdx_eq_map_add]
  rw [h2, List.foldl_map] at h1
  simpa using h1
def partsOf : Nat → List Value → List (Nat × Value)
  | _, [] => []
  | k, v :: vs => (k, v) :: partsOf (k + 1) vs
theorem fill_list (n : Nat) : ∀ (vs : List Value) (css : List (List Value)) (k : Nat) (A : Array Value), A.size = (k + vs.length) * n → vs.map (fun v => v.cells.toList) = css → (∀ cs ∈ css, cs.length = n) →
    Instr.fill (fun i => some (i * n, n)) A (partsOf k vs) = some (A.toList.take (k * n) ++ css.flatten).toArray
  | [], css, k, A, hA, hcs, _ => by
    simp only [List.map_nil] at hcs
    subst hcs
    have : A.toList.take (k * n) = A.toList := List.take_of_length_le (by simp [hA])
    simp [partsOf, Instr.fill, this]
  | v :: vs, css, k, A, hA, hcs, hn => by
    simp only [List.map_cons] at hcs
    subst hcs
    have hv : v.cells.size = n := by simpa using hn v.cells.toList (List.mem_cons_self)
    have e1 : (k + (vs.length + 1)) * n = k * n + n + vs.length * n := by rw [Nat.add_mul, Nat.add_mul]; omega
    simp only [List.length_cons] at hA
    rw [e1] at hA
    have hfit : k * n + v.cells.size ≤ A.size := by rw [hv, hA]; omega
    have e2 : (k + 1) * n = k * n + n := by rw [Nat.add_mul, Nat.one_mul]
    have hlen : (A.toList.take (k * n)).length = k * n := by
      rw [List.length_take]; simp; omega
    show (match (some (k * n, n) : Option (Nat × Nat)) with | none => none | some (off, size) => if v.cells.size ≠ size || off + v.cells.size > A.size then none else Instr.fill _ (v.cells.zipIdx.foldl (fun cs (c, j) => cs.setIfInBounds (off + j) c) A) (partsOf (k + 1) vs)) = _
    simp only [hv, ne_eq, not_true_eq_false, decide_false, Bool.false_or, gt_iff_lt]
    rw [if_neg (by rw [hv] at hfit; simpa using hfit)]
    have hfold := foldA v.cells (k * n) A hfit
    rw [hfold]
    have e3 : (k + 1 + vs.length) * n = k * n + n + vs.length * n := by rw [Nat.add_mul, e2]
    rw [fill_list n vs _ (k + 1) _ (by simp; rw [e3]; omega) rfl (fun cs h => hn cs (List.mem_cons_of_mem _ h))]
    congr 2
    simp only [List.flatten_cons]
    rw [← List.append_assoc]
    congr 1
    rw [e2, show k * n + n = (A.toList.take (k * n) ++ v.cells.toList).length by rw [List.length_append, hlen]; simp [hv]]
    rw [List.take_left]
section
variable {C : Cx} {E : Env} {I : Look} {H : List HA} {D : List Deferred} {Q : Exit → Act → World → Prop} {o : Oper}
theorem e_buildSliceN {t e : TypeId} {m n bytes : Nat} {parts : Array (Nat × Operand)} {vs : List Value} {css : List (List Value)} {z : Value} (ho : o.op = .buildSlice t m parts) (ht : C.P.underlying t = some (.slice e)) (hi : TI C.P e n bytes z) (hn : (Nat.ble 1 n && Nat.ble (m * n) 1000 && Nat.ble 1 m) = true) (hz : z.cells.size = n)
    (hx : evP E parts.toList = some (partsOf 0 vs)) (hm : vs.length = m) (hc : vs.map (fun v => v.cells.toList) = css) (hl : ∀ cs ∈ css, cs.length = n) :
    Eff C E I H o (fun v I' H' => ∃ b, v = .slice (some ⟨b, 0, none⟩) m m ∧ I = I' ∧ H' = row b e css.flatten :: H) := by
  refine eff_new (x := fun p => match p with | .pointer a => .slice a m m | _ => p) (by rw [ho]; rfl) fun a w hs _ => ?_
  have hn : (1 ≤ n ∧ m * n ≤ 1000) ∧ 1 ≤ m := by simpa using hn
  have hp : (parts.map fun (p : Nat × Operand) => (p.1, a.eval p.2)).toList = partsOf 0 vs := by
    rw [Array.toList_map]
    exact hs.evP hx
  have hf : Instr.fill (fun i => some (i * n, n)) ((Array.range (m * n)).map (z.cells[· % z.cells.size]!)) (partsOf 0 vs) = some css.flatten.toArray := by
    rw [fill_list n vs css 0 _ (by simp [hm]) hc hl]
    simp
  have hmn : ¬ (m * n = 0) := by
    have := Nat.mul_pos (show 0 < m by omega) (show 0 < n by omega)
    omega
  simp only [execOp, ho, Instr.buildSlice]
  simp only [hp]
  simp [run_underlying ht, hi.sizeOf, hi.zero, show ¬ (16777216 < m * n) from by omega, show ¬ m = 0 from by omega, show ¬ n = 0 from by omega, hf, run_newRow]
  intro h
  exact absurd h hmn
theorem q_rem {x y : Operand} {t t' : TypeId} {k : IntKind} {m n : Int} (ho : o.op = .binOp .rem t x y t') (hx : ev E x = some (.int k m)) (hy : ev E y = some (.int k n)) (h : n ≠ 0) : Quiet C E I H o (.int k (m.tmod n)) :=
  quiet_bin ho hx hy fun w => by simp [eqGuard_rem, binOp_rem, Op.intDiv, h]
end
end Go.Tri
