/-
  Interface values told from nil; worlds that only grew.
-/
import Derived.Test.YtfnmioggkmkmcaaDoorTriB6
import Derived.Stop.IfaceNil
import Derived.Sort.Grow
import Derived.WalkSmall
namespace Go.Tri
open Go.RowKit
/-- an interface value: nil (b false), or not -/
def ErrIs (e : Value) (b : Bool) : Prop := (b = false ∧ e = .nilIface) ∨ (b = true ∧ ∃ u p, e = .iface u p)
theorem ErrIs.one {e : Value} {b : Bool} (h : ErrIs e b) : One e := by
  rcases h with ⟨_, rfl⟩ | ⟨_, u, p, rfl⟩ <;> exact ⟨rfl, rfl⟩
section
variable {C : Cx} {E : Env} {I : Look} {H : List HA} {o : Oper} {x : Operand} {t t' : TypeId} {e : Value} {b : Bool}
theorem q_neq_inil (ho : o.op = .binOp .neq t x (.const .nilIface) t') (ht : C.P.isIface t = true) (hx : ev E x = some e) (hb : ErrIs e b) : Quiet C E I H o (.bool b) :=
  quiet_bin ho hx rfl fun w => by
    rcases hb with ⟨rfl, rfl⟩ | ⟨rfl, u, p, rfl⟩
    · simp [eqGuard, run_neq_nil_nil_at w t ht]
    · simp [eqGuard, run_neq_iface_nil w t ht]
theorem q_eql_inil (ho : o.op = .binOp .eql t x (.const .nilIface) t') (ht : C.P.isIface t = true) (hx : ev E x = some e) (hb : ErrIs e b) : Quiet C E I H o (.bool (!b)) :=
  quiet_bin ho hx rfl fun w => by
    rcases hb with ⟨rfl, rfl⟩ | ⟨rfl, u, p, rfl⟩
    · simp [eqGuard, run_eql_nil_nil_at w t ht]
    · simp [eqGuard, run_eql_iface_nil w t ht]
theorem q_eql_fnil {f : FuncId} {bs cs : Array Value} {ps rs : Array TypeId} {vr : Bool} (ho : o.op = .binOp .eql t x (.const .nilFunc) t') (ht : C.P.underlying t = some (.func ps rs vr)) (hx : ev E x = some (.func (.func f) bs cs)) : Quiet C E I H o (.bool false) :=
  quiet_bin ho hx rfl fun w => by
    have h : (Op.equalIn 10000 t (.func (.func f) bs cs) .nilFunc).run C.P w = .ok false w := by
      rw [Op.equalIn]
      simp [run_underlying ht]
    simp only [binOp]
    simp [eqGuard, Op.equal, Op.maxDepth, h]
theorem q_min {y : Operand} {tt : TypeId} {k k' : IntKind} {m n : Int} (ho : o.op = .call { callee := .builtin .min, args := #[x, y], argTypes := #[t, tt] }) (hx : ev E x = some (.int k m)) (hy : ev E y = some (.int k' n)) : Quiet C E I H o (.int k (min m n)) :=
  quiet_builtin ho (vs := [.int k m, .int k' n]) (by simp [evs, hx, hy]) fun cs w => by
    have h := Go.run_min_int2 (P := C.P) w #[t, tt] o.type k k' m n
    have e : (if n < m then n else m) = min m n := by rw [Int.min_def]; split <;> split <;> omega
    rw [e] at h
    simp [builtin, h]
theorem q_max {y : Operand} {tt : TypeId} {k k' : IntKind} {m n : Int} (ho : o.op = .call { callee := .builtin .max, args := #[x, y], argTypes := #[t, tt] }) (hx : ev E x = some (.int k m)) (hy : ev E y = some (.int k' n)) : Quiet C E I H o (.int k (max m n)) :=
  quiet_builtin ho (vs := [.int k m, .int k' n]) (by simp [evs, hx, hy]) fun cs w => by
    have h := Go.run_max_int2 (P := C.P) w #[t, tt] o.type k k' m n
    have e : (if m < n then n else m) = max m n := by rw [Int.max_def]; split <;> split <;> omega
    rw [e] at h
    simp [builtin, h]
end
theorem below_grow (w : World) (os : Array Obj) : Below w.heap.size w (Go.Sort.grow w os) :=
  ⟨rfl, rfl, rfl, by simp [Go.Sort.grow], fun k hk => by
    show (w.heap ++ os)[k]? = _
    rw [Array.getElem?_append, if_pos hk]⟩
theorem below_grown (w : World) (n : Nat) (os : Array Obj) : Below w.heap.size w (Go.Sort.grow (w.drewN n) os) :=
  (below_drewN (Below.refl _ w) n).trans (below_grow (w.drewN n) os)
end Go.Tri
