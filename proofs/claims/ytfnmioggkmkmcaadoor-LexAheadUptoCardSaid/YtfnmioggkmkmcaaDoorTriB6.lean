/-
  Quotients, signs turned, bits.
-/
import Derived.Test.YtfnmioggkmkmcaaDoorTriB5
namespace Go.Tri
open Go.RowKit
/-- a fact on bytes, one by one -/
theorem u8_all {p : UInt8 → Prop} (h : ∀ n : Fin 256, p (UInt8.ofNat n.val)) (c : UInt8) : p c := by
  have := h ⟨c.toNat, c.toNat_lt⟩
  simpa using this
section
variable {C : Cx} {E : Env} {I : Look} {H : List HA} {o : Oper} {x y : Operand} {t t' : TypeId} {k : IntKind} {m n : Int}
theorem q_quo (ho : o.op = .binOp .quo t x y t') (hx : ev E x = some (.int k m)) (hy : ev E y = some (.int k n)) (h : n ≠ 0) : Quiet C E I H o (.int k (k.wrap (m.tdiv n))) :=
  quiet_bin ho hx hy fun w => by simp [go_sem, Op.intDiv, h]
theorem q_quo64 (ho : o.op = .binOp .quo t x y t') (hx : ev E x = some (.int .i64 m)) (hy : ev E y = some (.int .i64 n)) (h : n ≠ 0) (hr : -9223372036854775808 ≤ m.tdiv n ∧ m.tdiv n ≤ 9223372036854775807) : Quiet C E I H o (.int .i64 (m.tdiv n)) := by
  have := q_quo (C := C) (I := I) (H := H) ho hx hy h
  rwa [IntWalk.i64_in _ hr] at this
theorem q_mul64 (ho : o.op = .binOp .mul t x y t') (hx : ev E x = some (.int .i64 m)) (hy : ev E y = some (.int .i64 n)) (h : -9223372036854775808 ≤ m * n ∧ m * n ≤ 9223372036854775807) : Quiet C E I H o (.int .i64 (m * n)) := by
  have := q_mul (C := C) (I := I) (H := H) ho hx hy
  rwa [IntWalk.i64_in _ h] at this
theorem q_neg (ho : o.op = .unOp .neg t x) (hx : ev E x = some (.int k m)) : Quiet C E I H o (.int k (k.wrap (-m))) :=
  quiet_run (by rw [ho]; rfl) fun a w hs _ => by simp [execOp, ho, hs.ev hx, Op.unary, Op.intArith]
theorem q_neg64 (ho : o.op = .unOp .neg t x) (hx : ev E x = some (.int .i64 m)) (h : -9223372036854775808 ≤ -m ∧ -m ≤ 9223372036854775807) : Quiet C E I H o (.int .i64 (-m)) := by
  have := q_neg (C := C) (I := I) (H := H) ho hx
  rwa [IntWalk.i64_in _ h] at this
theorem q_or_u8 {c d : UInt8} (ho : o.op = .binOp .or t x y t') (hx : ev E x = some (u8 c)) (hy : ev E y = some (u8 d)) : Quiet C E I H o (u8 (c ||| d)) :=
  quiet_bin ho hx hy fun w => by
    have h : ∀ e : UInt8, IntKind.u8.wrap (e.toNat : Int) = (e.toNat : Int) := u8_all (by decide +kernel)
    simp [u8, go_sem, Op.intBits, eqGuard]
    exact h (c ||| d)
theorem wrap_u8 (n' : Nat) : IntKind.u8.wrap (n' : Int) = ((n' % 256 : Nat) : Int) := by
  simp [IntKind.wrap, IntKind.signed, IntKind.bits]
theorem q_conv_u8 (n' : Nat) {d : TypeDesc} (ho : o.op = .convert t t' x) (hs : C.P.underlying t = some d) (hd : C.P.underlying t' = some (.int .u8)) (hx : ev E x = some (.int k m)) (hr : m = (n' : Int)) : Quiet C E I H o (u8 (UInt8.ofNat n')) := by
  have e : IntKind.u8.wrap m = ((UInt8.ofNat n').toNat : Int) := by
    rw [hr, UInt8.toNat_ofNat', wrap_u8]
  exact q_conv_int ho hs hd hx e
/-- a byte less another, where that goes -/
theorem q_sub_u8 {c : UInt8} (b : Nat) (ho : o.op = .binOp .sub t x y t') (hx : ev E x = some (u8 c)) (hy : ev E y = some (.int .u8 (b : Int))) (h : b ≤ c.toNat) : Quiet C E I H o (.int .u8 ((c.toNat - b : Nat) : Int)) := by
  have e : IntKind.u8.wrap ((c.toNat : Int) - (b : Int)) = ((c.toNat - b : Nat) : Int) := by
    have hc := c.toNat_lt
    have := wrap_u8 (c.toNat - b)
    rw [Nat.mod_eq_of_lt (by omega)] at this
    rw [← this]; congr 1; omega
  have := q_sub (C := C) (I := I) (H := H) ho hx hy
  rw [e] at this
  exact this
end
end Go.Tri
