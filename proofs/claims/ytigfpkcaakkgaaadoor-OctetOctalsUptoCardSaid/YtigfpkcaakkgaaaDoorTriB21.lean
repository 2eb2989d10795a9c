/-
  Quotients, signs turned, bits.
-/
import Derived.Test.YtigfpkcaakkgaaaDoorTriB5
import Derived.Stop.IfaceNil
import Derived.Sort.Grow
import Derived.WalkSmall
import Derived.ScopeJumps
import Derived.Lib.OthersKept
import Derived.Lib.AppendStr
namespace Go.Tri
open Go.RowKit
/-- a fact on bytes, one by one -/
theorem u8_all {p : UInt8 → Prop} (h : ∀ n : Fin 256, p (UInt8.ofNat n.val)) (c : UInt8) : p c := by
  have := h ⟨c.toNat, c.toNat_lt⟩
  simpa using this
section
variable {C : Cx} {E : Env} {I : Look} {H : List HA} {o : Oper} {x y : Operand} {t t' : TypeId} {k : IntKind} {m n : Int}
theorem q_quo (ho : o.op = .binOp .quo t x y t') (hx : ev E x = some (.int k m)) (hy : ev E y = some (.int k n)) (h : n ≠ 0) : Quiet C E I H o (.int k (k.wrap (m.tdiv n))) :=
  quiet_bin ho hx hy fun w => by simp [go_sem, Op.intDiv, h]
theorem q_quo64 (ho : o.op = .binOp .quo t x y t') (hx : ev E x = some (.int .i64 m)) (hy : ev E y = some (.int .i64 n)) (h : n ≠ 0) (hr : -9223372036854775808 ≤ m.tdiv n ∧ m.tdiv n ≤ 9223372036854775807) : Quiet C E I H o (.int .i64 (m.tdiv n)) := by
  have := q_quo (C := C) (I := I) (H := H) ho hx hy h
  rwa [IntWalk.i64_in _ hr] at this
theorem q_mul64 (ho : o.op = .binOp .mul t x y t') (hx : ev E x = some (.int .i64 m)) (hy : ev E y = some (.int .i64 n)) (h : -9223372036854775808 ≤ m * n ∧ m * n ≤ 9223372036854775807) : Quiet C E I H o (.int .i64 (m * n)) := by
  have := q_mul (C := C) (I := I) (H := H) ho hx hy
  rwa [IntWalk.i64_in _ h] at this
theorem q_neg (ho : o.op = .unOp .neg t x) (hx : ev E x = some (.int k m)) : Quiet C E I H o (.int k (k.wrap (-m))) :=
  quiet_run (by rw [ho]; rfl) fun a w hs _ => by simp [execOp, ho, hs.ev hx, Op.unary, Op.intArith]
theorem q_or_u8 {c d : UInt8} (ho : o.op = .binOp .or t x y t') (hx : ev E x = some (u8 c)) (hy : ev E y = some (u8 d)) : Quiet C E I H o (u8 (c ||| d)) :=
  quiet_bin ho hx hy fun w => by
    have h : ∀ e : UInt8, IntKind.u8.wrap (e.toNat : Int) = (e.toNat : Int) := u8_all (by decide +kernel)
    simp [u8, go_sem, Op.intBits, eqGuard]
    exact h (c ||| d)
theorem wrap_u8 (n' : Nat) : IntKind.u8.wrap (n' : Int) = ((n' % 256 : Nat) : Int) := by
  simp [IntKind.wrap, IntKind.signed, IntKind.bits]
theorem q_conv_u8 (n' : Nat) {d : TypeDesc} (ho : o.op = .convert t t' x) (hs : C.P.underlying t = some d) (hd : C.P.underlying t' = some (.int .u8)) (hx : ev E x = some (.int k m)) (hr : m = (n' : Int)) : Quiet C E I H o (u8 (UInt8.ofNat n')) := by
  have e : IntKind.u8.wrap m = ((UInt8.ofNat n').toNat : Int) := by
    rw [hr, UInt8.toNat_ofNat', wrap_u8]
  exact q_conv_int ho hs hd hx e
/-- a byte less another, where that goes -/
theorem q_sub_u8 {c : UInt8} (b : Nat) (ho : o.op = .binOp .sub t x y t') (hx : ev E x = some (u8 c)) (hy : ev E y = some (.int .u8 (b : Int))) (h : b ≤ c.toNat) : Quiet C E I H o (.int .u8 ((c.toNat - b : Nat) : Int)) := by
  have e : IntKind.u8.wrap ((c.toNat : Int) - (b : Int)) = ((c.toNat - b : Nat) : Int) := by
    have hc := c.toNat_lt
    have := wrap_u8 (c.toNat - b)
    rw [Nat.mod_eq_of_lt (by omega)] at this
    rw [← this]; congr 1; omega
  have := q_sub (C := C) (I := I) (H := H) ho hx hy
  rw [e] at this
  exact this
end
end Go.Tri

/-
  Interface values told from nil; worlds that only grew.
-/
namespace Go.Tri
open Go.RowKit
/-- an interface value: nil (b false), or not -/
def ErrIs (e : Value) (b : Bool) : Prop := (b = false ∧ e = .nilIface) ∨ (b = true ∧ ∃ u p, e = .iface u p)
theorem ErrIs.one {e : Value} {b : Bool} (h : ErrIs e b) : One e := by
  rcases h with ⟨_, rfl⟩ | ⟨_, u, p, rfl⟩ <;> exact ⟨rfl, rfl⟩
section
variable {C : Cx} {E : Env} {I : Look} {H : List HA} {o : Oper} {x : Operand} {t t' : TypeId} {e : Value} {b : Bool}
theorem q_neq_inil (ho : o.op = .binOp .neq t x (.const .nilIface) t') (ht : C.P.isIface t = true) (hx : ev E x = some e) (hb : ErrIs e b) : Quiet C E I H o (.bool b) :=
  quiet_bin ho hx rfl fun w => by
    rcases hb with ⟨rfl, rfl⟩ | ⟨rfl, u, p, rfl⟩
    · simp [eqGuard, run_neq_nil_nil_at w t ht]
    · simp [eqGuard, run_neq_iface_nil w t ht]
end
theorem below_grow (w : World) (os : Array Obj) : Below w.heap.size w (Go.Sort.grow w os) :=
  ⟨rfl, rfl, rfl, by simp [Go.Sort.grow], fun k hk => by
    show (w.heap ++ os)[k]? = _
    rw [Array.getElem?_append, if_pos hk]⟩
theorem below_grown (w : World) (n : Nat) (os : Array Obj) : Below w.heap.size w (Go.Sort.grow (w.drewN n) os) :=
  (below_drewN (Below.refl _ w) n).trans (below_grow (w.drewN n) os)
end Go.Tri

/-
  Scopes: gone through straight, or with jumps back to one label.
-/
namespace Go.Tri
open Go.RowKit
section
variable {C : Cx} {E : Env} {I : Look} {H : List HA} {D : List Deferred} {Q : Exit → Act → World → Prop}
end
end Go.Tri

/-
  A cell of an owned slice is written.
-/
namespace Go.Tri
open Go.RowKit
section
variable {C : Cx} {E : Env} {I : Look} {H F : List HA} {R : Ending → World → Prop} {fn : Func}
end
end Go.Tri

/-
  A text's runes one by one; a rune as a text.
-/
namespace Go.Tri
open Go.RowKit
class PickIt (b : Nat) (s : outParam (List UInt8)) (pos : outParam Nat) (F : outParam (List HA)) (H : List HA) : Prop where
  pick : H.Perm (obj b (.stringIter ⟨s.toArray⟩ pos) :: F)
instance pickIt_head {b pos : Nat} {s : List UInt8} {F : List HA} : PickIt b s pos F (obj b (.stringIter ⟨s.toArray⟩ pos) :: F) := ⟨pick_head⟩
instance (priority := low) pickIt_tail {b pos : Nat} {s : List UInt8} {y : HA} {F H : List HA} [h : PickIt b s pos F H] : PickIt b s pos (y :: F) (y :: H) := ⟨pick_tail h.pick⟩
section
variable {C : Cx} {E : Env} {I : Look} {H F : List HA} {o : Oper} {x : Operand} {t t' : TypeId} {s : List UInt8}
end
end Go.Tri

/-
  A text put behind a row of bytes.
-/
namespace Go.Tri
open Go.RowKit
end Go.Tri

/-
  A slice that another call made, held as one of this call's own rows, without the look being grown by it.
-/
namespace Go.Tri
open Go.RowKit
/-- wherever the look has grown to, while X stands, the slice reads as this -/
def Holds (I : Look) (X : HA) (sz : Nat) (v : Value) (l : List (List Value)) : Prop := ∀ J, Le I J → X.sat J → Sl J sz v l
theorem Holds.mono {I J : Look} {X : HA} {sz : Nat} {v : Value} {l : List (List Value)} (h : Holds I X sz v l) (hle : Le I J) : Holds J X sz v l := fun K hK hs => h K (hle.trans hK) hs
end Go.Tri

/-
  One element of an owned slice is written as a whole.
-/
namespace Go.Tri
open Go.RowKit
section
variable {C : Cx} {ops : Array Oper} {X Z : List Nat} {Q : Exit → Act → World → Prop} {S0 : World → Prop}
end
section
variable {C : Cx} {ops : Array Oper} {X Z : List Nat} {I0 I : Look} {R0 H : List HA} {fuel : Nat} {listed : Array Bool} {E : Env} {D : List Deferred} {Q : Exit → Act → World → Prop} {o : Oper}
end
end Go.Tri

/-
  A text put behind a row of bytes: an empty one leaves a nil row nil.
-/
namespace Go.Tri
open Go.RowKit
section
variable {C : Cx} {E : Env} {I : Look} {H : List HA} {D : List Deferred} {Q : Exit → Act → World → Prop} {o : Oper}
end
end Go.Tri

/-
  An array: a cell of it at a computed place written; its end told as a text.
-/
namespace Go.Tri
open Go.RowKit
section
variable {C : Cx} {E : Env} {I : Look} {H : List HA} {o : Oper}
theorem e_storeR {p x : Operand} {t T : TypeId} {b off bytes : Nat} {v z : Value} {cs : List Value} {F : List HA} (ho : o.op = .store t p x) (hi : TI C.P t 1 bytes z)
    (hp : ev E p = some (.pointer (some ⟨b, off, none⟩))) (hx : ev E x = some v) (h1 : One v) [hpk : PickRow b T cs F H] (hlt : off < cs.length) :
    Eff C E I H o (fun _ I' H' => I = I' ∧ H' = row b T (cs.set off v) :: F) := by
  intro a w hs hw K Q hk
  have hw' := hw.perm hpk.pick
  have hb : w.heap[b]? = some (.cells cs.toArray T (0, 0)) := hw'.sat _ (List.mem_cons_self)
  refine wpIn_of_skip (by rw [ho]; rfl) ?_ (hk undef I _ _ ⟨rfl, rfl⟩ (st_set v hw'))
  simp only [execOp, ho, hs.ev hp, hs.ev hx, Instr.storeAt, Instr.sureAddr, storeVar, h1.1]
  simp [hi.sizeOf, storeCells, Addr.add_zero', run_store1 h1.2 hb hlt]
theorem q_slice_arr_from {x i : Operand} {t e : TypeId} {k : IntKind} {m : Int} {n sz bytes b : Nat} {z : Value} (ho : o.op = .slice t x (some i) none none) (ht : C.P.underlying t = some (.array n e)) (hi : TI C.P e sz bytes z)
    (hx : ev E x = some (.pointer (some ⟨b, 0, none⟩))) (hj : ev E i = some (.int k m)) (h : 0 ≤ m ∧ m < n) :
    Quiet C E I H o (.slice (some ⟨b, m.toNat * sz, none⟩) (n - m.toNat) (n - m.toNat)) :=
  quiet_run (by rw [ho]; rfl) fun a w hs _ => by
    have hne : ¬ n = m.toNat := by omega
    simp only [execOp, ho, hs.ev hx, Option.map_some, Option.map_none, hs.ev hj]
    simp [Instr.sliceAt, run_underlying ht, Instr.sureAddr, Instr.sliceBounds, Instr.sliceBound, asIntOf, hi.sizeOf, show 0 ≤ m ∧ m ≤ (n : Int) by omega, hne, Addr.add_lit]
theorem q_bytes_row {x : Operand} {t t' e T : TypeId} {b off cap : Nat} {l : List UInt8} {cs : List Value} (ho : o.op = .convert t t' x) (hs : C.P.underlying t = some (.slice e)) (hd : C.P.underlying t' = some .string) (he : C.P.underlying e = some (.int .u8))
    (hx : ev E x = some (.slice (some ⟨b, off, none⟩) l.length cap)) [hm : InRow b T cs H] (hc : ∀ j, j < l.length → cs[off + j]? = some (u8 (nth l j 0))) : Quiet C E I H o (str l) :=
  quiet_run (by rw [ho]; rfl) fun a w hsat hw => by
    have hb : w.heap[b]? = some (.cells cs.toArray T (0, 0)) := hw.sat _ hm.mem
    simp only [execOp, ho, hsat.ev hx]
    rw [Sem.run_bind, run_convert_bytes_back (P := C.P) w t t' e ⟨b, off, none⟩ cap l hs he hd (fun j hj => by
      rw [Addr.add_lit]
      have h2 := hc j hj
      rw [nth_eq hj] at h2
      unfold World.cell?
      simp only [hb]
      show cs.toArray[off + j]? = _
      rw [List.getElem?_toArray]
      exact h2)]
    rfl
end
section
variable {C : Cx} {E : Env} {I : Look} {H : List HA} {o : Oper} {x y : Operand} {t t' : TypeId}
theorem wrap_u64 {n : Nat} (h : n < 18446744073709551616) : IntKind.u64.wrap (n : Int) = (n : Int) := by
  simp [IntKind.wrap, IntKind.signed, IntKind.bits]; omega
theorem wrap_i64 {n : Nat} (h : n < 9223372036854775808) : IntKind.i64.wrap (n : Int) = (n : Int) := by
  simp [IntKind.wrap, IntKind.signed, IntKind.bits]; omega
theorem q_convU (n : Nat) {d : TypeDesc} {k : IntKind} {m : Int} (ho : o.op = .convert t t' x) (hs : C.P.underlying t = some d) (hd : C.P.underlying t' = some (.int .u64)) (hx : ev E x = some (.int k m)) (hm : m = (n : Int)) (h : n < 18446744073709551616) : Quiet C E I H o (.int .u64 (n : Int)) :=
  q_conv_int ho hs hd hx (by rw [hm]; exact wrap_u64 h)
theorem q_convI (n : Nat) {d : TypeDesc} {k : IntKind} {m : Int} (ho : o.op = .convert t t' x) (hs : C.P.underlying t = some d) (hd : C.P.underlying t' = some (.int .i64)) (hx : ev E x = some (.int k m)) (hm : m = (n : Int)) (h : n < 9223372036854775808) : Quiet C E I H o (.int .i64 (n : Int)) :=
  q_conv_int ho hs hd hx (by rw [hm]; exact wrap_i64 h)
theorem q_addU (a b : Nat) (ho : o.op = .binOp .add t x y t') (hx : ev E x = some (.int .u64 (a : Int))) (hy : ev E y = some (.int .u64 (b : Int))) (h : a + b < 18446744073709551616) : Quiet C E I H o (.int .u64 ((a + b : Nat) : Int)) :=
  quiet_bin ho hx hy fun w => by
    have := wrap_u64 h
    simp [go_sem, eqGuard, Op.intArith]
    rw [show ((a : Int) + (b : Int)) = ((a + b : Nat) : Int) by omega, this]
theorem q_subU (a b : Nat) (ho : o.op = .binOp .sub t x y t') (hx : ev E x = some (.int .u64 (a : Int))) (hy : ev E y = some (.int .u64 (b : Int))) (h : b ≤ a) (h2 : a < 18446744073709551616) : Quiet C E I H o (.int .u64 ((a - b : Nat) : Int)) :=
  quiet_bin ho hx hy fun w => by
    have := wrap_u64 (n := a - b) (by omega)
    simp [go_sem, eqGuard, Op.intArith]
    rw [show ((a : Int) - (b : Int)) = ((a - b : Nat) : Int) by omega, this]
theorem q_mulU (a b : Nat) (ho : o.op = .binOp .mul t x y t') (hx : ev E x = some (.int .u64 (a : Int))) (hy : ev E y = some (.int .u64 (b : Int))) (h : a * b < 18446744073709551616) : Quiet C E I H o (.int .u64 ((a * b : Nat) : Int)) :=
  quiet_bin ho hx hy fun w => by
    have := wrap_u64 h
    simp [go_sem, eqGuard, Op.intArith]
    rw [show ((a : Int) * (b : Int)) = ((a * b : Nat) : Int) by simp, this]
theorem q_shrU (a n : Nat) {k : IntKind} (ho : o.op = .binOp .shr t x y t') (hx : ev E x = some (.int .u64 (a : Int))) (hy : ev E y = some (.int k (n : Int))) (h : n ≤ 64) : Quiet C E I H o (.int .u64 ((a / 2 ^ n : Nat) : Int)) :=
  quiet_bin ho hx hy fun w => by
    have h1 : ¬ ((n : Int) < 0) := by omega
    have h2 : min n 64 = n := by omega
    simp [go_sem, eqGuard, Op.shift, h1, IntKind.bits, h2]
theorem q_andU (a b r : Nat) (ho : o.op = .binOp .and t x y t') (hx : ev E x = some (.int .u64 (a : Int))) (hy : ev E y = some (.int .u64 (b : Int))) (ha : a < 18446744073709551616) (hb : b < 18446744073709551616) (hr : a &&& b = r) : Quiet C E I H o (.int .u64 (r : Int)) :=
  quiet_bin ho hx hy fun w => by
    subst hr
    have h1 : a &&& b < 18446744073709551616 := Nat.lt_of_le_of_lt Nat.and_le_left ha
    have := wrap_u64 h1
    have e : (BitVec.ofNat 64 a &&& BitVec.ofNat 64 b).toNat = a &&& b := by
      rw [BitVec.toNat_and, BitVec.toNat_ofNat, BitVec.toNat_ofNat, Nat.mod_eq_of_lt (by simpa using ha), Nat.mod_eq_of_lt (by simpa using hb)]
    simp [go_sem, eqGuard, Op.intBits]
    exact (congrArg (fun n : Nat => IntKind.u64.wrap (n : Int)) e).trans this
end
end Go.Tri

/-
  Operations at given numbers.
-/
namespace Go.Tri
open Go.RowKit
section
variable {C : Cx} {E : Env} {I : Look} {H : List HA} {o : Oper} {x y : Operand} {t t' : TypeId}
theorem q_andI8 (ho : o.op = .binOp .and t x y t') (hx : ev E x = some (.int .i64 8)) (hy : ev E y = some (.int .i64 7)) : Quiet C E I H o (.int .i64 0) :=
  quiet_bin ho hx hy fun w => by simp [go_sem, eqGuard, Op.intBits]; rfl
theorem q_negU8 (ho : o.op = .unOp .neg t x) (hx : ev E x = some (.int .u64 8)) : Quiet C E I H o (.int .u64 ((18446744073709551608 : Nat) : Int)) :=
  q_neg ho hx
theorem q_quoU (a b : Nat) (ho : o.op = .binOp .quo t x y t') (hx : ev E x = some (.int .u64 (a : Int))) (hy : ev E y = some (.int .u64 (b : Int))) (h : b ≠ 0) (ha : a < 18446744073709551616) : Quiet C E I H o (.int .u64 ((a / b : Nat) : Int)) := by
  have h1 := q_quo (C := C) (I := I) (H := H) ho hx hy (by omega)
  have e : (a : Int).tdiv (b : Int) = ((a / b : Nat) : Int) := rfl
  rw [e, wrap_u64 (Nat.lt_of_le_of_lt (Nat.div_le_self _ _) ha)] at h1
  exact h1
theorem q_shl64 (ho : o.op = .binOp .shl t x y t') (hx : ev E x = some (.int .u64 1)) (hy : ev E y = some (.int .u64 64)) : Quiet C E I H o (.int .u64 0) :=
  quiet_bin ho hx hy fun w => by simp [go_sem, eqGuard, Op.shift, IntKind.bits]; rfl
theorem q_shl63 (ho : o.op = .binOp .shl t x y t') (hx : ev E x = some (.int .u64 1)) (hy : ev E y = some (.int .u64 63)) : Quiet C E I H o (.int .u64 ((9223372036854775808 : Nat) : Int)) :=
  quiet_bin ho hx hy fun w => by simp [go_sem, eqGuard, Op.shift, IntKind.bits]; rfl
theorem q_sub01 (ho : o.op = .binOp .sub t x y t') (hx : ev E x = some (.int .u64 0)) (hy : ev E y = some (.int .u64 1)) : Quiet C E I H o (.int .u64 ((18446744073709551615 : Nat) : Int)) :=
  q_sub ho hx hy
/-- a quiet operation that reads what the region has made -/
theorem e_of_q {v : Value} (hq : Quiet C E I H o v) : Eff C E I H o (fun v' I' H' => v' = v ∧ I = I' ∧ H' = H) :=
  fun a w hs hw K Q hk => (hq a w hs hw).wpIn fun w' g => hk _ _ _ _ ⟨rfl, rfl, rfl⟩ (hw.garb g)
end
end Go.Tri
