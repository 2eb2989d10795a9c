/-
 Quotients, signs turned, bits.
-/
import Derived.Test.YtmjcakamgeepbaaGreatDoorTriB5
import Derived.Stop.IfaceNil
import Derived.Sort.Grow
import Derived.WalkSmall
import Derived.ScopeJumps
import Derived.Lib.OthersKept
import Derived.Lib.AppendStr
import Derived.RecoverIn
import Derived.RangeFuncLeaves
namespace Go.Tri
open Go.RowKit
/-- a fact on bytes, one by one -/
theorem u8_all {p : UInt8 → Prop} (h : ∀ n : Fin 256, p (UInt8.ofNat n.val)) (c : UInt8) : p c := by
 have := h ⟨c.toNat, c.toNat_lt⟩
 simpa using this
section
variable {C : Cx} {E : Env} {I : Look} {H : List HA} {o : Oper} {x y : Operand} {t t' : TypeId} {k : IntKind} {m n : Int}
theorem q_quo (ho : o.op = .binOp .quo t x y t') (hx : ev E x = some (.int k m)) (hy : ev E y = some (.int k n)) (h : n ≠ 0) : Quiet C E I H o (.int k (k.wrap (m.tdiv n))) :=
 quiet_bin ho hx hy fun w => by simp [go_sem, Op.intDiv, h]
theorem q_quo64 (ho : o.op = .binOp .quo t x y t') (hx : ev E x = some (.int .i64 m)) (hy : ev E y = some (.int .i64 n)) (h : n ≠ 0) (hr : -9223372036854775808 ≤ m.tdiv n ∧ m.tdiv n ≤ 9223372036854775807) : Quiet C E I H o (.int .i64 (m.tdiv n)) := by
 have := q_quo (C := C) (I := I) (H := H) ho hx hy h
 rwa [IntWalk.i64_in _ hr] at this
theorem q_mul64 (ho : o.op = .binOp .mul t x y t') (hx : ev E x = some (.int .i64 m)) (hy : ev E y = some (.int .i64 n)) (h : -9223372036854775808 ≤ m * n ∧ m * n ≤ 9223372036854775807) : Quiet C E I H o (.int .i64 (m * n)) := by
 have := q_mul (C := C) (I := I) (H := H) ho hx hy
 rwa [IntWalk.i64_in _ h] at this
theorem q_neg (ho : o.op = .unOp .neg t x) (hx : ev E x = some (.int k m)) : Quiet C E I H o (.int k (k.wrap (-m))) :=
 quiet_run (by rw [ho]; rfl) fun a w hs _ => by simp [execOp, ho, hs.ev hx, Op.unary, Op.intArith]
theorem q_neg64 (ho : o.op = .unOp .neg t x) (hx : ev E x = some (.int .i64 m)) (h : -9223372036854775808 ≤ -m ∧ -m ≤ 9223372036854775807) : Quiet C E I H o (.int .i64 (-m)) := by
 have := q_neg (C := C) (I := I) (H := H) ho hx
 rwa [IntWalk.i64_in _ h] at this
theorem q_or_u8 {c d : UInt8} (ho : o.op = .binOp .or t x y t') (hx : ev E x = some (u8 c)) (hy : ev E y = some (u8 d)) : Quiet C E I H o (u8 (c ||| d)) :=
 quiet_bin ho hx hy fun w => by
  have h : ∀ e : UInt8, IntKind.u8.wrap (e.toNat : Int) = (e.toNat : Int) := u8_all (by decide +kernel)
  simp [u8, go_sem, Op.intBits, eqGuard]
  exact h (c ||| d)
theorem wrap_u8 (n' : Nat) : IntKind.u8.wrap (n' : Int) = ((n' % 256 : Nat) : Int) := by
 simp [IntKind.wrap, IntKind.signed, IntKind.bits]
theorem q_conv_u8 (n' : Nat) {d : TypeDesc} (ho : o.op = .convert t t' x) (hs : C.P.underlying t = some d) (hd : C.P.underlying t' = some (.int .u8)) (hx : ev E x = some (.int k m)) (hr : m = (n' : Int)) : Quiet C E I H o (u8 (UInt8.ofNat n')) := by
 have e : IntKind.u8.wrap m = ((UInt8.ofNat n').toNat : Int) := by
  rw [hr, UInt8.toNat_ofNat', wrap_u8]
 exact q_conv_int ho hs hd hx e
/-- a byte less another, where that goes -/
theorem q_sub_u8 {c : UInt8} (b : Nat) (ho : o.op = .binOp .sub t x y t') (hx : ev E x = some (u8 c)) (hy : ev E y = some (.int .u8 (b : Int))) (h : b ≤ c.toNat) : Quiet C E I H o (.int .u8 ((c.toNat - b : Nat) : Int)) := by
 have e : IntKind.u8.wrap ((c.toNat : Int) - (b : Int)) = ((c.toNat - b : Nat) : Int) := by
  have hc := c.toNat_lt
  have := wrap_u8 (c.toNat - b)
  rw [Nat.mod_eq_of_lt (by omega)] at this
  rw [← this]; congr 1; omega
 have := q_sub (C := C) (I := I) (H := H) ho hx hy
 rw [e] at this
 exact this
end
end Go.Tri

/-
 Interface values told from nil; worlds that only grew.
-/
namespace Go.Tri
open Go.RowKit
/-- an interface value: nil (b false), or not -/
def ErrIs (e : Value) (b : Bool) : Prop := (b = false ∧ e = .nilIface) ∨ (b = true ∧ ∃ u p, e = .iface u p)
theorem ErrIs.one {e : Value} {b : Bool} (h : ErrIs e b) : One e := by
 rcases h with ⟨_, rfl⟩ | ⟨_, u, p, rfl⟩ <;> exact ⟨rfl, rfl⟩
section
variable {C : Cx} {E : Env} {I : Look} {H : List HA} {o : Oper} {x : Operand} {t t' : TypeId} {e : Value} {b : Bool}
theorem q_eql_inil (ho : o.op = .binOp .eql t x (.const .nilIface) t') (ht : C.P.isIface t = true) (hx : ev E x = some e) (hb : ErrIs e b) : Quiet C E I H o (.bool (!b)) :=
 quiet_bin ho hx rfl fun w => by
  rcases hb with ⟨rfl, rfl⟩ | ⟨rfl, u, p, rfl⟩
  ·simp [eqGuard, run_eql_nil_nil_at w t ht]
  ·simp [eqGuard, run_eql_iface_nil w t ht]
theorem q_min {y : Operand} {tt : TypeId} {k k' : IntKind} {m n : Int} (ho : o.op = .call { callee := .builtin .min, args := #[x, y], argTypes := #[t, tt] }) (hx : ev E x = some (.int k m)) (hy : ev E y = some (.int k' n)) : Quiet C E I H o (.int k (min m n)) :=
 quiet_builtin ho (vs := [.int k m, .int k' n]) (by simp [evs, hx, hy]) fun cs w => by
  have h := Go.run_min_int2 (P := C.P) w #[t, tt] o.type k k' m n
  have e : (if n < m then n else m) = min m n := by rw [Int.min_def]; split <;> split <;> omega
  rw [e] at h
  simp [builtin, h]
end
theorem below_grow (w : World) (os : Array Obj) : Below w.heap.size w (Go.Sort.grow w os) :=
 ⟨rfl, rfl, rfl, by simp [Go.Sort.grow], fun k hk => by
  show (w.heap ++ os)[k]? = _
  rw [Array.getElem?_append, if_pos hk]⟩
theorem below_grown (w : World) (n : Nat) (os : Array Obj) : Below w.heap.size w (Go.Sort.grow (w.drewN n) os) :=
 (below_drewN (Below.refl _ w) n).trans (below_grow (w.drewN n) os)
end Go.Tri

/-
 Scopes: gone through straight, or with jumps back to one label.
-/
namespace Go.Tri
open Go.RowKit
section
variable {C : Cx} {E : Env} {I : Look} {H : List HA} {D : List Deferred} {Q : Exit → Act → World → Prop}
theorem t_label {l : Nat} (h : N C .normal E I H D Q) : T C (.label l) E I H D Q := fun a w hs hd hw => wpIn_label (h a w hs hd hw)
theorem t_scope {c : Code} (hr : C.r = none) (h : T C c E I H D (Exit.noGoto Q)) : T C (.scope c) E I H D Q := by
 intro a w hs hd hw
 have := h a w hs hd hw
 rw [hr, WF_none, wpIn_wide] at *
 exact wp_scope_straight this
theorem n_ret_scope (h : N C .ret E I H D Q) : N C .ret E I H D (Exit.noGoto Q) := h
end
end Go.Tri

/-
 A cell of an owned slice is written.
-/
namespace Go.Tri
open Go.RowKit
theorem e_storeV {C : Cx} {E : Env} {I : Look} {H : List HA} {o : Oper} {p x : Operand} {t T : TypeId} {k sz n bytes : Nat} {v u z : Value} {xs : List Value} {F : List HA} (ho : o.op = .store t p x) (hi : TI C.P t 1 bytes z)
  (hp : ev E p = some (.pointer (some ⟨(adr v).block, (adr v).off + k, none⟩))) (hx : ev E x = some u) (h1 : One u) [hpk : PickVec v T sz n xs F H] (hlt : k < xs.length) :
  Eff C E I H o (fun _ I' H' => I = I' ∧ H' = vec v T sz n (xs.set k u) :: F) := by
 intro a w hs hw K Q hk
 have hw' := hw.perm hpk.pick
 obtain ⟨hl, hv⟩ : vecSat v T sz n xs (look w) := hw'.sat _ (List.mem_cons_self)
 rcases hv with ⟨rfl, rfl⟩ | ⟨g, cap, cur, rfl, hg, hn, hc, hsz, htk⟩
 ·rw [Nat.zero_mul] at hl; omega
 ·have hb : w.heap[g]? = some (.cells cur T (0, 0)) := hg
  have hle : n * sz ≤ cap * sz := Nat.mul_le_mul_right _ hn
  have hcur : cur = cur.toList.toArray := by simp
  have hk1 : k < cur.toList.length := by
   have : cur.toList.length = cur.size := by simp
   omega
  rw [hcur] at hb
  have hset := heap_setCell_row (off := k) (v := u) hb
  refine wpIn_of_skip (by rw [ho]; rfl) ?_ (hk undef I _ _ ⟨rfl, rfl⟩ (hw'.turn (w' := w.setCell ⟨g, k, none⟩ u) rfl rfl rfl (by simp) (fun j _ hj => Below.heap_setCell _ _ _ _ (fun e => hj (by rw [e]; rfl))) ?_ (.inl rfl)))
  ·simp only [execOp, ho, hs.ev hp, hs.ev hx, Instr.storeAt, Instr.sureAddr, storeVar, h1.1]
   simp [adr, hi.sizeOf, storeCells, Addr.add_zero', run_store1 h1.2 hb hk1]
  ·refine ⟨by rw [List.length_set]; exact hl, .inr ⟨g, cap, (cur.toList.set k u).toArray, rfl, hset, hn, hc, by simpa using hsz, ?_⟩⟩
   rw [← htk]
   simp only [List.take_set]
/-- a field of one element -/
theorem flat_set {α : Type} {f : α → List Value} {sz : Nat} (hu : ∀ c, (f c).length = sz) : ∀ {l : List α} {i j : Nat} {d e : α} {u : Value}, i < l.length → j < sz → (f (nth l i d)).set j u = f e → ((l.map f).flatten).set (i * sz + j) u = ((l.set i e).map f).flatten
 | [], _, _, _, _, _, h, _, _ => by simp at h
 | c :: l, 0, j, d, e, u, h, hj, he => by
  have he' : (f c).set j u = f e := he
  rw [List.map_cons, List.flatten_cons, List.set_append_left _ _ (by rw [hu]; omega), List.set_cons_zero, List.map_cons, List.flatten_cons, Nat.zero_mul, Nat.zero_add, he']
 | c :: l, i + 1, j, d, e, u, h, hj, he => by
  rw [List.map_cons, List.flatten_cons, List.set_append_right _ _ (by rw [hu, Nat.add_mul]; omega), List.set_cons_succ, List.map_cons, List.flatten_cons]
  congr 1
  rw [hu, show (i + 1) * sz + j - sz = i * sz + j by rw [Nat.add_mul]; omega]
  exact flat_set hu (d := d) (by simpa using h) hj he
/-! results, in slots, in cells, in rows of cells -/
def RV (C : Cx) (E : Env) (F : List HA) (I : Look) (rv : ResultVar) (v : Value) : Prop := ∀ (τ : Array Value) (w : World), Sat E C.n τ → St C.w0 I F w → (resF τ rv).run C.P w = .ok v w
def ResG (C : Cx) (E : Env) (I : Look) (F : List HA) : List ResultVar → List Value → Prop
 | [], [] => True
 | r :: rs, v :: vs => RV C E F I r v ∧ ResG C E I F rs vs
 | _, _ => False
section
variable {C : Cx} {E : Env} {I : Look} {H F : List HA} {R : Ending → World → Prop} {fn : Func}
theorem rg_nil : ResG C E I F [] [] := trivial
theorem rg_tmp {t : Nat} {v : Value} {rs : List ResultVar} {vs : List Value} (h : get E t = some v) (k : ResG C E I F rs vs) : ResG C E I F (.tmp t :: rs) (v :: vs) := ⟨fun τ w hs _ => by simp [resF, hs.2 t v h], k⟩
theorem rg_row {a b off n bytes : Nat} {t T : TypeId} {fs : Array Field} {z : Value} {cs us : List Value} {rs : List ResultVar} {vs : List Value} (h : get E a = some (.pointer (some ⟨b, off, none⟩))) (ht : C.P.underlying t = some (.struct fs)) (hi : TI C.P t n bytes z)
  [hm : InRow b T cs F] (hu : (cs.drop off).take n = us) (hn : us.length = n) (k : ResG C E I F rs vs) : ResG C E I F (.cell a t :: rs) (.agg us.toArray :: vs) := ⟨fun τ w hs hw => by
   have h6 := hs.2 a _ h
   have hr : Rds C.w0 I F b off us := rds_row hm.mem hu
   have h2 := run_loadCells (P := C.P) (w := w) (b := b) (k := off) (us := us) (fun j u hj => hr j u hj w hw)
   subst hn
   simp [resF, h6, asAddr, loadVar, run_isAgg_true ht, hi.sizeOf, h2], k⟩
theorem run_resG {τ : Array Value} {w : World} (hs : Sat E C.n τ) (hw : St C.w0 I F w) : ∀ {rs : List ResultVar} {vs : List Value}, ResG C E I F rs vs → (rs.mapM (resF τ)).run C.P w = .ok vs w
 | [], [], _ => by simp
 | r :: rs, v :: vs, h => by
  have ih := run_resG hs hw h.2
  have h1 := h.1 τ w hs hw
  simp only [List.mapM_cons, Sem.run_bind, h1, Result.andThen_ok, ih]
  simp
 | [], _ :: _, h => h.elim
 | _ :: _, [], h => h.elim
theorem run_resultsG {τ : Array Value} {w : World} {rs : List ResultVar} {vs : List Value} (hr : fn.results = rs.toArray) (hs : Sat E C.n τ) (hw : St C.w0 I F w) (h : ResG C E I F rs vs) : (results fn τ).run C.P w = .ok (retV vs) w := by
 rw [results_eq, hr, List.mapM_toArray, Sem.run_bind, Sem.run_map]
 rw [run_resG hs hw h]
 simp only [Result.andThen_ok]
 match vs with
 | [] => simp [retV]
 | [v] => simp [retV]
 | _ :: _ :: _ => simp [retV]
theorem n_retGG {rs : List ResultVar} {vs : List Value} {e : Exit} (he : e = .ret ∨ e = .normal) (hr : fn.results = rs.toArray) (h : ResG C E I H rs vs) (k : ∀ w, St C.w0 I H w → R (.returned (retV vs)) w) : N C e E I H [] (bodyPost C.P fn R) := by
 intro a w hs hd hw
 rcases he with rfl | rfl
 ·exact ⟨hd, _, run_resultsG hr hs hw h, k w hw⟩
 ·exact ⟨hd, _, run_resultsG hr hs hw h, k w hw⟩
end
end Go.Tri

/-
 A text's runes one by one; a rune as a text.
-/
namespace Go.Tri
open Go.RowKit
class PickIt (b : Nat) (s : outParam (List UInt8)) (pos : outParam Nat) (F : outParam (List HA)) (H : List HA) : Prop where
 pick : H.Perm (obj b (.stringIter ⟨s.toArray⟩ pos) :: F)
instance pickIt_head {b pos : Nat} {s : List UInt8} {F : List HA} : PickIt b s pos F (obj b (.stringIter ⟨s.toArray⟩ pos) :: F) := ⟨pick_head⟩
instance (priority := low) pickIt_tail {b pos : Nat} {s : List UInt8} {y : HA} {F H : List HA} [h : PickIt b s pos F H] : PickIt b s pos (y :: F) (y :: H) := ⟨pick_tail h.pick⟩
section
variable {C : Cx} {E : Env} {I : Look} {H F : List HA} {o : Oper} {x : Operand} {t t' : TypeId} {s : List UInt8}
end
end Go.Tri

/-
 A text put behind a row of bytes.
-/
namespace Go.Tri
open Go.RowKit
theorem appendStr_at {P : Program} (w : World) (t u ty e : TypeId) (i : TypeInfo) (ht : P.underlying t = some (.slice e)) (hu : P.underlying u = some .string) (hi : P.info? e = some i) (hz : i.zero = some (.int .u8 0)) (hs1 : i.size = 1) (hby : i.bytes = 1)
  (v : Value) (n : Nat) (xs : List Value) (hv : vecSat v e 1 n xs (look w)) (s : ByteArray) (h63 : n + s.size ≤ maxLen) (hb : n + s.size ≤ 140737488355328) :
  ∃ v' w', (Builtin.append_ #[t, u] ty #[v, .string s]).run P w = .ok v' w' ∧ vecSat v' e 1 (n + s.size) (xs ++ Lib.strCells s) (look w') ∧ w.grownBy w' v.ownBlock ∧ (v'.ownBlock = v.ownBlock ∨ v'.ownBlock = some w.heap.size) := by
 obtain ⟨v', w', hrun, ho, hg, hnil⟩ := Lib.run_append_own_string (P := P) w 0 t u ty e i ht hu hi hz hs1 hby v n xs (vec_owns.1 hv) s h63 hb (Nat.zero_le _)
 refine ⟨v', w', hrun, vec_owns.2 ho, hg, ?_⟩
 have hxl : xs.length = n := by rw [hv.1, Nat.mul_one]
 have hm : maxLen ≤ 9223372036854775807 := by decide
 rcases hv.2 with ⟨rfl, rfl⟩ | ⟨g, cap, cur, rfl, hgg, hn, hc, hsz, htk⟩
 ·by_cases h0 : s.size = 0
  ·left; rw [hnil.2 ⟨rfl, h0⟩]
  ·right
   have := run_append_nil_string (P := P) w t u ty e i (.int .u8 0) ht hu hi hz s (by omega) (by omega) (by rw [hby]; omega)
   rw [this] at hrun
   injection hrun with h1 h2
   rw [← h1]; rfl
 ·by_cases hroom : n + s.size ≤ cap
  ·left
   have := Lib.run_append_room_string (P := P) w t u ty e i ht hu hi hs1 g n cap cur hgg s hroom (by omega)
   rw [this] at hrun
   injection hrun with h1 h2
   rw [← h1]; rfl
  ·right
   have := Lib.run_append_grow_string (P := P) w t u ty e i (.int .u8 0) ht hu hi hz ⟨g, 0, none⟩ n cap xs (by rw [hs1]; omega) ((vec_owns.1 hv).cells (g := g) rfl) s (by omega) (by omega) (by rw [hby]; exact growslice_fits (by omega) (by omega))
   rw [this] at hrun
   injection hrun with h1 h2
   rw [← h1]; rfl
theorem strCells_str (s : List UInt8) : Lib.strCells ⟨s.toArray⟩ = (s.map byC).flatten := by
 rw [byC_flat]
 unfold Lib.strCells
 simp [u8]
theorem q_load_vecF {C : Cx} {E : Env} {I : Look} {H : List HA} {o : Oper} {x : Operand} {t T : TypeId} {d : TypeDesc} {sz n j fo : Nat} {v u : Value} {xs : List Value} (ho : o.op = .load t x) (ht : C.P.underlying t = some d) (hd : notAgg d = true)
  (hx : ev E x = some (.pointer (some ⟨(adr v).block, (adr v).off + j * sz + fo, none⟩))) [hm : InVec v T sz n xs H] (hu : xs[j * sz + fo]? = some u) : Quiet C E I H o u := q_load_vec (j := j * sz + fo) ho ht hd (by rw [← Nat.add_assoc]; exact hx) hu
theorem vec_at {α : Type} {f : α → List Value} {sz fo : Nat} (hu : ∀ c, (f c).length = sz) {l : List α} {i : Nat} {d : α} {u : Value} (h : i < l.length) (hf : (f (nth l i d))[fo]? = some u) : ((l.map f).flatten)[i * sz + fo]? = some u :=
 flat_at hu (cs := f (nth l i d)) (by rw [List.getElem?_map, List.getElem?_eq_getElem h, nth_eq h]; rfl) hf
theorem e_storeT {α : Type} {f : α → List Value} {l : List α} {C : Cx} {E : Env} {I : Look} {H : List HA} {o : Oper} {p x : Operand} {t T : TypeId} {j fo sz bytes : Nat} {v u z : Value} {F : List HA} (d e1 : α) (ho : o.op = .store t p x) (hi : TI C.P t 1 bytes z)
  (hp : ev E p = some (.pointer (some ⟨(adr v).block, (adr v).off + j * sz + fo, none⟩))) (hx : ev E x = some u) (h1 : One u) [hpk : PickVec v T sz l.length (l.map f).flatten F H] (hu : ∀ c, (f c).length = sz) (hj : j < l.length) (hfo : Nat.blt fo sz = true)
  (he : (f (nth l j d)).set fo u = f e1) : Eff C E I H o (fun _ I' H' => I = I' ∧ H' = tvec T sz f v (l.set j e1) :: F) := by
 have hfo : fo < sz := by simpa using hfo
 have hlen : ((l.map f).flatten).length = l.length * sz := by
  rw [List.length_flatten, List.map_map]
  have : (List.length ∘ f) = fun _ => sz := by funext c; exact hu c
  rw [this, List.map_const', List.sum_replicate_nat]
 have h2 : j * sz + fo < l.length * sz := by
  have := Nat.mul_le_mul_right sz (show j + 1 ≤ l.length from hj)
  rw [Nat.add_mul, Nat.one_mul] at this
  omega
 have := e_storeV (C := C) (E := E) (I := I) (H := H) (o := o) (p := p) (x := x) (k := j * sz + fo) (v := v) ho hi (by rw [← Nat.add_assoc]; exact hp) hx h1 (hpk := hpk) (by rw [hlen]; exact h2)
 rw [flat_set hu (d := d) hj hfo he] at this
 have hl : (l.set j e1).length = l.length := List.length_set
 show Eff C E I H o (fun _ I' H' => I = I' ∧ H' = vec v T sz (l.set j e1).length _ :: F)
 rw [hl]
 exact this
end Go.Tri

/-
 A slice that another call made, held as one of this call's own rows, without the look being grown by it.
-/
namespace Go.Tri
open Go.RowKit
/-- wherever the look has grown to, while X stands, the slice reads as this -/
def Holds (I : Look) (X : HA) (sz : Nat) (v : Value) (l : List (List Value)) : Prop := ∀ J, Le I J → X.sat J → Sl J sz v l
theorem Holds.mono {I J : Look} {X : HA} {sz : Nat} {v : Value} {l : List (List Value)} (h : Holds I X sz v l) (hle : Le I J) : Holds J X sz v l := fun K hK hs => h K (hle.trans hK) hs
end Go.Tri

/-
 One element of an owned slice is written as a whole.
-/
namespace Go.Tri
open Go.RowKit
theorem take_patch {α : Type} {A us : List α} {k N : Nat} (h : k + us.length ≤ N) (hA : N ≤ A.length) : (A.take k ++ us ++ A.drop (k + us.length)).take N = (A.take N).take k ++ us ++ (A.take N).drop (k + us.length) := by
 rw [List.take_append, List.take_append, List.length_append, List.length_take, List.take_take, List.drop_take]
 rw [show min k A.length = k by omega, show min N k = k by omega, List.take_take, show min k N = k by omega]
 rw [List.take_of_length_le (show us.length ≤ N - k by omega), show N - (k + us.length) = N - (k + us.length) from rfl]
theorem e_storeVs {C : Cx} {E : Env} {I : Look} {H : List HA} {o : Oper} {p x : Operand} {t T : TypeId} {k m sz n bytes : Nat} {v z : Value} {xs us : List Value} {F : List HA} (ho : o.op = .store t p x) (hi : TI C.P t m bytes z)
  (hp : ev E p = some (.pointer (some ⟨(adr v).block, (adr v).off + k, none⟩))) (hx : ev E x = some (.agg us.toArray)) (hm : us.length = m) (h1 : ∀ u ∈ us, u.oneCell' = true) [hpk : PickVec v T sz n xs F H] (hlt : k + m ≤ xs.length) (hpos : 0 < m) :
  Eff C E I H o (fun _ I' H' => I = I' ∧ H' = vec v T sz n (xs.take k ++ us ++ xs.drop (k + m)) :: F) := by
 intro a w hs hw K Q hk
 have hw' := hw.perm hpk.pick
 obtain ⟨hl, hv⟩ : vecSat v T sz n xs (look w) := hw'.sat _ (List.mem_cons_self)
 rcases hv with ⟨rfl, rfl⟩ | ⟨g, cap, cur, rfl, hg, hn, hc, hsz, htk⟩
 ·rw [Nat.zero_mul] at hl; omega
 ·have hb : w.heap[g]? = some (.cells cur T (0, 0)) := hg
  have hle : n * sz ≤ cap * sz := Nat.mul_le_mul_right _ hn
  have hcur : cur = cur.toList.toArray := by simp
  have hcl : cur.toList.length = cur.size := by simp
  rw [hcur] at hb
  obtain ⟨w', r1, r2, r3, r4, r5, r6, r7⟩ := run_storeCells (P := C.P) (off := k) us 0 cur.toList w h1 (by omega) hb
  simp only [Nat.add_zero, hm] at r2
  refine wpIn_of_skip (w' := w') (by rw [ho]; rfl) ?_ (hk undef I _ _ ⟨rfl, rfl⟩ (hw'.turn r3 r4 r5 (by omega) (fun j _ hj => r7 j (fun e => hj (by rw [e]; rfl))) ?_ (.inl rfl)))
  ·simp only [execOp, ho, hs.ev hp, hs.ev hx, Instr.storeAt, Instr.sureAddr, storeVar, Value.cells]
   subst hm
   simp [adr, hi.sizeOf, r1]
  ·subst hm
   refine ⟨?_, .inr ⟨g, cap, _, rfl, r2, hn, hc, ?_, ?_⟩⟩
   ·simp only [List.length_append, List.length_take, List.length_drop]; omega
   ·simp only [List.size_toArray, List.length_append, List.length_take, List.length_drop]; omega
   ·rw [← htk]
    exact take_patch (by omega) (by omega)
theorem flat_put {α : Type} {f : α → List Value} {sz : Nat} (hu : ∀ c, (f c).length = sz) : ∀ {l : List α} {i : Nat} {e : α}, i < l.length → ((l.map f).flatten).take (i * sz) ++ f e ++ ((l.map f).flatten).drop (i * sz + sz) = ((l.set i e).map f).flatten
 | [], _, _, h => by simp at h
 | c :: l, 0, e, h => by
  rw [List.map_cons, List.flatten_cons, Nat.zero_mul, List.take_zero, Nat.zero_add, List.nil_append, List.set_cons_zero, List.map_cons, List.flatten_cons, List.drop_append, List.drop_of_length_le (by rw [hu]; omega), hu, Nat.sub_self]; rfl
 | c :: l, i + 1, e, h => by
  rw [List.map_cons, List.flatten_cons, List.set_cons_succ, List.map_cons, List.flatten_cons]
  rw [List.take_append, List.drop_append, List.take_of_length_le (by rw [hu, Nat.add_mul]; omega), List.drop_of_length_le (by rw [hu, Nat.add_mul]; omega), hu, List.nil_append]
  rw [show (i + 1) * sz - sz = i * sz by rw [Nat.add_mul]; omega, show (i + 1) * sz + sz - sz = i * sz + sz by rw [Nat.add_mul]; omega]
  rw [List.append_assoc, List.append_assoc, ← List.append_assoc (List.take _ _), flat_put hu (by simpa using h)]
theorem e_storeSA {α : Type} {f : α → List Value} {l : List α} {C : Cx} {E : Env} {I : Look} {H : List HA} {o : Oper} {p x : Operand} {t T : TypeId} {j sz bytes : Nat} {v z : Value} {F : List HA} (e1 : α) (ho : o.op = .store t p x) (hi : TI C.P t sz bytes z)
  (hp : ev E p = some (.pointer (some ⟨(adr v).block, (adr v).off + j * sz, none⟩))) (hx : ev E x = some (.agg (f e1).toArray)) (h1 : ∀ u ∈ f e1, u.oneCell' = true) [hpk : PickVec v T sz l.length (l.map f).flatten F H] (hu : ∀ c, (f c).length = sz) (hj : j < l.length) (hpos : 0 < sz) :
  Eff C E I H o (fun _ I' H' => I = I' ∧ H' = tvec T sz f v (l.set j e1) :: F) := by
 have hlen : ((l.map f).flatten).length = l.length * sz := by
  rw [List.length_flatten, List.map_map]
  have : (List.length ∘ f) = fun _ => sz := by funext c; exact hu c
  rw [this, List.map_const', List.sum_replicate_nat]
 have h2 : j * sz + sz ≤ l.length * sz := by
  have := Nat.mul_le_mul_right sz (show j + 1 ≤ l.length from hj)
  rw [Nat.add_mul, Nat.one_mul] at this
  exact this
 have := e_storeVs (C := C) (E := E) (I := I) (H := H) (o := o) (p := p) (x := x) (k := j * sz) (v := v) (us := f e1) ho hi hp hx (hu e1) h1 (hpk := hpk) (by rw [hlen]; exact h2) hpos
 rw [flat_put hu hj] at this
 have hl : (l.set j e1).length = l.length := List.length_set
 show Eff C E I H o (fun _ I' H' => I = I' ∧ H' = vec v T sz (l.set j e1).length _ :: F)
 rw [hl]
 exact this
theorem set_snoc {α : Type} (l : List α) (a b : α) : (l ++ [a]).set l.length b = l ++ [b] := by
 rw [List.set_append_right _ _ (Nat.le_refl _), Nat.sub_self]; rfl
/-- the length of an owned slice, as a plain fact -/
theorem vec_len {I : Look} {H : List HA} {v : Value} {T : TypeId} {sz n : Nat} {xs : List Value} {w0 w : World} (hw : St w0 I H w) [hm : InVec v T sz n xs H] : ∃ A c, v = .slice A n c ∧ (0 < n → ∀ a, A = some a → a.spot = none) ∧ (0 < n → A ≠ none) := by
 obtain ⟨_, hh⟩ := hw.sat _ hm.mem
 rcases hh with ⟨rfl, rfl⟩ | ⟨g, cap, cur, rfl, _⟩
 ·exact ⟨none, 0, rfl, fun h => absurd h (Nat.lt_irrefl _), fun h => absurd h (Nat.lt_irrefl _)⟩
 ·exact ⟨_, cap, rfl, fun _ a h => by cases h; rfl, fun _ h => by cases h⟩
theorem t_len {C : Cx} {c : Code} {E : Env} {I : Look} {H : List HA} {D : List Deferred} {Q : Exit → Act → World → Prop} {T : TypeId} {sz n : Nat} {xs : List Value} (v : Value) [hm : InVec v T sz n xs H]
  (k : (∃ A c, v = .slice A n c ∧ (0 < n → ∀ a, A = some a → a.spot = none) ∧ (0 < n → A ≠ none)) → Tri.T C c E I H D Q) : Tri.T C c E I H D Q := fun a w hs hd hw => k (vec_len hw) a w hs hd hw
section
variable {C : Cx} {ops : Array Oper} {X Z : List Nat} {Q : Exit → Act → World → Prop} {S0 : World → Prop}
/-- the same of an operation that asks nothing of the memory -/
theorem wa_firstFree (hpl : plainAll ops = true) (hQ : PutQ Q) {i : Nat} {oi : Oper} {v : Value} (hi : ops[i]? = some oi)
  {ρ : Operand → Value} (hall : ∀ w, qAt C oi ρ w v) (hS : ∀ w w', S0 w → Below w.heap.size w w' → S0 w') :
  ∀ (fuel : Nat) (listed : Array Bool) (a : Act) (w : World), Closed ops listed →
   (∀ j oj, ops[j]? = some oj → j ≠ i → listed.getD j true = false → (∀ e ∈ oj.after, Region.binds .any e = true → e.on ≠ i) → oi.apart ops oj = true) →
   i ∈ Region.ready .any ops listed → Region.wanted oi (yielded ops a.tmps) = true → a.eval = ρ ∨ execOp a.eval oi = execOp ρ oi →
   wa C ops X Z S0 Q fuel (listed.setIfInBounds i true) (a.put oi.dst v) w → wa C ops X Z S0 Q (fuel + 1) listed a w := by
 intro fuel
 induction fuel with
 | zero =>
  intro listed a w hcl _ hr hwt hρ H w2 hb
  have hy : Yd C ops oi v a w := .inl ⟨hwt, fun w2 hb => by have := hall w2; unfold qAt at this ⊢; rcases hρ with e | e <;> rw [e] <;> exact this⟩
  refine ⟨fun h => (by rw [h] at hr; cases hr), fun j hj => ?_⟩
  by_cases hji : j = i
  ·subst hji
   exact (hy.below hb).wpOp hi fun w' hb' => ⟨fun _ => hb', fun _ h0 => hS _ _ h0 hb', wa_below _ _ _ _ _ (below_trans hb hb') H⟩
  ·have := ready_mono hj hji
   rw [H.1] at this
   cases this
 | succ fuel ih =>
  intro listed a w hcl hfree hr hwt hρ H w2 hb
  have hy : Yd C ops oi v a w := .inl ⟨hwt, fun w2 hb => by have := hall w2; unfold qAt at this ⊢; rcases hρ with e | e <;> rw [e] <;> exact this⟩
  refine ⟨fun h => (by rw [h] at hr; cases hr), fun j hj => ?_⟩
  by_cases hji : j = i
  ·subst hji
   exact (hy.below hb).wpOp hi fun w' hb' => ⟨fun _ => hb', fun _ h0 => hS _ _ h0 hb', wa_below _ _ _ _ _ (below_trans hb hb') H⟩
  ·have h1 := (H w2 hb).2 j (ready_mono hj hji)
   obtain ⟨hjun, oj, hoj, hall⟩ := mem_ready.1 hj
   have hiun := (mem_ready.1 hr).1
   have hiunF : listed.getD i false = false := getD_unlisted hiun
   have hnot : ∀ e ∈ oj.after, Region.binds .any e = true → e.on ≠ i := fun e he hb heq => by
    have h1 := hall e he hb
    rw [heq, hiunF] at h1
    cases h1
   have hap := hfree j oj hoj hji hjun hnot
   have h2 := wpOp_put hoj hap (plainAll_spec hpl hoj) hQ h1
   have hfree' : ∀ k ok, ops[k]? = some ok → k ≠ i → (listed.setIfInBounds j true).getD k true = false →
     (∀ e ∈ ok.after, Region.binds .any e = true → e.on ≠ i) → oi.apart ops ok = true := fun k ok hk hki hun hno => by
    refine hfree k ok hk hki ?_ hno
    by_cases hjk : j = k
    ·subst hjk; exact hjun
    ·rw [getD_set_ne true hjk] at hun; exact hun
   refine wpOpIn_mono (fun a' w' h3 => ?_) h2
   obtain ⟨⟨hk1, hk2, hk3⟩, u, hu⟩ := h3
   obtain ⟨_, _, h3⟩ := Oper.apart_spec hap
   refine ⟨hk1, hk2, ih (listed.setIfInBounds j true) a' w' (hcl.set hj) hfree' (ready_mono hr (Ne.symm hji)) (by rw [hu, wanted_put oi a oj.dst u h3]; exact hwt) ?_ ?_⟩
   ·refine .inr ?_
    rw [eval_of_tmps hu, execOp_put (ops := ops) oi (plainAll_spec hpl hi).2 a oj.dst u h3]
    rcases hρ with e | e
    ·rw [e]
    ·exact e
   ·rw [Array.setIfInBounds_comm _ _ hji]
    exact hk3
end
section
variable {C : Cx} {ops : Array Oper} {X Z : List Nat} {I0 I : Look} {R0 H : List HA} {fuel : Nat} {listed : Array Bool} {E : Env} {D : List Deferred} {Q : Exit → Act → World → Prop} {o : Oper}
/-- an operation that asks nothing of the memory -/
theorem r_qf (i : Nat) {v : Value} {d : Nat} (hok : okQ ops listed i = true) (hi : ops[i]? = some o)
  (hg : o.guard = none) (hd : o.dst = some d) (hn : Nat.blt d C.n = true) (hq : ∀ w1 : World, Quiet { C with w0 := w1 } E (fun _ => none) [] o v)
  (k : R C ops X Z I0 R0 fuel (listed.setIfInBounds i true) ((d, v) :: E) I H D Q) : R C ops X Z I0 R0 (fuel + 1) listed E I H D Q := by
 intro hpl hQ a w hs hda hw
 simp only [okQ, Bool.and_eq_true] at hok
 have hall : ∀ w', qAt C o a.eval w' v := fun w' => hq w' a w' hs (St.start w' _ (fun _ _ h => (by cases h)))
 have key := wa_firstFree (C := C) (ops := ops) (X := X) (Z := Z) (Q := Q) (S0 := Held C I0 R0) hpl hQ hi (v := v) (ρ := a.eval) hall (fun _ _ => Held.below) fuel listed a w (closedB_spec hok.1.1) (Region.free_spec hi hok.2) (by simpa using hok.1.2) (by simp [Region.wanted, hg]) (.inl rfl)
 refine key ?_
 rw [hd]
 exact k hpl hQ _ _ (hs.put (by simpa using hn) v) (by simpa [Act.put] using hda) hw
theorem x_e0 (i : Nat) {Post : Value → Look → List HA → Prop} (hX : X.contains i = true) (hi : ops[i]? = some o) (hle : Le I0 I)
  (hg : o.guard = none) (hd : o.dst = none) (he : Eff C E I H o Post)
  (k : ∀ v I' H', Post v I' H' → Le I I' ∧ (Z.contains i = true ∨ SubH H' R0) ∧ R C ops X Z I0 R0 fuel (listed.setIfInBounds i true) E I' H' D Q) : RX C ops X Z I0 R0 fuel listed E I H D Q i := by
 intro hpl hQ a w hs hda hw
 unfold wpOpIn
 simp only [hi]
 rw [if_pos (by simp [Region.wanted, hg])]
 refine he a w hs hw _ _ fun v I' H' w' hp hw' => ?_
 obtain ⟨hII, hsub, hk⟩ := k v I' H' hp
 refine ⟨fun hx => absurd (by simpa using hX) hx, fun hz _ => ?_, ?_⟩
 ·rcases hsub with hc | hsub
  ·exact absurd (by simpa using hc) hz
  ·exact ⟨I', hle.trans hII, hw'.sub hsub⟩
 rw [hd]
 exact hk hpl hQ _ _ hs hda hw'
theorem q_neq_pnil {x y : Operand} {t t' : TypeId} {p : Option Addr} (ho : o.op = .binOp .neq t x y t') (ht : C.P.underlying t = some (.pointer (C.P.pointee t))) (hx : ev E x = some (.pointer p)) (hy : ev E y = some (.pointer none)) : Quiet C E I H o (.bool (!p.isNone)) :=
 quiet_bin ho hx hy fun w => run_neq_pointer_nil w t p ht
theorem r_len {T : TypeId} {sz n : Nat} {xs : List Value} (v : Value) [hm : InVec v T sz n xs H]
  (k : (∃ A c, v = .slice A n c ∧ (0 < n → ∀ a, A = some a → a.spot = none) ∧ (0 < n → A ≠ none)) → One v → R C ops X Z I0 R0 fuel listed E I H D Q) : R C ops X Z I0 R0 fuel listed E I H D Q :=
 fun hpl hQ a w hs hda hw => k (vec_len hw) (vec_one hw) hpl hQ a w hs hda hw
end
theorem len_of {v : Value} {n : Nat} (h : ∃ A c, v = .slice A n c ∧ (0 < n → ∀ a, A = some a → a.spot = none) ∧ (0 < n → A ≠ none)) : ∃ A c, v = .slice A n c := by
 obtain ⟨A, c, h, _⟩ := h
 exact ⟨A, c, h⟩
end Go.Tri

/-
 A text put behind a row of bytes: an empty one leaves a nil row nil.
-/
namespace Go.Tri
open Go.RowKit
theorem appendStr_nil {P : Program} (w : World) (t u ty e : TypeId) (i : TypeInfo) (ht : P.underlying t = some (.slice e)) (hu : P.underlying u = some .string) (hi : P.info? e = some i) (hz : i.zero = some (.int .u8 0)) (hs1 : i.size = 1) (hby : i.bytes = 1)
  (v : Value) (n : Nat) (xs : List Value) (hv : vecSat v e 1 n xs (look w)) (s : ByteArray) (h63 : n + s.size ≤ maxLen) (hb : n + s.size ≤ 140737488355328) {v' : Value} {w' : World}
  (hrun : (Builtin.append_ #[t, u] ty #[v, .string s]).run P w = .ok v' w') (hn : v = .slice none 0 0) (h0 : s.size = 0) : v' = .slice none 0 0 := by
 obtain ⟨v2, w2, hrun2, _, _, hnil⟩ := Lib.run_append_own_string (P := P) w 0 t u ty e i ht hu hi hz hs1 hby v n xs (vec_owns.1 hv) s h63 hb (Nat.zero_le _)
 rw [hrun] at hrun2
 injection hrun2 with h1 _
 rw [h1]
 exact hnil.2 ⟨hn, h0⟩
theorem e_appendStrN {C : Cx} {E : Env} {I : Look} {H : List HA} {o : Oper} {x y : Operand} {t u e e' : TypeId} {v : Value} {l s : List UInt8} {F : List HA} (ho : o.op = .call { callee := .builtin .append, args := #[x, y], argTypes := #[t, u] })
  (ht : C.P.underlying t = some (.slice e)) (hu : C.P.underlying u = some .string) (hi : TI C.P e 1 1 (.int .u8 0))
  (hx : ev E x = some v) (hy : ev E y = some (str s)) [hpk : PickVec v e' 1 l.length (l.map byC).flatten F H] (hee : e = e')
  (h63 : l.length + s.length ≤ maxLen) (hby : l.length + s.length ≤ 140737488355328) :
  Eff C E I H o (fun v' I' H' => I = I' ∧ H' = tvec e' 1 byC v' (l ++ s) :: F ∧ (BufOk v l → BufOk v' (l ++ s))) := by
 subst hee
 intro a w hs hw K Q hk
 have hw' := hw.perm hpk.pick
 have hv : vecSat v e 1 l.length (l.map byC).flatten (look w) := hw'.sat _ (List.mem_cons_self)
 have hsz := size_str s
 obtain ⟨i, hii, hi1, hi2, hi3⟩ := hi
 obtain ⟨v', w', hrun, ho', hg, hob⟩ := appendStr_at (P := C.P) w t u o.type e i ht hu hii hi3 hi1 hi2 v _ _ hv ⟨s.toArray⟩ (by omega) (by omega)
 have hbo : BufOk v l → BufOk v' (l ++ s) := fun hb => by
  by_cases hl : l ++ s = []
  ·obtain ⟨h1, h2⟩ := List.append_eq_nil_iff.1 hl
   left
   exact appendStr_nil (P := C.P) w t u o.type e i ht hu hii hi3 hi1 hi2 v _ _ hv ⟨s.toArray⟩ (by omega) (by omega) hrun (hb.resolve_right (fun h => h h1)) (by rw [hsz, h2]; rfl)
  ·exact .inr hl
 rw [hsz, strCells_str, ← List.flatten_append, ← List.map_append, ← List.length_append] at ho'
 refine wpIn_of_run (v := v') (w' := w') (by rw [ho]; rfl) ?_ (hk v' I _ w' ⟨rfl, rfl, hbo⟩ (hw'.turn hg.os hg.tape hg.output hg.size (fun k hk hne => hg.block k hk hne) ho' ?_))
 ·simp only [execOp, ho, resolve]
  simp [hs.ev hx, hs.ev hy, str, invoke, builtin, hrun]
 ·rcases hob with e | e
  ·exact .inl e
  ·exact .inr ⟨_, e, Nat.le_refl _⟩
section
variable {C : Cx} {E : Env} {I : Look} {H : List HA} {D : List Deferred} {Q : Exit → Act → World → Prop} {o : Oper}
/-- the same, of a slice whose own elements are of single cells -/
theorem e_appendSm {α : Type} {f : α → List Value} {l ls : List α} {x y : Operand} {t e e' : TypeId} {sz bytes : Nat} {v vy z : Value} {F : List HA} (ho : o.op = .call { callee := .builtin .append, args := #[x, y], argTypes := #[t, t] })
  (ht : C.P.underlying t = some (.slice e)) (hi : TI C.P e sz bytes z) (hz : z.cells.size = sz) (hsz : Nat.blt 0 sz = true)
  (hx : ev E x = some v) (hy : ev E y = some vy) (hsl : Sl I sz vy (ls.map f)) [hpk : PickVec v e' sz l.length (l.map f).flatten F H] (hee : e = e')
  (hu : ∀ c, (f c).length = sz) (h1 : ∀ c ∈ ls, ∀ u ∈ f c, u.oneCell' = true) (h63 : l.length + ls.length ≤ maxLen) (hby : (l.length + ls.length) * bytes ≤ 140737488355328) :
  Eff C E I H o (fun v' I' H' => I = I' ∧ H' = tvec e' sz f v' (l ++ ls) :: F) := by
 by_cases hn : ls = []
 ·subst hn
  subst hee
  intro a w hs hw K Q hk
  have hw' := hw.perm hpk.pick
  obtain ⟨⟨A, c, rfl, hc, _⟩, _⟩ := hsl
  obtain ⟨i, hii, hi1, hi2, hi3⟩ := hi
  obtain ⟨hl, hv⟩ : vecSat v e sz l.length (l.map f).flatten (look w) := hw'.sat _ (List.mem_cons_self)
  have hle : ∃ base cap, v = .slice base l.length cap ∧ l.length ≤ cap := by
   rcases hv with ⟨rfl, h0⟩ | ⟨g, cap, cur, rfl, _, hle, _⟩
   ·exact ⟨none, 0, by rw [h0], by omega⟩
   ·exact ⟨_, _, rfl, hle⟩
  obtain ⟨base, cap, rfl, hle⟩ := hle
  have hsrc : ∀ w, Lib.bytesWorld w e ⟨#[]⟩ = Lib.bytesWorld w e ⟨#[]⟩ := fun _ => rfl
  have hrun : (Builtin.append_ #[t, t] o.type #[.slice base l.length cap, .slice A 0 c]).run C.P w = .ok (.slice base l.length cap) w := by
   refine run_append_nothing (P := C.P) w t t o.type e i ht hii base l.length cap hle (.slice A 0 c) ⟨.inl ⟨e, ht⟩, fun w' => rfl, ?_, ?_, by simp, fun _ h => by cases h⟩ <;> cases A <;> simp [Builtin.firstCells, loadCells, loadCellsFrom]
  refine wpIn_of_run (v := .slice base l.length cap) (w' := w) (by rw [ho]; rfl) ?_ (hk _ I _ w ⟨rfl, by rw [tvec, List.append_nil]⟩ hw')
  simp only [execOp, ho, resolve]
  simp only [List.map_nil, List.length_nil] at hy
  simp [hs.ev hx, hs.ev hy, invoke, builtin, hrun]
 ·have hmn : ls.map f ≠ [] := by simpa using hn
  obtain ⟨⟨A, c, rfl, hc, hsp, hne⟩, hcell⟩ := id hsl
  cases A with
  | none => exact absurd rfl (hne hmn)
  | some ad =>
   have hspot := hsp hmn ad rfl
   obtain ⟨b, off, sp⟩ := ad
   cases hspot
   have hlen : ∀ m : List α, (m.map f).flatten.length = m.length * sz := fun m => by
    induction m with
    | nil => simp
    | cons d m ih => simp only [List.map_cons, List.flatten_cons, List.length_append, ih, hu, List.length_cons, Nat.add_mul, Nat.one_mul]; omega
   have key : ∀ (m : List α) (j : Nat) (u : Value), (m.map f).flatten[j]? = some u → ∃ i k cs, (m.map f)[i]? = some cs ∧ cs[k]? = some u ∧ j = i * sz + k := by
    intro m
    induction m with
    | nil => intro j u h; cases h
    | cons d m ih =>
     intro j u h
     simp only [List.map_cons, List.flatten_cons] at h
     rcases Nat.lt_or_ge j (f d).length with hlt | hge
     ·rw [List.getElem?_append_left hlt] at h
      exact ⟨0, j, f d, rfl, h, by omega⟩
     ·rw [List.getElem?_append_right hge] at h
      obtain ⟨i, k, cs, h1, h2, h3⟩ := ih _ _ h
      refine ⟨i + 1, k, cs, by simpa using h1, h2, ?_⟩
      rw [hu] at h3 hge
      rw [Nat.add_mul, Nat.one_mul]
      omega
   have hy' : ev E y = some (.slice (some ⟨b, off, none⟩) ls.length c) := by rw [hy, List.length_map]
   have := e_append (C := C) (E := E) (I := I) (H := H) (news := (ls.map f).flatten) ho ht hi hz hsz hx hy' hee (rds_imm fun j u hj => by
    obtain ⟨i, k, cs, h1, h2, rfl⟩ := key ls j u hj
    have := hcell i k cs u h1 h2
    rw [← Nat.add_assoc]
    exact this) (hlen ls) (fun u hu' => by
     obtain ⟨cs, h2, h3⟩ := List.mem_flatten.1 hu'
     obtain ⟨c', hc', rfl⟩ := List.mem_map.1 h2
     exact h1 c' hc' u h3) h63 hby
   simpa [tvec] using this
end
end Go.Tri

/-
 An array: a cell of it at a computed place written; its end told as a text.
-/
namespace Go.Tri
open Go.RowKit
section
variable {C : Cx} {E : Env} {I : Look} {H : List HA} {o : Oper}
end
section
variable {C : Cx} {E : Env} {I : Look} {H : List HA} {o : Oper} {x y : Operand} {t t' : TypeId}
theorem wrap_i64 {n : Nat} (h : n < 9223372036854775808) : IntKind.i64.wrap (n : Int) = (n : Int) := by
 simp [IntKind.wrap, IntKind.signed, IntKind.bits]; omega
end
end Go.Tri

/-
 Rows that turn no more, told cell by cell; slices of pointers made whole.
-/
namespace Go.Tri
open Go.RowKit
/-- block b holds these cells for good -/
def RowI (I : Look) (b : Nat) (cs : List Value) : Prop := ∀ k u, cs[k]? = some u → CellI I b k u
theorem RowI.mono {I J : Look} {b : Nat} {cs : List Value} (h : RowI I b cs) (hle : Le I J) : RowI J b cs := fun k u hu => (h k u hu).mono hle
theorem rowI_of {w0 w : World} {I : Look} {H : List HA} {b : Nat} {T : TypeId} {cs : List Value} (hw : St w0 I H w) [hm : InRow b T cs H] : RowI (look w) b cs := fun k u hk =>
 ⟨cs.toArray, T, (0, 0), hw.sat _ hm.mem, by simpa using hk⟩
section
variable {C : Cx} {E : Env} {I : Look} {H : List HA} {D : List Deferred} {Q : Exit → Act → World → Prop}
theorem l_freezeRow {ops : Array Oper} {l : List Oper} {T : TypeId} {cs : List Value} {F : List HA} (b : Nat) [hp : PickRow b T cs F H] (k : ∀ J, Le I J → RowI J b cs → L C ops l E J F D Q) : L C ops l E I H D Q := by
 intro a w hs hd hw
 obtain ⟨J, h1, h2, h3⟩ := st_freezeRow (hw.perm hp.pick)
 exact k J h1 h3 a w hs hd h2
end
def pAt (b : Nat) : Value := .pointer (some ⟨b, 0, none⟩)
/-- a row whose elements are one cell each, as a slice -/
theorem sl_row1 {I : Look} {b c : Nat} {vs : List Value} (h : RowI I b vs) (hc : vs.length ≤ c) : Sl I 1 (.slice (some ⟨b, 0, none⟩) vs.length c) (vs.map fun v => [v]) := by
 refine ⟨⟨some ⟨b, 0, none⟩, c, by rw [List.length_map], by rw [List.length_map]; exact hc, fun _ a ha => by cases ha; rfl, fun _ h => by cases h⟩, ?_⟩
 intro i j cs u hi hj
 rw [List.getElem?_map] at hi
 cases hv : vs[i]? with
 | none => rw [hv] at hi; cases hi
 | some v =>
  rw [hv] at hi
  cases hi
  match j, hj with
  | 0, hj =>
   have hj' : v = u := Option.some.inj hj
   subst hj'
   have := h i v hv
   show CellI I b (0 + i * 1 + 0) v
   rw [show 0 + i * 1 + 0 = i by omega]
   exact this
  | j + 1, hj => simp at hj
theorem sl_row1_at {I : Look} {v u : Value} {vs : List Value} (h : Sl I 1 v (vs.map fun x => [x])) {w0 : World} {H : List HA} {i : Nat} (hu : vs[i]? = some u) : Rd w0 I H (adr v).block ((adr v).off + i * 1) u := by
 have := h.rd (w0 := w0) (H := H) (i := i) (j := 0) (cs := [u]) (u := u) (by rw [List.getElem?_map, hu]; rfl) rfl
 exact this
/-! ### calls of functions that hold variables -/
theorem quiet_callC {C : Cx} {E : Env} {I : Look} {H : List HA} {o : Oper} {g : Operand} {f : FuncId} {args : Array Operand} {ts : Array TypeId} {vs cs : List Value} {v : Value} {bs ca : Array Value}
  (ho : o.op = .call { callee := .value g, args := args, argTypes := ts }) (hg : ev E g = some (.func (.func f) bs ca)) (hbs : bs = #[]) (hca : ca = cs.toArray) (he : evs E args.toList = some vs)
  {fn : Func} (hfn : C.P.funcs[f]? = some fn) (hnm : (fn.name == "runtime.NumGoroutine") = false) (hbd : fn.body.isNone = false)
  (hc : ∀ w, St C.w0 I H w → Pure C.P f (vs ++ cs) w v) : Quiet C E I H o v := by
 intro a w hs hw
 subst hbs hca
 have h1 : args.map a.eval = vs.toArray := by
  rw [← hs.evs he]; cases args; simp
 have hrun : (execOp a.eval o).run C.P w = .ok (.enter f (vs ++ cs).toArray) w := by
  simp only [execOp, ho, resolve, h1, hs.ev hg]
  simp [Deferred.ofValue, invoke, call_of hfn hnm hbd]
 refine ⟨by rw [ho]; rfl, ?_⟩
 rw [hrun]
 exact ⟨rfl, hc w hw⟩
end Go.Tri

/-
 Panics: calls that may end in one, and the panic itself.
-/
namespace Go.Tri
open Go.RowKit
/-- a contract of a function that goes on, or panics -/
def CallsP (P : Program) (f : FuncId) (vs : Array Value) (w : World) (Post : Value → Look → List HA → Prop) (Pan : List PanicEntry → Look → List HA → Prop) : Prop :=
 Calls P f vs w (fun e w' => (∃ v, e = .returned v ∧ ∃ I' H', Post v I' H' ∧ St w I' H' w') ∨ ∃ ch, e = .panicked ch ∧ ∃ I' H', Pan ch I' H' ∧ St w I' H' w')
theorem CallsP.of {P : Program} {f : FuncId} {vs : Array Value} {w : World} {Post : Value → Look → List HA → Prop} {Pan : List PanicEntry → Look → List HA → Prop}
  (h : Calls P f vs w (fun e w' => ∃ v, e = .returned v ∧ ∃ I' H', Post v I' H' ∧ St w I' H' w')) : CallsP P f vs w Post Pan := Calls.mono h fun _ _ h => .inl h
theorem CallsP.mono {P : Program} {f : FuncId} {vs : Array Value} {w : World} {Post Post' : Value → Look → List HA → Prop} {Pan Pan' : List PanicEntry → Look → List HA → Prop}
  (h : CallsP P f vs w Post Pan) (hp : ∀ v I H, Post v I H → Post' v I H) (hq : ∀ v I H, Pan v I H → Pan' v I H) : CallsP P f vs w Post' Pan' := Calls.mono h fun _ _ h => by
 rcases h with ⟨v, h1, I, H, h2, h3⟩ | ⟨v, h1, I, H, h2, h3⟩
 ·exact .inl ⟨v, h1, I, H, hp _ _ _ h2, h3⟩
 ·exact .inr ⟨v, h1, I, H, hq _ _ _ h2, h3⟩
section
variable {C : Cx} {E : Env} {I : Look} {H : List HA} {D : List Deferred} {Q : Exit → Act → World → Prop} {o : Oper}
def notIface : TypeDesc → Bool
 | .interface _ => false
 | _ => true
theorem q_makeIface {x : Operand} {t : TypeId} {d : TypeDesc} {v : Value} (ho : o.op = .makeInterface t x) (ht : C.P.underlying t = some d) (hd : notIface d = true) (hx : ev E x = some v) : Quiet C E I H o (.iface t v) :=
 quiet_run (by rw [ho]; rfl) fun a w hs _ => by
  have hu : (Go.underlying t).run C.P w = .ok d w := run_underlying ht w
  simp only [execOp, ho, hs.ev hx, Instr.makeInterface, Sem.run_bind, hu, Result.andThen_ok]
  cases d <;> first | rfl | cases hd
end
section
variable {C : Cx} {ops : Array Oper} {X Z : List Nat} {I0 I : Look} {R0 H : List HA} {fuel : Nat} {listed : Array Bool} {E : Env} {D : List Deferred} {Q : Exit → Act → World → Prop} {o : Oper}
end
end Go.Tri

/-
 A function with one deferred call that may recover: how it is left.
-/
namespace Go.Tri
open Go.RowKit
section
variable {C : Cx} {E : Env} {I : Look} {H : List HA} {o : Oper}
end
section
variable {C : Cx} {E : Env} {I : Look} {H : List HA} {R : Ending → World → Prop} {fn : Func}
end
end Go.Tri

/-
 A range over a function that hands on what it has made: the values are known by what they are at the memory of the moment.
-/
namespace Go.Tri
open Go.RowKit
/-- the loop behind l: handed what may be handed as the i-th, one round goes on, or says that it goes on no more -/
def YieldsV (P : Program) (l : Nat) {γ : Type} (Cd Cx : Nat → γ → Prop) (G : γ → List HA) (II : γ → Look) (Hd : Nat → Look → List Value → Prop) : Prop :=
 ∀ (i : Nat) (vs : List Value) (g : γ) (J : Look), Hd i J vs → Cd i g → Le (II g) J → ∀ (w0 : World) (F : List HA) (w : World), St w0 J (F ++ G g) w →
  ∃ fn tmps assign body, (Instr.yield l vs.toArray).run P w = .ok (.round l fn tmps assign body) w ∧
   RoundIn (WF none) 0 P l fn tmps assign body w (fun e w' =>
    (e = .returned (.bool true) ∧ ∃ g', Cd (i + 1) g' ∧ Le J (II g') ∧ St w0 (II g') (F ++ G g') w') ∨
    (e = .returned (.bool false) ∧ ∃ g', Cx (i + 1) g' ∧ Le J (II g') ∧ St w0 (II g') (F ++ G g') w'))
/-- a function that hands on so many, one by one -/
def IteratesV (P : Program) (gf : FuncId) (lb : List Value) (n : Nat) (Hd : Nat → Look → List Value → Prop) (Pre : Look → Prop) : Prop :=
 ∀ (γ : Type) (Cd Cx : Nat → γ → Prop) (G : γ → List HA) (II : γ → Look) (l : Nat), YieldsV P l Cd Cx G II Hd → ∀ (w0 : World) (g : γ) (F : List HA) (w : World), Cd 0 g → Pre (II g) → St w0 (II g) (F ++ G g) w →
  Calls P gf (.func (.yield l) #[] #[] :: lb).toArray w (fun e w' => ∃ v, e = .returned v ∧ ∃ g' J, (Cd n g' ∨ ∃ i, i ≤ n ∧ Cx i g') ∧ Le (II g) (II g') ∧ Le (II g') J ∧ St w0 J (F ++ G g') w')
section iter
variable {C : Cx} {E : Env} {I : Look} {H : List HA} {D : List Deferred} {Q : Exit → Act → World → Prop} {o : Oper}
/-- a call of yield -/
theorem l_yieldV {ops : Array Oper} {rest : List Oper} {d l i : Nat} {γ : Type} {Cd Cx : Nat → γ → Prop} {G : γ → List HA} {II : γ → Look} {Hd : Nat → Look → List Value → Prop} {vs : List Value} {y : Operand} {args : Array Operand} {ts : Array TypeId} {F : List HA} {M : List HA → List HA} (g : γ)
  (hwt : ∀ a : Act, Sat E C.n a.tmps → Region.wanted o (yielded ops a.tmps) = true) (hd : o.dst = some d) (hn : Nat.blt d C.n = true)
  (ho : o.op = .call { callee := .value y, args := args, argTypes := ts }) (hy : ev E y = some (.func (.yield l) #[] #[])) (he : evs E args.toList = some vs)
  (hY : YieldsV C.P l Cd Cx G II Hd) (hi : Hd i I vs) (hc : Cd i g) (hI : Le (II g) I) [ht : Tl (G g) F M H]
  (kt : ∀ g', Cd (i + 1) g' → Le I (II g') → L C ops rest ((d, .bool true) :: E) (II g') (M (G g')) D Q)
  (kf : ∀ g', Cx (i + 1) g' → Le I (II g') → L C ops rest ((d, .bool false) :: E) (II g') (M (G g')) D Q) : L C ops (o :: rest) E I H D Q := by
 intro a w hs hda hw
 rw [ht.eq] at hw
 obtain ⟨fn, tmps, assign, body, hrun, hround⟩ := hY i vs g I hi hc hI C.w0 F w hw
 refine wpListIn_step fun K hK => ?_
 rw [if_pos (hwt a hs)]
 have h1 : args.map a.eval = vs.toArray := by
  rw [← hs.evs he]; cases args; simp
 refine ⟨fun _ _ => trivial, ?_⟩
 rw [Oper.semAt_eq _ _ _ (fun c hc => by rw [ho] at hc; cases hc)]
 have hx : (execOp a.eval o).run C.P w = .ok (.round l fn tmps assign body) w := by
  simp only [execOp, ho, resolve, h1, hs.ev hy]
  simp [Deferred.ofValue, invoke, hrun]
 rw [hx]
 refine ⟨fun h => by simp at h, ?_⟩
 have hr : RoundIn (WF C.r) 0 C.P l fn tmps assign body w _ := hround
 refine hr.mono fun e w' he => ?_
 rcases he with ⟨rfl, g', h1, h2, h3⟩ | ⟨rfl, g', h1, h2, h3⟩
 ·refine hK _ _ ?_
  rw [hd]
  exact kt g' h1 h2 _ _ (hs.put (by simpa using hn) _) (by simpa [Act.put] using hda) (ht.app (G g') ▸ h3)
 ·refine hK _ _ ?_
  rw [hd]
  exact kf g' h1 h2 _ _ (hs.put (by simpa using hn) _) (by simpa [Act.put] using hda) (ht.app (G g') ▸ h3)

/-- the caller: the rows of its own between two rounds are as its ghost says -/
theorem t_rangeV {γ : Type} {g : Operand} {ps : List Nat} {assign body : Code} {gf : FuncId} {fng : Func} {lb : List Value} {nx : Nat} {Hd : Nat → Look → List Value → Prop} {Pre : Look → Prop} (hit : IteratesV C.P gf lb nx Hd Pre) (hr : C.r = none)
  (hg : ev E g = some (.func (.func gf) #[] lb.toArray)) (hfn : C.P.funcs[gf]? = some fng) (hnm : (fng.name == "runtime.NumGoroutine") = false) (hbd : fng.body.isNone = false)
  (Inv : Nat → γ → Prop) (Ex : Code → γ → Prop) (F0 : List HA) (Hc : γ → List HA → List HA) (hHc : ∀ gg T, Hc gg T = Hc gg [] ++ T) (IIc : γ → Look) (E0 : Env) (hE0 : Sub E E0) (g0 : γ) (h0 : Inv 0 g0) (hpre : Pre (IIc g0)) (hI0 : Le I (IIc g0))
  (hh : ∀ w, St C.w0 I H w → St C.w0 (IIc g0) (Hc g0 F0) w) (hps : ps.all (Nat.blt · C.n) = true) (hvs : ∀ i J vs, Hd i J vs → vs.length = ps.length)
  (round : ∀ (bl : Nat) (ready busy done : Loop) (dfr : HA) (i : Nat) (vs : List Value) (gg : γ) (J : Look) (w0' : World) (F : List HA), Hd i J vs → Inv i gg → Le (IIc gg) J → ready.state = .ready → busy = { ready with state := .busy } →
   T ⟨C.P, some bl, C.n, w0'⟩ assign (bindE ps vs E0) J (Hc gg (obj bl (.loop ready) :: dfr :: F)) []
    (Exit.then (Begin ⟨C.P, some bl, C.n, w0'⟩ bl body (roundPost C.P bl fun e w' =>
     (e = .returned (.bool true) ∧ ∃ g', Inv (i + 1) g' ∧ Le J (IIc g') ∧ St w0' (IIc g') (Hc g' (obj bl (.loop { ready with state := .ready, pending := none }) :: dfr :: F)) w') ∨
     (e = .returned (.bool false) ∧ ∃ c g', Ex c g' ∧ Le J (IIc g') ∧ St w0' (IIc g') (Hc g' (obj bl (.loop { ready with state := .done, pending := some c }) :: dfr :: F)) w'))) (fun _ _ _ => False)))
  (kdone : ∀ bd gg J, Inv nx gg → Le I (IIc gg) → Le (IIc gg) J → N C .normal E J (Hc gg (obj bd (.deferred (some [])) :: F0)) ({ target := .collected bd, args := #[] } :: D) Q)
  (kstop : ∀ bd c gg J, Ex c gg → Le I (IIc gg) → Le (IIc gg) J → T C c E J (Hc gg (obj bd (.deferred (some [])) :: F0)) ({ target := .collected bd, args := #[] } :: D) Q) :
  T C (.rangeFunc g ps.toArray assign body) E I H D Q := by
 intro a w hs hd hw
 refine wpIn_rangeFunc ?_
 intro fn hfn'
 rw [WF_round, hr]
 obtain ⟨W1, hW1⟩ : ∃ W1, (w.alloc (.deferred (some []))).alloc (.loop (recOf fn a.tmps ps.toArray assign body w.heap.size .ready none)) = W1 := ⟨_, rfl⟩
 have hw1 : St C.w0 (IIc g0) (Hc g0 [] ++ (obj (w.heap.size + 1) (.loop (recOf fn a.tmps ps.toArray assign body w.heap.size .ready none)) :: obj w.heap.size (.deferred (some [])) :: F0)) W1 := by
  have h1 := ((hh w hw).new (.deferred (some []))).new (.loop (recOf fn a.tmps ps.toArray assign body w.heap.size .ready none))
  rw [World.size_alloc, hW1, hHc g0 F0] at h1
  refine h1.perm ?_
  refine (List.perm_append_comm (l₁ := [obj (w.heap.size + 1) (.loop (recOf fn a.tmps ps.toArray assign body w.heap.size .ready none)), obj w.heap.size (.deferred (some []))]) (l₂ := Hc g0 [] ++ F0)).trans ?_
  rw [List.append_assoc]
  exact List.Perm.append_left _ List.perm_append_comm
 refine ⟨w.heap.size + 1, [{ target := .collected w.heap.size, args := #[] }], W1, { target := .fn (.func gf) lb.toArray, args := #[.func (.yield (w.heap.size + 1)) #[] #[]] }, W1, gf,
  (.func (.yield (w.heap.size + 1)) #[] #[] :: lb).toArray, W1, ?_, ?_, fun _ _ => trivial, ?_, fun h => by simp at h, ?_⟩
 ·rw [← hW1]; exact run_enterLoop_outer _ _ _ _ _
 ·simp only [resolve, hs.ev hg]
  simp [Deferred.ofValue, Act.eval]
 ·simp [invoke, call_of hfn hnm hbd]
 · -- the iterator's word, at the caller's own ghost with the record beside it
  let recS : LoopState → Option Code → Loop := recOf fn a.tmps ps.toArray assign body w.heap.size
  let Cd : Nat → γ × Loop → Prop := fun i p => Inv i p.1 ∧ p.2 = recS .ready none
  let Cx : Nat → γ × Loop → Prop := fun _ p => ∃ c, Ex c p.1 ∧ p.2 = recS .done (some c)
  let G : γ × Loop → List HA := fun p => Hc p.1 [] ++ (obj (w.heap.size + 1) (.loop p.2) :: obj w.heap.size (.deferred (some [])) :: F0)
  let II : γ × Loop → Look := fun p => IIc p.1
  have hperm : ∀ (F : List HA) (p : γ × Loop), (F ++ G p).Perm (Hc p.1 (obj (w.heap.size + 1) (.loop p.2) :: obj w.heap.size (.deferred (some [])) :: (F0 ++ F))) := fun F p => by
   rw [hHc p.1 (_ :: _)]
   refine (List.perm_append_comm (l₁ := F)).trans ?_
   show ((Hc p.1 [] ++ (obj (w.heap.size + 1) (.loop p.2) :: obj w.heap.size (.deferred (some [])) :: F0)) ++ F).Perm _
   rw [List.append_assoc]
   exact List.Perm.refl _
  have hY : YieldsV C.P (w.heap.size + 1) Cd Cx G II Hd := by
   intro i vs p J hi hc hJ w0' F w2 hw2
   obtain ⟨gg, rec⟩ := p
   obtain ⟨hinv, hrec⟩ := hc
   simp only at hinv hrec
   subst hrec
   have hw3 := hw2.perm (hperm F (gg, recS .ready none))
   have hl : w2.heap[w.heap.size + 1]? = some (.loop (recS .ready none)) := hw3.sat (obj (w.heap.size + 1) (.loop (recS .ready none))) (by rw [hHc]; exact List.mem_append_right _ (List.mem_cons_self))
   have hlen : vs.toArray.size = (recS .ready none).params.size := by
    show vs.toArray.size = ps.toArray.size
    simpa using hvs _ _ _ hi
   refine ⟨_, _, _, _, run_yield hl hlen, ?_⟩
   refine roundIn_of_wpIn (F := WF none) trivial ?_
   have hsat : Sat (bindE ps vs E0) C.n (((recS .ready none).params.zip vs.toArray).foldl (fun t (x : Nat × Value) => t.setIfInBounds x.1 x.2) (recS .ready none).tmps) := by
    have := sat_bind ps vs E0 a.tmps (hs.sub hE0) hps
    show Sat _ _ ((ps.toArray.zip vs.toArray).foldl _ a.tmps)
    rw [← Array.foldl_toList]
    simpa using this
   have hround := round (w.heap.size + 1) (recS .ready none) (recS .busy none) (recS .done none) (obj w.heap.size (.deferred (some []))) i vs gg J w0' (F0 ++ F) hi hinv hJ rfl rfl
    ⟨_, []⟩ w2 hsat rfl hw3
   refine wpIn_mono hround ?_
   rintro e a3 w3 hq
   cases e with
   | normal =>
    obtain ⟨w4, hb1, hb2⟩ := hq
    refine ⟨w4, hb1, wpIn_mono hb2 ?_⟩
    have conv : ∀ e w', ((e = Ending.returned (.bool true) ∧ ∃ g', Inv (i + 1) g' ∧ Le J (IIc g') ∧ St w0' (IIc g') (Hc g' (obj (w.heap.size + 1) (.loop { recS .ready none with state := .ready, pending := none }) :: obj w.heap.size (.deferred (some [])) :: (F0 ++ F))) w') ∨
     (e = .returned (.bool false) ∧ ∃ c g', Ex c g' ∧ Le J (IIc g') ∧ St w0' (IIc g') (Hc g' (obj (w.heap.size + 1) (.loop { recS .ready none with state := .done, pending := some c }) :: obj w.heap.size (.deferred (some [])) :: (F0 ++ F))) w')) →
     ((e = .returned (.bool true) ∧ ∃ g', Cd (i + 1) g' ∧ Le J (II g') ∧ St w0' (II g') (F ++ G g') w') ∨
     (e = .returned (.bool false) ∧ ∃ g', Cx (i + 1) g' ∧ Le J (II g') ∧ St w0' (II g') (F ++ G g') w')) := by
     intro e w' h
     rcases h with ⟨rfl, g', h1, h2, h3⟩ | ⟨rfl, c, g', h1, h2, h3⟩
     ·exact .inl ⟨rfl, (g', recS .ready none), ⟨h1, rfl⟩, h2, h3.perm (hperm F (g', recS .ready none)).symm⟩
     ·exact .inr ⟨rfl, (g', recS .done (some c)), ⟨c, h1, rfl⟩, h2, h3.perm (hperm F (g', recS .done (some c))).symm⟩
    rintro e a5 w5 hp
    cases e <;> simp only [roundPost] at hp ⊢ <;> first | (obtain ⟨v, w6, h1, h2⟩ := hp; exact ⟨v, w6, h1, conv _ _ h2⟩) | exact hp
   | exit id => exact hq
   | goto t => exact hq
   | ret => exact hq
   | panic c => exact hq
   | outgrown => exact hq
  have hcall := hit (γ × Loop) Cd Cx G II (w.heap.size + 1) hY C.w0 (g0, recS .ready none) [] W1 ⟨h0, rfl⟩ hpre hw1
  have hcall' : CallsIn (WF none) 0 C.P gf (.func (.yield (w.heap.size + 1)) #[] #[] :: lb).toArray W1 _ := callsIn_wide.2 hcall
  have hcall2 : CallsIn (WF C.r) 0 C.P gf (.func (.yield (w.heap.size + 1)) #[] #[] :: lb).toArray W1 _ := hcall'
  refine hcall2.mono ?_
  rintro e w' ⟨v, rfl, ⟨gg, rec⟩, J, hor, hle, hJ, hw'⟩
  have hw'' : St C.w0 J (obj (w.heap.size + 1) (.loop rec) :: obj w.heap.size (.deferred (some [])) :: (F0 ++ Hc gg [])) w' := by
   refine hw'.perm ?_
   exact List.perm_append_comm (l₁ := Hc gg [])
  have hl : w'.heap[w.heap.size + 1]? = some (.loop rec) := hw''.sat _ (List.mem_cons_self)
  have hrest : ∀ y, St C.w0 J (Hc gg (obj w.heap.size (.deferred (some [])) :: F0)) (w'.putObj (w.heap.size + 1) y) := fun y => by
   have := (st_put (y := y) hw'').tail
   refine this.perm ?_
   rw [hHc gg (_ :: _)]
   exact List.perm_append_comm (l₁ := obj w.heap.size (.deferred (some [])) :: F0)
  rcases hor with ⟨hinv, hrec⟩ | ⟨i, _, c, hex, hrec⟩
  ·simp only at hinv hrec
   subst hrec
   refine ⟨none, _, run_endLoop hl (show LoopState.ready ≠ LoopState.busy by decide), ?_⟩
   exact kdone w.heap.size gg J hinv (hI0.trans hle) hJ { a with defers := [{ target := .collected w.heap.size, args := #[] }] ++ a.defers } _ hs (by rw [← hd]; rfl) (hrest _)
  ·simp only at hex hrec
   subst hrec
   refine ⟨some c, _, run_endLoop hl (show LoopState.done ≠ LoopState.busy by decide), ?_⟩
   have hk := kstop w.heap.size c gg J hex (hI0.trans hle) hJ { a with defers := [{ target := .collected w.heap.size, args := #[] }] ++ a.defers }
   simp only [hr] at hk
   exact hk _ hs (by rw [← hd]; rfl) (hrest _)
end iter
end Go.Tri

/-
 Operations at given numbers.
-/
namespace Go.Tri
open Go.RowKit
section
variable {C : Cx} {E : Env} {I : Look} {H : List HA} {o : Oper} {x y : Operand} {t t' : TypeId}
/-- a quiet operation that reads what the region has made -/
theorem e_of_q {v : Value} (hq : Quiet C E I H o v) : Eff C E I H o (fun v' I' H' => v' = v ∧ I = I' ∧ H' = H) :=
 fun a w hs hw K Q hk => (hq a w hs hw).wpIn fun w' g => hk _ _ _ _ ⟨rfl, rfl, rfl⟩ (hw.garb g)
end
end Go.Tri

/-
 Calls through an interface whose kind is known.
-/
namespace Go.Tri
open Go.RowKit
section
variable {C : Cx} {E : Env} {I : Look} {H : List HA} {o : Oper}
/-- the method behind a value of such a kind -/
def MethIs (P : Program) (t : TypeId) (name : String) (f : FuncId) : Prop := ∀ (p : Option Addr) (w : World), (method (P.types.size + Made.depth) t (.pointer p) name).run P w = .ok (f, .pointer p) w
theorem run_invoke {r : Operand} {name : String} {t : TypeId} {p : Option Addr} {f : FuncId} {args : Array Operand} {ts : Array TypeId} {vs : List Value} {fn : Func} {a : Act} {w : World}
  (ho : o.op = .call { callee := .invoke r name, args := args, argTypes := ts }) (hr : a.eval r = .iface t (.pointer p)) (h1 : args.map a.eval = vs.toArray) (hm : MethIs C.P t name f)
  (hfn : C.P.funcs[f]? = some fn) (hnm : (fn.name == "runtime.NumGoroutine") = false) (hbd : fn.body.isNone = false) : (execOp a.eval o).run C.P w = .ok (.enter f (.pointer p :: vs).toArray) w := by
 simp only [execOp, ho, resolve, h1, hr]
 have h2 := hm p w
 rw [show Made.depth = 100 from rfl] at h2
 simp [invoke, callMethod, go_sem, h2, call_of hfn hnm hbd]
theorem quiet_inv {r : Operand} {name : String} {t : TypeId} {p : Option Addr} {f : FuncId} {args : Array Operand} {ts : Array TypeId} {vs : List Value} {v : Value} {fn : Func}
  (ho : o.op = .call { callee := .invoke r name, args := args, argTypes := ts }) (hr : ev E r = some (.iface t (.pointer p))) (he : evs E args.toList = some vs) (hm : MethIs C.P t name f)
  (hfn : C.P.funcs[f]? = some fn) (hnm : (fn.name == "runtime.NumGoroutine") = false) (hbd : fn.body.isNone = false)
  (hc : ∀ w, St C.w0 I H w → Pure C.P f (.pointer p :: vs) w v) : Quiet C E I H o v := by
 intro a w hs hw
 have h1 : args.map a.eval = vs.toArray := by
  rw [← hs.evs he]; cases args; simp
 refine ⟨by rw [ho]; rfl, ?_⟩
 rw [run_invoke ho (hs.ev hr) h1 hm hfn hnm hbd]
 exact ⟨rfl, hc w hw⟩
theorem eff_inv {r : Operand} {name : String} {t : TypeId} {p : Option Addr} {f : FuncId} {args : Array Operand} {ts : Array TypeId} {vs : List Value} {fn : Func} {Post : Value → Look → List HA → Prop}
  (ho : o.op = .call { callee := .invoke r name, args := args, argTypes := ts }) (hr : ev E r = some (.iface t (.pointer p))) (he : evs E args.toList = some vs) (hm : MethIs C.P t name f)
  (hfn : C.P.funcs[f]? = some fn) (hnm : (fn.name == "runtime.NumGoroutine") = false) (hbd : fn.body.isNone = false)
  (hc : ∀ w, St C.w0 I H w → Calls C.P f (.pointer p :: vs).toArray w (fun e w' => ∃ v, e = .returned v ∧ ∃ I' H', Post v I' H' ∧ St w I' H' w')) : Eff C E I H o Post := by
 intro a w hs hw K Q hk
 have h1 : args.map a.eval = vs.toArray := by
  rw [← hs.evs he]; cases args; simp
 exact wpIn_of_call (by rw [ho]; rfl) (run_invoke ho (hs.ev hr) h1 hm hfn hnm hbd) (hc w hw) fun v w'' ⟨I', H', hp, hw'⟩ => hk v I' H' w'' hp (St.rebase hw hw')
end
end Go.Tri

/-
 More of slices.
-/
namespace Go.Tri
open Go.RowKit
section
variable {C : Cx} {E : Env} {I : Look} {H : List HA} {D : List Deferred} {Q : Exit → Act → World → Prop}
/-- what the value of an owned slice is like -/
theorem l_len {ops : Array Oper} {l : List Oper} {T : TypeId} {sz n : Nat} {xs : List Value} (v : Value) [hm : InVec v T sz n xs H]
  (k : (∃ A c, v = .slice A n c ∧ (0 < n → ∀ a, A = some a → a.spot = none) ∧ (0 < n → A ≠ none)) → One v → L C ops l E I H D Q) : L C ops l E I H D Q :=
 fun a w hs hd hw => k (vec_len hw) (vec_one hw) a w hs hd hw
end
section
variable {C : Cx} {ops : Array Oper} {X Z : List Nat} {I0 : Look} {R0 : List HA} {fuel : Nat} {listed : Array Bool} {E : Env} {I : Look} {H : List HA} {D : List Deferred} {Q : Exit → Act → World → Prop}
theorem r_three (i j n : Nat) (hok : (Region.ready .any ops listed).all (fun m => Nat.beq m i || Nat.beq m j || Nat.beq m n) = true) (hne : (Region.ready .any ops listed).isEmpty = false)
  (hi : RX C ops X Z I0 R0 fuel listed E I H D Q i) (hj : RX C ops X Z I0 R0 fuel listed E I H D Q j) (hn : RX C ops X Z I0 R0 fuel listed E I H D Q n) : R C ops X Z I0 R0 (fuel + 1) listed E I H D Q := by
 intro hpl hQ a w hs hda hw w2 hb
 refine ⟨fun h => (by rw [h] at hne; cases hne), fun m hm => ?_⟩
 have := List.all_eq_true.1 hok m hm
 rw [Bool.or_eq_true, Bool.or_eq_true] at this
 rcases this with (h | h) | h
 ·obtain rfl := Nat.eq_of_beq_eq_true h
  exact hi hpl hQ a w2 hs hda (hw.garb hb)
 ·obtain rfl := Nat.eq_of_beq_eq_true h
  exact hj hpl hQ a w2 hs hda (hw.garb hb)
 ·obtain rfl := Nat.eq_of_beq_eq_true h
  exact hn hpl hQ a w2 hs hda (hw.garb hb)
end
theorem picks_st5 {H : List HA} {I : Look} {w0 w : World} {F : List HA} (a b c d e : HA) [h : Picks [a, b, c, d, e] F H] (hw : St w0 I H w) : St w0 I (a :: b :: c :: d :: e :: F) w := hw.perm h.perm
/-- a method of a pointer, as the type's row tells it -/
def methB (P : Program) (t : TypeId) (name : String) (f : FuncId) : Bool := match P.info? t with
 | some i => match i.methods.find? (fun m => m.name == name) with
  | some m => m.path.isEmpty && (match m.func with | some (g, b) => Nat.beq g f && b | none => false)
  | none => false
 | none => false
theorem meth_is {P : Program} {t e : TypeId} {name : String} {f : FuncId} (h : methB P t name f = true) (hu : P.underlying t = some (.pointer e)) : MethIs P t name f := fun p w => by
 unfold methB at h
 split at h
 ·rename_i i hi
  split at h
  ·rename_i m hm
   rw [Bool.and_eq_true] at h
   obtain ⟨h1, h2⟩ := h
   have h1 : m.path = #[] := by simpa using h1
   split at h2
   ·rename_i g b hf
    rw [Bool.and_eq_true] at h2
    obtain ⟨h2, rfl⟩ := h2
    obtain rfl := Nat.eq_of_beq_eq_true h2
    have ht : (typeInfo t).run P w = .ok i w := by simp [typeInfo, hi, go_sem]
    rw [show P.types.size + Made.depth = (P.types.size + 99) + 1 from rfl]
    unfold method
    simp [ht, hm, h1, hf, follow, receiverAt, run_underlying hu, Place.get]
   ·cases h2
  ·cases h
 ·cases h
/-- a row that does not turn any more, as a slice -/
theorem sl_row {α : Type} {f : α → List Value} {sz : Nat} {J : Look} {b n : Nat} {cs : List Value} (l : List α) (h : ∀ k u, cs[k]? = some u → CellI J b k u) (hcs : cs = (l.map f).flatten) (hn : l.length = n) (hu : ∀ c, (f c).length = sz) :
  Sl J sz (.slice (some ⟨b, 0, none⟩) n n) (l.map f) := by
 subst hcs hn
 refine ⟨⟨some ⟨b, 0, none⟩, l.length, by rw [List.length_map], by rw [List.length_map]; exact Nat.le_refl _, (fun _ a ha => by cases ha; rfl), (fun _ h => by cases h)⟩, fun i j c u hi hj => ?_⟩
 show CellI J b (0 + i * sz + j) u
 refine h _ _ ?_
 rw [Nat.zero_add]
 have hc : c.length = sz := by
  obtain ⟨a, _, rfl⟩ := List.mem_map.1 (List.mem_of_getElem? hi)
  exact hu a
 have key : ∀ (l : List (List Value)) (i : Nat), (∀ c ∈ l, c.length = sz) → l[i]? = some c → l.flatten[i * sz + j]? = some u := by
  intro l
  induction l with
  | nil => intro i _ hi; cases hi
  | cons d l ih =>
   intro i hl hi
   have hd := hl d List.mem_cons_self
   cases i with
   | zero =>
    simp only [List.getElem?_cons_zero, Option.some.injEq] at hi
    subst hi
    rw [List.flatten_cons, Nat.zero_mul, Nat.zero_add, List.getElem?_append_left (List.getElem?_eq_some_iff.1 hj).1]
    exact hj
   | succ i =>
    rw [List.getElem?_cons_succ] at hi
    rw [List.flatten_cons, Nat.add_mul, Nat.one_mul, List.getElem?_append_right (by omega), show i * sz + sz + j - d.length = i * sz + j by omega]
    exact ih i (fun x hx => hl x (List.mem_cons_of_mem _ hx)) hi
 exact key (l.map f) i (fun c hc => by obtain ⟨a, _, rfl⟩ := List.mem_map.1 hc; exact hu a) hi
end Go.Tri

/-
 Texts in order; small lemmas on slices that turn to data.
-/
namespace Go.Tri
open Go.RowKit
section
variable {C : Cx} {E : Env} {I : Look} {H : List HA} {o : Oper} {x y : Operand} {t t' : TypeId} {s s' : List UInt8}
theorem q_lss_str (ho : o.op = .binOp .lss t x y t') (hx : ev E x = some (str s)) (hy : ev E y = some (str s')) : Quiet C E I H o (.bool (Op.bytesLess s s')) :=
 quiet_bin ho hx hy fun w => by
  simp [eqGuard, str, binOp, Op.stringOp, ByteArray.toList_eq]
end
/-- a value handed on by an iterator, as an operation with an effect -/
theorem e_yield {C : Cx} {E : Env} {I : Look} {H : List HA} {o : Oper} {l i : Nat} {γ : Type} {Cd Cx : Nat → γ → Prop} {G : γ → List HA} {II : γ → Look} {xs : List (List Value)} {vs : List Value} {y : Operand} {args : Array Operand} {ts : Array TypeId} {F : List HA} {M : List HA → List HA} (g : γ)
  (ho : o.op = .call { callee := .value y, args := args, argTypes := ts }) (hy : ev E y = some (.func (.yield l) #[] #[])) (he : evs E args.toList = some vs)
  (hY : Yields C.P l Cd Cx G II xs) (hi : xs[i]? = some vs) (hc : Cd i g) (hI : I = II g) [ht : Tl (G g) F M H] :
  Eff C E I H o (fun v I' H' => ∃ (g' : γ) (b : Bool), v = .bool b ∧ (b = true → Cd (i + 1) g') ∧ (b = false → Cx (i + 1) g') ∧ Le I I' ∧ I' = II g' ∧ H' = M (G g')) := by
 intro a w hs hw K Q hk
 subst hI
 rw [ht.eq] at hw
 obtain ⟨fn, tmps, assign, body, hrun, hround⟩ := hY i vs g hi hc C.w0 F w hw
 have h1 : args.map a.eval = vs.toArray := by
  rw [← hs.evs he]; cases args; simp
 refine ⟨fun _ _ => trivial, ?_⟩
 rw [Oper.semAt_eq _ _ _ (fun c hc => by rw [ho] at hc; cases hc)]
 have hx : (execOp a.eval o).run C.P w = .ok (.round l fn tmps assign body) w := by
  simp only [execOp, ho, resolve, h1, hs.ev hy]
  simp [Deferred.ofValue, invoke, hrun]
 rw [hx]
 refine ⟨fun h => by simp at h, ?_⟩
 have hr : RoundIn (WF C.r) 0 C.P l fn tmps assign body w _ := hround
 refine hr.mono fun e w' he => ?_
 rcases he with ⟨rfl, g', h1, h2, h3⟩ | ⟨rfl, g', h1, h2, h3⟩
 ·exact hk _ _ _ w' ⟨g', true, rfl, fun _ => h1, fun h => (by cases h), h2, rfl, rfl⟩ (ht.app (G g') ▸ h3)
 ·exact hk _ _ _ w' ⟨g', false, rfl, fun h => (by cases h), fun _ => h1, h2, rfl, rfl⟩ (ht.app (G g') ▸ h3)
theorem st_freezeT {α : Type} {f : α → List Value} {l : List α} {w0 w : World} {I : Look} {T : TypeId} {sz : Nat} {v : Value} {F : List HA} (h : St w0 I (tvec T sz f v l :: F) w) (hu : ∀ c, (f c).length = sz) : ∃ J, Le I J ∧ St w0 J F w ∧ Sl J sz v (l.map f) :=
 st_freeze h (by simp) (fun cs hcs => by obtain ⟨c, _, rfl⟩ := List.mem_map.1 hcs; exact hu c)
end Go.Tri

/-
 Short steps: runs of operations that need nothing but the frame, and steps that come one behind the other.
-/
namespace Go.Tri
open Go.RowKit
/-- where a field lies within a struct -/
class FO (P : Program) where
 at' : Nat → Nat → Option Nat
 ok : ∀ t k n, at' t k = some n → ∃ (fs : Array Field) (f : Field) (m bytes : Nat) (z : Value), P.underlying t = some (.struct fs) ∧ fs[k]? = some f ∧ TI P f.type m bytes z ∧ Nat.ble 1 m = true ∧ f.offset = n
def cmpB (m n : Int) : BinOp → Option Value
 | .lss => some (.bool (decide (m < n)))
 | .leq => some (.bool (decide (m ≤ n)))
 | .gtr => some (.bool (decide (n < m)))
 | .geq => some (.bool (decide (n ≤ m)))
 | .eql => some (.bool (decide (m = n)))
 | .neq => some (.bool (decide (m ≠ n)))
 | _ => none
def lget {α : Type} : List α → Nat → Option α
 | [], _ => none
 | a :: _, 0 => some a
 | _ :: l, k + 1 => lget l k
theorem lget_eq {α : Type} : ∀ (l : List α) (k : Nat), lget l k = l[k]?
 | [], _ => by simp [lget]
 | a :: _, 0 => by simp [lget]
 | _ :: l, k + 1 => by simp [lget, lget_eq l k]
/-- an operation that needs nothing but the frame -/
def pure1 (P : Program) [FO P] (E : Env) : Op → Option Value
 | .move x => ev E x
 | .assign x => ev E x
 | .nilCheck x => match ev E x with
  | some (.pointer (some a)) => some (.pointer (some a))
  | some (.iface t v) => some (.iface t v)
  | _ => none
 | .extract x k => match ev E x with
  | some (.tuple vs) => lget vs.toList k
  | _ => none
 | .unOp .not _ x => match ev E x with
  | some (.bool b) => some (.bool (!b))
  | _ => none
 | .fieldAddr t x k => match ev E x with
  | some (.pointer (some ⟨b, off, none⟩)) => match FO.at' P t k with
   | some n => some (.pointer (some ⟨b, off + n, none⟩))
   | none => none
  | _ => none
 | .binOp op _ x y _ => match ev E x with
  | some (.int k m) => match ev E y with
   | some (.int k' n) => match decEq k k' with
    | isTrue _ => cmpB m n op
    | isFalse _ => none
   | _ => none
  | _ => none
 | _ => none
section
variable {C : Cx} {E : Env} {I : Look} {H : List HA} {o : Oper}
theorem pure1_ok [FO C.P] {v : Value} (h : pure1 C.P E o.op = some v) : Quiet C E I H o v := by
 unfold pure1 at h
 split at h
 ·rename_i x ho; exact q_move ho h
 ·rename_i x ho; exact q_assign ho h
 ·rename_i x ho
  split at h
  ·rename_i a ha; cases h; exact q_nilCheck ho ha
  ·rename_i t v ha; cases h; exact quiet_run (by rw [ho]; rfl) fun ac w hs _ => by simp [execOp, ho, hs.ev ha]
  ·cases h
 ·rename_i x k ho
  split at h
  ·rename_i vs hv; rw [lget_eq] at h; exact q_extract ho hv (by simpa using h)
  ·cases h
 ·rename_i t x ho
  split at h
  ·rename_i b hb; cases h; exact q_not ho hb
  ·cases h
 ·rename_i t x k ho
  split at h
  ·rename_i b off hx
   split at h
   ·rename_i n hn
    cases h
    obtain ⟨fs, f, m, bytes, z, h1, h2, h3, h4, rfl⟩ := FO.ok _ _ _ hn
    exact q_fieldAddr ho h1 h2 rfl h3 h4 hx
   ·cases h
  ·cases h
 ·rename_i op t x y t' ho
  split at h
  ·rename_i k m hx
   split at h
   ·rename_i k' n hy
    split at h
    case h_2 => cases h
    rename_i hk _
    subst hk
    cases op <;> first | (cases h; done) | skip
    all_goals simp only [cmpB] at h
    all_goals first | (cases h; done) | skip
    all_goals injection h with h
    all_goals subst h
    ·exact q_eql ho hx hy
    ·exact q_neq ho hx hy
    ·exact q_lss ho hx hy
    ·exact q_leq ho hx hy
    ·exact q_gtr ho hx hy
    ·exact q_geq ho hx hy
   ·cases h
  ·cases h
 ·cases h
/-- the slot of an operation that is not guarded -/
def dst1 (n : Nat) (o : Oper) : Option Nat := match o.guard, o.dst with
 | none, some d => bif Nat.blt d n then some d else none
 | _, _ => none
theorem dst1_ok {n d : Nat} (h : dst1 n o = some d) : o.guard = none ∧ o.dst = some d ∧ Nat.blt d n = true := by
 unfold dst1 at h
 split at h
 ·rename_i d' hg hd
  cases hb : Nat.blt d' n with
  | false => rw [hb] at h; cases h
  | true => rw [hb] at h; cases h; exact ⟨hg, hd, hb⟩
 ·cases h
def run1 (P : Program) [FO P] (n : Nat) (E : Env) (o : Oper) : Option (Nat × Value) := match dst1 n o with
 | some d => match pure1 P E o.op with
  | some v => some (d, v)
  | none => none
 | none => none
theorem run1_ok [FO C.P] {d : Nat} {v : Value} (h : run1 C.P C.n E o = some (d, v)) : o.guard = none ∧ o.dst = some d ∧ Nat.blt d C.n = true ∧ Quiet C E I H o v := by
 unfold run1 at h
 split at h
 ·rename_i d' hd
  split at h
  ·rename_i v' hv
   cases h
   obtain ⟨h1, h2, h3⟩ := dst1_ok hd
   exact ⟨h1, h2, h3, pure1_ok hv⟩
  ·cases h
 ·cases h
def runN (P : Program) [FO P] (n : Nat) : Nat → Env → List Oper → Option (Env × List Oper)
 | 0, E, l => some (E, l)
 | _ + 1, _, [] => none
 | k + 1, E, o :: l => match run1 P n E o with
  | some (d, v) => runN P n k ((d, v) :: E) l
  | none => none
def runA (P : Program) [FO P] (n : Nat) : Env → List Oper → Option Env
 | E, [] => some E
 | E, o :: l => match run1 P n E o with
  | some (d, v) => runA P n ((d, v) :: E) l
  | none => none
variable {D : List Deferred} {Q : Exit → Act → World → Prop} {ops : Array Oper} {K : Act → Prop}
theorem l_run [FO C.P] (k : Nat) {E' : Env} {l l' : List Oper} (h : runN C.P C.n k E l = some (E', l')) (hk : L C ops l' E' I H D Q) : L C ops l E I H D Q := by
 induction k generalizing E l with
 | zero => cases h; exact hk
 | succ k ih =>
  cases l with
  | nil => cases h
  | cons o l =>
   unfold runN at h
   split at h
   ·rename_i d v hr
    obtain ⟨h1, h2, h3, h4⟩ := run1_ok hr
    exact l_q h1 h2 h3 h4 (ih h)
   ·cases h
theorem s_run [FO C.P] (k : Nat) {E' : Env} {l l' : List Oper} (h : runN C.P C.n k E l = some (E', l')) (hk : QS C ops l' E' I H K) : QS C ops l E I H K := by
 induction k generalizing E l with
 | zero => cases h; exact hk
 | succ k ih =>
  cases l with
  | nil => cases h
  | cons o l =>
   unfold runN at h
   split at h
   ·rename_i d v hr
    obtain ⟨h1, h2, h3, h4⟩ := run1_ok hr
    exact s_q h1 h2 h3 h4 (ih h)
   ·cases h
theorem l_runA [FO C.P] {E' : Env} {l : List Oper} (h : runA C.P C.n E l = some E') (hk : N C .normal E' I H D Q) : L C ops l E I H D Q := by
 induction l generalizing E with
 | nil => cases h; exact l_nil hk
 | cons o l ih =>
  unfold runA at h
  split at h
  ·rename_i d v hr
   obtain ⟨h1, h2, h3, h4⟩ := run1_ok hr
   exact l_q h1 h2 h3 h4 (ih h)
  ·cases h
/-- a guarded operation that is wanted -/
def dstG (ops : Array Oper) (n : Nat) (E : Env) (o : Oper) : Option Nat := match o.guard, o.dst with
 | some (j, b), some d => match lget ops.toList j with
  | some oj => match oj.dst with
   | some dj => match get E dj with
    | some (.bool b') => bif b == b' && Nat.blt d n then some d else none
    | _ => none
   | none => none
  | none => none
 | _, _ => none
def runG (P : Program) [FO P] (ops : Array Oper) (n : Nat) : Nat → Env → List Oper → Option (Env × List Oper)
 | 0, E, l => some (E, l)
 | _ + 1, _, [] => none
 | k + 1, E, o :: l => match dstG ops n E o with
  | some d => match pure1 P E o.op with
   | some v => runG P ops n k ((d, v) :: E) l
   | none => none
  | none => none
theorem dstG_ok {d : Nat} (h : dstG ops C.n E o = some d) : ∃ j b oj dj, o.guard = some (j, b) ∧ ops[j]? = some oj ∧ oj.dst = some dj ∧ get E dj = some (.bool b) ∧ o.dst = some d ∧ Nat.blt d C.n = true := by
 unfold dstG at h
 split at h
 ·rename_i j b d' hg hd
  split at h
  ·rename_i oj hj
   split at h
   ·rename_i dj hdj
    split at h
    ·rename_i b' hb
     cases hc : (b == b' && Nat.blt d' C.n) with
     | false => rw [hc] at h; cases h
     | true =>
      rw [hc] at h
      cases h
      rw [Bool.and_eq_true, beq_iff_eq] at hc
      obtain ⟨rfl, hn⟩ := hc
      rw [lget_eq] at hj
      exact ⟨j, b, oj, dj, hg, by simpa using hj, hdj, hb, hd, hn⟩
    ·cases h
   ·cases h
  ·cases h
 ·cases h
theorem sg {d : Nat} {v : Value} {rest : List Oper} (h : dstG ops C.n E o = some d) (hq : Quiet C E I H o v) (k : QS C ops rest ((d, v) :: E) I H K) : QS C ops (o :: rest) E I H K := by
 obtain ⟨j, b, oj, dj, h1, h2, h3, h4, h5, h6⟩ := dstG_ok h
 exact s_g h1 h2 h3 h4 h5 h6 hq k
theorem sq {d : Nat} {v : Value} {rest : List Oper} (h : dst1 C.n o = some d) (hq : Quiet C E I H o v) (k : QS C ops rest ((d, v) :: E) I H K) : QS C ops (o :: rest) E I H K := by
 obtain ⟨h1, h2, h3⟩ := dst1_ok h
 exact s_q h1 h2 h3 hq k
theorem lq {d : Nat} {v : Value} {rest : List Oper} (h : dst1 C.n o = some d) (hq : Quiet C E I H o v) (k : L C ops rest ((d, v) :: E) I H D Q) : L C ops (o :: rest) E I H D Q := by
 obtain ⟨h1, h2, h3⟩ := dst1_ok h
 exact l_q h1 h2 h3 hq k
theorem le {d : Nat} {Post : Value → Look → List HA → Prop} {rest : List Oper} (h : dst1 C.n o = some d) (he : Eff C E I H o Post) (k : ∀ v I' H', Post v I' H' → L C ops rest ((d, v) :: E) I' H' D Q) : L C ops (o :: rest) E I H D Q := by
 obtain ⟨h1, h2, h3⟩ := dst1_ok h
 exact l_e h1 h2 h3 he k
theorem s_runG [FO C.P] (k : Nat) {E' : Env} {l l' : List Oper} (h : runG C.P ops C.n k E l = some (E', l')) (hk : QS C ops l' E' I H K) : QS C ops l E I H K := by
 induction k generalizing E l with
 | zero => cases h; exact hk
 | succ k ih =>
  cases l with
  | nil => cases h
  | cons o l =>
   unfold runG at h
   split at h
   ·rename_i d hr
    split at h
    ·rename_i v hv
     exact sg hr (pure1_ok hv) (ih h)
    ·cases h
   ·cases h
/-! ### steps one behind the other -/
theorem tr {id : Nat} {l : List Oper} {y : Code} (h : L C l.toArray l E I H D (Exit.then (y.wpIn (WF C.r) 0 C.P Q) Q)) : T C (.seq (.region id l.toArray false) y) E I H D Q := t_seq (t_region h)
theorem ln {y : Code} (h : T C y E I H D Q) : L C ops [] E I H D (Exit.then (y.wpIn (WF C.r) 0 C.P Q) Q) := l_nil (n_then h)
theorem lnt {x y : Code} (h : T C x E I H D (Exit.then (y.wpIn (WF C.r) 0 C.P Q) Q)) : L C ops [] E I H D (Exit.then ((Code.seq x y).wpIn (WF C.r) 0 C.P Q) Q) := l_nil (n_then (t_seq h))
/-- a whole region, and what is behind it -/
theorem trun [FO C.P] {id : Nat} {l : List Oper} {y : Code} {E' : Env} (h : runA C.P C.n E l = some E') (hk : T C y E' I H D Q) : T C (.seq (.region id l.toArray false) y) E I H D Q := t_seq (t_region (l_runA h (n_then hk)))
theorem lrun [FO C.P] {l : List Oper} {y : Code} {E' : Env} (h : runA C.P C.n E l = some E') (hk : T C y E' I H D Q) : L C ops l E I H D (Exit.then (y.wpIn (WF C.r) 0 C.P Q) Q) := l_runA h (n_then hk)
theorem tskip {y : Code} (h : T C y E I H D Q) : T C .skip E I H D (Exit.then (y.wpIn (WF C.r) 0 C.P Q) Q) := t_skip (n_then h)
/-- what is asked at a return, with all that stands around it taken away -/
class Peel (Q : Exit → Act → World → Prop) (Q' : outParam (Exit → Act → World → Prop)) : Prop where
 ok : ∀ a w, Q' .ret a w → Q .ret a w
instance (priority := low) peel0 {Q : Exit → Act → World → Prop} : Peel Q Q := ⟨fun _ _ h => h⟩
instance peelT {K : Act → World → Prop} {Q Q' : Exit → Act → World → Prop} [h : Peel Q Q'] : Peel (Exit.then K Q) Q' := ⟨fun a w k => h.ok a w k⟩
instance peelB {id : Nat} {Q Q' : Exit → Act → World → Prop} [h : Peel Q Q'] : Peel (Exit.inBlock id Q) Q' := ⟨fun a w k => h.ok a w k⟩
theorem tret {Q' : Exit → Act → World → Prop} [h : Peel Q Q'] (k : N C .ret E I H D Q') : T C .ret E I H D Q := t_ret fun a w hs hd hw => h.ok a w (k a w hs hd hw)
/-! ### some slots of a frame -/
def pickE (E : Env) : List Nat → Option Env
 | [] => some []
 | k :: ks => match get E k with
  | some v => match pickE E ks with
   | some E' => some ((k, v) :: E')
   | none => none
  | none => none
theorem pickE_sub {E' : Env} : ∀ (ks : List Nat), pickE E ks = some E' → ∀ {E'' : Env}, E' = E'' → Sub E E''
 | [], h, _, e => by cases h; subst e; exact sub_nil
 | k :: ks, h, _, e => by
  unfold pickE at h
  split at h
  ·rename_i v hv
   split at h
   ·rename_i E1 h1
    cases h; subst e
    exact sub_cons hv (pickE_sub ks h1 rfl)
   ·cases h
  ·cases h
theorem sub_rfl {E' : Env} (h : pickE E (E'.map (·.1)) = some E') : Sub E E' := pickE_sub _ h rfl
theorem lnr {id : Nat} {l : List Oper} {y z : Code} (h : L C l.toArray l E I H D (Exit.then (y.wpIn (WF C.r) 0 C.P (Exit.then (z.wpIn (WF C.r) 0 C.P Q) Q)) (Exit.then (z.wpIn (WF C.r) 0 C.P Q) Q))) : L C ops [] E I H D (Exit.then ((Code.seq (.seq (.region id l.toArray false) y) z).wpIn (WF C.r) 0 C.P Q) Q) := l_nil (n_then (t_seq (tr h)))
theorem lnr1 {id : Nat} {l : List Oper} {y : Code} (h : L C l.toArray l E I H D (Exit.then (y.wpIn (WF C.r) 0 C.P Q) Q)) : L C ops [] E I H D (Exit.then ((Code.seq (.region id l.toArray false) y).wpIn (WF C.r) 0 C.P Q) Q) := l_nil (n_then (tr h))
theorem sdn {y : Code} (h : T C y E I H D Q) : QS C ops [] E I H (Done C I H D (Exit.then (y.wpIn (WF C.r) 0 C.P Q) Q)) := s_done (n_then h)
theorem tq {id : Nat} {l : List Oper} {y : Code} (hs : QS C l.toArray l E I H (Done C I H D (Exit.then (y.wpIn (WF C.r) 0 C.P Q) Q))) : T C (.seq (.region id l.toArray false) y) E I H D Q := t_seq (t_qreg hs)
/-! ### a program's types and functions -/
class LT (P : Program) (t : Nat) : Prop where
 ok : ∃ d, P.underlying t = some d ∧ notAgg d = true
class FnOk (P : Program) (f : Nat) : Prop where
 ok : ∃ fn, P.funcs[f]? = some fn ∧ (fn.name == "runtime.NumGoroutine") = false ∧ fn.body.isNone = false
class StrT (P : Program) (t : Nat) : Prop where
 ok : P.underlying t = some .string
theorem q_ld {x : Operand} {t T : TypeId} {b off : Nat} {u : Value} {cs : List Value} (ho : o.op = .load t x) (hx : ev E x = some (.pointer (some ⟨b, off, none⟩))) [hl : LT C.P t] [hm : InRow b T cs H] (hu : cs[off]? = some u) : Quiet C E I H o u := by
 obtain ⟨d, h1, h2⟩ := hl.ok
 exact q_load_row ho h1 h2 hx hu
theorem q_ldr {x : Operand} {t : TypeId} {b off : Nat} {u : Value} (ho : o.op = .load t x) (hx : ev E x = some (.pointer (some ⟨b, off, none⟩))) [hl : LT C.P t] (hr : Rd C.w0 I H b off u) : Quiet C E I H o u := by
 obtain ⟨d, h1, h2⟩ := hl.ok
 exact q_load ho h1 h2 hx hr
theorem lec {d : Nat} {rest : List Oper} {g : Operand} {f : FuncId} {args : Array Operand} {ts : Array TypeId} {vs : List Value} {Post : Value → Look → List HA → Prop} (h : dst1 C.n o = some d)
  (ho : o.op = .call { callee := .value g, args := args, argTypes := ts }) (hg : ev E g = some (.func (.func f) #[] #[])) (he : evs E args.toList = some vs) [hf : FnOk C.P f]
  (hc : ∀ w, St C.w0 I H w → Calls C.P f vs.toArray w (fun e w' => ∃ v, e = .returned v ∧ ∃ I' H', Post v I' H' ∧ St w I' H' w'))
  (k : ∀ v I' H', Post v I' H' → L C ops rest ((d, v) :: E) I' H' D Q) : L C ops (o :: rest) E I H D Q := by
 obtain ⟨fn, h1, h2, h3⟩ := hf.ok
 exact le h (eff_call ho hg he h1 h2 h3 hc) k
theorem qc {g : Operand} {f : FuncId} {args : Array Operand} {ts : Array TypeId} {vs : List Value} {v : Value}
  (ho : o.op = .call { callee := .value g, args := args, argTypes := ts }) (hg : ev E g = some (.func (.func f) #[] #[])) (he : evs E args.toList = some vs) [hf : FnOk C.P f]
  (hc : ∀ w, St C.w0 I H w → Pure C.P f vs w v) : Quiet C E I H o v := by
 obtain ⟨fn, h1, h2, h3⟩ := hf.ok
 exact quiet_call ho hg he h1 h2 h3 hc
theorem ec {g : Operand} {f : FuncId} {args : Array Operand} {ts : Array TypeId} {vs : List Value} {Post : Value → Look → List HA → Prop}
  (ho : o.op = .call { callee := .value g, args := args, argTypes := ts }) (hg : ev E g = some (.func (.func f) #[] #[])) (he : evs E args.toList = some vs) [hf : FnOk C.P f]
  (hc : ∀ w, St C.w0 I H w → Calls C.P f vs.toArray w (fun e w' => ∃ v, e = .returned v ∧ ∃ I' H', Post v I' H' ∧ St w I' H' w')) : Eff C E I H o Post := by
 obtain ⟨fn, h1, h2, h3⟩ := hf.ok
 exact eff_call ho hg he h1 h2 h3 hc
/-! ### drawn regions -/
def rok (ops : Array Oper) : Array Bool → List Nat → Bool
 | _, [] => true
 | li, i :: is => okQ ops li i && rok ops (li.setIfInBounds i true) is
def rset : Array Bool → List Nat → Array Bool
 | li, [] => li
 | li, i :: is => rset (li.setIfInBounds i true) is
def runR (P : Program) [FO P] (n : Nat) (l : List Oper) : Env → List Nat → Option Env
 | E, [] => some E
 | E, i :: is => match lget l i with
  | some o => match run1 P n E o with
   | some (d, v) => runR P n l ((d, v) :: E) is
   | none => none
  | none => none
theorem run1_any {P : Program} [FO P] {n : Nat} {d : Nat} {v : Value} (h : run1 P n E o = some (d, v)) (r : Option Nat) (w1 : World) : Quiet ⟨P, r, n, w1⟩ E (fun _ => none) [] o v := (run1_ok (C := ⟨P, r, n, w1⟩) h).2.2.2
theorem r_run {X Z : List Nat} {I0 : Look} {R0 : List HA} [FO C.P] (is : List Nat) {fuel f : Nat} {listed : Array Bool} {E' : Env} (hok : rok ops listed is = true) (h : runR C.P C.n ops.toList E is = some E') (hf : Nat.sub fuel is.length = f) (hfl : Nat.ble is.length fuel = true)
  (k : R C ops X Z I0 R0 f (rset listed is) E' I H D Q) : R C ops X Z I0 R0 fuel listed E I H D Q := by
 induction is generalizing E listed fuel f with
 | nil => cases h; cases hf; exact k
 | cons i is ih =>
  have hfl : is.length + 1 ≤ fuel := by simpa using hfl
  obtain ⟨fuel, rfl⟩ : ∃ m, fuel = m + 1 := ⟨fuel - 1, by omega⟩
  simp only [rok, Bool.and_eq_true] at hok
  unfold runR at h
  split at h
  ·rename_i o hi
   split at h
   ·rename_i d v hr
    obtain ⟨h1, h2, h3, _⟩ := run1_ok (I := I) (H := H) hr
    rw [lget_eq] at hi
    have hf2 : fuel + 1 - (is.length + 1) = f := hf
    exact r_qf i hok.1 (by simpa using hi) h1 h2 h3 (fun w1 => run1_any hr C.r w1) (ih hok.2 h (show fuel - is.length = f by omega) (by simpa using (show is.length ≤ fuel by omega)) k)
   ·cases h
  ·cases h
def okX2 (ops : Array Oper) (X : List Nat) (listed : Array Bool) (i : Nat) : Bool := okX ops X listed i && !(Region.ready .any ops listed).isEmpty
theorem re {X Z : List Nat} {I0 : Look} {R0 : List HA} {fuel : Nat} {listed : Array Bool} (i : Nat) {d : Nat} {Post : Value → Look → List HA → Prop} (hok : okX2 ops X listed i = true) (hi : ops[i]? = some o) (hle : Le I0 I)
  (hd : dst1 C.n o = some d) (he : Eff C E I H o Post)
  (k : ∀ v I' H', Post v I' H' → Le I I' ∧ (Z.contains i = true ∨ SubH H' R0) ∧ R C ops X Z I0 R0 fuel (listed.setIfInBounds i true) ((d, v) :: E) I' H' D Q) : R C ops X Z I0 R0 (fuel + 1) listed E I H D Q := by
 obtain ⟨h1, h2, h3⟩ := dst1_ok hd
 rw [okX2, Bool.and_eq_true, Bool.not_eq_true'] at hok
 exact r_e i hok.1 hok.2 hi hle h1 h2 h3 he k
theorem rq1 {X Z : List Nat} {I0 : Look} {R0 : List HA} {fuel : Nat} {listed : Array Bool} (i : Nat) {v : Value} {d : Nat} (hok : (okQ ops listed i && waitsAll ops X i) = true) (hi : ops[i]? = some o)
  (hd : dst1 C.n o = some d) (hq : Quiet C E I0 H o v)
  (k : R C ops X Z I0 R0 fuel (listed.setIfInBounds i true) ((d, v) :: E) I0 H D Q) : R C ops X Z I0 R0 (fuel + 1) listed E I0 H D Q := by
 obtain ⟨h1, h2, h3⟩ := dst1_ok hd
 exact r_q1 i hok hi (Le.refl _) h1 h2 h3 hq k
theorem rq0 {X Z : List Nat} {I0 : Look} {R0 : List HA} {fuel : Nat} {listed : Array Bool} (i : Nat) {v : Value} {d : Nat} (hok : (okQ ops listed i && waitsAll ops Z i) = true) (hi : ops[i]? = some o) (hle : Le I0 I) [hsub : SubC H R0]
  (hd : dst1 C.n o = some d) (hq : ∀ I', Le I0 I' → Quiet C E I' R0 o v)
  (k : R C ops X Z I0 R0 fuel (listed.setIfInBounds i true) ((d, v) :: E) I H D Q) : R C ops X Z I0 R0 (fuel + 1) listed E I H D Q := by
 obtain ⟨h1, h2, h3⟩ := dst1_ok hd
 exact r_q0 i hok hi hle h1 h2 h3 hq k
theorem rqf {X Z : List Nat} {I0 : Look} {R0 : List HA} {fuel : Nat} {listed : Array Bool} (i : Nat) {v : Value} {d : Nat} (hok : okQ ops listed i = true) (hi : ops[i]? = some o)
  (hd : dst1 C.n o = some d) (hq : ∀ w1 : World, Quiet { C with w0 := w1 } E (fun _ => none) [] o v)
  (k : R C ops X Z I0 R0 fuel (listed.setIfInBounds i true) ((d, v) :: E) I H D Q) : R C ops X Z I0 R0 (fuel + 1) listed E I H D Q := by
 obtain ⟨h1, h2, h3⟩ := dst1_ok hd
 exact r_qf i hok hi h1 h2 h3 hq k
end
end Go.Tri
