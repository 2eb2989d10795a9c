/-
 Quotients, signs turned, bits.
-/
import Derived.Test.YthjgbalcngkjjaaGreatDoorTriB5
import Derived.Stop.IfaceNil
import Derived.Sort.Grow
import Derived.WalkSmall
import Derived.ScopeJumps
import Derived.Lib.OthersKept
import Derived.Lib.AppendStr
import Derived.RecoverIn
import Derived.RangeFuncLeaves
import Derived.WideMake
import Derived.Maps.RangeRun
namespace Go.Tri
open Go.RowKit
theorem Ps {p : UInt8 → Prop} (h : ∀ n : Fin 256, p (UInt8.ofNat n.val)) (c : UInt8) : p c := by
 have := h ⟨c.toNat, c.toNat_lt⟩
 simpa using this
section
variable {C : Cx} {E : DJ} {I : AU} {H : List HA} {o : Oper} {x y : Operand} {t t' : TypeId} {k : IntKind} {m n : Int}
theorem AGy (ho : o.op = .binOp .quo t x y t') (hx : ev E x = some (.int k m)) (hy : ev E y = some (.int k n)) (h : n ≠ 0) : BS C E I H o (.int k (k.wrap (m.tdiv n))) :=
 Cl ho hx hy fun w => by simp [go_sem, Op.intDiv, h]
theorem Ks (ho : o.op = .binOp .quo t x y t') (hx : ev E x = some (.int .i64 m)) (hy : ev E y = some (.int .i64 n)) (h : n ≠ 0) (hr : -9223372036854775808 ≤ m.tdiv n ∧ m.tdiv n ≤ 9223372036854775807) : BS C E I H o (.int .i64 (m.tdiv n)) := by
 have := AGy (C := C) (I := I) (H := H) ho hx hy h
 rwa [IntWalk.i64_in _ hr] at this
theorem ACN (ho : o.op = .binOp .mul t x y t') (hx : ev E x = some (.int .i64 m)) (hy : ev E y = some (.int .i64 n)) (h : -9223372036854775808 ≤ m * n ∧ m * n ≤ 9223372036854775807) : BS C E I H o (.int .i64 (m * n)) := by
 have := AHb (C := C) (I := I) (H := H) ho hx hy
 rwa [IntWalk.i64_in _ h] at this
theorem AIj (ho : o.op = .unOp .neg t x) (hx : ev E x = some (.int k m)) : BS C E I H o (.int k (k.wrap (-m))) :=
 Bk (by rw [ho]; rfl) fun a w hs _ => by simp [execOp, ho, hs.ev hx, Op.unary, Op.intArith]
theorem VF (ho : o.op = .unOp .neg t x) (hx : ev E x = some (.int .i64 m)) (h : -9223372036854775808 ≤ -m ∧ -m ≤ 9223372036854775807) : BS C E I H o (.int .i64 (-m)) := by
 have := AIj (C := C) (I := I) (H := H) ho hx
 rwa [IntWalk.i64_in _ h] at this
theorem VC {c d : UInt8} (ho : o.op = .binOp .or t x y t') (hx : ev E x = some (u8 c)) (hy : ev E y = some (u8 d)) : BS C E I H o (u8 (c ||| d)) :=
 Cl ho hx hy fun w => by
  have h : ∀ e : UInt8, IntKind.u8.wrap (e.toNat : Int) = (e.toNat : Int) := Ps (by decide +kernel)
  simp [u8, go_sem, Op.intBits, eqGuard]
  exact h (c ||| d)
theorem VH (n' : Nat) : IntKind.u8.wrap (n' : Int) = ((n' % 256 : Nat) : Int) := by
 simp [IntKind.wrap, IntKind.signed, IntKind.bits]
theorem Oz (n' : Nat) {d : TypeDesc} (ho : o.op = .convert t t' x) (hs : C.P.underlying t = some d) (hd : C.P.underlying t' = some (.int .u8)) (hx : ev E x = some (.int k m)) (hr : m = (n' : Int)) : BS C E I H o (u8 (UInt8.ofNat n')) := by
 have e : IntKind.u8.wrap m = ((UInt8.ofNat n').toNat : Int) := by
  rw [hr, UInt8.toNat_ofNat', VH]
 exact N2 ho hs hd hx e
theorem Z7 {c : UInt8} (b : Nat) (ho : o.op = .binOp .sub t x y t') (hx : ev E x = some (u8 c)) (hy : ev E y = some (.int .u8 (b : Int))) (h : b ≤ c.toNat) : BS C E I H o (.int .u8 ((c.toNat - b : Nat) : Int)) := by
 have e : IntKind.u8.wrap ((c.toNat : Int) - (b : Int)) = ((c.toNat - b : Nat) : Int) := by
  have hc := c.toNat_lt
  have := VH (c.toNat - b)
  rw [Nat.mod_eq_of_lt (by omega)] at this
  rw [← this]; congr 1; omega
 have := ADD (C := C) (I := I) (H := H) ho hx hy
 rw [e] at this
 exact this
end
end Go.Tri

namespace Go.Tri
open Go.RowKit
def Ss (e : Value) (b : Bool) : Prop := (b = false ∧ e = .nilIface) ∨ (b = true ∧ ∃ u p, e = .iface u p)
theorem Ss.one {e : Value} {b : Bool} (h : Ss e b) : Lh e := by
 rcases h with ⟨_, rfl⟩ | ⟨_, u, p, rfl⟩ <;> exact ⟨rfl, rfl⟩
section
variable {C : Cx} {E : DJ} {I : AU} {H : List HA} {o : Oper} {x : Operand} {t t' : TypeId} {e : Value} {b : Bool}
theorem OK (ho : o.op = .binOp .neq t x (.const .nilIface) t') (ht : C.P.isIface t = true) (hx : ev E x = some e) (hb : Ss e b) : BS C E I H o (.bool b) :=
 Cl ho hx rfl fun w => by
  rcases hb with ⟨rfl, rfl⟩ | ⟨rfl, u, p, rfl⟩
  ·simp [eqGuard, run_neq_nil_nil_at w t ht]
  ·simp [eqGuard, run_neq_iface_nil w t ht]
theorem VV {y : Operand} {tt : TypeId} {k k' : IntKind} {m n : Int} (ho : o.op = .call { callee := .builtin .min, args := #[x, y], argTypes := #[t, tt] }) (hx : ev E x = some (.int k m)) (hy : ev E y = some (.int k' n)) : BS C E I H o (.int k (min m n)) :=
 Hh ho (vs := [.int k m, .int k' n]) (by simp [evs, hx, hy]) fun cs w => by
  have h := Go.run_min_int2 (P := C.P) w #[t, tt] o.type k k' m n
  have e : (if n < m then n else m) = min m n := by rw [Int.min_def]; split <;> split <;> omega
  rw [e] at h
  simp [builtin, h]
end
theorem Um (w : World) (os : Array Obj) : Below w.heap.size w (Go.Sort.grow w os) :=
 ⟨rfl, rfl, rfl, by simp [Go.Sort.grow], fun k hk => by
  show (w.heap ++ os)[k]? = _
  rw [Array.getElem?_append, if_pos hk]⟩
theorem SL (w : World) (n : Nat) (os : Array Obj) : Below w.heap.size w (Go.Sort.grow (w.drewN n) os) :=
 (below_drewN (Below.refl _ w) n).trans (Um (w.drewN n) os)
end Go.Tri

namespace Go.Tri
open Go.RowKit
section
variable {C : Cx} {E : DJ} {I : AU} {H : List HA} {D : List Deferred} {Q : Exit → Act → World → Prop}
theorem Uz {l : Nat} (h : N C .normal E I H D Q) : T C (.label l) E I H D Q := fun a w hs hd hw => wpIn_label (h a w hs hd hw)
theorem Qg {l : Nat} (h : N C (.goto l) E I H D Q) : T C (.goto l) E I H D Q := fun a w hs hd hw => wpIn_goto (h a w hs hd hw)
theorem QI {c : Code} (hr : C.r = none) (h : T C c E I H D (Exit.noGoto Q)) : T C (.scope c) E I H D Q := by
 intro a w hs hd hw
 have := h a w hs hd hw
 rw [hr, M9, wpIn_wide] at *
 exact wp_scope_straight this
theorem D4 (h : N C .ret E I H D Q) : N C .ret E I H D (Exit.noGoto Q) := h
theorem HP {K : Act → World → Prop} {l : Nat} (h : N C (.goto l) E I H D Q) : N C (.goto l) E I H D (Exit.then K Q) := h
theorem Gm {id l : Nat} (h : N C (.goto l) E I H D Q) : N C (.goto l) E I H D (Exit.inBlock id Q) := h
theorem IU {l : Nat} {J : Act → World → Prop} (h : N C .ret E I H D Q) : N C .ret E I H D (Exit.jump l J Q) := h
theorem Ry {P : Program} {ι : Type} {c rest : Code} {a : Act} {w : World} (l : Nat) (J : ι → Act → World → Prop) (μ : ι → Nat) (hf : findLabel c l = some rest) (i0 : ι) (h0 : J i0 a w)
  (first : ∀ a w, J i0 a w → c.wp P (Exit.jump l (fun a' w' => ∃ j, μ j < μ i0 ∧ J j a' w') Q) a w)
  (pass : ∀ i a w, J i a w → rest.wp P (Exit.jump l (fun a' w' => ∃ j, μ j < μ i ∧ J j a' w') Q) a w) : (Code.scope c).wp P Q a w := by
 intro b k cs
 have hg : gotoIn l (.inScope c :: k) = some (.code rest :: .inScope c :: k) := by simp [gotoIn, hf]
 have key : ∀ n i a w, μ i = n → J i a w → ∃ e a' w', Q e a' w' ∧ Arrives P (lone (b.at a (.code rest :: .inScope c :: k)) cs w) b k cs e a' w' := by
  intro n
  induction n using Nat.strongRecOn with
  | _ n ih =>
   intro i a w hn hJ
   obtain ⟨e, a₁, w₁, hq, HD⟩ := pass i a w hJ b (.inScope c :: k) cs
   cases e with
   | normal => exact ⟨.normal, a₁, w₁, hq, Steps.trans HD (.one step_inScope)⟩
   | exit id => exact ⟨.exit id, a₁, w₁, hq, fun k' hk => HD k' (by simp [exitTo, hk])⟩
   | goto l' =>
    obtain ⟨rfl, j, FA, hJ'⟩ := hq
    obtain ⟨e₂, a₂, w₂, hq₂, harr₂⟩ := ih _ (by omega) j a₁ w₁ rfl hJ'
    exact ⟨e₂, a₂, w₂, hq₂, .of_steps (HD _ hg) harr₂⟩
   | ret => exact ⟨_, a₁, w₁, hq, HD⟩
   | panic ch => exact ⟨_, a₁, w₁, hq, HD⟩
   | outgrown => exact ⟨_, a₁, w₁, hq, HD⟩
 obtain ⟨e, a₁, w₁, hq, HD⟩ := first a w h0 b (.inScope c :: k) cs
 cases e with
 | normal => exact ⟨.normal, a₁, w₁, hq, .head step_scope (Steps.trans HD (.one step_inScope))⟩
 | exit id => exact ⟨.exit id, a₁, w₁, hq, fun k' hk => .head step_scope (HD k' (by simp [exitTo, hk]))⟩
 | goto l' =>
  obtain ⟨rfl, j, _, hJ'⟩ := hq
  obtain ⟨e₂, a₂, w₂, hq₂, harr₂⟩ := key _ j a₁ w₁ rfl hJ'
  exact ⟨e₂, a₂, w₂, hq₂, .of_steps (.head step_scope (HD _ hg)) harr₂⟩
 | ret => exact ⟨_, a₁, w₁, hq, .of_steps (.one step_scope) HD⟩
 | panic ch => exact ⟨_, a₁, w₁, hq, .of_steps (.one step_scope) HD⟩
 | outgrown => exact ⟨_, a₁, w₁, hq, .of_steps (.one step_scope) HD⟩
def AIU {ι : Type} (C : Cx) (Cd : ι → Prop) (EV : ι → DJ) (II : ι → AU) (HI : ι → List HA) (D : List Deferred) (j : ι) (a : Act) (w : World) : Prop :=
 Cd j ∧ G2 (EV j) C.n a.tmps ∧ a.defers = D ∧ St C.w0 (II j) (HI j) w
def Xw {ι : Type} (C : Cx) (Cd : ι → Prop) (μ : ι → Nat) (EV : ι → DJ) (II : ι → AU) (HI : ι → List HA) (D : List Deferred) (i : ι) (a : Act) (w : World) : Prop :=
 ∃ j, μ j < μ i ∧ AIU C Cd EV II HI D j a w
theorem Xc {ι : Type} {c rest : Code} (l : Nat) (hr : C.r = none) (hf : findLabel c l = some rest) (Cd : ι → Prop) (μ : ι → Nat) (EV : ι → DJ) (E0 : DJ) (II : ι → AU) (HI : ι → List HA) (i0 : ι) (hc : Cd i0) (he : Kd E (EV i0)) (TU : Kd E E0)
  (hh : ∀ w, St C.w0 I H w → St C.w0 (II i0) (HI i0) w)
  (first : ∀ i, Cd i → T C c (EV i ++ E0) (II i) (HI i) D (Exit.jump l (Xw C Cd μ (fun i => EV i ++ E0) II HI D i) Q))
  (pass : ∀ i, Cd i → T C rest (EV i ++ E0) (II i) (HI i) D (Exit.jump l (Xw C Cd μ (fun i => EV i ++ E0) II HI D i) Q)) : T C (.scope c) E I H D Q := by
 intro a w hs hd hw
 rw [hr, M9, wpIn_wide]
 refine Ry l (AIU C Cd (fun i => EV i ++ E0) II HI D) μ hf i0 ⟨hc, hs.sub (LO he TU), hd, hh w hw⟩ ?_ ?_
 ·intro a w ⟨h1, h2, h3, h4⟩
  have := first i0 h1 a w h2 h3 h4
  rw [hr, M9, wpIn_wide] at this
  exact this
 ·intro i a w ⟨h1, h2, h3, h4⟩
  have := pass i h1 a w h2 h3 h4
  rw [hr, M9, wpIn_wide] at this
  exact this
theorem M7 {ι : Type} {l : Nat} {Cd : ι → Prop} {μ : ι → Nat} {EV : ι → DJ} {E0 : DJ} {II : ι → AU} {HI : ι → List HA} {i : ι} (j : ι) (hc : Cd j) (hm : μ j < μ i) (he : Kd E (EV j)) (TU : Kd E E0)
  (hh : ∀ w, St C.w0 I H w → St C.w0 (II j) (HI j) w) : N C (.goto l) E I H D (Exit.jump l (Xw C Cd μ (fun i => EV i ++ E0) II HI D i) Q) :=
 fun a w hs hd hw => ⟨rfl, j, hm, hc, hs.sub (LO he TU), hd, hh w hw⟩
end
end Go.Tri

namespace Go.Tri
open Go.RowKit
theorem Xf {C : Cx} {E : DJ} {I : AU} {H : List HA} {o : Oper} {p x : Operand} {t T : TypeId} {k sz n bytes : Nat} {v u z : Value} {xs : List Value} {F : List HA} (ho : o.op = .store t p x) (hi : TI C.P t 1 bytes z)
  (hp : ev E p = some (.pointer (some ⟨(GN v).block, (GN v).off + k, none⟩))) (hx : ev E x = some u) (h1 : Lh u) [hpk : D0 v T sz n xs F H] (FA : k < xs.length) :
  I9 C E I H o (fun _ I' H' => I = I' ∧ H' = PU v T sz n (xs.set k u) :: F) := by
 intro a w hs hw K Q hk
 have hw' := hw.perm hpk.pick
 obtain ⟨hl, hv⟩ : Fz v T sz n xs (BF w) := hw'.sat _ (List.mem_cons_self)
 rcases hv with ⟨rfl, rfl⟩ | ⟨g, cap, cur, rfl, hg, hn, hc, Lj, Js⟩
 ·rw [Nat.zero_mul] at hl; omega
 ·have hb : w.heap[g]? = some (.cells cur T (0, 0)) := hg
  have Ec : n * sz ≤ cap * sz := Nat.mul_le_mul_right _ hn
  have AEh : cur = cur.toList.toArray := by simp
  have GO : k < cur.toList.length := by
   have : cur.toList.length = cur.size := by simp
   omega
  rw [AEh] at hb
  have AMR := F1 (off := k) (v := u) hb
  refine Ff (by rw [ho]; rfl) ?_ (hk undef I _ _ ⟨rfl, rfl⟩ (hw'.turn (w' := w.setCell ⟨g, k, none⟩ u) rfl rfl rfl (by simp) (fun j _ hj => Below.heap_setCell _ _ _ _ (fun e => hj (by rw [e]; rfl))) ?_ (.inl rfl)))
  ·simp only [execOp, ho, hs.ev hp, hs.ev hx, Instr.storeAt, Instr.sureAddr, storeVar, h1.1]
   simp [GN, hi.sizeOf, storeCells, Addr.add_zero', KU h1.2 hb GO]
  ·refine ⟨by rw [List.length_set]; exact hl, .inr ⟨g, cap, (cur.toList.set k u).toArray, rfl, AMR, hn, hc, by simpa using Lj, ?_⟩⟩
   rw [← Js]
   simp only [List.take_set]
theorem Qw {α : Type} {f : α → List Value} {sz : Nat} (hu : ∀ c, (f c).length = sz) : ∀ {l : List α} {i j : Nat} {d e : α} {u : Value}, i < l.length → j < sz → (f (nth l i d)).set j u = f e → ((l.map f).flatten).set (i * sz + j) u = ((l.set i e).map f).flatten
 | [], _, _, _, _, _, h, _, _ => by simp at h
 | c :: l, 0, j, d, e, u, h, hj, he => by
  have he' : (f c).set j u = f e := he
  rw [List.map_cons, List.flatten_cons, List.set_append_left _ _ (by rw [hu]; omega), List.set_cons_zero, List.map_cons, List.flatten_cons, Nat.zero_mul, Nat.zero_add, he']
 | c :: l, i + 1, j, d, e, u, h, hj, he => by
  rw [List.map_cons, List.flatten_cons, List.set_append_right _ _ (by rw [hu, Nat.add_mul]; omega), List.set_cons_succ, List.map_cons, List.flatten_cons]
  congr 1
  rw [hu, show (i + 1) * sz + j - sz = i * sz + j by rw [Nat.add_mul]; omega]
  exact Qw hu (d := d) (by simpa using h) hj he
def RV (C : Cx) (E : DJ) (F : List HA) (I : AU) (rv : ResultVar) (v : Value) : Prop := ∀ (τ : Array Value) (w : World), G2 E C.n τ → St C.w0 I F w → (Vy τ rv).run C.P w = .ok v w
def LW (C : Cx) (E : DJ) (I : AU) (F : List HA) : List ResultVar → List Value → Prop
 | [], [] => True
 | r :: rs, v :: vs => RV C E F I r v ∧ LW C E I F rs vs
 | _, _ => False
section
variable {C : Cx} {E : DJ} {I : AU} {H F : List HA} {R : Ending → World → Prop} {fn : Func}
theorem BJ : LW C E I F [] [] := trivial
theorem Dc {t : Nat} {v : Value} {rs : List ResultVar} {vs : List Value} (h : Hg E t = some v) (k : LW C E I F rs vs) : LW C E I F (.tmp t :: rs) (v :: vs) := ⟨fun τ w hs _ => by simp [Vy, hs.2 t v h], k⟩
theorem EB {a b off : Nat} {t : TypeId} {d : TypeDesc} {v : Value} {rs : List ResultVar} {vs : List Value} (h : Hg E a = some (.pointer (some ⟨b, off, none⟩))) (ht : C.P.underlying t = some d) (hd : Ji d = true) (hr : Rd C.w0 I F b off v) (k : LW C E I F rs vs) :
  LW C E I F (.cell a t :: rs) (v :: vs) := ⟨fun τ w hs hw => by
   have h6 := hs.2 a _ h
   have h7 := hr w hw
   simp [Vy, h6, asAddr, loadVar, Dz ht hd, h7], k⟩
theorem BK {a b off n bytes : Nat} {t T : TypeId} {fs : Array Field} {z : Value} {cs us : List Value} {rs : List ResultVar} {vs : List Value} (h : Hg E a = some (.pointer (some ⟨b, off, none⟩))) (ht : C.P.underlying t = some (.struct fs)) (hi : TI C.P t n bytes z)
  [hm : HH b T cs F] (hu : (cs.drop off).take n = us) (hn : us.length = n) (k : LW C E I F rs vs) : LW C E I F (.cell a t :: rs) (.agg us.toArray :: vs) := ⟨fun τ w hs hw => by
   have h6 := hs.2 a _ h
   have hr : XH C.w0 I F b off us := QR hm.mem hu
   have h2 := KB (P := C.P) (w := w) (b := b) (k := off) (us := us) (fun j u hj => hr j u hj w hw)
   subst hn
   simp [Vy, h6, asAddr, loadVar, Ja ht, hi.sizeOf, h2], k⟩
theorem SK {τ : Array Value} {w : World} (hs : G2 E C.n τ) (hw : St C.w0 I F w) : ∀ {rs : List ResultVar} {vs : List Value}, LW C E I F rs vs → (rs.mapM (Vy τ)).run C.P w = .ok vs w
 | [], [], _ => by simp
 | r :: rs, v :: vs, h => by
  have ih := SK hs hw h.2
  have h1 := h.1 τ w hs hw
  simp only [List.mapM_cons, Sem.run_bind, h1, Result.andThen_ok, ih]
  simp
 | [], _ :: _, h => h.elim
 | _ :: _, [], h => h.elim
theorem Fh {τ : Array Value} {w : World} {rs : List ResultVar} {vs : List Value} (hr : fn.results = rs.toArray) (hs : G2 E C.n τ) (hw : St C.w0 I F w) (h : LW C E I F rs vs) : (results fn τ).run C.P w = .ok (SM vs) w := by
 rw [UV, hr, List.mapM_toArray, Sem.run_bind, Sem.run_map]
 rw [SK hs hw h]
 simp only [Result.andThen_ok]
 match vs with
 | [] => simp [SM]
 | [v] => simp [SM]
 | _ :: _ :: _ => simp [SM]
theorem A3 {rs : List ResultVar} {vs : List Value} {e : Exit} (he : e = .ret ∨ e = .normal) (hr : fn.results = rs.toArray) (h : LW C E I H rs vs) (k : ∀ w, St C.w0 I H w → R (.returned (SM vs)) w) : N C e E I H [] (bodyPost C.P fn R) := by
 intro a w hs hd hw
 rcases he with rfl | rfl
 ·exact ⟨hd, _, Fh hr hs hw h, k w hw⟩
 ·exact ⟨hd, _, Fh hr hs hw h, k w hw⟩
theorem Sm {bs : List Nat} {rs : List ResultVar} {vs : List Value} {e : Exit} (he : e = .ret ∨ e = .normal) (hr : fn.results = rs.toArray) [hp : MB bs F H] (h : LW C E I F rs vs) (k : ∀ w, St C.w0 I F w → R (.returned (SM vs)) w) :
  N C e E I H (Su bs) (bodyPostM (WF none) 0 C.P fn R) := by
 intro a w hs hd hw
 have := J8 (P := C.P) (tmps := a.tmps) (fn := fn) (R := R) (fun w hw => Fh hr hs hw h) bs w (hw.sub hp.sub) k
 rcases he with rfl | rfl
 ·show LeavesInM _ _ _ _ _ _ a.defers .returning w
  rw [hd]; exact this
 ·show LeavesInM _ _ _ _ _ _ a.defers .returning w
  rw [hd]; exact this
end
end Go.Tri

namespace Go.Tri
open Go.RowKit
def Fi (s : List UInt8) (pos : Nat) : Nat × Nat := Utf8.decode ⟨s.toArray⟩ pos
def Gk (s : List UInt8) (pos : Nat) : Nat := if pos < s.length then pos + (Fi s pos).2 else pos
class Qc (b : Nat) (s : outParam (List UInt8)) (pos : outParam Nat) (F : outParam (List HA)) (H : List HA) : Prop where
 pick : H.Perm (Fq b (.stringIter ⟨s.toArray⟩ pos) :: F)
instance ACi {b pos : Nat} {s : List UInt8} {F : List HA} : Qc b s pos F (Fq b (.stringIter ⟨s.toArray⟩ pos) :: F) := ⟨H6⟩
instance (priority := low) pickIt_tail {b pos : Nat} {s : List UInt8} {y : HA} {F H : List HA} [h : Qc b s pos F H] : Qc b s pos (y :: F) (y :: H) := ⟨Hz h.pick⟩
section
variable {C : Cx} {E : DJ} {I : AU} {H F : List HA} {o : Oper} {x : Operand} {t t' : TypeId} {s : List UInt8}
theorem Ny (ho : o.op = .range t x) (ht : C.P.underlying t = some .string) (hx : ev E x = some (Bj s)) :
  I9 C E I H o (fun v I' H' => ∃ b, v = .pointer (some ⟨b, 0, none⟩) ∧ I = I' ∧ H' = Fq b (.stringIter ⟨s.toArray⟩ 0) :: H) :=
 fun a w hs hw K Q hk => C3 (by rw [ho]; rfl) (by
  simp only [execOp, ho, hs.ev hx, Bj]
  rw [Sem.run_bind, run_range_string (P := C.P) w t ⟨s.toArray⟩ ht]
  rfl) (hk _ _ _ _ ⟨w.heap.size, rfl, rfl, rfl⟩ (hw.new _))
theorem O2 {b pos : Nat} (ho : o.op = .next x true) (hx : ev E x = some (.pointer (some ⟨b, 0, none⟩))) [hp : Qc b s pos F H] :
  I9 C E I H o (fun v I' H' => ∃ vs : Array Value, v = .tuple vs ∧ vs[0]? = some (.bool (decide (pos < s.length))) ∧ (pos < s.length → vs[1]? = some (.int .i64 (pos : Int)) ∧ vs[2]? = some (.int .i32 ((Fi s pos).1 : Int))) ∧ I = I' ∧ H' = Fq b (.stringIter ⟨s.toArray⟩ (Gk s pos)) :: F) := by
 intro a w hs hw K Q hk
 have hw' := hw.perm hp.pick
 have hb : w.heap[b]? = some (.stringIter ⟨s.toArray⟩ pos) := hw'.sat _ (List.mem_cons_self)
 have Lj := DC s
 by_cases h : pos < s.length
 ·refine C3 (v := .tuple #[.bool true, .int .i64 (pos : Int), .int .i32 ((Fi s pos).1 : Int)]) (by rw [ho]; rfl) (by
   simp only [execOp, ho, hs.ev hx]
   rw [Sem.run_bind, Lib.run_next_any_at (P := C.P) w b ⟨s.toArray⟩ pos o.type hb (by omega)]
   rfl) (hk _ I _ _ ⟨_, rfl, by rw [decide_eq_true h]; rfl, fun _ => ⟨rfl, rfl⟩, rfl, rfl⟩ ?_)
  refine hw'.turn (w' := w.iterAt b ⟨s.toArray⟩ (pos + (Fi s pos).2)) rfl rfl rfl (by simp [World.iterAt]) (fun k _ hk => ?_) ?_ (.inl rfl)
  ·simp only [World.iterAt, Array.getElem?_setIfInBounds]
   rw [if_neg (fun e => hk (by rw [← e]; rfl))]
  ·rw [Gk, if_pos h]
   exact Lib.iterAt_heap w b ⟨s.toArray⟩ pos _ hb
 ·refine C3 (v := .tuple #[.bool false]) (by rw [ho]; rfl) (by
   simp only [execOp, ho, hs.ev hx]
   rw [Sem.run_bind, Lib.run_next_end_at (P := C.P) w b ⟨s.toArray⟩ pos o.type hb (by omega)]
   rfl) (hk _ I _ _ ⟨_, rfl, by rw [decide_eq_false h]; rfl, fun h2 => absurd h2 h, rfl, by rw [Gk, if_neg h]⟩ hw')
theorem Uj {k : IntKind} {r : Int} (ho : o.op = .convert t t' x) (hs : C.P.underlying t = some (.int k)) (hd : C.P.underlying t' = some .string) (hx : ev E x = some (.int k r)) : BS C E I H o (Bj (Utf8.encode r).data.toList) :=
 Bk (by rw [ho]; rfl) fun a w Gf _ => by
  simp [execOp, ho, Gf.ev hx, Bj, convert, run_underlying hs, run_underlying hd, Conv.intToString]
end
end Go.Tri

namespace Go.Tri
open Go.RowKit
theorem Kw {P : Program} (w : World) (t u ty e : TypeId) (i : TypeInfo) (ht : P.underlying t = some (.slice e)) (hu : P.underlying u = some .string) (hi : P.info? e = some i) (hz : i.zero = some (.int .u8 0)) (En : i.size = 1) (Tu : i.bytes = 1)
  (v : Value) (n : Nat) (xs : List Value) (hv : Fz v e 1 n xs (BF w)) (s : ByteArray) (UL : n + s.size ≤ maxLen) (hb : n + s.size ≤ 140737488355328) :
  ∃ v' w', (Builtin.append_ #[t, u] ty #[v, .string s]).run P w = .ok v' w' ∧ Fz v' e 1 (n + s.size) (xs ++ Lib.strCells s) (BF w') ∧ w.grownBy w' v.ownBlock ∧ (v'.ownBlock = v.ownBlock ∨ v'.ownBlock = some w.heap.size) := by
 obtain ⟨v', w', DV, ho, hg, ZP⟩ := Lib.run_append_own_string (P := P) w 0 t u ty e i ht hu hi hz En Tu v n xs (Ht.1 hv) s UL hb (Nat.zero_le _)
 refine ⟨v', w', DV, Ht.2 ho, hg, ?_⟩
 have hxl : xs.length = n := by rw [hv.1, Nat.mul_one]
 have hm : maxLen ≤ 9223372036854775807 := by decide
 rcases hv.2 with ⟨rfl, rfl⟩ | ⟨g, cap, cur, rfl, hgg, hn, hc, Lj, Js⟩
 ·by_cases h0 : s.size = 0
  ·left; rw [ZP.2 ⟨rfl, h0⟩]
  ·right
   have := run_append_nil_string (P := P) w t u ty e i (.int .u8 0) ht hu hi hz s (by omega) (by omega) (by rw [Tu]; omega)
   rw [this] at DV
   injection DV with h1 h2
   rw [← h1]; rfl
 ·by_cases AGw : n + s.size ≤ cap
  ·left
   have := Lib.run_append_room_string (P := P) w t u ty e i ht hu hi En g n cap cur hgg s AGw (by omega)
   rw [this] at DV
   injection DV with h1 h2
   rw [← h1]; rfl
  ·right
   have := Lib.run_append_grow_string (P := P) w t u ty e i (.int .u8 0) ht hu hi hz ⟨g, 0, none⟩ n cap xs (by rw [En]; omega) ((Ht.1 hv).cells (g := g) rfl) s (by omega) (by omega) (by rw [Tu]; exact growslice_fits (by omega) (by omega))
   rw [this] at DV
   injection DV with h1 h2
   rw [← h1]; rfl
theorem LG (s : List UInt8) : Lib.strCells ⟨s.toArray⟩ = (s.map Fo).flatten := by
 rw [Lb]
 unfold Lib.strCells
 simp [u8]
theorem SE {C : Cx} {E : DJ} {I : AU} {H : List HA} {o : Oper} {x y : Operand} {t u e e' : TypeId} {v : Value} {l s : List UInt8} {F : List HA} (ho : o.op = .call { callee := .builtin .append, args := #[x, y], argTypes := #[t, u] })
  (ht : C.P.underlying t = some (.slice e)) (hu : C.P.underlying u = some .string) (hi : TI C.P e 1 1 (.int .u8 0))
  (hx : ev E x = some v) (hy : ev E y = some (Bj s)) [hpk : D0 v e' 1 l.length (l.map Fo).flatten F H] (Vf : e = e')
  (UL : l.length + s.length ≤ maxLen) (Tu : l.length + s.length ≤ 140737488355328) :
  I9 C E I H o (fun v' I' H' => I = I' ∧ H' = BO e' 1 Fo v' (l ++ s) :: F) := by
 subst Vf
 intro a w hs hw K Q hk
 have hw' := hw.perm hpk.pick
 have hv : Fz v e 1 l.length (l.map Fo).flatten (BF w) := hw'.sat _ (List.mem_cons_self)
 have Lj := DC s
 obtain ⟨i, hii, hi1, Xk, hi3⟩ := hi
 obtain ⟨v', w', DV, ho', hg, hob⟩ := Kw (P := C.P) w t u o.type e i ht hu hii hi3 hi1 Xk v _ _ hv ⟨s.toArray⟩ (by omega) (by omega)
 rw [Lj, LG, ← List.flatten_append, ← List.map_append, ← List.length_append] at ho'
 refine C3 (v := v') (w' := w') (by rw [ho]; rfl) ?_ (hk v' I _ w' ⟨rfl, rfl⟩ (hw'.turn hg.os hg.tape hg.output hg.size (fun k hk EZ => hg.block k hk EZ) ho' ?_))
 ·simp only [execOp, ho, resolve]
  simp [hs.ev hx, hs.ev hy, Bj, invoke, builtin, DV]
 ·rcases hob with e | e
  ·exact .inl e
  ·exact .inr ⟨_, e, Nat.le_refl _⟩
theorem DU {C : Cx} {E : DJ} {I : AU} {H : List HA} {o : Oper} {x : Operand} {t T : TypeId} {d : TypeDesc} {sz n j fo : Nat} {v u : Value} {xs : List Value} (ho : o.op = .load t x) (ht : C.P.underlying t = some d) (hd : Ji d = true)
  (hx : ev E x = some (.pointer (some ⟨(GN v).block, (GN v).off + j * sz + fo, none⟩))) [hm : GK v T sz n xs H] (hu : xs[j * sz + fo]? = some u) : BS C E I H o u := Tk (j := j * sz + fo) ho ht hd (by rw [← Nat.add_assoc]; exact hx) hu
theorem GS {α : Type} {f : α → List Value} {sz fo : Nat} (hu : ∀ c, (f c).length = sz) {l : List α} {i : Nat} {d : α} {u : Value} (h : i < l.length) (hf : (f (nth l i d))[fo]? = some u) : ((l.map f).flatten)[i * sz + fo]? = some u :=
 P2 hu (cs := f (nth l i d)) (by rw [List.getElem?_map, List.getElem?_eq_getElem h, Ed h]; rfl) hf
theorem RF {α : Type} {f : α → List Value} {l : List α} {C : Cx} {E : DJ} {I : AU} {H : List HA} {o : Oper} {p x : Operand} {t T : TypeId} {j fo sz bytes : Nat} {v u z : Value} {F : List HA} (d e1 : α) (ho : o.op = .store t p x) (hi : TI C.P t 1 bytes z)
  (hp : ev E p = some (.pointer (some ⟨(GN v).block, (GN v).off + j * sz + fo, none⟩))) (hx : ev E x = some u) (h1 : Lh u) [hpk : D0 v T sz l.length (l.map f).flatten F H] (hu : ∀ c, (f c).length = sz) (hj : j < l.length) (hfo : Nat.blt fo sz = true)
  (he : (f (nth l j d)).set fo u = f e1) : I9 C E I H o (fun _ I' H' => I = I' ∧ H' = BO T sz f v (l.set j e1) :: F) := by
 have hfo : fo < sz := by simpa using hfo
 have BH : ((l.map f).flatten).length = l.length * sz := by
  rw [List.length_flatten, List.map_map]
  have : (List.length ∘ f) = fun _ => sz := by funext c; exact hu c
  rw [this, List.map_const', List.sum_replicate_nat]
 have h2 : j * sz + fo < l.length * sz := by
  have := Nat.mul_le_mul_right sz (show j + 1 ≤ l.length from hj)
  rw [Nat.add_mul, Nat.one_mul] at this
  omega
 have := Xf (C := C) (E := E) (I := I) (H := H) (o := o) (p := p) (x := x) (k := j * sz + fo) (v := v) ho hi (by rw [← Nat.add_assoc]; exact hp) hx h1 (hpk := hpk) (by rw [BH]; exact h2)
 rw [Qw hu (d := d) hj hfo he] at this
 have hl : (l.set j e1).length = l.length := List.length_set
 show I9 C E I H o (fun _ I' H' => I = I' ∧ H' = PU v T sz (l.set j e1).length _ :: F)
 rw [hl]
 exact this
end Go.Tri

namespace Go.Tri
open Go.RowKit
def ZH (I : AU) (X : HA) (sz : Nat) (v : Value) (l : List (List Value)) : Prop := ∀ J, Le I J → X.sat J → Sl J sz v l
theorem ZH.mono {I J : AU} {X : HA} {sz : Nat} {v : Value} {l : List (List Value)} (h : ZH I X sz v l) (Ec : Le I J) : ZH J X sz v l := fun K hK hs => h K (Ec.trans hK) hs
end Go.Tri

namespace Go.Tri
open Go.RowKit
theorem UN {α : Type} {A us : List α} {k N : Nat} (h : k + us.length ≤ N) (hA : N ≤ A.length) : (A.take k ++ us ++ A.drop (k + us.length)).take N = (A.take N).take k ++ us ++ (A.take N).drop (k + us.length) := by
 rw [List.take_append, List.take_append, List.length_append, List.length_take, List.take_take, List.drop_take]
 rw [show min k A.length = k by omega, show min N k = k by omega, List.take_take, show min k N = k by omega]
 rw [List.take_of_length_le (show us.length ≤ N - k by omega), show N - (k + us.length) = N - (k + us.length) from rfl]
theorem XD {C : Cx} {E : DJ} {I : AU} {H : List HA} {o : Oper} {p x : Operand} {t T : TypeId} {k m sz n bytes : Nat} {v z : Value} {xs us : List Value} {F : List HA} (ho : o.op = .store t p x) (hi : TI C.P t m bytes z)
  (hp : ev E p = some (.pointer (some ⟨(GN v).block, (GN v).off + k, none⟩))) (hx : ev E x = some (.agg us.toArray)) (hm : us.length = m) (h1 : ∀ u ∈ us, u.oneCell' = true) [hpk : D0 v T sz n xs F H] (FA : k + m ≤ xs.length) (Zb : 0 < m) :
  I9 C E I H o (fun _ I' H' => I = I' ∧ H' = PU v T sz n (xs.take k ++ us ++ xs.drop (k + m)) :: F) := by
 intro a w hs hw K Q hk
 have hw' := hw.perm hpk.pick
 obtain ⟨hl, hv⟩ : Fz v T sz n xs (BF w) := hw'.sat _ (List.mem_cons_self)
 rcases hv with ⟨rfl, rfl⟩ | ⟨g, cap, cur, rfl, hg, hn, hc, Lj, Js⟩
 ·rw [Nat.zero_mul] at hl; omega
 ·have hb : w.heap[g]? = some (.cells cur T (0, 0)) := hg
  have Ec : n * sz ≤ cap * sz := Nat.mul_le_mul_right _ hn
  have AEh : cur = cur.toList.toArray := by simp
  have EP : cur.toList.length = cur.size := by simp
  rw [AEh] at hb
  obtain ⟨w', r1, r2, r3, r4, r5, r6, r7⟩ := G6 (P := C.P) (off := k) us 0 cur.toList w h1 (by omega) hb
  simp only [Nat.add_zero, hm] at r2
  refine Ff (w' := w') (by rw [ho]; rfl) ?_ (hk undef I _ _ ⟨rfl, rfl⟩ (hw'.turn r3 r4 r5 (by omega) (fun j _ hj => r7 j (fun e => hj (by rw [e]; rfl))) ?_ (.inl rfl)))
  ·simp only [execOp, ho, hs.ev hp, hs.ev hx, Instr.storeAt, Instr.sureAddr, storeVar, Value.cells]
   subst hm
   simp [GN, hi.sizeOf, r1]
  ·subst hm
   refine ⟨?_, .inr ⟨g, cap, _, rfl, r2, hn, hc, ?_, ?_⟩⟩
   ·simp only [List.length_append, List.length_take, List.length_drop]; omega
   ·simp only [List.size_toArray, List.length_append, List.length_take, List.length_drop]; omega
   ·rw [← Js]
    exact UN (by omega) (by omega)
theorem SU {α : Type} {f : α → List Value} {sz : Nat} (hu : ∀ c, (f c).length = sz) : ∀ {l : List α} {i : Nat} {e : α}, i < l.length → ((l.map f).flatten).take (i * sz) ++ f e ++ ((l.map f).flatten).drop (i * sz + sz) = ((l.set i e).map f).flatten
 | [], _, _, h => by simp at h
 | c :: l, 0, e, h => by
  rw [List.map_cons, List.flatten_cons, Nat.zero_mul, List.take_zero, Nat.zero_add, List.nil_append, List.set_cons_zero, List.map_cons, List.flatten_cons, List.drop_append, List.drop_of_length_le (by rw [hu]; omega), hu, Nat.sub_self]; rfl
 | c :: l, i + 1, e, h => by
  rw [List.map_cons, List.flatten_cons, List.set_cons_succ, List.map_cons, List.flatten_cons]
  rw [List.take_append, List.drop_append, List.take_of_length_le (by rw [hu, Nat.add_mul]; omega), List.drop_of_length_le (by rw [hu, Nat.add_mul]; omega), hu, List.nil_append]
  rw [show (i + 1) * sz - sz = i * sz by rw [Nat.add_mul]; omega, show (i + 1) * sz + sz - sz = i * sz + sz by rw [Nat.add_mul]; omega]
  rw [List.append_assoc, List.append_assoc, ← List.append_assoc (List.take _ _), SU hu (by simpa using h)]
theorem Wf {α : Type} {f : α → List Value} {l : List α} {C : Cx} {E : DJ} {I : AU} {H : List HA} {o : Oper} {p x : Operand} {t T : TypeId} {j sz bytes : Nat} {v z : Value} {F : List HA} (e1 : α) (ho : o.op = .store t p x) (hi : TI C.P t sz bytes z)
  (hp : ev E p = some (.pointer (some ⟨(GN v).block, (GN v).off + j * sz, none⟩))) (hx : ev E x = some (.agg (f e1).toArray)) (h1 : ∀ u ∈ f e1, u.oneCell' = true) [hpk : D0 v T sz l.length (l.map f).flatten F H] (hu : ∀ c, (f c).length = sz) (hj : j < l.length) (Zb : 0 < sz) :
  I9 C E I H o (fun _ I' H' => I = I' ∧ H' = BO T sz f v (l.set j e1) :: F) := by
 have BH : ((l.map f).flatten).length = l.length * sz := by
  rw [List.length_flatten, List.map_map]
  have : (List.length ∘ f) = fun _ => sz := by funext c; exact hu c
  rw [this, List.map_const', List.sum_replicate_nat]
 have h2 : j * sz + sz ≤ l.length * sz := by
  have := Nat.mul_le_mul_right sz (show j + 1 ≤ l.length from hj)
  rw [Nat.add_mul, Nat.one_mul] at this
  exact this
 have := XD (C := C) (E := E) (I := I) (H := H) (o := o) (p := p) (x := x) (k := j * sz) (v := v) (us := f e1) ho hi hp hx (hu e1) h1 (hpk := hpk) (by rw [BH]; exact h2) Zb
 rw [SU hu hj] at this
 have hl : (l.set j e1).length = l.length := List.length_set
 show I9 C E I H o (fun _ I' H' => I = I' ∧ H' = PU v T sz (l.set j e1).length _ :: F)
 rw [hl]
 exact this
theorem ABe {I : AU} {H : List HA} {v : Value} {T : TypeId} {sz n : Nat} {xs : List Value} {w0 w : World} (hw : St w0 I H w) [hm : GK v T sz n xs H] : ∃ A c, v = .slice A n c ∧ (0 < n → ∀ a, A = some a → a.spot = none) ∧ (0 < n → A ≠ none) := by
 obtain ⟨_, hh⟩ := hw.sat _ hm.mem
 rcases hh with ⟨rfl, rfl⟩ | ⟨g, cap, cur, rfl, _⟩
 ·exact ⟨none, 0, rfl, fun h => absurd h (Nat.lt_irrefl _), fun h => absurd h (Nat.lt_irrefl _)⟩
 ·exact ⟨_, cap, rfl, fun _ a h => by cases h; rfl, fun _ h => by cases h⟩
section
variable {C : Cx} {ops : Array Oper} {X Z : List Nat} {Q : Exit → Act → World → Prop} {S0 : World → Prop}
theorem Pv (Gw : F9 ops = true) (hQ : Rt Q) {i : Nat} {oi : Oper} {v : Value} (hi : ops[i]? = some oi)
  {ρ : Operand → Value} (G0 : ∀ w, Rx C oi ρ w v) (hS : ∀ w w', S0 w → Below w.heap.size w w' → S0 w') :
  ∀ (fuel : Nat) (listed : Array Bool) (a : Act) (w : World), HY ops listed →
   (∀ j oj, ops[j]? = some oj → j ≠ i → listed.getD j true = false → (∀ e ∈ oj.after, Region.binds .any e = true → e.on ≠ i) → oi.apart ops oj = true) →
   i ∈ Region.ready .any ops listed → Region.wanted oi (yielded ops a.tmps) = true → a.eval = ρ ∨ execOp a.eval oi = execOp ρ oi →
   wa C ops X Z S0 Q fuel (listed.setIfInBounds i true) (a.put oi.dst v) w → wa C ops X Z S0 Q (fuel + 1) listed a w := by
 intro fuel
 induction fuel with
 | zero =>
  intro listed a w EP _ hr VP hρ H w2 hb
  have hy : Yd C ops oi v a w := .inl ⟨VP, fun w2 hb => by have := G0 w2; unfold Rx at this ⊢; rcases hρ with e | e <;> rw [e] <;> exact this⟩
  refine ⟨fun h => (by rw [h] at hr; cases hr), fun j hj => ?_⟩
  by_cases Lk : j = i
  ·subst Lk
   exact (hy.below hb).wpOp hi fun w' hb' => ⟨fun _ => hb', fun _ h0 => hS _ _ h0 hb', H2 _ _ _ _ _ (DK hb hb') H⟩
  ·have := ready_mono hj Lk
   rw [H.1] at this
   cases this
 | succ fuel ih =>
  intro listed a w EP MR hr VP hρ H w2 hb
  have hy : Yd C ops oi v a w := .inl ⟨VP, fun w2 hb => by have := G0 w2; unfold Rx at this ⊢; rcases hρ with e | e <;> rw [e] <;> exact this⟩
  refine ⟨fun h => (by rw [h] at hr; cases hr), fun j hj => ?_⟩
  by_cases Lk : j = i
  ·subst Lk
   exact (hy.below hb).wpOp hi fun w' hb' => ⟨fun _ => hb', fun _ h0 => hS _ _ h0 hb', H2 _ _ _ _ _ (DK hb hb') H⟩
  ·have h1 := (H w2 hb).2 j (ready_mono hj Lk)
   obtain ⟨SF, oj, Wj, G0⟩ := mem_ready.1 hj
   have Zz := (mem_ready.1 hr).1
   have NI : listed.getD i false = false := He Zz
   have Yv : ∀ e ∈ oj.after, Region.binds .any e = true → e.on ≠ i := fun e he hb heq => by
    have h1 := G0 e he hb
    rw [heq, NI] at h1
    cases h1
   have XQ := MR j oj Wj Lk SF Yv
   have h2 := Nn Wj XQ (Eb Gw Wj) hQ h1
   have NO : ∀ k ok, ops[k]? = some ok → k ≠ i → (listed.setIfInBounds j true).getD k true = false →
     (∀ e ∈ ok.after, Region.binds .any e = true → e.on ≠ i) → oi.apart ops ok = true := fun k ok hk hki hun ET => by
    refine MR k ok hk hki ?_ ET
    by_cases hjk : j = k
    ·subst hjk; exact SF
    ·rw [getD_set_ne true hjk] at hun; exact hun
   refine wpOpIn_mono (fun a' w' h3 => ?_) h2
   obtain ⟨⟨GO, OZ, Ic⟩, u, hu⟩ := h3
   obtain ⟨_, _, h3⟩ := Oper.apart_spec XQ
   refine ⟨GO, OZ, ih (listed.setIfInBounds j true) a' w' (EP.set hj) NO (ready_mono hr (Ne.symm Lk)) (by rw [hu, wanted_put oi a oj.dst u h3]; exact VP) ?_ ?_⟩
   ·refine .inr ?_
    rw [IW hu, execOp_put (ops := ops) oi (Eb Gw hi).2 a oj.dst u h3]
    rcases hρ with e | e
    ·rw [e]
    ·exact e
   ·rw [Array.setIfInBounds_comm _ _ Lk]
    exact Ic
end
section
variable {C : Cx} {ops : Array Oper} {X Z : List Nat} {I0 I : AU} {R0 H : List HA} {fuel : Nat} {listed : Array Bool} {E : DJ} {D : List Deferred} {Q : Exit → Act → World → Prop} {o : Oper}
theorem AJi (i : Nat) {v : Value} {d : Nat} (Bb : okQ ops listed i = true) (hi : ops[i]? = some o)
  (hg : o.guard = none) (hd : o.dst = some d) (hn : Nat.blt d C.n = true) (hq : ∀ w1 : World, BS { C with w0 := w1 } E (fun _ => none) [] o v)
  (k : R C ops X Z I0 R0 fuel (listed.setIfInBounds i true) ((d, v) :: E) I H D Q) : R C ops X Z I0 R0 (fuel + 1) listed E I H D Q := by
 intro Gw hQ a w hs IY hw
 simp only [okQ, Bool.and_eq_true] at Bb
 have G0 : ∀ w', Rx C o a.eval w' v := fun w' => hq w' a w' hs (St.start w' _ (fun _ _ h => (by cases h)))
 have key := Pv (C := C) (ops := ops) (X := X) (Z := Z) (Q := Q) (S0 := Oo C I0 R0) Gw hQ hi (v := v) (ρ := a.eval) G0 (fun _ _ => Oo.below) fuel listed a w (Ir Bb.1.1) (Region.free_spec hi Bb.2) (by simpa using Bb.1.2) (by simp [Region.wanted, hg]) (.inl rfl)
 refine key ?_
 rw [hd]
 exact k Gw hQ _ _ (hs.put (by simpa using hn) v) (by simpa [Act.put] using IY) hw
theorem AJh {T : TypeId} {sz n : Nat} {xs : List Value} (v : Value) [hm : GK v T sz n xs H]
  (k : (∃ A c, v = .slice A n c ∧ (0 < n → ∀ a, A = some a → a.spot = none) ∧ (0 < n → A ≠ none)) → Lh v → R C ops X Z I0 R0 fuel listed E I H D Q) : R C ops X Z I0 R0 fuel listed E I H D Q :=
 fun Gw hQ a w hs IY hw => k (ABe hw) (Qh hw) Gw hQ a w hs IY hw
end
end Go.Tri

namespace Go.Tri
open Go.RowKit
theorem Oa {P : Program} (w : World) (t u ty e : TypeId) (i : TypeInfo) (ht : P.underlying t = some (.slice e)) (hu : P.underlying u = some .string) (hi : P.info? e = some i) (hz : i.zero = some (.int .u8 0)) (En : i.size = 1) (Tu : i.bytes = 1)
  (v : Value) (n : Nat) (xs : List Value) (hv : Fz v e 1 n xs (BF w)) (s : ByteArray) (UL : n + s.size ≤ maxLen) (hb : n + s.size ≤ 140737488355328) {v' : Value} {w' : World}
  (DV : (Builtin.append_ #[t, u] ty #[v, .string s]).run P w = .ok v' w') (hn : v = .slice none 0 0) (h0 : s.size = 0) : v' = .slice none 0 0 := by
 obtain ⟨v2, w2, ACT, _, _, ZP⟩ := Lib.run_append_own_string (P := P) w 0 t u ty e i ht hu hi hz En Tu v n xs (Ht.1 hv) s UL hb (Nat.zero_le _)
 rw [DV] at ACT
 injection ACT with h1 _
 rw [h1]
 exact ZP.2 ⟨hn, h0⟩
theorem QT {C : Cx} {E : DJ} {I : AU} {H : List HA} {o : Oper} {x y : Operand} {t u e e' : TypeId} {v : Value} {l s : List UInt8} {F : List HA} (ho : o.op = .call { callee := .builtin .append, args := #[x, y], argTypes := #[t, u] })
  (ht : C.P.underlying t = some (.slice e)) (hu : C.P.underlying u = some .string) (hi : TI C.P e 1 1 (.int .u8 0))
  (hx : ev E x = some v) (hy : ev E y = some (Bj s)) [hpk : D0 v e' 1 l.length (l.map Fo).flatten F H] (Vf : e = e')
  (UL : l.length + s.length ≤ maxLen) (Tu : l.length + s.length ≤ 140737488355328) :
  I9 C E I H o (fun v' I' H' => I = I' ∧ H' = BO e' 1 Fo v' (l ++ s) :: F ∧ (Hu v l → Hu v' (l ++ s))) := by
 subst Vf
 intro a w hs hw K Q hk
 have hw' := hw.perm hpk.pick
 have hv : Fz v e 1 l.length (l.map Fo).flatten (BF w) := hw'.sat _ (List.mem_cons_self)
 have Lj := DC s
 obtain ⟨i, hii, hi1, Xk, hi3⟩ := hi
 obtain ⟨v', w', DV, ho', hg, hob⟩ := Kw (P := C.P) w t u o.type e i ht hu hii hi3 hi1 Xk v _ _ hv ⟨s.toArray⟩ (by omega) (by omega)
 have hbo : Hu v l → Hu v' (l ++ s) := fun hb => by
  by_cases hl : l ++ s = []
  ·obtain ⟨h1, h2⟩ := List.append_eq_nil_iff.1 hl
   left
   exact Oa (P := C.P) w t u o.type e i ht hu hii hi3 hi1 Xk v _ _ hv ⟨s.toArray⟩ (by omega) (by omega) DV (hb.resolve_right (fun h => h h1)) (by rw [Lj, h2]; rfl)
  ·exact .inr hl
 rw [Lj, LG, ← List.flatten_append, ← List.map_append, ← List.length_append] at ho'
 refine C3 (v := v') (w' := w') (by rw [ho]; rfl) ?_ (hk v' I _ w' ⟨rfl, rfl, hbo⟩ (hw'.turn hg.os hg.tape hg.output hg.size (fun k hk EZ => hg.block k hk EZ) ho' ?_))
 ·simp only [execOp, ho, resolve]
  simp [hs.ev hx, hs.ev hy, Bj, invoke, builtin, DV]
 ·rcases hob with e | e
  ·exact .inl e
  ·exact .inr ⟨_, e, Nat.le_refl _⟩
section
variable {C : Cx} {E : DJ} {I : AU} {H : List HA} {D : List Deferred} {Q : Exit → Act → World → Prop} {o : Oper}
end
end Go.Tri

namespace Go.Tri
open Go.RowKit
section
variable {C : Cx} {E : DJ} {I : AU} {H : List HA} {o : Oper}
end
section
variable {C : Cx} {E : DJ} {I : AU} {H : List HA} {o : Oper} {x y : Operand} {t t' : TypeId}
end
end Go.Tri

namespace Go.Tri
open Go.RowKit
def KP (I : AU) (b : Nat) (cs : List Value) : Prop := ∀ k u, cs[k]? = some u → GF I b k u
theorem KP.mono {I J : AU} {b : Nat} {cs : List Value} (h : KP I b cs) (Ec : Le I J) : KP J b cs := fun k u hu => (h k u hu).mono Ec
theorem Bn {w0 w : World} {I : AU} {H : List HA} {b : Nat} {T : TypeId} {cs : List Value} (hw : St w0 I H w) [hm : HH b T cs H] : KP (BF w) b cs := fun k u hk =>
 ⟨cs.toArray, T, (0, 0), hw.sat _ hm.mem, by simpa using hk⟩
section
variable {C : Cx} {E : DJ} {I : AU} {H : List HA} {D : List Deferred} {Q : Exit → Act → World → Prop}
end
def FK (b : Nat) : Value := .pointer (some ⟨b, 0, none⟩)
end Go.Tri

namespace Go.Tri
open Go.RowKit
def chn (v : Value) : List PanicEntry := [{ v := v, recovered := false }]
def WE (C : Cx) (E : DJ) (I : AU) (H : List HA) (o : Oper) (Post : Value → AU → List HA → Prop) (Pan : List PanicEntry → AU → List HA → Prop) : Prop :=
 ∀ (a : Act) (w : World), G2 E C.n a.tmps → St C.w0 I H w → ∀ (K : Act → World → Prop) (Q : Exit → Act → World → Prop),
  (∀ v I' H' w', Post v I' H' → St C.w0 I' H' w' → K (a.put o.dst v) w') → (∀ ch I' H' w', Pan ch I' H' → St C.w0 I' H' w' → Q (.panic ch) a w') → o.wpIn (WF C.r) 0 C.P a w K Q
def NP (C : Cx) (ch : List PanicEntry) (E : DJ) (I : AU) (H : List HA) (D : List Deferred) (Q : Exit → Act → World → Prop) : Prop := ∀ a w, G2 E C.n a.tmps → a.defers = D → St C.w0 I H w → Q (.panic ch) a w
def F5 (P : Program) (f : FuncId) (vs : Array Value) (w : World) (Post : Value → AU → List HA → Prop) (Pan : List PanicEntry → AU → List HA → Prop) : Prop :=
 Calls P f vs w (fun e w' => (∃ v, e = .returned v ∧ ∃ I' H', Post v I' H' ∧ St w I' H' w') ∨ ∃ ch, e = .panicked ch ∧ ∃ I' H', Pan ch I' H' ∧ St w I' H' w')
theorem F5.of {P : Program} {f : FuncId} {vs : Array Value} {w : World} {Post : Value → AU → List HA → Prop} {Pan : List PanicEntry → AU → List HA → Prop}
  (h : Calls P f vs w (fun e w' => ∃ v, e = .returned v ∧ ∃ I' H', Post v I' H' ∧ St w I' H' w')) : F5 P f vs w Post Pan := Calls.mono h fun _ _ h => .inl h
theorem F5.mono {P : Program} {f : FuncId} {vs : Array Value} {w : World} {Post Post' : Value → AU → List HA → Prop} {Pan Pan' : List PanicEntry → AU → List HA → Prop}
  (h : F5 P f vs w Post Pan) (hp : ∀ v I H, Post v I H → Post' v I H) (hq : ∀ v I H, Pan v I H → Pan' v I H) : F5 P f vs w Post' Pan' := Calls.mono h fun _ _ h => by
 rcases h with ⟨v, h1, I, H, h2, h3⟩ | ⟨v, h1, I, H, h2, h3⟩
 ·exact .inl ⟨v, h1, I, H, hp _ _ _ h2, h3⟩
 ·exact .inr ⟨v, h1, I, H, hq _ _ _ h2, h3⟩
section
variable {C : Cx} {E : DJ} {I : AU} {H : List HA} {D : List Deferred} {Q : Exit → Act → World → Prop} {o : Oper}
theorem Ha {a : Act} {w : World} {K : Act → World → Prop} {f : FuncId} {args : Array Value} {R : Value → World → Prop} {S : List PanicEntry → World → Prop} (hd : Ii o.op = true)
  (h : (execOp a.eval o).run C.P w = .ok (.enter f args) w) (hc : Calls C.P f args w (fun e w'' => (∃ v, e = .returned v ∧ R v w'') ∨ ∃ ch, e = .panicked ch ∧ S ch w''))
  (hk : ∀ v w'', R v w'' → K (a.put o.dst v) w'') (hq : ∀ ch w'', S ch w'' → Q (.panic ch) a w'') : o.wpIn (WF C.r) 0 C.P a w K Q := by
 refine ⟨fun f _ => trivial, ?_⟩
 rw [Oper.semAt_eq _ _ _ (fun c hc => by rw [hc] at hd; cases hd), h]
 refine ⟨fun h => by simp at h, ?_⟩
 have hcc : CallsIn Fence.wide 0 C.P f args w (fun e w'' => (∃ v, e = .returned v ∧ R v w'') ∨ ∃ ch, e = .panicked ch ∧ S ch w'') := callsIn_wide.2 hc
 have hcr : CallsIn (WF C.r) 0 C.P f args w (fun e w'' => (∃ v, e = .returned v ∧ R v w'') ∨ ∃ ch, e = .panicked ch ∧ S ch w'') := hcc
 refine hcr.mono fun e w'' h => ?_
 rcases h with ⟨v, he, hr⟩ | ⟨ch, he, hr⟩
 ·subst he; exact hk v w'' hr
 ·subst he; exact hq ch w'' hr
theorem Aa {g : Operand} {f : FuncId} {args : Array Operand} {ts : Array TypeId} {vs : List Value} {fn : Func} {Post : Value → AU → List HA → Prop} {Pan : List PanicEntry → AU → List HA → Prop}
  (ho : o.op = .call { callee := .value g, args := args, argTypes := ts }) (hg : ev E g = some (.func (.func f) #[] #[])) (he : evs E args.toList = some vs)
  (Oi : C.P.funcs[f]? = some fn) (M5 : (fn.name == "runtime.NumGoroutine") = false) (Nt : fn.body.isNone = false)
  (hc : ∀ w, St C.w0 I H w → F5 C.P f vs.toArray w Post Pan) : WE C E I H o Post Pan := by
 intro a w hs hw K Q hk hq
 have h1 : args.map a.eval = vs.toArray := by
  rw [← hs.evs he]; cases args; simp
 have DV : (execOp a.eval o).run C.P w = .ok (.enter f vs.toArray) w := by
  simp only [execOp, ho, resolve, h1, hs.ev hg]
  simp [Deferred.ofValue, invoke, Gg Oi M5 Nt]
 exact Ha (by rw [ho]; rfl) DV (hc w hw) (fun v w'' ⟨I', H', hp, hw'⟩ => hk v I' H' w'' hp (St.rebase hw hw')) (fun v w'' ⟨I', H', hp, hw'⟩ => hq v I' H' w'' hp (St.rebase hw hw'))
theorem UP {g : Operand} {f : FuncId} {args : Array Operand} {ts : Array TypeId} {vs cs : List Value} {fn : Func} {Post : Value → AU → List HA → Prop} {Pan : List PanicEntry → AU → List HA → Prop} {bs ca : Array Value}
  (ho : o.op = .call { callee := .value g, args := args, argTypes := ts }) (hg : ev E g = some (.func (.func f) bs ca)) (hbs : bs = #[]) (hca : ca = cs.toArray) (he : evs E args.toList = some vs)
  (Oi : C.P.funcs[f]? = some fn) (M5 : (fn.name == "runtime.NumGoroutine") = false) (Nt : fn.body.isNone = false)
  (hc : ∀ w, St C.w0 I H w → F5 C.P f (vs ++ cs).toArray w Post Pan) : WE C E I H o Post Pan := by
 intro a w hs hw K Q hk hq
 subst hbs hca
 have h1 : args.map a.eval = vs.toArray := by
  rw [← hs.evs he]; cases args; simp
 have DV : (execOp a.eval o).run C.P w = .ok (.enter f (vs ++ cs).toArray) w := by
  simp only [execOp, ho, resolve, h1, hs.ev hg]
  simp [Deferred.ofValue, invoke, Gg Oi M5 Nt]
 exact Ha (by rw [ho]; rfl) DV (hc w hw) (fun v w'' ⟨I', H', hp, hw'⟩ => hk v I' H' w'' hp (St.rebase hw hw')) (fun v w'' ⟨I', H', hp, hw'⟩ => hq v I' H' w'' hp (St.rebase hw hw'))
theorem KM {g : Operand} {f : FuncId} {args : Array Operand} {ts : Array TypeId} {vs bl : List Value} {fn : Func} {Post : Value → AU → List HA → Prop} {Pan : List PanicEntry → AU → List HA → Prop} {bs ca : Array Value}
  (ho : o.op = .call { callee := .value g, args := args, argTypes := ts }) (hg : ev E g = some (.func (.func f) bs ca)) (hbs : bs = bl.toArray) (hca : ca = #[]) (he : evs E args.toList = some vs)
  (Oi : C.P.funcs[f]? = some fn) (M5 : (fn.name == "runtime.NumGoroutine") = false) (Nt : fn.body.isNone = false)
  (hc : ∀ w, St C.w0 I H w → F5 C.P f (bl ++ vs).toArray w Post Pan) : WE C E I H o Post Pan := by
 intro a w hs hw K Q hk hq
 subst hbs hca
 have h1 : args.map a.eval = vs.toArray := by
  rw [← hs.evs he]; cases args; simp
 have DV : (execOp a.eval o).run C.P w = .ok (.enter f (bl ++ vs).toArray) w := by
  simp only [execOp, ho, resolve, h1, hs.ev hg]
  simp [Deferred.ofValue, invoke, Gg Oi M5 Nt]
 exact Ha (by rw [ho]; rfl) DV (hc w hw) (fun v w'' ⟨I', H', hp, hw'⟩ => hk v I' H' w'' hp (St.rebase hw hw')) (fun v w'' ⟨I', H', hp, hw'⟩ => hq v I' H' w'' hp (St.rebase hw hw'))
theorem ABB {ops : Array Oper} {rest : List Oper} {g : Operand} {f : FuncId} {ca : Array Value} (hg : o.guard = none) (hd : o.dst = none) (ho : o.op = .defer { callee := .value g, args := #[], argTypes := #[] }) (hx : ev E g = some (.func (.func f) #[] ca))
  (hr : C.r = none) (k : L C ops rest E I H ({ target := .fn (.func f) ca, args := #[] } :: D) Q) : L C ops (o :: rest) E I H D Q := by
 intro a w hs IY hw
 refine wpListIn_plain hg fun K hK => ⟨fun f _ => trivial, ?_⟩
 have DV : (execOp a.eval o).run C.P w = .ok (.defer { target := .fn (.func f) ca, args := #[] }) w := by
  simp only [execOp, ho, resolve, hs.ev hx]
  simp [Deferred.ofValue]
 rw [hr]
 show Oper.uponIn _ _ _ _ _ _ _ ((execOp a.eval o).run C.P w)
 rw [DV]
 refine hK _ _ ?_
 rw [hd]
 exact k _ _ hs (by rw [← IY]; rfl) hw
theorem B7 {ops : Array Oper} {rest : List Oper} {d : Nat} {Post : Value → AU → List HA → Prop} {Pan : List PanicEntry → AU → List HA → Prop} (hg : o.guard = none) (hd : o.dst = some d) (hn : Nat.blt d C.n = true)
  (he : WE C E I H o Post Pan) (hp : ∀ ch I' H', Pan ch I' H' → NP C ch E I' H' D Q) (k : ∀ v I' H', Post v I' H' → L C ops rest ((d, v) :: E) I' H' D Q) : L C ops (o :: rest) E I H D Q := by
 intro a w hs IY hw
 refine wpListIn_plain hg fun K hK => he a w hs hw K Q (fun v I' H' w' hp hw' => hK _ _ ?_) (fun ch I' H' w' h1 h2 => hp ch I' H' h1 a w' hs IY h2)
 rw [hd]
 exact k v I' H' hp _ _ (hs.put (by simpa using hn) v) (by simpa [Act.put] using IY) hw'
theorem ACr {ops : Array Oper} {rest : List Oper} {d : Nat} {Post : Value → AU → List HA → Prop} {Pan : List PanicEntry → AU → List HA → Prop} (hw : ∀ a : Act, G2 E C.n a.tmps → Region.wanted o (yielded ops a.tmps) = true) (hd : o.dst = some d) (hn : Nat.blt d C.n = true)
  (he : WE C E I H o Post Pan) (hp : ∀ ch I' H', Pan ch I' H' → NP C ch E I' H' D Q) (k : ∀ v I' H', Post v I' H' → L C ops rest ((d, v) :: E) I' H' D Q) : L C ops (o :: rest) E I H D Q := by
 intro a w hs IY Dh
 refine wpListIn_step fun K hK => ?_
 rw [if_pos (hw a hs)]
 refine he a w hs Dh _ _ (fun v I' H' w' hp hw' => hK _ _ ?_) (fun ch I' H' w' h1 h2 => hp ch I' H' h1 a w' hs IY h2)
 rw [hd]
 exact k v I' H' hp _ _ (hs.put (by simpa using hn) v) (by simpa [Act.put] using IY) hw'
def RD : TypeDesc → Bool
 | .interface _ => false
 | _ => true
theorem HT {x : Operand} {t : TypeId} {d : TypeDesc} {v : Value} (ho : o.op = .makeInterface t x) (ht : C.P.underlying t = some d) (hd : RD d = true) (hx : ev E x = some v) : BS C E I H o (.iface t v) :=
 Bk (by rw [ho]; rfl) fun a w hs _ => by
  have hu : (Go.underlying t).run C.P w = .ok d w := run_underlying ht w
  simp only [execOp, ho, hs.ev hx, Instr.makeInterface, Sem.run_bind, hu, Result.andThen_ok]
  cases d <;> first | rfl | cases hd
theorem M1 {ops : Array Oper} {rest : List Oper} {x : Operand} {T : TypeId} {v : Value} (hg : o.guard = none) (ho : o.op = .panic x) (hx : ev E x = some (.iface T v))
  (k : NP C (chn (.iface T v)) E I H D Q) : L C ops (o :: rest) E I H D Q := by
 intro a w hs IY hw
 refine wpListIn_plain hg fun K hK => ⟨fun f _ => trivial, ?_⟩
 rw [Oper.semAt_eq _ _ _ (fun c hc => by rw [hc] at ho; cases ho)]
 have : (execOp a.eval o).run C.P w = .halt (.panic (.iface T v)) w := by
  simp only [execOp, ho, hs.ev hx]
  rfl
 rw [this]
 exact k a w hs IY hw
theorem AL {K : Act → World → Prop} {ch : List PanicEntry} (h : NP C ch E I H D Q) : NP C ch E I H D (Exit.then K Q) := h
theorem Aj {id : Nat} {ch : List PanicEntry} (h : NP C ch E I H D Q) : NP C ch E I H D (Exit.inBlock id Q) := h
theorem Jr {e : Exit} {α : Type} {f : α → List Value} {l : List α} {T : TypeId} {sz : Nat} {F : List HA} (v : Value) [hp : D0 v T sz l.length (l.map f).flatten F H] (hu : ∀ c, (f c).length = sz)
  (k : ∀ J, Le I J → Sl J sz v (l.map f) → N C e E J F D Q) : N C e E I H D Q := by
 intro a w hs hd hw
 obtain ⟨J, h1, h2, h3⟩ := L2 (hw.perm hp.pick) (by simp) (fun cs JU => by obtain ⟨c, _, rfl⟩ := List.mem_map.1 JU; exact hu c)
 exact k J h1 h3 a w hs hd h2
theorem Am {fn : Func} {R : Ending → World → Prop} {ch : List PanicEntry} (k : ∀ w, St C.w0 I H w → R (.panicked ch) w) : NP C ch E I H [] (bodyPost C.P fn R) := fun _ w _ hd hw => ⟨hd, k w hw⟩
end
section
variable {C : Cx} {ops : Array Oper} {X Z : List Nat} {I0 I : AU} {R0 H : List HA} {fuel : Nat} {listed : Array Bool} {E : DJ} {D : List Deferred} {Q : Exit → Act → World → Prop} {o : Oper}
theorem QE (i : Nat) {d : Nat} {Post : Value → AU → List HA → Prop} {Pan : List PanicEntry → AU → List HA → Prop} (Bb : okX ops X listed i = true) (EZ : (Region.ready .any ops listed).isEmpty = false) (hi : ops[i]? = some o) (Ec : Le I0 I)
  (hg : o.guard = none) (hd : o.dst = some d) (hn : Nat.blt d C.n = true) (he : WE C E I H o Post Pan) (hp : ∀ ch I' H', Pan ch I' H' → NP C ch E I' H' D Q)
  (k : ∀ v I' H', Post v I' H' → Le I I' ∧ (Z.contains i = true ∨ Mj H' R0) ∧ R C ops X Z I0 R0 fuel (listed.setIfInBounds i true) ((d, v) :: E) I' H' D Q) : R C ops X Z I0 R0 (fuel + 1) listed E I H D Q := by
 intro Gw hQ a w hs IY hw w2 hb
 refine ⟨fun h => (by rw [h] at EZ; cases EZ), fun j hj => ?_⟩
 obtain rfl := MG Bb hj
 unfold wpOpIn
 simp only [hi]
 rw [if_pos (by simp [Region.wanted, hg])]
 refine he a w2 hs (hw.garb hb) _ _ (fun v I' H' w' hp hw' => ?_) (fun ch I' H' w' h1 h2 => hp ch I' H' h1 a w' hs IY h2)
 obtain ⟨hII, Kt, hk⟩ := k v I' H' hp
 simp only [okX, Bool.and_eq_true] at Bb
 refine ⟨fun hx => absurd (by simpa using Bb.2) hx, fun hz _ => ?_, ?_⟩
 ·rcases Kt with hc | Kt
  ·exact absurd (by simpa using hc) hz
  ·exact ⟨I', Ec.trans hII, hw'.sub Kt⟩
 rw [hd]
 exact hk Gw hQ _ _ (hs.put (by simpa using hn) v) (by simpa [Act.put] using IY) hw'
end
end Go.Tri

namespace Go.Tri
open Go.RowKit
def Qx (f : FuncId) (ca : List Value) : Deferred := { target := .fn (.func f) ca.toArray, args := #[] }
section
variable {C : Cx} {E : DJ} {I : AU} {H : List HA} {o : Oper}
theorem Z3 {x : Operand} {t T : TypeId} {d : TypeDesc} {v : Value} (ho : o.op = .typeAssert x t T true) (ht : C.P.underlying T = some d) (hd : RD d = true) (hx : ev E x = some (.iface T v)) : BS C E I H o (.tuple #[v, .bool true]) :=
 Bk (by rw [ho]; rfl) fun a w hs _ => by
  have hu : (Go.underlying T).run C.P w = .ok d w := run_underlying ht w
  simp only [execOp, ho, hs.ev hx, Instr.typeAssert, Sem.run_bind, hu, Result.andThen_ok]
  cases d <;> first | (simp; done) | cases hd
end
section
variable {C : Cx} {E : DJ} {I : AU} {H : List HA} {R : Ending → World → Prop} {fn : Func}
theorem AEr {f : FuncId} {fn' : Func} {ca : List Value} {rs : List ResultVar} {vs : List Value} {e : Exit} (he : e = .ret ∨ e = .normal) (hr : fn.results = rs.toArray)
  (Oi : C.P.funcs[f]? = some fn') (M5 : (fn'.name == "runtime.NumGoroutine") = false) (Nt : fn'.body.isNone = false)
  (hc : ∀ w, CallsDIn (WF none) 0 C.P f ca.toArray .returning w (fun e u' w' => e = .returned (.tuple #[]) ∧ u' = .returning ∧ w' = w))
  (h : LW C E I H rs vs) (k : ∀ w, St C.w0 I H w → R (.returned (SM vs)) w) : N C e E I H [Qx f ca] (bodyPostM (WF none) 0 C.P fn R) := by
 intro a w hs hd hw
 have h1 : LeavesInM (WF none) 0 C.P fn a.tmps R [Qx f ca] .returning w := by
  refine ⟨fun h => (by cases h), .inr ⟨fun h => (by cases h), .func f, ca.toArray, f, ca.toArray, rfl, ?_, fun _ _ => trivial, ?_⟩⟩
  ·simp [Qx, invoke, Gg Oi M5 Nt]
  ·refine (hc w).mono ?_
   rintro e u' w' ⟨rfl, rfl, rfl⟩
   exact ⟨_, Fh hr hs hw h, k _ hw⟩
 rcases he with rfl | rfl
 ·show LeavesInM _ _ _ _ _ _ a.defers .returning w
  rw [hd]; exact h1
 ·show LeavesInM _ _ _ _ _ _ a.defers .returning w
  rw [hd]; exact h1
theorem AKx {f : FuncId} {fn' : Func} {ca : List Value} {rs : List ResultVar} {ch : List PanicEntry} {S : AU → List HA → List Value → Prop} (hr : fn.results = rs.toArray)
  (Oi : C.P.funcs[f]? = some fn') (M5 : (fn'.name == "runtime.NumGoroutine") = false) (Nt : fn'.body.isNone = false)
  (hc : ∀ w, St C.w0 I H w → CallsDIn (WF none) 0 C.P f ca.toArray (.panicking ch) w (fun e u' w' => e = .returned (.tuple #[]) ∧ settle u' = .returning ∧ ∃ I' H' vs, S I' H' vs ∧ St C.w0 I' H' w'))
  (h : ∀ I' H' vs, S I' H' vs → LW C E I' H' rs vs) (k : ∀ I' H' vs w, S I' H' vs → St C.w0 I' H' w → R (.returned (SM vs)) w) : NP C ch E I H [Qx f ca] (bodyPostM (WF none) 0 C.P fn R) := by
 intro a w hs hd hw
 show LeavesInM _ _ _ _ _ _ a.defers (.panicking ch) w
 rw [hd]
 refine ⟨fun h => (by cases h), .inr ⟨fun h => (by cases h), .func f, ca.toArray, f, ca.toArray, rfl, ?_, fun _ _ => trivial, ?_⟩⟩
 ·simp [Qx, invoke, Gg Oi M5 Nt]
 ·refine (hc w hw).mono ?_
  rintro e u' w' ⟨rfl, h1, I', H', vs, h2, h3⟩
  show LeavesInM _ _ _ _ _ _ [] (settle u') w'
  rw [h1]
  exact ⟨_, Fh hr hs h3 (h _ _ _ h2), k _ _ _ _ h2 h3⟩
theorem Z4 {P : Program} {c₀ : Frame} {cs : List Frame} {u' : FrameMode} {R' : Ending → FrameMode → World → Prop} {e : Exit} {a : Act} {w : World} (hr : fn.results = #[]) (he : e = .ret ∨ e = .normal) (hd : a.defers = [])
  (hq : R' (.returned (.tuple #[])) u' w) : bodyPostS P fn c₀ cs R' e a ({ c₀ with mode := u' } :: cs) w := by
 rcases he with rfl | rfl
 ·exact ⟨hd, u', rfl, _, results_none hr _ _ _, hq⟩
 ·exact ⟨hd, u', rfl, _, results_none hr _ _ _, hq⟩
end
theorem ABG {args : List Value} {v : Value} (ha : args.length = 5) : G2 ((5, v) :: Rb 0 args) 24 (args.toArray ++ ((Array.replicate 19 undef).setIfInBounds 3 v).setIfInBounds 0 v) := by
 refine ⟨by simp [ha], fun k x hk => ?_⟩
 unfold Hg at hk
 by_cases h5 : 5 = k
 ·subst h5
  have hk : some v = some x := hk
  cases hk
  rw [Array.getElem?_append_right (by simp [ha])]
  simp [ha]
 ·rw [show Nat.beq 5 k = false from by cases hb : Nat.beq 5 k with | false => rfl | true => exact absurd (Nat.eq_of_beq_eq_true hb) h5] at hk
  obtain ⟨_, h2⟩ := Kq args 0 k x hk
  have FA : k < args.length := (List.getElem?_eq_some_iff.1 h2).1
  rw [Array.getElem?_append_left (by simpa using FA)]
  simpa using h2
theorem AJU {C : Cx} {c : Code} {E : DJ} {I : AU} {H : List HA} {D : List Deferred} {K : Act → World → Prop} {Q : Exit → Act → World → Prop} (h : T C c E I H D (Exit.then K (QF Q))) : T C c E I H D (Exit.then K Q) := Ym h fun e a w hq => by
 cases e <;> first | exact hq | exact hq.elim
end Go.Tri

namespace Go.Tri
open Go.RowKit
section iter
variable {C : Cx} {E : DJ} {I : AU} {H : List HA} {D : List Deferred} {Q : Exit → Act → World → Prop} {o : Oper}
end iter
end Go.Tri

namespace Go.Tri
open Go.RowKit
section
variable {C : Cx} {E : DJ} {I : AU} {H : List HA} {o : Oper} {x y : Operand} {t t' : TypeId}
end
end Go.Tri

namespace Go.Tri
open Go.RowKit
section
variable {C : Cx} {E : DJ} {I : AU} {H : List HA} {o : Oper}
end
end Go.Tri

namespace Go.Tri
open Go.RowKit
section
variable {C : Cx} {E : DJ} {I : AU} {H : List HA} {D : List Deferred} {Q : Exit → Act → World → Prop}
end
section
variable {C : Cx} {ops : Array Oper} {X Z : List Nat} {I0 : AU} {R0 : List HA} {fuel : Nat} {listed : Array Bool} {E : DJ} {I : AU} {H : List HA} {D : List Deferred} {Q : Exit → Act → World → Prop}
end
end Go.Tri

namespace Go.Tri
open Go.RowKit
section
variable {C : Cx} {E : DJ} {I : AU} {H : List HA} {o : Oper} {x y : Operand} {t t' : TypeId} {s s' : List UInt8}
end
end Go.Tri

namespace Go.Tri
open Go.RowKit
class FO (P : Program) where
 at' : Nat → Nat → Option Nat
 ok : ∀ t k n, at' t k = some n → ∃ (fs : Array Field) (f : Field) (m bytes : Nat) (z : Value), P.underlying t = some (.struct fs) ∧ fs[k]? = some f ∧ TI P f.type m bytes z ∧ Nat.ble 1 m = true ∧ f.offset = n
def AGe (m n : Int) : BinOp → Option Value
 | .lss => some (.bool (decide (m < n)))
 | .leq => some (.bool (decide (m ≤ n)))
 | .gtr => some (.bool (decide (n < m)))
 | .geq => some (.bool (decide (n ≤ m)))
 | .eql => some (.bool (decide (m = n)))
 | .neq => some (.bool (decide (m ≠ n)))
 | _ => none
def TN {α : Type} : List α → Nat → Option α
 | [], _ => none
 | a :: _, 0 => some a
 | _ :: l, k + 1 => TN l k
theorem M8 {α : Type} : ∀ (l : List α) (k : Nat), TN l k = l[k]?
 | [], _ => by simp [TN]
 | a :: _, 0 => by simp [TN]
 | _ :: l, k + 1 => by simp [TN, M8 l k]
def VZ (P : Program) [FO P] (E : DJ) : Op → Option Value
 | .move x => ev E x
 | .assign x => ev E x
 | .nilCheck x => match ev E x with
  | some (.pointer (some a)) => some (.pointer (some a))
  | some (.iface t v) => some (.iface t v)
  | _ => none
 | .extract x k => match ev E x with
  | some (.tuple vs) => TN vs.toList k
  | _ => none
 | .unOp .not _ x => match ev E x with
  | some (.bool b) => some (.bool (!b))
  | _ => none
 | .fieldAddr t x k => match ev E x with
  | some (.pointer (some ⟨b, off, none⟩)) => match FO.at' P t k with
   | some n => some (.pointer (some ⟨b, off + n, none⟩))
   | none => none
  | _ => none
 | .binOp op _ x y _ => match ev E x with
  | some (.int k m) => match ev E y with
   | some (.int k' n) => match decEq k k' with
    | isTrue _ => AGe m n op
    | isFalse _ => none
   | _ => none
  | _ => none
 | _ => none
section
variable {C : Cx} {E : DJ} {I : AU} {H : List HA} {o : Oper}
theorem Sr [FO C.P] {v : Value} (h : VZ C.P E o.op = some v) : BS C E I H o v := by
 unfold VZ at h
 split at h
 ·rename_i x ho; exact Gc ho h
 ·rename_i x ho; exact YV ho h
 ·rename_i x ho
  split at h
  ·rename_i a ha; cases h; exact T2 ho ha
  ·rename_i t v ha; cases h; exact Bk (by rw [ho]; rfl) fun ac w hs _ => by simp [execOp, ho, hs.ev ha]
  ·cases h
 ·rename_i x k ho
  split at h
  ·rename_i vs hv; rw [M8] at h; exact Fw ho hv (by simpa using h)
  ·cases h
 ·rename_i t x ho
  split at h
  ·rename_i b hb; cases h; exact AGs ho hb
  ·cases h
 ·rename_i t x k ho
  split at h
  ·rename_i b off hx
   split at h
   ·rename_i n hn
    cases h
    obtain ⟨fs, f, m, bytes, z, h1, h2, h3, h4, rfl⟩ := FO.ok _ _ _ hn
    exact Sy ho h1 h2 rfl h3 h4 hx
   ·cases h
  ·cases h
 ·rename_i op t x y t' ho
  split at h
  ·rename_i k m hx
   split at h
   ·rename_i k' n hy
    split at h
    case h_2 => cases h
    rename_i hk _
    subst hk
    cases op <;> first | (cases h; done) | skip
    all_goals simp only [AGe] at h
    all_goals first | (cases h; done) | skip
    all_goals injection h with h
    all_goals subst h
    ·exact Vo ho hx hy
    ·exact X8 ho hx hy
    ·exact AGR ho hx hy
    ·exact AGH ho hx hy
    ·exact AHR ho hx hy
    ·exact AGM ho hx hy
   ·cases h
  ·cases h
 ·cases h
def NH (n : Nat) (o : Oper) : Option Nat := match o.guard, o.dst with
 | none, some d => bif Nat.blt d n then some d else none
 | _, _ => none
theorem HL {n d : Nat} (h : NH n o = some d) : o.guard = none ∧ o.dst = some d ∧ Nat.blt d n = true := by
 unfold NH at h
 split at h
 ·rename_i d' hg hd
  cases hb : Nat.blt d' n with
  | false => rw [hb] at h; cases h
  | true => rw [hb] at h; cases h; exact ⟨hg, hd, hb⟩
 ·cases h
def WQ (P : Program) [FO P] (n : Nat) (E : DJ) (o : Oper) : Option (Nat × Value) := match NH n o with
 | some d => match VZ P E o.op with
  | some v => some (d, v)
  | none => none
 | none => none
theorem LH [FO C.P] {d : Nat} {v : Value} (h : WQ C.P C.n E o = some (d, v)) : o.guard = none ∧ o.dst = some d ∧ Nat.blt d C.n = true ∧ BS C E I H o v := by
 unfold WQ at h
 split at h
 ·rename_i d' hd
  split at h
  ·rename_i v' hv
   cases h
   obtain ⟨h1, h2, h3⟩ := HL hd
   exact ⟨h1, h2, h3, Sr hv⟩
  ·cases h
 ·cases h
def Zj (P : Program) [FO P] (n : Nat) : Nat → DJ → List Oper → Option (DJ × List Oper)
 | 0, E, l => some (E, l)
 | _ + 1, _, [] => none
 | k + 1, E, o :: l => match WQ P n E o with
  | some (d, v) => Zj P n k ((d, v) :: E) l
  | none => none
def Y7 (P : Program) [FO P] (n : Nat) : DJ → List Oper → Option DJ
 | E, [] => some E
 | E, o :: l => match WQ P n E o with
  | some (d, v) => Y7 P n ((d, v) :: E) l
  | none => none
variable {D : List Deferred} {Q : Exit → Act → World → Prop} {ops : Array Oper} {K : Act → Prop}
theorem AC [FO C.P] (k : Nat) {E' : DJ} {l l' : List Oper} (h : Zj C.P C.n k E l = some (E', l')) (hk : L C ops l' E' I H D Q) : L C ops l E I H D Q := by
 induction k generalizing E l with
 | zero => cases h; exact hk
 | succ k ih =>
  cases l with
  | nil => cases h
  | cons o l =>
   unfold Zj at h
   split at h
   ·rename_i d v hr
    obtain ⟨h1, h2, h3, h4⟩ := LH hr
    exact l_q h1 h2 h3 h4 (ih h)
   ·cases h
theorem AK [FO C.P] (k : Nat) {E' : DJ} {l l' : List Oper} (h : Zj C.P C.n k E l = some (E', l')) (hk : QS C ops l' E' I H K) : QS C ops l E I H K := by
 induction k generalizing E l with
 | zero => cases h; exact hk
 | succ k ih =>
  cases l with
  | nil => cases h
  | cons o l =>
   unfold Zj at h
   split at h
   ·rename_i d v hr
    obtain ⟨h1, h2, h3, h4⟩ := LH hr
    exact s_q h1 h2 h3 h4 (ih h)
   ·cases h
theorem Ax [FO C.P] {E' : DJ} {l : List Oper} (h : Y7 C.P C.n E l = some E') (hk : N C .normal E' I H D Q) : L C ops l E I H D Q := by
 induction l generalizing E with
 | nil => cases h; exact BX hk
 | cons o l ih =>
  unfold Y7 at h
  split at h
  ·rename_i d v hr
   obtain ⟨h1, h2, h3, h4⟩ := LH hr
   exact l_q h1 h2 h3 h4 (ih h)
  ·cases h
def ABx (ops : Array Oper) (n : Nat) (E : DJ) (o : Oper) : Option Nat := match o.guard, o.dst with
 | some (j, b), some d => match TN ops.toList j with
  | some oj => match oj.dst with
   | some dj => match Hg E dj with
    | some (.bool b') => bif b == b' && Nat.blt d n then some d else none
    | _ => none
   | none => none
  | none => none
 | _, _ => none
def AEC (P : Program) [FO P] (ops : Array Oper) (n : Nat) : Nat → DJ → List Oper → Option (DJ × List Oper)
 | 0, E, l => some (E, l)
 | _ + 1, _, [] => none
 | k + 1, E, o :: l => match ABx ops n E o with
  | some d => match VZ P E o.op with
   | some v => AEC P ops n k ((d, v) :: E) l
   | none => none
  | none => none
theorem ABs {d : Nat} (h : ABx ops C.n E o = some d) : ∃ j b oj dj, o.guard = some (j, b) ∧ ops[j]? = some oj ∧ oj.dst = some dj ∧ Hg E dj = some (.bool b) ∧ o.dst = some d ∧ Nat.blt d C.n = true := by
 unfold ABx at h
 split at h
 ·rename_i j b d' hg hd
  split at h
  ·rename_i oj hj
   split at h
   ·rename_i dj MS
    split at h
    ·rename_i b' hb
     cases hc : (b == b' && Nat.blt d' C.n) with
     | false => rw [hc] at h; cases h
     | true =>
      rw [hc] at h
      cases h
      rw [Bool.and_eq_true, beq_iff_eq] at hc
      obtain ⟨rfl, hn⟩ := hc
      rw [M8] at hj
      exact ⟨j, b, oj, dj, hg, by simpa using hj, MS, hb, hd, hn⟩
    ·cases h
   ·cases h
  ·cases h
 ·cases h
theorem sg {d : Nat} {v : Value} {rest : List Oper} (h : ABx ops C.n E o = some d) (hq : BS C E I H o v) (k : QS C ops rest ((d, v) :: E) I H K) : QS C ops (o :: rest) E I H K := by
 obtain ⟨j, b, oj, dj, h1, h2, h3, h4, h5, h6⟩ := ABs h
 exact s_g h1 h2 h3 h4 h5 h6 hq k
theorem sq {d : Nat} {v : Value} {rest : List Oper} (h : NH C.n o = some d) (hq : BS C E I H o v) (k : QS C ops rest ((d, v) :: E) I H K) : QS C ops (o :: rest) E I H K := by
 obtain ⟨h1, h2, h3⟩ := HL h
 exact s_q h1 h2 h3 hq k
theorem lq {d : Nat} {v : Value} {rest : List Oper} (h : NH C.n o = some d) (hq : BS C E I H o v) (k : L C ops rest ((d, v) :: E) I H D Q) : L C ops (o :: rest) E I H D Q := by
 obtain ⟨h1, h2, h3⟩ := HL h
 exact l_q h1 h2 h3 hq k
theorem le {d : Nat} {Post : Value → AU → List HA → Prop} {rest : List Oper} (h : NH C.n o = some d) (he : I9 C E I H o Post) (k : ∀ v I' H', Post v I' H' → L C ops rest ((d, v) :: E) I' H' D Q) : L C ops (o :: rest) E I H D Q := by
 obtain ⟨h1, h2, h3⟩ := HL h
 exact l_e h1 h2 h3 he k
theorem AJ [FO C.P] (k : Nat) {E' : DJ} {l l' : List Oper} (h : AEC C.P ops C.n k E l = some (E', l')) (hk : QS C ops l' E' I H K) : QS C ops l E I H K := by
 induction k generalizing E l with
 | zero => cases h; exact hk
 | succ k ih =>
  cases l with
  | nil => cases h
  | cons o l =>
   unfold AEC at h
   split at h
   ·rename_i d hr
    split at h
    ·rename_i v hv
     exact sg hr (Sr hv) (ih h)
    ·cases h
   ·cases h
theorem tr {id : Nat} {l : List Oper} {y : Code} (h : L C l.toArray l E I H D (Exit.then (y.wpIn (WF C.r) 0 C.P Q) Q)) : T C (.seq (.region id l.toArray false) y) E I H D Q := AN (AH h)
theorem ln {y : Code} (h : T C y E I H D Q) : L C ops [] E I H D (Exit.then (y.wpIn (WF C.r) 0 C.P Q) Q) := BX (Ai h)
theorem Gb {x y : Code} (h : T C x E I H D (Exit.then (y.wpIn (WF C.r) 0 C.P Q) Q)) : L C ops [] E I H D (Exit.then ((Code.seq x y).wpIn (WF C.r) 0 C.P Q) Q) := BX (Ai (AN h))
theorem Ar [FO C.P] {id : Nat} {l : List Oper} {y : Code} {E' : DJ} (h : Y7 C.P C.n E l = some E') (hk : T C y E' I H D Q) : T C (.seq (.region id l.toArray false) y) E I H D Q := AN (AH (Ax h (Ai hk)))
theorem Ae [FO C.P] {l : List Oper} {y : Code} {E' : DJ} (h : Y7 C.P C.n E l = some E') (hk : T C y E' I H D Q) : L C ops l E I H D (Exit.then (y.wpIn (WF C.r) 0 C.P Q) Q) := Ax h (Ai hk)
theorem Al {y : Code} (h : T C y E I H D Q) : T C .skip E I H D (Exit.then (y.wpIn (WF C.r) 0 C.P Q) Q) := Au (Ai h)
class WT (Q : Exit → Act → World → Prop) (Q' : outParam (Exit → Act → World → Prop)) : Prop where
 ok : ∀ a w, Q' .ret a w → Q .ret a w
instance (priority := low) peel0 {Q : Exit → Act → World → Prop} : WT Q Q := ⟨fun _ _ h => h⟩
instance AOo {K : Act → World → Prop} {Q Q' : Exit → Act → World → Prop} [h : WT Q Q'] : WT (Exit.then K Q) Q' := ⟨fun a w k => h.ok a w k⟩
instance AOR {id : Nat} {Q Q' : Exit → Act → World → Prop} [h : WT Q Q'] : WT (Exit.inBlock id Q) Q' := ⟨fun a w k => h.ok a w k⟩
theorem C0 {Q' : Exit → Act → World → Prop} [h : WT Q Q'] (k : N C .ret E I H D Q') : T C .ret E I H D Q := Aq fun a w hs hd hw => h.ok a w (k a w hs hd hw)
def VL (E : DJ) : List Nat → Option DJ
 | [] => some []
 | k :: ks => match Hg E k with
  | some v => match VL E ks with
   | some E' => some ((k, v) :: E')
   | none => none
  | none => none
theorem PW {E' : DJ} : ∀ (ks : List Nat), VL E ks = some E' → ∀ {E'' : DJ}, E' = E'' → Kd E E''
 | [], h, _, e => by cases h; subst e; exact AW
 | k :: ks, h, _, e => by
  unfold VL at h
  split at h
  ·rename_i v hv
   split at h
   ·rename_i E1 h1
    cases h; subst e
    exact FI hv (PW ks h1 rfl)
   ·cases h
  ·cases h
theorem AB {E' : DJ} (h : VL E (E'.map (·.1)) = some E') : Kd E E' := PW _ h rfl
theorem K6 {id : Nat} {l : List Oper} {y z : Code} (h : L C l.toArray l E I H D (Exit.then (y.wpIn (WF C.r) 0 C.P (Exit.then (z.wpIn (WF C.r) 0 C.P Q) Q)) (Exit.then (z.wpIn (WF C.r) 0 C.P Q) Q))) : L C ops [] E I H D (Exit.then ((Code.seq (.seq (.region id l.toArray false) y) z).wpIn (WF C.r) 0 C.P Q) Q) := BX (Ai (AN (tr h)))
theorem BQ {id : Nat} {l : List Oper} {y : Code} (h : L C l.toArray l E I H D (Exit.then (y.wpIn (WF C.r) 0 C.P Q) Q)) : L C ops [] E I H D (Exit.then ((Code.seq (.region id l.toArray false) y).wpIn (WF C.r) 0 C.P Q) Q) := BX (Ai (tr h))
theorem Cy {y : Code} (h : T C y E I H D Q) : QS C ops [] E I H (Ye C I H D (Exit.then (y.wpIn (WF C.r) 0 C.P Q) Q)) := NN (Ai h)
theorem tq {id : Nat} {l : List Oper} {y : Code} (hs : QS C l.toArray l E I H (Ye C I H D (Exit.then (y.wpIn (WF C.r) 0 C.P Q) Q))) : T C (.seq (.region id l.toArray false) y) E I H D Q := AN (Dw hs)
class LT (P : Program) (t : Nat) : Prop where
 ok : ∃ d, P.underlying t = some d ∧ Ji d = true
class A9 (P : Program) (f : Nat) : Prop where
 ok : ∃ fn, P.funcs[f]? = some fn ∧ (fn.name == "runtime.NumGoroutine") = false ∧ fn.body.isNone = false
class ARP (P : Program) (t : Nat) : Prop where
 ok : P.underlying t = some .string
theorem AZ {x : Operand} {t T : TypeId} {b off : Nat} {u : Value} {cs : List Value} (ho : o.op = .load t x) (hx : ev E x = some (.pointer (some ⟨b, off, none⟩))) [hl : LT C.P t] [hm : HH b T cs H] (hu : cs[off]? = some u) : BS C E I H o u := by
 obtain ⟨d, h1, h2⟩ := hl.ok
 exact Tg ho h1 h2 hx hu
theorem B1 {x : Operand} {t : TypeId} {b off : Nat} {u : Value} (ho : o.op = .load t x) (hx : ev E x = some (.pointer (some ⟨b, off, none⟩))) [hl : LT C.P t] (hr : Rd C.w0 I H b off u) : BS C E I H o u := by
 obtain ⟨d, h1, h2⟩ := hl.ok
 exact To ho h1 h2 hx hr
theorem Bw {d : Nat} {rest : List Oper} {g : Operand} {f : FuncId} {args : Array Operand} {ts : Array TypeId} {vs : List Value} {Post : Value → AU → List HA → Prop} (h : NH C.n o = some d)
  (ho : o.op = .call { callee := .value g, args := args, argTypes := ts }) (hg : ev E g = some (.func (.func f) #[] #[])) (he : evs E args.toList = some vs) [hf : A9 C.P f]
  (hc : ∀ w, St C.w0 I H w → Calls C.P f vs.toArray w (fun e w' => ∃ v, e = .returned v ∧ ∃ I' H', Post v I' H' ∧ St w I' H' w'))
  (k : ∀ v I' H', Post v I' H' → L C ops rest ((d, v) :: E) I' H' D Q) : L C ops (o :: rest) E I H D Q := by
 obtain ⟨fn, h1, h2, h3⟩ := hf.ok
 exact le h (S4 ho hg he h1 h2 h3 hc) k
theorem qc {g : Operand} {f : FuncId} {args : Array Operand} {ts : Array TypeId} {vs : List Value} {v : Value}
  (ho : o.op = .call { callee := .value g, args := args, argTypes := ts }) (hg : ev E g = some (.func (.func f) #[] #[])) (he : evs E args.toList = some vs) [hf : A9 C.P f]
  (hc : ∀ w, St C.w0 I H w → Cw C.P f vs w v) : BS C E I H o v := by
 obtain ⟨fn, h1, h2, h3⟩ := hf.ok
 exact T4 ho hg he h1 h2 h3 hc
theorem ec {g : Operand} {f : FuncId} {args : Array Operand} {ts : Array TypeId} {vs : List Value} {Post : Value → AU → List HA → Prop}
  (ho : o.op = .call { callee := .value g, args := args, argTypes := ts }) (hg : ev E g = some (.func (.func f) #[] #[])) (he : evs E args.toList = some vs) [hf : A9 C.P f]
  (hc : ∀ w, St C.w0 I H w → Calls C.P f vs.toArray w (fun e w' => ∃ v, e = .returned v ∧ ∃ I' H', Post v I' H' ∧ St w I' H' w')) : I9 C E I H o Post := by
 obtain ⟨fn, h1, h2, h3⟩ := hf.ok
 exact S4 ho hg he h1 h2 h3 hc
def rok (ops : Array Oper) : Array Bool → List Nat → Bool
 | _, [] => true
 | li, i :: is => okQ ops li i && rok ops (li.setIfInBounds i true) is
def AIL : Array Bool → List Nat → Array Bool
 | li, [] => li
 | li, i :: is => AIL (li.setIfInBounds i true) is
def AFK (P : Program) [FO P] (n : Nat) (l : List Oper) : DJ → List Nat → Option DJ
 | E, [] => some E
 | E, i :: is => match TN l i with
  | some o => match WQ P n E o with
   | some (d, v) => AFK P n l ((d, v) :: E) is
   | none => none
  | none => none
theorem YH {P : Program} [FO P] {n : Nat} {d : Nat} {v : Value} (h : WQ P n E o = some (d, v)) (r : Option Nat) (w1 : World) : BS ⟨P, r, n, w1⟩ E (fun _ => none) [] o v := (LH (C := ⟨P, r, n, w1⟩) h).2.2.2
theorem Bg {X Z : List Nat} {I0 : AU} {R0 : List HA} [FO C.P] (is : List Nat) {fuel f : Nat} {listed : Array Bool} {E' : DJ} (Bb : rok ops listed is = true) (h : AFK C.P C.n ops.toList E is = some E') (hf : Nat.sub fuel is.length = f) (IB : Nat.ble is.length fuel = true)
  (k : R C ops X Z I0 R0 f (AIL listed is) E' I H D Q) : R C ops X Z I0 R0 fuel listed E I H D Q := by
 induction is generalizing E listed fuel f with
 | nil => cases h; cases hf; exact k
 | cons i is ih =>
  have IB : is.length + 1 ≤ fuel := by simpa using IB
  obtain ⟨fuel, rfl⟩ : ∃ m, fuel = m + 1 := ⟨fuel - 1, by omega⟩
  simp only [rok, Bool.and_eq_true] at Bb
  unfold AFK at h
  split at h
  ·rename_i o hi
   split at h
   ·rename_i d v hr
    obtain ⟨h1, h2, h3, _⟩ := LH (I := I) (H := H) hr
    rw [M8] at hi
    have VO : fuel + 1 - (is.length + 1) = f := hf
    exact AJi i Bb.1 (by simpa using hi) h1 h2 h3 (fun w1 => YH hr C.r w1) (ih Bb.2 h (show fuel - is.length = f by omega) (by simpa using (show is.length ≤ fuel by omega)) k)
   ·cases h
  ·cases h
def AIa (ops : Array Oper) (X : List Nat) (listed : Array Bool) (i : Nat) : Bool := okX ops X listed i && !(Region.ready .any ops listed).isEmpty
theorem re {X Z : List Nat} {I0 : AU} {R0 : List HA} {fuel : Nat} {listed : Array Bool} (i : Nat) {d : Nat} {Post : Value → AU → List HA → Prop} (Bb : AIa ops X listed i = true) (hi : ops[i]? = some o) (Ec : Le I0 I)
  (hd : NH C.n o = some d) (he : I9 C E I H o Post)
  (k : ∀ v I' H', Post v I' H' → Le I I' ∧ (Z.contains i = true ∨ Mj H' R0) ∧ R C ops X Z I0 R0 fuel (listed.setIfInBounds i true) ((d, v) :: E) I' H' D Q) : R C ops X Z I0 R0 (fuel + 1) listed E I H D Q := by
 obtain ⟨h1, h2, h3⟩ := HL hd
 rw [AIa, Bool.and_eq_true, Bool.not_eq_true'] at Bb
 exact r_e i Bb.1 Bb.2 hi Ec h1 h2 h3 he k
theorem IC {X Z : List Nat} {I0 : AU} {R0 : List HA} {fuel : Nat} {listed : Array Bool} (i : Nat) {v : Value} {d : Nat} (Bb : (okQ ops listed i && Ld ops X i) = true) (hi : ops[i]? = some o)
  (hd : NH C.n o = some d) (hq : BS C E I0 H o v)
  (k : R C ops X Z I0 R0 fuel (listed.setIfInBounds i true) ((d, v) :: E) I0 H D Q) : R C ops X Z I0 R0 (fuel + 1) listed E I0 H D Q := by
 obtain ⟨h1, h2, h3⟩ := HL hd
 exact ALz i Bb hi (Le.refl _) h1 h2 h3 hq k
theorem Ko {X Z : List Nat} {I0 : AU} {R0 : List HA} {fuel : Nat} {listed : Array Bool} (i : Nat) {v : Value} {d : Nat} (Bb : (okQ ops listed i && Ld ops Z i) = true) (hi : ops[i]? = some o) (Ec : Le I0 I) [Kt : CY H R0]
  (hd : NH C.n o = some d) (hq : ∀ I', Le I0 I' → BS C E I' R0 o v)
  (k : R C ops X Z I0 R0 fuel (listed.setIfInBounds i true) ((d, v) :: E) I H D Q) : R C ops X Z I0 R0 (fuel + 1) listed E I H D Q := by
 obtain ⟨h1, h2, h3⟩ := HL hd
 exact AMi i Bb hi Ec h1 h2 h3 hq k
theorem rqf {X Z : List Nat} {I0 : AU} {R0 : List HA} {fuel : Nat} {listed : Array Bool} (i : Nat) {v : Value} {d : Nat} (Bb : okQ ops listed i = true) (hi : ops[i]? = some o)
  (hd : NH C.n o = some d) (hq : ∀ w1 : World, BS { C with w0 := w1 } E (fun _ => none) [] o v)
  (k : R C ops X Z I0 R0 fuel (listed.setIfInBounds i true) ((d, v) :: E) I H D Q) : R C ops X Z I0 R0 (fuel + 1) listed E I H D Q := by
 obtain ⟨h1, h2, h3⟩ := HL hd
 exact AJi i Bb hi h1 h2 h3 hq k
end
end Go.Tri

namespace Go.Tri
open Go.RowKit
def Ug (p : List UInt8 × Int) (i : Nat) : MapEntry := { key := Bj p.1, val := .int .i64 p.2, born := i }
def Gq : Nat → List (List UInt8 × Int) → List MapEntry
 | _, [] => []
 | i, p :: r => Ug p i :: Gq (i + 1) r
def Oq (T : List (List UInt8 × Int)) : Obj := .map (Gq 0 T).toArray T.length
theorem PO (p : List UInt8 × Int) : ∀ (T : List (List UInt8 × Int)) (i : Nat), Gq i (T ++ [p]) = Gq i T ++ [Ug p (i + T.length)]
 | [], _ => rfl
 | q :: T, i => by
  show Ug q i :: Gq (i + 1) (T ++ [p]) = Ug q i :: (Gq (i + 1) T ++ _)
  rw [PO p T (i + 1), List.length_cons, show i + 1 + T.length = i + (T.length + 1) by omega]
section
variable {C : Cx} {E : DJ} {I : AU} {H F : List HA} {o : Oper} {x y z : Operand} {t kt et : TypeId} {T : List (List UInt8 × Int)}
theorem XG (ho : o.op = .makeMap t none) : I9 C E I H o (fun v I' H' => ∃ b, v = .map (some b) ∧ I = I' ∧ H' = Fq b (Oq []) :: H) :=
 fun a w hs hw K Q hk => C3 (by rw [ho]; rfl) (by
  simp only [execOp, ho]
  rw [Sem.run_bind, show (Option.map a.eval (none : Option Operand)) = none from rfl, run_makeMap_plain (P := C.P) w t]
  rfl) (hk _ _ _ _ ⟨w.heap.size, rfl, rfl, rfl⟩ (hw.new _))
theorem We {w0 w : World} {b : Nat} {u v : Obj} (h : St w0 I (Fq b u :: F) w) : St w0 I (Fq b v :: F) { w with heap := w.heap.setIfInBounds b v } := by
 have hb : w.heap[b]? = some u := h.sat _ (List.mem_cons_self)
 refine h.turn rfl rfl rfl (by simp) (fun k _ hk => ?_) ?_ (.inl rfl)
 ·show (w.heap.setIfInBounds b v)[k]? = _
  rw [Array.getElem?_setIfInBounds, if_neg (fun e => hk (by rw [← e]; rfl))]
 ·show (w.heap.setIfInBounds b v)[b]? = _
  rw [Array.getElem?_setIfInBounds, if_pos rfl, if_pos (EQ hb)]
end
end Go.Tri
