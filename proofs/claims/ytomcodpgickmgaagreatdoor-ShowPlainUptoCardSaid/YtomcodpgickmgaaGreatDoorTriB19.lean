/-
  Quotients, signs turned, bits.
-/
import Derived.Test.YtomcodpgickmgaaGreatDoorTriB5
import Derived.Stop.IfaceNil
import Derived.Sort.Grow
import Derived.WalkSmall
import Derived.ScopeJumps
import Derived.Lib.OthersKept
import Derived.Lib.AppendStr
import Derived.RecoverIn
import Derived.RangeFuncLeaves
namespace Go.Tri
open Go.RowKit
/-- a fact on bytes, one by one -/
theorem u8_all {p : UInt8 → Prop} (h : ∀ n : Fin 256, p (UInt8.ofNat n.val)) (c : UInt8) : p c := by
  have := h ⟨c.toNat, c.toNat_lt⟩
  simpa using this
section
variable {C : Cx} {E : Env} {I : Look} {H : List HA} {o : Oper} {x y : Operand} {t t' : TypeId} {k : IntKind} {m n : Int}
theorem q_or_u8 {c d : UInt8} (ho : o.op = .binOp .or t x y t') (hx : ev E x = some (u8 c)) (hy : ev E y = some (u8 d)) : Quiet C E I H o (u8 (c ||| d)) :=
  quiet_bin ho hx hy fun w => by
    have h : ∀ e : UInt8, IntKind.u8.wrap (e.toNat : Int) = (e.toNat : Int) := u8_all (by decide +kernel)
    simp [u8, go_sem, Op.intBits, eqGuard]
    exact h (c ||| d)
theorem wrap_u8 (n' : Nat) : IntKind.u8.wrap (n' : Int) = ((n' % 256 : Nat) : Int) := by
  simp [IntKind.wrap, IntKind.signed, IntKind.bits]
theorem q_conv_u8 (n' : Nat) {d : TypeDesc} (ho : o.op = .convert t t' x) (hs : C.P.underlying t = some d) (hd : C.P.underlying t' = some (.int .u8)) (hx : ev E x = some (.int k m)) (hr : m = (n' : Int)) : Quiet C E I H o (u8 (UInt8.ofNat n')) := by
  have e : IntKind.u8.wrap m = ((UInt8.ofNat n').toNat : Int) := by
    rw [hr, UInt8.toNat_ofNat', wrap_u8]
  exact q_conv_int ho hs hd hx e
end
end Go.Tri

/-
  Interface values told from nil; worlds that only grew.
-/
namespace Go.Tri
open Go.RowKit
/-- an interface value: nil (b false), or not -/
def ErrIs (e : Value) (b : Bool) : Prop := (b = false ∧ e = .nilIface) ∨ (b = true ∧ ∃ u p, e = .iface u p)
theorem ErrIs.one {e : Value} {b : Bool} (h : ErrIs e b) : One e := by
  rcases h with ⟨_, rfl⟩ | ⟨_, u, p, rfl⟩ <;> exact ⟨rfl, rfl⟩
section
variable {C : Cx} {E : Env} {I : Look} {H : List HA} {o : Oper} {x : Operand} {t t' : TypeId} {e : Value} {b : Bool}
theorem q_neq_inil (ho : o.op = .binOp .neq t x (.const .nilIface) t') (ht : C.P.isIface t = true) (hx : ev E x = some e) (hb : ErrIs e b) : Quiet C E I H o (.bool b) :=
  quiet_bin ho hx rfl fun w => by
    rcases hb with ⟨rfl, rfl⟩ | ⟨rfl, u, p, rfl⟩
    · simp [eqGuard, run_neq_nil_nil_at w t ht]
    · simp [eqGuard, run_neq_iface_nil w t ht]
theorem q_min {y : Operand} {tt : TypeId} {k k' : IntKind} {m n : Int} (ho : o.op = .call { callee := .builtin .min, args := #[x, y], argTypes := #[t, tt] }) (hx : ev E x = some (.int k m)) (hy : ev E y = some (.int k' n)) : Quiet C E I H o (.int k (min m n)) :=
  quiet_builtin ho (vs := [.int k m, .int k' n]) (by simp [evs, hx, hy]) fun cs w => by
    have h := Go.run_min_int2 (P := C.P) w #[t, tt] o.type k k' m n
    have e : (if n < m then n else m) = min m n := by rw [Int.min_def]; split <;> split <;> omega
    rw [e] at h
    simp [builtin, h]
end
end Go.Tri

/-
  Scopes: gone through straight, or with jumps back to one label.
-/
namespace Go.Tri
open Go.RowKit
section
variable {C : Cx} {E : Env} {I : Look} {H : List HA} {D : List Deferred} {Q : Exit → Act → World → Prop}
theorem t_label {l : Nat} (h : N C .normal E I H D Q) : T C (.label l) E I H D Q := fun a w hs hd hw => wpIn_label (h a w hs hd hw)
theorem t_goto {l : Nat} (h : N C (.goto l) E I H D Q) : T C (.goto l) E I H D Q := fun a w hs hd hw => wpIn_goto (h a w hs hd hw)
theorem t_scope {c : Code} (hr : C.r = none) (h : T C c E I H D (Exit.noGoto Q)) : T C (.scope c) E I H D Q := by
  intro a w hs hd hw
  have := h a w hs hd hw
  rw [hr, WF_none, wpIn_wide] at *
  exact wp_scope_straight this
theorem n_ret_scope (h : N C .ret E I H D Q) : N C .ret E I H D (Exit.noGoto Q) := h
theorem n_goto_then {K : Act → World → Prop} {l : Nat} (h : N C (.goto l) E I H D Q) : N C (.goto l) E I H D (Exit.then K Q) := h
theorem n_goto_block {id l : Nat} (h : N C (.goto l) E I H D Q) : N C (.goto l) E I H D (Exit.inBlock id Q) := h
theorem n_ret_jump {l : Nat} {J : Act → World → Prop} (h : N C .ret E I H D Q) : N C .ret E I H D (Exit.jump l J Q) := h
theorem wp_scope_ix {P : Program} {ι : Type} {c rest : Code} {a : Act} {w : World} (l : Nat) (J : ι → Act → World → Prop) (μ : ι → Nat) (hf : findLabel c l = some rest) (i0 : ι) (h0 : J i0 a w)
    (first : ∀ a w, J i0 a w → c.wp P (Exit.jump l (fun a' w' => ∃ j, μ j < μ i0 ∧ J j a' w') Q) a w)
    (pass : ∀ i a w, J i a w → rest.wp P (Exit.jump l (fun a' w' => ∃ j, μ j < μ i ∧ J j a' w') Q) a w) : (Code.scope c).wp P Q a w := by
  intro b k cs
  have hg : gotoIn l (.inScope c :: k) = some (.code rest :: .inScope c :: k) := by simp [gotoIn, hf]
  have key : ∀ n i a w, μ i = n → J i a w → ∃ e a' w', Q e a' w' ∧ Arrives P (lone (b.at a (.code rest :: .inScope c :: k)) cs w) b k cs e a' w' := by
    intro n
    induction n using Nat.strongRecOn with
    | _ n ih =>
      intro i a w hn hJ
      obtain ⟨e, a₁, w₁, hq, harr⟩ := pass i a w hJ b (.inScope c :: k) cs
      cases e with
      | normal => exact ⟨.normal, a₁, w₁, hq, Steps.trans harr (.one step_inScope)⟩
      | exit id => exact ⟨.exit id, a₁, w₁, hq, fun k' hk => harr k' (by simp [exitTo, hk])⟩
      | goto l' =>
        obtain ⟨rfl, j, hlt, hJ'⟩ := hq
        obtain ⟨e₂, a₂, w₂, hq₂, harr₂⟩ := ih _ (by omega) j a₁ w₁ rfl hJ'
        exact ⟨e₂, a₂, w₂, hq₂, .of_steps (harr _ hg) harr₂⟩
      | ret => exact ⟨_, a₁, w₁, hq, harr⟩
      | panic ch => exact ⟨_, a₁, w₁, hq, harr⟩
      | outgrown => exact ⟨_, a₁, w₁, hq, harr⟩
  obtain ⟨e, a₁, w₁, hq, harr⟩ := first a w h0 b (.inScope c :: k) cs
  cases e with
  | normal => exact ⟨.normal, a₁, w₁, hq, .head step_scope (Steps.trans harr (.one step_inScope))⟩
  | exit id => exact ⟨.exit id, a₁, w₁, hq, fun k' hk => .head step_scope (harr k' (by simp [exitTo, hk]))⟩
  | goto l' =>
    obtain ⟨rfl, j, _, hJ'⟩ := hq
    obtain ⟨e₂, a₂, w₂, hq₂, harr₂⟩ := key _ j a₁ w₁ rfl hJ'
    exact ⟨e₂, a₂, w₂, hq₂, .of_steps (.head step_scope (harr _ hg)) harr₂⟩
  | ret => exact ⟨_, a₁, w₁, hq, .of_steps (.one step_scope) harr⟩
  | panic ch => exact ⟨_, a₁, w₁, hq, .of_steps (.one step_scope) harr⟩
  | outgrown => exact ⟨_, a₁, w₁, hq, .of_steps (.one step_scope) harr⟩
/-- what holds at a jump back -/
def Jump {ι : Type} (C : Cx) (Cd : ι → Prop) (EV : ι → Env) (II : ι → Look) (HI : ι → List HA) (D : List Deferred) (j : ι) (a : Act) (w : World) : Prop :=
  Cd j ∧ Sat (EV j) C.n a.tmps ∧ a.defers = D ∧ St C.w0 (II j) (HI j) w
def Jumps {ι : Type} (C : Cx) (Cd : ι → Prop) (μ : ι → Nat) (EV : ι → Env) (II : ι → Look) (HI : ι → List HA) (D : List Deferred) (i : ι) (a : Act) (w : World) : Prop :=
  ∃ j, μ j < μ i ∧ Jump C Cd EV II HI D j a w
theorem t_scopeE {ι : Type} {c rest : Code} (l : Nat) (hr : C.r = none) (hf : findLabel c l = some rest) (Cd : ι → Prop) (μ : ι → Nat) (EV : ι → Env) (E0 : Env) (II : ι → Look) (HI : ι → List HA) (i0 : ι) (hc : Cd i0) (he : Sub E (EV i0)) (he0 : Sub E E0)
    (hh : ∀ w, St C.w0 I H w → St C.w0 (II i0) (HI i0) w)
    (first : ∀ i, Cd i → T C c (EV i ++ E0) (II i) (HI i) D (Exit.jump l (Jumps C Cd μ (fun i => EV i ++ E0) II HI D i) Q))
    (pass : ∀ i, Cd i → T C rest (EV i ++ E0) (II i) (HI i) D (Exit.jump l (Jumps C Cd μ (fun i => EV i ++ E0) II HI D i) Q)) : T C (.scope c) E I H D Q := by
  intro a w hs hd hw
  rw [hr, WF_none, wpIn_wide]
  refine wp_scope_ix l (Jump C Cd (fun i => EV i ++ E0) II HI D) μ hf i0 ⟨hc, hs.sub (sub_app he he0), hd, hh w hw⟩ ?_ ?_
  · intro a w ⟨h1, h2, h3, h4⟩
    have := first i0 h1 a w h2 h3 h4
    rw [hr, WF_none, wpIn_wide] at this
    exact this
  · intro i a w ⟨h1, h2, h3, h4⟩
    have := pass i h1 a w h2 h3 h4
    rw [hr, WF_none, wpIn_wide] at this
    exact this
theorem n_gotoE {ι : Type} {l : Nat} {Cd : ι → Prop} {μ : ι → Nat} {EV : ι → Env} {E0 : Env} {II : ι → Look} {HI : ι → List HA} {i : ι} (j : ι) (hc : Cd j) (hm : μ j < μ i) (he : Sub E (EV j)) (he0 : Sub E E0)
    (hh : ∀ w, St C.w0 I H w → St C.w0 (II j) (HI j) w) : N C (.goto l) E I H D (Exit.jump l (Jumps C Cd μ (fun i => EV i ++ E0) II HI D i) Q) :=
  fun a w hs hd hw => ⟨rfl, j, hm, hc, hs.sub (sub_app he he0), hd, hh w hw⟩
end
end Go.Tri

/-
  A cell of an owned slice is written.
-/
namespace Go.Tri
open Go.RowKit
theorem e_storeV {C : Cx} {E : Env} {I : Look} {H : List HA} {o : Oper} {p x : Operand} {t T : TypeId} {k sz n bytes : Nat} {v u z : Value} {xs : List Value} {F : List HA} (ho : o.op = .store t p x) (hi : TI C.P t 1 bytes z)
    (hp : ev E p = some (.pointer (some ⟨(adr v).block, (adr v).off + k, none⟩))) (hx : ev E x = some u) (h1 : One u) [hpk : PickVec v T sz n xs F H] (hlt : k < xs.length) :
    Eff C E I H o (fun _ I' H' => I = I' ∧ H' = vec v T sz n (xs.set k u) :: F) := by
  intro a w hs hw K Q hk
  have hw' := hw.perm hpk.pick
  obtain ⟨hl, hv⟩ : vecSat v T sz n xs (look w) := hw'.sat _ (List.mem_cons_self)
  rcases hv with ⟨rfl, rfl⟩ | ⟨g, cap, cur, rfl, hg, hn, hc, hsz, htk⟩
  · rw [Nat.zero_mul] at hl; omega
  · have hb : w.heap[g]? = some (.cells cur T (0, 0)) := hg
    have hle : n * sz ≤ cap * sz := Nat.mul_le_mul_right _ hn
    have hcur : cur = cur.toList.toArray := by simp
    have hk1 : k < cur.toList.length := by
      have : cur.toList.length = cur.size := by simp
      omega
    rw [hcur] at hb
    have hset := heap_setCell_row (off := k) (v := u) hb
    refine wpIn_of_skip (by rw [ho]; rfl) ?_ (hk undef I _ _ ⟨rfl, rfl⟩ (hw'.turn (w' := w.setCell ⟨g, k, none⟩ u) rfl rfl rfl (by simp) (fun j _ hj => Below.heap_setCell _ _ _ _ (fun e => hj (by rw [e]; rfl))) ?_ (.inl rfl)))
    · simp only [execOp, ho, hs.ev hp, hs.ev hx, Instr.storeAt, Instr.sureAddr, storeVar, h1.1]
      simp [adr, hi.sizeOf, storeCells, Addr.add_zero', run_store1 h1.2 hb hk1]
    · refine ⟨by rw [List.length_set]; exact hl, .inr ⟨g, cap, (cur.toList.set k u).toArray, rfl, hset, hn, hc, by simpa using hsz, ?_⟩⟩
      rw [← htk]
      simp only [List.take_set]
/-- a field of one element -/
theorem flat_set {α : Type} {f : α → List Value} {sz : Nat} (hu : ∀ c, (f c).length = sz) : ∀ {l : List α} {i j : Nat} {d e : α} {u : Value}, i < l.length → j < sz → (f (nth l i d)).set j u = f e → ((l.map f).flatten).set (i * sz + j) u = ((l.set i e).map f).flatten
  | [], _, _, _, _, _, h, _, _ => by simp at h
  | c :: l, 0, j, d, e, u, h, hj, he => by
    have he' : (f c).set j u = f e := he
    rw [List.map_cons, List.flatten_cons, List.set_append_left _ _ (by rw [hu]; omega), List.set_cons_zero, List.map_cons, List.flatten_cons, Nat.zero_mul, Nat.zero_add, he']
  | c :: l, i + 1, j, d, e, u, h, hj, he => by
    rw [List.map_cons, List.flatten_cons, List.set_append_right _ _ (by rw [hu, Nat.add_mul]; omega), List.set_cons_succ, List.map_cons, List.flatten_cons]
    congr 1
    rw [hu, show (i + 1) * sz + j - sz = i * sz + j by rw [Nat.add_mul]; omega]
    exact flat_set hu (d := d) (by simpa using h) hj he
/-! results, in slots, in cells, in rows of cells -/
def RV (C : Cx) (E : Env) (F : List HA) (I : Look) (rv : ResultVar) (v : Value) : Prop := ∀ (τ : Array Value) (w : World), Sat E C.n τ → St C.w0 I F w → (resF τ rv).run C.P w = .ok v w
def ResG (C : Cx) (E : Env) (I : Look) (F : List HA) : List ResultVar → List Value → Prop
  | [], [] => True
  | r :: rs, v :: vs => RV C E F I r v ∧ ResG C E I F rs vs
  | _, _ => False
section
variable {C : Cx} {E : Env} {I : Look} {H F : List HA} {R : Ending → World → Prop} {fn : Func}
theorem rg_nil : ResG C E I F [] [] := trivial
theorem rg_tmp {t : Nat} {v : Value} {rs : List ResultVar} {vs : List Value} (h : get E t = some v) (k : ResG C E I F rs vs) : ResG C E I F (.tmp t :: rs) (v :: vs) := ⟨fun τ w hs _ => by simp [resF, hs.2 t v h], k⟩
theorem rg_cell {a b off : Nat} {t : TypeId} {d : TypeDesc} {v : Value} {rs : List ResultVar} {vs : List Value} (h : get E a = some (.pointer (some ⟨b, off, none⟩))) (ht : C.P.underlying t = some d) (hd : notAgg d = true) (hr : Rd C.w0 I F b off v) (k : ResG C E I F rs vs) :
    ResG C E I F (.cell a t :: rs) (v :: vs) := ⟨fun τ w hs hw => by
      have h6 := hs.2 a _ h
      have h7 := hr w hw
      simp [resF, h6, asAddr, loadVar, run_isAgg_false ht hd, h7], k⟩
theorem rg_row {a b off n bytes : Nat} {t T : TypeId} {fs : Array Field} {z : Value} {cs us : List Value} {rs : List ResultVar} {vs : List Value} (h : get E a = some (.pointer (some ⟨b, off, none⟩))) (ht : C.P.underlying t = some (.struct fs)) (hi : TI C.P t n bytes z)
    [hm : InRow b T cs F] (hu : (cs.drop off).take n = us) (hn : us.length = n) (k : ResG C E I F rs vs) : ResG C E I F (.cell a t :: rs) (.agg us.toArray :: vs) := ⟨fun τ w hs hw => by
      have h6 := hs.2 a _ h
      have hr : Rds C.w0 I F b off us := rds_row hm.mem hu
      have h2 := run_loadCells (P := C.P) (w := w) (b := b) (k := off) (us := us) (fun j u hj => hr j u hj w hw)
      subst hn
      simp [resF, h6, asAddr, loadVar, run_isAgg_true ht, hi.sizeOf, h2], k⟩
theorem run_resG {τ : Array Value} {w : World} (hs : Sat E C.n τ) (hw : St C.w0 I F w) : ∀ {rs : List ResultVar} {vs : List Value}, ResG C E I F rs vs → (rs.mapM (resF τ)).run C.P w = .ok vs w
  | [], [], _ => by simp
  | r :: rs, v :: vs, h => by
    have ih := run_resG hs hw h.2
    have h1 := h.1 τ w hs hw
    simp only [List.mapM_cons, Sem.run_bind, h1, Result.andThen_ok, ih]
    simp
  | [], _ :: _, h => h.elim
  | _ :: _, [], h => h.elim
theorem run_resultsG {τ : Array Value} {w : World} {rs : List ResultVar} {vs : List Value} (hr : fn.results = rs.toArray) (hs : Sat E C.n τ) (hw : St C.w0 I F w) (h : ResG C E I F rs vs) : (results fn τ).run C.P w = .ok (retV vs) w := by
  rw [results_eq, hr, List.mapM_toArray, Sem.run_bind, Sem.run_map]
  rw [run_resG hs hw h]
  simp only [Result.andThen_ok]
  match vs with
  | [] => simp [retV]
  | [v] => simp [retV]
  | _ :: _ :: _ => simp [retV]
theorem n_retGG {rs : List ResultVar} {vs : List Value} {e : Exit} (he : e = .ret ∨ e = .normal) (hr : fn.results = rs.toArray) (h : ResG C E I H rs vs) (k : ∀ w, St C.w0 I H w → R (.returned (retV vs)) w) : N C e E I H [] (bodyPost C.P fn R) := by
  intro a w hs hd hw
  rcases he with rfl | rfl
  · exact ⟨hd, _, run_resultsG hr hs hw h, k w hw⟩
  · exact ⟨hd, _, run_resultsG hr hs hw h, k w hw⟩
theorem n_retGGM {bs : List Nat} {rs : List ResultVar} {vs : List Value} {e : Exit} (he : e = .ret ∨ e = .normal) (hr : fn.results = rs.toArray) [hp : PickDs bs F H] (h : ResG C E I F rs vs) (k : ∀ w, St C.w0 I F w → R (.returned (retV vs)) w) :
    N C e E I H (marks bs) (bodyPostM (WF none) 0 C.P fn R) := by
  intro a w hs hd hw
  have := leaves_marksG (P := C.P) (tmps := a.tmps) (fn := fn) (R := R) (fun w hw => run_resultsG hr hs hw h) bs w (hw.sub hp.sub) k
  rcases he with rfl | rfl
  · show LeavesInM _ _ _ _ _ _ a.defers .returning w
    rw [hd]; exact this
  · show LeavesInM _ _ _ _ _ _ a.defers .returning w
    rw [hd]; exact this
end
end Go.Tri

/-
  A text's runes one by one; a rune as a text.
-/
namespace Go.Tri
open Go.RowKit
def runeAt (s : List UInt8) (pos : Nat) : Nat × Nat := Utf8.decode ⟨s.toArray⟩ pos
def nextPos (s : List UInt8) (pos : Nat) : Nat := if pos < s.length then pos + (runeAt s pos).2 else pos
class PickIt (b : Nat) (s : outParam (List UInt8)) (pos : outParam Nat) (F : outParam (List HA)) (H : List HA) : Prop where
  pick : H.Perm (obj b (.stringIter ⟨s.toArray⟩ pos) :: F)
instance pickIt_head {b pos : Nat} {s : List UInt8} {F : List HA} : PickIt b s pos F (obj b (.stringIter ⟨s.toArray⟩ pos) :: F) := ⟨pick_head⟩
instance (priority := low) pickIt_tail {b pos : Nat} {s : List UInt8} {y : HA} {F H : List HA} [h : PickIt b s pos F H] : PickIt b s pos (y :: F) (y :: H) := ⟨pick_tail h.pick⟩
section
variable {C : Cx} {E : Env} {I : Look} {H F : List HA} {o : Oper} {x : Operand} {t t' : TypeId} {s : List UInt8}
theorem e_rangeStr (ho : o.op = .range t x) (ht : C.P.underlying t = some .string) (hx : ev E x = some (str s)) :
    Eff C E I H o (fun v I' H' => ∃ b, v = .pointer (some ⟨b, 0, none⟩) ∧ I = I' ∧ H' = obj b (.stringIter ⟨s.toArray⟩ 0) :: H) :=
  fun a w hs hw K Q hk => wpIn_of_run (by rw [ho]; rfl) (by
    simp only [execOp, ho, hs.ev hx, str]
    rw [Sem.run_bind, run_range_string (P := C.P) w t ⟨s.toArray⟩ ht]
    rfl) (hk _ _ _ _ ⟨w.heap.size, rfl, rfl, rfl⟩ (hw.new _))
theorem e_nextStr {b pos : Nat} (ho : o.op = .next x true) (hx : ev E x = some (.pointer (some ⟨b, 0, none⟩))) [hp : PickIt b s pos F H] :
    Eff C E I H o (fun v I' H' => ∃ vs : Array Value, v = .tuple vs ∧ vs[0]? = some (.bool (decide (pos < s.length))) ∧ (pos < s.length → vs[1]? = some (.int .i64 (pos : Int)) ∧ vs[2]? = some (.int .i32 ((runeAt s pos).1 : Int))) ∧ I = I' ∧ H' = obj b (.stringIter ⟨s.toArray⟩ (nextPos s pos)) :: F) := by
  intro a w hs hw K Q hk
  have hw' := hw.perm hp.pick
  have hb : w.heap[b]? = some (.stringIter ⟨s.toArray⟩ pos) := hw'.sat _ (List.mem_cons_self)
  have hsz := size_str s
  by_cases h : pos < s.length
  · refine wpIn_of_run (v := .tuple #[.bool true, .int .i64 (pos : Int), .int .i32 ((runeAt s pos).1 : Int)]) (by rw [ho]; rfl) (by
      simp only [execOp, ho, hs.ev hx]
      rw [Sem.run_bind, Lib.run_next_any_at (P := C.P) w b ⟨s.toArray⟩ pos o.type hb (by omega)]
      rfl) (hk _ I _ _ ⟨_, rfl, by rw [decide_eq_true h]; rfl, fun _ => ⟨rfl, rfl⟩, rfl, rfl⟩ ?_)
    refine hw'.turn (w' := w.iterAt b ⟨s.toArray⟩ (pos + (runeAt s pos).2)) rfl rfl rfl (by simp [World.iterAt]) (fun k _ hk => ?_) ?_ (.inl rfl)
    · simp only [World.iterAt, Array.getElem?_setIfInBounds]
      rw [if_neg (fun e => hk (by rw [← e]; rfl))]
    · rw [nextPos, if_pos h]
      exact Lib.iterAt_heap w b ⟨s.toArray⟩ pos _ hb
  · refine wpIn_of_run (v := .tuple #[.bool false]) (by rw [ho]; rfl) (by
      simp only [execOp, ho, hs.ev hx]
      rw [Sem.run_bind, Lib.run_next_end_at (P := C.P) w b ⟨s.toArray⟩ pos o.type hb (by omega)]
      rfl) (hk _ I _ _ ⟨_, rfl, by rw [decide_eq_false h]; rfl, fun h2 => absurd h2 h, rfl, by rw [nextPos, if_neg h]⟩ hw')
theorem q_rune_str {k : IntKind} {r : Int} (ho : o.op = .convert t t' x) (hs : C.P.underlying t = some (.int k)) (hd : C.P.underlying t' = some .string) (hx : ev E x = some (.int k r)) : Quiet C E I H o (str (Utf8.encode r).data.toList) :=
  quiet_run (by rw [ho]; rfl) fun a w hsat _ => by
    simp [execOp, ho, hsat.ev hx, str, convert, run_underlying hs, run_underlying hd, Conv.intToString]
end
end Go.Tri

/-
  A text put behind a row of bytes.
-/
namespace Go.Tri
open Go.RowKit
theorem appendStr_at {P : Program} (w : World) (t u ty e : TypeId) (i : TypeInfo) (ht : P.underlying t = some (.slice e)) (hu : P.underlying u = some .string) (hi : P.info? e = some i) (hz : i.zero = some (.int .u8 0)) (hs1 : i.size = 1) (hby : i.bytes = 1)
    (v : Value) (n : Nat) (xs : List Value) (hv : vecSat v e 1 n xs (look w)) (s : ByteArray) (h63 : n + s.size ≤ maxLen) (hb : n + s.size ≤ 140737488355328) :
    ∃ v' w', (Builtin.append_ #[t, u] ty #[v, .string s]).run P w = .ok v' w' ∧ vecSat v' e 1 (n + s.size) (xs ++ Lib.strCells s) (look w') ∧ w.grownBy w' v.ownBlock ∧ (v'.ownBlock = v.ownBlock ∨ v'.ownBlock = some w.heap.size) := by
  obtain ⟨v', w', hrun, ho, hg, hnil⟩ := Lib.run_append_own_string (P := P) w 0 t u ty e i ht hu hi hz hs1 hby v n xs (vec_owns.1 hv) s h63 hb (Nat.zero_le _)
  refine ⟨v', w', hrun, vec_owns.2 ho, hg, ?_⟩
  have hxl : xs.length = n := by rw [hv.1, Nat.mul_one]
  have hm : maxLen ≤ 9223372036854775807 := by decide
  rcases hv.2 with ⟨rfl, rfl⟩ | ⟨g, cap, cur, rfl, hgg, hn, hc, hsz, htk⟩
  · by_cases h0 : s.size = 0
    · left; rw [hnil.2 ⟨rfl, h0⟩]
    · right
      have := run_append_nil_string (P := P) w t u ty e i (.int .u8 0) ht hu hi hz s (by omega) (by omega) (by rw [hby]; omega)
      rw [this] at hrun
      injection hrun with h1 h2
      rw [← h1]; rfl
  · by_cases hroom : n + s.size ≤ cap
    · left
      have := Lib.run_append_room_string (P := P) w t u ty e i ht hu hi hs1 g n cap cur hgg s hroom (by omega)
      rw [this] at hrun
      injection hrun with h1 h2
      rw [← h1]; rfl
    · right
      have := Lib.run_append_grow_string (P := P) w t u ty e i (.int .u8 0) ht hu hi hz ⟨g, 0, none⟩ n cap xs (by rw [hs1]; omega) ((vec_owns.1 hv).cells (g := g) rfl) s (by omega) (by omega) (by rw [hby]; exact growslice_fits (by omega) (by omega))
      rw [this] at hrun
      injection hrun with h1 h2
      rw [← h1]; rfl
theorem strCells_str (s : List UInt8) : Lib.strCells ⟨s.toArray⟩ = (s.map byC).flatten := by
  rw [byC_flat]
  unfold Lib.strCells
  simp [u8]
theorem e_appendStr {C : Cx} {E : Env} {I : Look} {H : List HA} {o : Oper} {x y : Operand} {t u e e' : TypeId} {v : Value} {l s : List UInt8} {F : List HA} (ho : o.op = .call { callee := .builtin .append, args := #[x, y], argTypes := #[t, u] })
    (ht : C.P.underlying t = some (.slice e)) (hu : C.P.underlying u = some .string) (hi : TI C.P e 1 1 (.int .u8 0))
    (hx : ev E x = some v) (hy : ev E y = some (str s)) [hpk : PickVec v e' 1 l.length (l.map byC).flatten F H] (hee : e = e')
    (h63 : l.length + s.length ≤ maxLen) (hby : l.length + s.length ≤ 140737488355328) :
    Eff C E I H o (fun v' I' H' => I = I' ∧ H' = tvec e' 1 byC v' (l ++ s) :: F) := by
  subst hee
  intro a w hs hw K Q hk
  have hw' := hw.perm hpk.pick
  have hv : vecSat v e 1 l.length (l.map byC).flatten (look w) := hw'.sat _ (List.mem_cons_self)
  have hsz := size_str s
  obtain ⟨i, hii, hi1, hi2, hi3⟩ := hi
  obtain ⟨v', w', hrun, ho', hg, hob⟩ := appendStr_at (P := C.P) w t u o.type e i ht hu hii hi3 hi1 hi2 v _ _ hv ⟨s.toArray⟩ (by omega) (by omega)
  rw [hsz, strCells_str, ← List.flatten_append, ← List.map_append, ← List.length_append] at ho'
  refine wpIn_of_run (v := v') (w' := w') (by rw [ho]; rfl) ?_ (hk v' I _ w' ⟨rfl, rfl⟩ (hw'.turn hg.os hg.tape hg.output hg.size (fun k hk hne => hg.block k hk hne) ho' ?_))
  · simp only [execOp, ho, resolve]
    simp [hs.ev hx, hs.ev hy, str, invoke, builtin, hrun]
  · rcases hob with e | e
    · exact .inl e
    · exact .inr ⟨_, e, Nat.le_refl _⟩
theorem q_load_vecF {C : Cx} {E : Env} {I : Look} {H : List HA} {o : Oper} {x : Operand} {t T : TypeId} {d : TypeDesc} {sz n j fo : Nat} {v u : Value} {xs : List Value} (ho : o.op = .load t x) (ht : C.P.underlying t = some d) (hd : notAgg d = true)
    (hx : ev E x = some (.pointer (some ⟨(adr v).block, (adr v).off + j * sz + fo, none⟩))) [hm : InVec v T sz n xs H] (hu : xs[j * sz + fo]? = some u) : Quiet C E I H o u := q_load_vec (j := j * sz + fo) ho ht hd (by rw [← Nat.add_assoc]; exact hx) hu
theorem vec_at {α : Type} {f : α → List Value} {sz fo : Nat} (hu : ∀ c, (f c).length = sz) {l : List α} {i : Nat} {d : α} {u : Value} (h : i < l.length) (hf : (f (nth l i d))[fo]? = some u) : ((l.map f).flatten)[i * sz + fo]? = some u :=
  flat_at hu (cs := f (nth l i d)) (by rw [List.getElem?_map, List.getElem?_eq_getElem h, nth_eq h]; rfl) hf
theorem e_storeT {α : Type} {f : α → List Value} {l : List α} {C : Cx} {E : Env} {I : Look} {H : List HA} {o : Oper} {p x : Operand} {t T : TypeId} {j fo sz bytes : Nat} {v u z : Value} {F : List HA} (d e1 : α) (ho : o.op = .store t p x) (hi : TI C.P t 1 bytes z)
    (hp : ev E p = some (.pointer (some ⟨(adr v).block, (adr v).off + j * sz + fo, none⟩))) (hx : ev E x = some u) (h1 : One u) [hpk : PickVec v T sz l.length (l.map f).flatten F H] (hu : ∀ c, (f c).length = sz) (hj : j < l.length) (hfo : Nat.blt fo sz = true)
    (he : (f (nth l j d)).set fo u = f e1) : Eff C E I H o (fun _ I' H' => I = I' ∧ H' = tvec T sz f v (l.set j e1) :: F) := by
  have hfo : fo < sz := by simpa using hfo
  have hlen : ((l.map f).flatten).length = l.length * sz := by
    rw [List.length_flatten, List.map_map]
    have : (List.length ∘ f) = fun _ => sz := by funext c; exact hu c
    rw [this, List.map_const', List.sum_replicate_nat]
  have h2 : j * sz + fo < l.length * sz := by
    have := Nat.mul_le_mul_right sz (show j + 1 ≤ l.length from hj)
    rw [Nat.add_mul, Nat.one_mul] at this
    omega
  have := e_storeV (C := C) (E := E) (I := I) (H := H) (o := o) (p := p) (x := x) (k := j * sz + fo) (v := v) ho hi (by rw [← Nat.add_assoc]; exact hp) hx h1 (hpk := hpk) (by rw [hlen]; exact h2)
  rw [flat_set hu (d := d) hj hfo he] at this
  have hl : (l.set j e1).length = l.length := List.length_set
  show Eff C E I H o (fun _ I' H' => I = I' ∧ H' = vec v T sz (l.set j e1).length _ :: F)
  rw [hl]
  exact this
end Go.Tri

/-
  A slice that another call made, held as one of this call's own rows, without the look being grown by it.
-/
namespace Go.Tri
open Go.RowKit
/-- wherever the look has grown to, while X stands, the slice reads as this -/
def Holds (I : Look) (X : HA) (sz : Nat) (v : Value) (l : List (List Value)) : Prop := ∀ J, Le I J → X.sat J → Sl J sz v l
theorem Holds.mono {I J : Look} {X : HA} {sz : Nat} {v : Value} {l : List (List Value)} (h : Holds I X sz v l) (hle : Le I J) : Holds J X sz v l := fun K hK hs => h K (hle.trans hK) hs
end Go.Tri

/-
  One element of an owned slice is written as a whole.
-/
namespace Go.Tri
open Go.RowKit
section
variable {C : Cx} {ops : Array Oper} {X Z : List Nat} {Q : Exit → Act → World → Prop} {S0 : World → Prop}
/-- the same of an operation that asks nothing of the memory -/
theorem wa_firstFree (hpl : plainAll ops = true) (hQ : PutQ Q) {i : Nat} {oi : Oper} {v : Value} (hi : ops[i]? = some oi)
    {ρ : Operand → Value} (hall : ∀ w, qAt C oi ρ w v) (hS : ∀ w w', S0 w → Below w.heap.size w w' → S0 w') :
    ∀ (fuel : Nat) (listed : Array Bool) (a : Act) (w : World), Closed ops listed →
      (∀ j oj, ops[j]? = some oj → j ≠ i → listed.getD j true = false → (∀ e ∈ oj.after, Region.binds .any e = true → e.on ≠ i) → oi.apart ops oj = true) →
      i ∈ Region.ready .any ops listed → Region.wanted oi (yielded ops a.tmps) = true → a.eval = ρ ∨ execOp a.eval oi = execOp ρ oi →
      wa C ops X Z S0 Q fuel (listed.setIfInBounds i true) (a.put oi.dst v) w → wa C ops X Z S0 Q (fuel + 1) listed a w := by
  intro fuel
  induction fuel with
  | zero =>
    intro listed a w hcl _ hr hwt hρ H w2 hb
    have hy : Yd C ops oi v a w := .inl ⟨hwt, fun w2 hb => by have := hall w2; unfold qAt at this ⊢; rcases hρ with e | e <;> rw [e] <;> exact this⟩
    refine ⟨fun h => (by rw [h] at hr; cases hr), fun j hj => ?_⟩
    by_cases hji : j = i
    · subst hji
      exact (hy.below hb).wpOp hi fun w' hb' => ⟨fun _ => hb', fun _ h0 => hS _ _ h0 hb', wa_below _ _ _ _ _ (below_trans hb hb') H⟩
    · have := ready_mono hj hji
      rw [H.1] at this
      cases this
  | succ fuel ih =>
    intro listed a w hcl hfree hr hwt hρ H w2 hb
    have hy : Yd C ops oi v a w := .inl ⟨hwt, fun w2 hb => by have := hall w2; unfold qAt at this ⊢; rcases hρ with e | e <;> rw [e] <;> exact this⟩
    refine ⟨fun h => (by rw [h] at hr; cases hr), fun j hj => ?_⟩
    by_cases hji : j = i
    · subst hji
      exact (hy.below hb).wpOp hi fun w' hb' => ⟨fun _ => hb', fun _ h0 => hS _ _ h0 hb', wa_below _ _ _ _ _ (below_trans hb hb') H⟩
    · have h1 := (H w2 hb).2 j (ready_mono hj hji)
      obtain ⟨hjun, oj, hoj, hall⟩ := mem_ready.1 hj
      have hiun := (mem_ready.1 hr).1
      have hiunF : listed.getD i false = false := getD_unlisted hiun
      have hnot : ∀ e ∈ oj.after, Region.binds .any e = true → e.on ≠ i := fun e he hb heq => by
        have h1 := hall e he hb
        rw [heq, hiunF] at h1
        cases h1
      have hap := hfree j oj hoj hji hjun hnot
      have h2 := wpOp_put hoj hap (plainAll_spec hpl hoj) hQ h1
      have hfree' : ∀ k ok, ops[k]? = some ok → k ≠ i → (listed.setIfInBounds j true).getD k true = false →
          (∀ e ∈ ok.after, Region.binds .any e = true → e.on ≠ i) → oi.apart ops ok = true := fun k ok hk hki hun hno => by
        refine hfree k ok hk hki ?_ hno
        by_cases hjk : j = k
        · subst hjk; exact hjun
        · rw [getD_set_ne true hjk] at hun; exact hun
      refine wpOpIn_mono (fun a' w' h3 => ?_) h2
      obtain ⟨⟨hk1, hk2, hk3⟩, u, hu⟩ := h3
      obtain ⟨_, _, h3⟩ := Oper.apart_spec hap
      refine ⟨hk1, hk2, ih (listed.setIfInBounds j true) a' w' (hcl.set hj) hfree' (ready_mono hr (Ne.symm hji)) (by rw [hu, wanted_put oi a oj.dst u h3]; exact hwt) ?_ ?_⟩
      · refine .inr ?_
        rw [eval_of_tmps hu, execOp_put (ops := ops) oi (plainAll_spec hpl hi).2 a oj.dst u h3]
        rcases hρ with e | e
        · rw [e]
        · exact e
      · rw [Array.setIfInBounds_comm _ _ hji]
        exact hk3
end
section
variable {C : Cx} {ops : Array Oper} {X Z : List Nat} {I0 I : Look} {R0 H : List HA} {fuel : Nat} {listed : Array Bool} {E : Env} {D : List Deferred} {Q : Exit → Act → World → Prop} {o : Oper}
/-- an operation that asks nothing of the memory -/
theorem r_qf (i : Nat) {v : Value} {d : Nat} (hok : okQ ops listed i = true) (hi : ops[i]? = some o)
    (hg : o.guard = none) (hd : o.dst = some d) (hn : Nat.blt d C.n = true) (hq : ∀ w1 : World, Quiet { C with w0 := w1 } E (fun _ => none) [] o v)
    (k : R C ops X Z I0 R0 fuel (listed.setIfInBounds i true) ((d, v) :: E) I H D Q) : R C ops X Z I0 R0 (fuel + 1) listed E I H D Q := by
  intro hpl hQ a w hs hda hw
  simp only [okQ, Bool.and_eq_true] at hok
  have hall : ∀ w', qAt C o a.eval w' v := fun w' => hq w' a w' hs (St.start w' _ (fun _ _ h => (by cases h)))
  have key := wa_firstFree (C := C) (ops := ops) (X := X) (Z := Z) (Q := Q) (S0 := Held C I0 R0) hpl hQ hi (v := v) (ρ := a.eval) hall (fun _ _ => Held.below) fuel listed a w (closedB_spec hok.1.1) (Region.free_spec hi hok.2) (by simpa using hok.1.2) (by simp [Region.wanted, hg]) (.inl rfl)
  refine key ?_
  rw [hd]
  exact k hpl hQ _ _ (hs.put (by simpa using hn) v) (by simpa [Act.put] using hda) hw
end
end Go.Tri

/-
  A text put behind a row of bytes: an empty one leaves a nil row nil.
-/
namespace Go.Tri
open Go.RowKit
theorem appendStr_nil {P : Program} (w : World) (t u ty e : TypeId) (i : TypeInfo) (ht : P.underlying t = some (.slice e)) (hu : P.underlying u = some .string) (hi : P.info? e = some i) (hz : i.zero = some (.int .u8 0)) (hs1 : i.size = 1) (hby : i.bytes = 1)
    (v : Value) (n : Nat) (xs : List Value) (hv : vecSat v e 1 n xs (look w)) (s : ByteArray) (h63 : n + s.size ≤ maxLen) (hb : n + s.size ≤ 140737488355328) {v' : Value} {w' : World}
    (hrun : (Builtin.append_ #[t, u] ty #[v, .string s]).run P w = .ok v' w') (hn : v = .slice none 0 0) (h0 : s.size = 0) : v' = .slice none 0 0 := by
  obtain ⟨v2, w2, hrun2, _, _, hnil⟩ := Lib.run_append_own_string (P := P) w 0 t u ty e i ht hu hi hz hs1 hby v n xs (vec_owns.1 hv) s h63 hb (Nat.zero_le _)
  rw [hrun] at hrun2
  injection hrun2 with h1 _
  rw [h1]
  exact hnil.2 ⟨hn, h0⟩
theorem e_appendStrN {C : Cx} {E : Env} {I : Look} {H : List HA} {o : Oper} {x y : Operand} {t u e e' : TypeId} {v : Value} {l s : List UInt8} {F : List HA} (ho : o.op = .call { callee := .builtin .append, args := #[x, y], argTypes := #[t, u] })
    (ht : C.P.underlying t = some (.slice e)) (hu : C.P.underlying u = some .string) (hi : TI C.P e 1 1 (.int .u8 0))
    (hx : ev E x = some v) (hy : ev E y = some (str s)) [hpk : PickVec v e' 1 l.length (l.map byC).flatten F H] (hee : e = e')
    (h63 : l.length + s.length ≤ maxLen) (hby : l.length + s.length ≤ 140737488355328) :
    Eff C E I H o (fun v' I' H' => I = I' ∧ H' = tvec e' 1 byC v' (l ++ s) :: F ∧ (BufOk v l → BufOk v' (l ++ s))) := by
  subst hee
  intro a w hs hw K Q hk
  have hw' := hw.perm hpk.pick
  have hv : vecSat v e 1 l.length (l.map byC).flatten (look w) := hw'.sat _ (List.mem_cons_self)
  have hsz := size_str s
  obtain ⟨i, hii, hi1, hi2, hi3⟩ := hi
  obtain ⟨v', w', hrun, ho', hg, hob⟩ := appendStr_at (P := C.P) w t u o.type e i ht hu hii hi3 hi1 hi2 v _ _ hv ⟨s.toArray⟩ (by omega) (by omega)
  have hbo : BufOk v l → BufOk v' (l ++ s) := fun hb => by
    by_cases hl : l ++ s = []
    · obtain ⟨h1, h2⟩ := List.append_eq_nil_iff.1 hl
      left
      exact appendStr_nil (P := C.P) w t u o.type e i ht hu hii hi3 hi1 hi2 v _ _ hv ⟨s.toArray⟩ (by omega) (by omega) hrun (hb.resolve_right (fun h => h h1)) (by rw [hsz, h2]; rfl)
    · exact .inr hl
  rw [hsz, strCells_str, ← List.flatten_append, ← List.map_append, ← List.length_append] at ho'
  refine wpIn_of_run (v := v') (w' := w') (by rw [ho]; rfl) ?_ (hk v' I _ w' ⟨rfl, rfl, hbo⟩ (hw'.turn hg.os hg.tape hg.output hg.size (fun k hk hne => hg.block k hk hne) ho' ?_))
  · simp only [execOp, ho, resolve]
    simp [hs.ev hx, hs.ev hy, str, invoke, builtin, hrun]
  · rcases hob with e | e
    · exact .inl e
    · exact .inr ⟨_, e, Nat.le_refl _⟩
section
variable {C : Cx} {E : Env} {I : Look} {H : List HA} {D : List Deferred} {Q : Exit → Act → World → Prop} {o : Oper}
end
end Go.Tri

/-
  An array: a cell of it at a computed place written; its end told as a text.
-/
namespace Go.Tri
open Go.RowKit
section
variable {C : Cx} {E : Env} {I : Look} {H : List HA} {o : Oper}
end
section
variable {C : Cx} {E : Env} {I : Look} {H : List HA} {o : Oper} {x y : Operand} {t t' : TypeId}
end
end Go.Tri

/-
  Rows that turn no more, told cell by cell; slices of pointers made whole.
-/
namespace Go.Tri
open Go.RowKit
/-- block b holds these cells for good -/
def RowI (I : Look) (b : Nat) (cs : List Value) : Prop := ∀ k u, cs[k]? = some u → CellI I b k u
theorem RowI.mono {I J : Look} {b : Nat} {cs : List Value} (h : RowI I b cs) (hle : Le I J) : RowI J b cs := fun k u hu => (h k u hu).mono hle
theorem rowI_of {w0 w : World} {I : Look} {H : List HA} {b : Nat} {T : TypeId} {cs : List Value} (hw : St w0 I H w) [hm : InRow b T cs H] : RowI (look w) b cs := fun k u hk =>
  ⟨cs.toArray, T, (0, 0), hw.sat _ hm.mem, by simpa using hk⟩
section
variable {C : Cx} {E : Env} {I : Look} {H : List HA} {D : List Deferred} {Q : Exit → Act → World → Prop}
end
def pAt (b : Nat) : Value := .pointer (some ⟨b, 0, none⟩)
end Go.Tri

/-
  Panics: calls that may end in one, and the panic itself.
-/
namespace Go.Tri
open Go.RowKit
/-- a chain of one panic -/
def chn (v : Value) : List PanicEntry := [{ v := v, recovered := false }]
/-- an operation that goes on, or panics -/
def EffP (C : Cx) (E : Env) (I : Look) (H : List HA) (o : Oper) (Post : Value → Look → List HA → Prop) (Pan : List PanicEntry → Look → List HA → Prop) : Prop :=
  ∀ (a : Act) (w : World), Sat E C.n a.tmps → St C.w0 I H w → ∀ (K : Act → World → Prop) (Q : Exit → Act → World → Prop),
    (∀ v I' H' w', Post v I' H' → St C.w0 I' H' w' → K (a.put o.dst v) w') → (∀ ch I' H' w', Pan ch I' H' → St C.w0 I' H' w' → Q (.panic ch) a w') → o.wpIn (WF C.r) 0 C.P a w K Q
/-- what is asked where a panic goes through -/
def NP (C : Cx) (ch : List PanicEntry) (E : Env) (I : Look) (H : List HA) (D : List Deferred) (Q : Exit → Act → World → Prop) : Prop := ∀ a w, Sat E C.n a.tmps → a.defers = D → St C.w0 I H w → Q (.panic ch) a w
/-- a contract of a function that goes on, or panics -/
def CallsP (P : Program) (f : FuncId) (vs : Array Value) (w : World) (Post : Value → Look → List HA → Prop) (Pan : List PanicEntry → Look → List HA → Prop) : Prop :=
  Calls P f vs w (fun e w' => (∃ v, e = .returned v ∧ ∃ I' H', Post v I' H' ∧ St w I' H' w') ∨ ∃ ch, e = .panicked ch ∧ ∃ I' H', Pan ch I' H' ∧ St w I' H' w')
theorem CallsP.of {P : Program} {f : FuncId} {vs : Array Value} {w : World} {Post : Value → Look → List HA → Prop} {Pan : List PanicEntry → Look → List HA → Prop}
    (h : Calls P f vs w (fun e w' => ∃ v, e = .returned v ∧ ∃ I' H', Post v I' H' ∧ St w I' H' w')) : CallsP P f vs w Post Pan := Calls.mono h fun _ _ h => .inl h
theorem CallsP.mono {P : Program} {f : FuncId} {vs : Array Value} {w : World} {Post Post' : Value → Look → List HA → Prop} {Pan Pan' : List PanicEntry → Look → List HA → Prop}
    (h : CallsP P f vs w Post Pan) (hp : ∀ v I H, Post v I H → Post' v I H) (hq : ∀ v I H, Pan v I H → Pan' v I H) : CallsP P f vs w Post' Pan' := Calls.mono h fun _ _ h => by
  rcases h with ⟨v, h1, I, H, h2, h3⟩ | ⟨v, h1, I, H, h2, h3⟩
  · exact .inl ⟨v, h1, I, H, hp _ _ _ h2, h3⟩
  · exact .inr ⟨v, h1, I, H, hq _ _ _ h2, h3⟩
section
variable {C : Cx} {E : Env} {I : Look} {H : List HA} {D : List Deferred} {Q : Exit → Act → World → Prop} {o : Oper}
theorem wpIn_of_callP {a : Act} {w : World} {K : Act → World → Prop} {f : FuncId} {args : Array Value} {R : Value → World → Prop} {S : List PanicEntry → World → Prop} (hd : plainOp o.op = true)
    (h : (execOp a.eval o).run C.P w = .ok (.enter f args) w) (hc : Calls C.P f args w (fun e w'' => (∃ v, e = .returned v ∧ R v w'') ∨ ∃ ch, e = .panicked ch ∧ S ch w''))
    (hk : ∀ v w'', R v w'' → K (a.put o.dst v) w'') (hq : ∀ ch w'', S ch w'' → Q (.panic ch) a w'') : o.wpIn (WF C.r) 0 C.P a w K Q := by
  refine ⟨fun f _ => trivial, ?_⟩
  rw [Oper.semAt_eq _ _ _ (fun c hc => by rw [hc] at hd; cases hd), h]
  refine ⟨fun h => by simp at h, ?_⟩
  have hcc : CallsIn Fence.wide 0 C.P f args w (fun e w'' => (∃ v, e = .returned v ∧ R v w'') ∨ ∃ ch, e = .panicked ch ∧ S ch w'') := callsIn_wide.2 hc
  have hcr : CallsIn (WF C.r) 0 C.P f args w (fun e w'' => (∃ v, e = .returned v ∧ R v w'') ∨ ∃ ch, e = .panicked ch ∧ S ch w'') := hcc
  refine hcr.mono fun e w'' h => ?_
  rcases h with ⟨v, he, hr⟩ | ⟨ch, he, hr⟩
  · subst he; exact hk v w'' hr
  · subst he; exact hq ch w'' hr
theorem eff_callP {g : Operand} {f : FuncId} {args : Array Operand} {ts : Array TypeId} {vs : List Value} {fn : Func} {Post : Value → Look → List HA → Prop} {Pan : List PanicEntry → Look → List HA → Prop}
    (ho : o.op = .call { callee := .value g, args := args, argTypes := ts }) (hg : ev E g = some (.func (.func f) #[] #[])) (he : evs E args.toList = some vs)
    (hfn : C.P.funcs[f]? = some fn) (hnm : (fn.name == "runtime.NumGoroutine") = false) (hbd : fn.body.isNone = false)
    (hc : ∀ w, St C.w0 I H w → CallsP C.P f vs.toArray w Post Pan) : EffP C E I H o Post Pan := by
  intro a w hs hw K Q hk hq
  have h1 : args.map a.eval = vs.toArray := by
    rw [← hs.evs he]; cases args; simp
  have hrun : (execOp a.eval o).run C.P w = .ok (.enter f vs.toArray) w := by
    simp only [execOp, ho, resolve, h1, hs.ev hg]
    simp [Deferred.ofValue, invoke, call_of hfn hnm hbd]
  exact wpIn_of_callP (by rw [ho]; rfl) hrun (hc w hw) (fun v w'' ⟨I', H', hp, hw'⟩ => hk v I' H' w'' hp (St.rebase hw hw')) (fun v w'' ⟨I', H', hp, hw'⟩ => hq v I' H' w'' hp (St.rebase hw hw'))
theorem eff_callCP {g : Operand} {f : FuncId} {args : Array Operand} {ts : Array TypeId} {vs cs : List Value} {fn : Func} {Post : Value → Look → List HA → Prop} {Pan : List PanicEntry → Look → List HA → Prop} {bs ca : Array Value}
    (ho : o.op = .call { callee := .value g, args := args, argTypes := ts }) (hg : ev E g = some (.func (.func f) bs ca)) (hbs : bs = #[]) (hca : ca = cs.toArray) (he : evs E args.toList = some vs)
    (hfn : C.P.funcs[f]? = some fn) (hnm : (fn.name == "runtime.NumGoroutine") = false) (hbd : fn.body.isNone = false)
    (hc : ∀ w, St C.w0 I H w → CallsP C.P f (vs ++ cs).toArray w Post Pan) : EffP C E I H o Post Pan := by
  intro a w hs hw K Q hk hq
  subst hbs hca
  have h1 : args.map a.eval = vs.toArray := by
    rw [← hs.evs he]; cases args; simp
  have hrun : (execOp a.eval o).run C.P w = .ok (.enter f (vs ++ cs).toArray) w := by
    simp only [execOp, ho, resolve, h1, hs.ev hg]
    simp [Deferred.ofValue, invoke, call_of hfn hnm hbd]
  exact wpIn_of_callP (by rw [ho]; rfl) hrun (hc w hw) (fun v w'' ⟨I', H', hp, hw'⟩ => hk v I' H' w'' hp (St.rebase hw hw')) (fun v w'' ⟨I', H', hp, hw'⟩ => hq v I' H' w'' hp (St.rebase hw hw'))
theorem eff_callBP {g : Operand} {f : FuncId} {args : Array Operand} {ts : Array TypeId} {vs bl : List Value} {fn : Func} {Post : Value → Look → List HA → Prop} {Pan : List PanicEntry → Look → List HA → Prop} {bs ca : Array Value}
    (ho : o.op = .call { callee := .value g, args := args, argTypes := ts }) (hg : ev E g = some (.func (.func f) bs ca)) (hbs : bs = bl.toArray) (hca : ca = #[]) (he : evs E args.toList = some vs)
    (hfn : C.P.funcs[f]? = some fn) (hnm : (fn.name == "runtime.NumGoroutine") = false) (hbd : fn.body.isNone = false)
    (hc : ∀ w, St C.w0 I H w → CallsP C.P f (bl ++ vs).toArray w Post Pan) : EffP C E I H o Post Pan := by
  intro a w hs hw K Q hk hq
  subst hbs hca
  have h1 : args.map a.eval = vs.toArray := by
    rw [← hs.evs he]; cases args; simp
  have hrun : (execOp a.eval o).run C.P w = .ok (.enter f (bl ++ vs).toArray) w := by
    simp only [execOp, ho, resolve, h1, hs.ev hg]
    simp [Deferred.ofValue, invoke, call_of hfn hnm hbd]
  exact wpIn_of_callP (by rw [ho]; rfl) hrun (hc w hw) (fun v w'' ⟨I', H', hp, hw'⟩ => hk v I' H' w'' hp (St.rebase hw hw')) (fun v w'' ⟨I', H', hp, hw'⟩ => hq v I' H' w'' hp (St.rebase hw hw'))
/-- a deferred call is put on the frame's list -/
theorem l_defer {ops : Array Oper} {rest : List Oper} {g : Operand} {f : FuncId} {ca : Array Value} (hg : o.guard = none) (hd : o.dst = none) (ho : o.op = .defer { callee := .value g, args := #[], argTypes := #[] }) (hx : ev E g = some (.func (.func f) #[] ca))
    (hr : C.r = none) (k : L C ops rest E I H ({ target := .fn (.func f) ca, args := #[] } :: D) Q) : L C ops (o :: rest) E I H D Q := by
  intro a w hs hda hw
  refine wpListIn_plain hg fun K hK => ⟨fun f _ => trivial, ?_⟩
  have hrun : (execOp a.eval o).run C.P w = .ok (.defer { target := .fn (.func f) ca, args := #[] }) w := by
    simp only [execOp, ho, resolve, hs.ev hx]
    simp [Deferred.ofValue]
  rw [hr]
  show Oper.uponIn _ _ _ _ _ _ _ ((execOp a.eval o).run C.P w)
  rw [hrun]
  refine hK _ _ ?_
  rw [hd]
  exact k _ _ hs (by rw [← hda]; rfl) hw
theorem l_eP {ops : Array Oper} {rest : List Oper} {d : Nat} {Post : Value → Look → List HA → Prop} {Pan : List PanicEntry → Look → List HA → Prop} (hg : o.guard = none) (hd : o.dst = some d) (hn : Nat.blt d C.n = true)
    (he : EffP C E I H o Post Pan) (hp : ∀ ch I' H', Pan ch I' H' → NP C ch E I' H' D Q) (k : ∀ v I' H', Post v I' H' → L C ops rest ((d, v) :: E) I' H' D Q) : L C ops (o :: rest) E I H D Q := by
  intro a w hs hda hw
  refine wpListIn_plain hg fun K hK => he a w hs hw K Q (fun v I' H' w' hp hw' => hK _ _ ?_) (fun ch I' H' w' h1 h2 => hp ch I' H' h1 a w' hs hda h2)
  rw [hd]
  exact k v I' H' hp _ _ (hs.put (by simpa using hn) v) (by simpa [Act.put] using hda) hw'
theorem l_egP {ops : Array Oper} {rest : List Oper} {d : Nat} {Post : Value → Look → List HA → Prop} {Pan : List PanicEntry → Look → List HA → Prop} (hw : ∀ a : Act, Sat E C.n a.tmps → Region.wanted o (yielded ops a.tmps) = true) (hd : o.dst = some d) (hn : Nat.blt d C.n = true)
    (he : EffP C E I H o Post Pan) (hp : ∀ ch I' H', Pan ch I' H' → NP C ch E I' H' D Q) (k : ∀ v I' H', Post v I' H' → L C ops rest ((d, v) :: E) I' H' D Q) : L C ops (o :: rest) E I H D Q := by
  intro a w hs hda hst
  refine wpListIn_step fun K hK => ?_
  rw [if_pos (hw a hs)]
  refine he a w hs hst _ _ (fun v I' H' w' hp hw' => hK _ _ ?_) (fun ch I' H' w' h1 h2 => hp ch I' H' h1 a w' hs hda h2)
  rw [hd]
  exact k v I' H' hp _ _ (hs.put (by simpa using hn) v) (by simpa [Act.put] using hda) hw'
def notIface : TypeDesc → Bool
  | .interface _ => false
  | _ => true
theorem q_makeIface {x : Operand} {t : TypeId} {d : TypeDesc} {v : Value} (ho : o.op = .makeInterface t x) (ht : C.P.underlying t = some d) (hd : notIface d = true) (hx : ev E x = some v) : Quiet C E I H o (.iface t v) :=
  quiet_run (by rw [ho]; rfl) fun a w hs _ => by
    have hu : (Go.underlying t).run C.P w = .ok d w := run_underlying ht w
    simp only [execOp, ho, hs.ev hx, Instr.makeInterface, Sem.run_bind, hu, Result.andThen_ok]
    cases d <;> first | rfl | cases hd
/-- the panic itself -/
theorem l_panic {ops : Array Oper} {rest : List Oper} {x : Operand} {T : TypeId} {v : Value} (hg : o.guard = none) (ho : o.op = .panic x) (hx : ev E x = some (.iface T v))
    (k : NP C (chn (.iface T v)) E I H D Q) : L C ops (o :: rest) E I H D Q := by
  intro a w hs hda hw
  refine wpListIn_plain hg fun K hK => ⟨fun f _ => trivial, ?_⟩
  rw [Oper.semAt_eq _ _ _ (fun c hc => by rw [hc] at ho; cases ho)]
  have : (execOp a.eval o).run C.P w = .halt (.panic (.iface T v)) w := by
    simp only [execOp, ho, hs.ev hx]
    rfl
  rw [this]
  exact k a w hs hda hw
theorem np_then {K : Act → World → Prop} {ch : List PanicEntry} (h : NP C ch E I H D Q) : NP C ch E I H D (Exit.then K Q) := h
theorem np_block {id : Nat} {ch : List PanicEntry} (h : NP C ch E I H D Q) : NP C ch E I H D (Exit.inBlock id Q) := h
theorem n_freezeT {e : Exit} {α : Type} {f : α → List Value} {l : List α} {T : TypeId} {sz : Nat} {F : List HA} (v : Value) [hp : PickVec v T sz l.length (l.map f).flatten F H] (hu : ∀ c, (f c).length = sz)
    (k : ∀ J, Le I J → Sl J sz v (l.map f) → N C e E J F D Q) : N C e E I H D Q := by
  intro a w hs hd hw
  obtain ⟨J, h1, h2, h3⟩ := st_freeze (hw.perm hp.pick) (by simp) (fun cs hcs => by obtain ⟨c, _, rfl⟩ := List.mem_map.1 hcs; exact hu c)
  exact k J h1 h3 a w hs hd h2
/-- a panic that goes through a function without deferred calls -/
theorem np_body {fn : Func} {R : Ending → World → Prop} {ch : List PanicEntry} (k : ∀ w, St C.w0 I H w → R (.panicked ch) w) : NP C ch E I H [] (bodyPost C.P fn R) := fun _ w _ hd hw => ⟨hd, k w hw⟩
end
section
variable {C : Cx} {ops : Array Oper} {X Z : List Nat} {I0 I : Look} {R0 H : List HA} {fuel : Nat} {listed : Array Bool} {E : Env} {D : List Deferred} {Q : Exit → Act → World → Prop} {o : Oper}
theorem r_eP (i : Nat) {d : Nat} {Post : Value → Look → List HA → Prop} {Pan : List PanicEntry → Look → List HA → Prop} (hok : okX ops X listed i = true) (hne : (Region.ready .any ops listed).isEmpty = false) (hi : ops[i]? = some o) (hle : Le I0 I)
    (hg : o.guard = none) (hd : o.dst = some d) (hn : Nat.blt d C.n = true) (he : EffP C E I H o Post Pan) (hp : ∀ ch I' H', Pan ch I' H' → NP C ch E I' H' D Q)
    (k : ∀ v I' H', Post v I' H' → Le I I' ∧ (Z.contains i = true ∨ SubH H' R0) ∧ R C ops X Z I0 R0 fuel (listed.setIfInBounds i true) ((d, v) :: E) I' H' D Q) : R C ops X Z I0 R0 (fuel + 1) listed E I H D Q := by
  intro hpl hQ a w hs hda hw w2 hb
  refine ⟨fun h => (by rw [h] at hne; cases hne), fun j hj => ?_⟩
  obtain rfl := okX_ready hok hj
  unfold wpOpIn
  simp only [hi]
  rw [if_pos (by simp [Region.wanted, hg])]
  refine he a w2 hs (hw.garb hb) _ _ (fun v I' H' w' hp hw' => ?_) (fun ch I' H' w' h1 h2 => hp ch I' H' h1 a w' hs hda h2)
  obtain ⟨hII, hsub, hk⟩ := k v I' H' hp
  simp only [okX, Bool.and_eq_true] at hok
  refine ⟨fun hx => absurd (by simpa using hok.2) hx, fun hz _ => ?_, ?_⟩
  · rcases hsub with hc | hsub
    · exact absurd (by simpa using hc) hz
    · exact ⟨I', hle.trans hII, hw'.sub hsub⟩
  rw [hd]
  exact hk hpl hQ _ _ (hs.put (by simpa using hn) v) (by simpa [Act.put] using hda) hw'
end
end Go.Tri

/-
  A function with one deferred call that may recover: how it is left.
-/
namespace Go.Tri
open Go.RowKit
/-- a deferred call of a bound function without arguments of its own -/
def dcall (f : FuncId) (ca : List Value) : Deferred := { target := .fn (.func f) ca.toArray, args := #[] }
section
variable {C : Cx} {E : Env} {I : Look} {H : List HA} {o : Oper}
theorem q_buildA {t e : TypeId} {parts : Array (Nat × Operand)} {m n bytes sz b2 : Nat} {z z2 : Value} {vs : List (Nat × Value)} {cs : Array Value} (ho : o.op = .build t parts) (ht : C.P.underlying t = some (.array m e)) (hi : TI C.P t n bytes z) (he : TI C.P e sz b2 z2)
    (hv : evP E parts.toList = some vs) (hf : Instr.fill (fun i => some (i * sz, sz)) z.cells vs = some cs) : Quiet C E I H o (.agg cs) :=
  quiet_run (by rw [ho]; rfl) fun a w hs _ => by
    have h1 : (parts.map fun p => (p.1, a.eval p.2)).toList = vs := by rw [← hs.evP hv]; simp
    simp only [execOp, ho, Instr.build]
    simp only [Sem.run_bind, hi.zero, run_underlying ht, Result.andThen_ok, he.sizeOf]
    have h5 : (parts.map fun x => match x with | (i, x) => (i, a.eval x)).toList = vs := h1
    rw [h5, hf]
    rfl
theorem run_isAgg_trueA {P : Program} {t e : TypeId} {m : Nat} (h : P.underlying t = some (.array m e)) (w : World) : (isAgg t).run P w = .ok true w := by
  unfold isAgg
  rw [Sem.run_bind, run_underlying h]
  rfl
theorem q_load_aggA {x : Operand} {t e : TypeId} {m b off n bytes : Nat} {z : Value} {us : List Value} (ho : o.op = .load t x) (ht : C.P.underlying t = some (.array m e)) (hi : TI C.P t n bytes z) (hn : us.length = n)
    (hx : ev E x = some (.pointer (some ⟨b, off, none⟩))) (hr : Rds C.w0 I H b off us) : Quiet C E I H o (.agg us.toArray) :=
  quiet_run (by rw [ho]; rfl) fun a w hs hw => by
    have h1 := hs.ev hx
    have h2 := run_loadCells (P := C.P) (w := w) (b := b) (k := off) (us := us) (fun j u hj => hr j u hj w hw)
    subst hn
    simp [execOp, ho, h1, Instr.loadAt, Instr.sureAddr, loadVar, run_isAgg_trueA ht, hi.sizeOf, h2]
theorem q_assert {x : Operand} {t T : TypeId} {d : TypeDesc} {v : Value} (ho : o.op = .typeAssert x t T true) (ht : C.P.underlying T = some d) (hd : notIface d = true) (hx : ev E x = some (.iface T v)) : Quiet C E I H o (.tuple #[v, .bool true]) :=
  quiet_run (by rw [ho]; rfl) fun a w hs _ => by
    have hu : (Go.underlying T).run C.P w = .ok d w := run_underlying ht w
    simp only [execOp, ho, hs.ev hx, Instr.typeAssert, Sem.run_bind, hu, Result.andThen_ok]
    cases d <;> first | (simp; done) | cases hd
end
section
variable {C : Cx} {E : Env} {I : Look} {H : List HA} {R : Ending → World → Prop} {fn : Func}
theorem n_retD {f : FuncId} {fn' : Func} {ca : List Value} {rs : List ResultVar} {vs : List Value} {e : Exit} (he : e = .ret ∨ e = .normal) (hr : fn.results = rs.toArray)
    (hfn : C.P.funcs[f]? = some fn') (hnm : (fn'.name == "runtime.NumGoroutine") = false) (hbd : fn'.body.isNone = false)
    (hc : ∀ w, CallsDIn (WF none) 0 C.P f ca.toArray .returning w (fun e u' w' => e = .returned (.tuple #[]) ∧ u' = .returning ∧ w' = w))
    (h : ResG C E I H rs vs) (k : ∀ w, St C.w0 I H w → R (.returned (retV vs)) w) : N C e E I H [dcall f ca] (bodyPostM (WF none) 0 C.P fn R) := by
  intro a w hs hd hw
  have h1 : LeavesInM (WF none) 0 C.P fn a.tmps R [dcall f ca] .returning w := by
    refine ⟨fun h => (by cases h), .inr ⟨fun h => (by cases h), .func f, ca.toArray, f, ca.toArray, rfl, ?_, fun _ _ => trivial, ?_⟩⟩
    · simp [dcall, invoke, call_of hfn hnm hbd]
    · refine (hc w).mono ?_
      rintro e u' w' ⟨rfl, rfl, rfl⟩
      exact ⟨_, run_resultsG hr hs hw h, k _ hw⟩
  rcases he with rfl | rfl
  · show LeavesInM _ _ _ _ _ _ a.defers .returning w
    rw [hd]; exact h1
  · show LeavesInM _ _ _ _ _ _ a.defers .returning w
    rw [hd]; exact h1
theorem np_D {f : FuncId} {fn' : Func} {ca : List Value} {rs : List ResultVar} {ch : List PanicEntry} {S : Look → List HA → List Value → Prop} (hr : fn.results = rs.toArray)
    (hfn : C.P.funcs[f]? = some fn') (hnm : (fn'.name == "runtime.NumGoroutine") = false) (hbd : fn'.body.isNone = false)
    (hc : ∀ w, St C.w0 I H w → CallsDIn (WF none) 0 C.P f ca.toArray (.panicking ch) w (fun e u' w' => e = .returned (.tuple #[]) ∧ settle u' = .returning ∧ ∃ I' H' vs, S I' H' vs ∧ St C.w0 I' H' w'))
    (h : ∀ I' H' vs, S I' H' vs → ResG C E I' H' rs vs) (k : ∀ I' H' vs w, S I' H' vs → St C.w0 I' H' w → R (.returned (retV vs)) w) : NP C ch E I H [dcall f ca] (bodyPostM (WF none) 0 C.P fn R) := by
  intro a w hs hd hw
  show LeavesInM _ _ _ _ _ _ a.defers (.panicking ch) w
  rw [hd]
  refine ⟨fun h => (by cases h), .inr ⟨fun h => (by cases h), .func f, ca.toArray, f, ca.toArray, rfl, ?_, fun _ _ => trivial, ?_⟩⟩
  · simp [dcall, invoke, call_of hfn hnm hbd]
  · refine (hc w hw).mono ?_
    rintro e u' w' ⟨rfl, h1, I', H', vs, h2, h3⟩
    show LeavesInM _ _ _ _ _ _ [] (settle u') w'
    rw [h1]
    exact ⟨_, run_resultsG hr hs h3 (h _ _ _ h2), k _ _ _ _ h2 h3⟩
/-- the rest of a deferred function's body, once it has recovered -/
theorem bodyS_of {P : Program} {c₀ : Frame} {cs : List Frame} {u' : FrameMode} {R' : Ending → FrameMode → World → Prop} {e : Exit} {a : Act} {w : World} (hr : fn.results = #[]) (he : e = .ret ∨ e = .normal) (hd : a.defers = [])
    (hq : R' (.returned (.tuple #[])) u' w) : bodyPostS P fn c₀ cs R' e a ({ c₀ with mode := u' } :: cs) w := by
  rcases he with rfl | rfl
  · exact ⟨hd, u', rfl, _, results_none hr _ _ _, hq⟩
  · exact ⟨hd, u', rfl, _, results_none hr _ _ _, hq⟩
end
theorem sat_rec {args : List Value} {v : Value} (ha : args.length = 5) : Sat ((5, v) :: zipE 0 args) 24 (args.toArray ++ ((Array.replicate 19 undef).setIfInBounds 3 v).setIfInBounds 0 v) := by
  refine ⟨by simp [ha], fun k x hk => ?_⟩
  unfold get at hk
  by_cases h5 : 5 = k
  · subst h5
    have hk : some v = some x := hk
    cases hk
    rw [Array.getElem?_append_right (by simp [ha])]
    simp [ha]
  · rw [show Nat.beq 5 k = false from by cases hb : Nat.beq 5 k with | false => rfl | true => exact absurd (Nat.eq_of_beq_eq_true hb) h5] at hk
    obtain ⟨_, h2⟩ := get_zipE args 0 k x hk
    have hlt : k < args.length := (List.getElem?_eq_some_iff.1 h2).1
    rw [Array.getElem?_append_left (by simpa using hlt)]
    simpa using h2
theorem t_npt {C : Cx} {c : Code} {E : Env} {I : Look} {H : List HA} {D : List Deferred} {K : Act → World → Prop} {Q : Exit → Act → World → Prop} (h : T C c E I H D (Exit.then K (noPanic Q))) : T C c E I H D (Exit.then K Q) := t_mono h fun e a w hq => by
  cases e <;> first | exact hq | exact hq.elim
end Go.Tri
