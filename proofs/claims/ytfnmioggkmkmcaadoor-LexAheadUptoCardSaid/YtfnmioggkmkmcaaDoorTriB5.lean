/-
  A function's results, in slots and in cells; a function value called; a range over a function that is left.
-/
import Derived.Test.YtfnmioggkmkmcaaDoorTriB4
namespace Go.Tri
open Go.RowKit
/-- what the result variables hold -/
def ResOf (C : Cx) (E : Env) (I : Look) (F : List HA) : List ResultVar → List Value → Prop
  | [], [] => True
  | .tmp t :: rs, v :: vs => get E t = some v ∧ ResOf C E I F rs vs
  | .cell a t :: rs, v :: vs => (∃ b off d, get E a = some (.pointer (some ⟨b, off, none⟩)) ∧ C.P.underlying t = some d ∧ notAgg d = true ∧ Rd C.w0 I F b off v) ∧ ResOf C E I F rs vs
  | _, _ => False
def retV : List Value → Value
  | [v] => v
  | vs => .tuple vs.toArray
section
variable {C : Cx} {E : Env} {I : Look} {H F : List HA} {R : Ending → World → Prop} {fn : Func}
theorem res_nil : ResOf C E I F [] [] := trivial
theorem res_tmp {t : Nat} {v : Value} {rs : List ResultVar} {vs : List Value} (h : get E t = some v) (k : ResOf C E I F rs vs) : ResOf C E I F (.tmp t :: rs) (v :: vs) := ⟨h, k⟩
theorem res_cell {a b off : Nat} {t : TypeId} {d : TypeDesc} {v : Value} {rs : List ResultVar} {vs : List Value} (h : get E a = some (.pointer (some ⟨b, off, none⟩))) (ht : C.P.underlying t = some d) (hd : notAgg d = true) (hr : Rd C.w0 I F b off v) (k : ResOf C E I F rs vs) :
    ResOf C E I F (.cell a t :: rs) (v :: vs) := ⟨⟨b, off, d, h, ht, hd, hr⟩, k⟩
def resF (τ : Array Value) : ResultVar → Sem Value
  | .tmp t => pure (τ.getD t undef)
  | .cell a t => do loadVar t (← asAddr (τ.getD a undef))
theorem results_eq (fn : Func) (τ : Array Value) : results fn τ = (do let vs ← fn.results.mapM (resF τ); pure (if h : vs.size = 1 then vs[0] else .tuple vs)) := by
  unfold results
  congr 2
theorem run_res {τ : Array Value} {w : World} (hs : Sat E C.n τ) (hw : St C.w0 I F w) : ∀ {rs : List ResultVar} {vs : List Value}, ResOf C E I F rs vs → (rs.mapM (resF τ)).run C.P w = .ok vs w
  | [], [], _ => by simp
  | .tmp t :: rs, v :: vs, h => by
    have ih := run_res hs hw h.2
    have h1 := hs.2 t v h.1
    simp only [List.mapM_cons, Sem.run_bind, ih]
    simp [h1, resF, ih]
  | .cell a t :: rs, v :: vs, h => by
    obtain ⟨⟨b, off, d, h1, h2, h3, h4⟩, h5⟩ := h
    have ih := run_res hs hw h5
    have h6 := hs.2 a _ h1
    have h7 := h4 w hw
    simp only [List.mapM_cons, Sem.run_bind, ih]
    simp [resF, h6, asAddr, loadVar, run_isAgg_false h2 h3, h7, ih]
  | [], _ :: _, h => h.elim
  | .tmp _ :: _, [], h => h.elim
  | .cell _ _ :: _, [], h => h.elim
theorem run_results {τ : Array Value} {w : World} {rs : List ResultVar} {vs : List Value} (hr : fn.results = rs.toArray) (hs : Sat E C.n τ) (hw : St C.w0 I F w) (h : ResOf C E I F rs vs) : (results fn τ).run C.P w = .ok (retV vs) w := by
  rw [results_eq, hr, List.mapM_toArray, Sem.run_bind, Sem.run_map]
  rw [run_res hs hw h]
  simp only [Result.andThen_ok]
  match vs with
  | [] => simp [retV]
  | [v] => simp [retV]
  | _ :: _ :: _ => simp [retV]
theorem n_retG {rs : List ResultVar} {vs : List Value} {e : Exit} (he : e = .ret ∨ e = .normal) (hr : fn.results = rs.toArray) (h : ResOf C E I H rs vs) (k : ∀ w, St C.w0 I H w → R (.returned (retV vs)) w) : N C e E I H [] (bodyPost C.P fn R) := by
  intro a w hs hd hw
  rcases he with rfl | rfl
  · exact ⟨hd, _, run_results hr hs hw h, k w hw⟩
  · exact ⟨hd, _, run_results hr hs hw h, k w hw⟩
theorem leaves_marksG {P : Program} {tmps : Array Value} {w0 : World} {v : Value} (hr : ∀ w, St w0 I F w → (results fn tmps).run P w = .ok v w) : ∀ (bs : List Nat) (w : World), St w0 I (bs.map (fun b => obj b (.deferred (some []))) ++ F) w →
    (∀ w, St w0 I F w → R (.returned v) w) → LeavesInM (WF none) 0 P fn tmps R (marks bs) .returning w
  | [], w, hw, k => ⟨v, hr w hw, k w hw⟩
  | b :: bs, w, hw, k => by
    refine ⟨(by intro h; cases h), .inl ⟨b, w.putObj b (.deferred none), rfl, ?_, ?_⟩⟩
    · exact run_takeDeferred (hw.sat (obj b (.deferred (some []))) (List.mem_cons_self))
    · exact leaves_marksG hr bs _ (st_put (y := .deferred none) hw).tail k
theorem n_retGM {bs : List Nat} {rs : List ResultVar} {vs : List Value} {e : Exit} (he : e = .ret ∨ e = .normal) (hr : fn.results = rs.toArray) [hp : PickDs bs F H] (h : ResOf C E I F rs vs) (k : ∀ w, St C.w0 I F w → R (.returned (retV vs)) w) :
    N C e E I H (marks bs) (bodyPostM (WF none) 0 C.P fn R) := by
  intro a w hs hd hw
  have := leaves_marksG (P := C.P) (tmps := a.tmps) (fn := fn) (R := R) (fun w hw => run_results hr hs hw h) bs w (hw.sub hp.sub) k
  rcases he with rfl | rfl
  · show LeavesInM _ _ _ _ _ _ a.defers .returning w
    rw [hd]; exact this
  · show LeavesInM _ _ _ _ _ _ a.defers .returning w
    rw [hd]; exact this
/-- a loop of the caller is left: the rest that waits runs -/
theorem t_code {c c' : Code} {D : List Deferred} {Q : Exit → Act → World → Prop} (h : c = c') (k : T C c' E I H D Q) : T C c E I H D Q := h ▸ k
end
end Go.Tri
namespace Go.Tri
open Go.RowKit
theorem rd_rowI {w0 : World} {I : Look} {H : List HA} {b o : Nat} {T : TypeId} {cs : List Value} {u : Value} [hm : InRow b T cs H] (hu : cs[o]? = some u) : Rd w0 I H b o u := rd_row hm.mem hu
end Go.Tri
namespace Go.Tri
open Go.RowKit
/-- a contract of a function that leaves old memory alone and hands back something of which R is said -/
def PureX (P : Program) (f : FuncId) (args : List Value) (w : World) (R : Value → Prop) : Prop :=
  Calls P f args.toArray w fun e w' => ∃ v, e = .returned v ∧ R v ∧ Below w.heap.size w w'
theorem eff_callX {C : Cx} {E : Env} {I : Look} {H : List HA} {o : Oper} {g : Operand} {f : FuncId} {args : Array Operand} {ts : Array TypeId} {vs : List Value} {fn : Func} {R : Value → Prop}
    (ho : o.op = .call { callee := .value g, args := args, argTypes := ts }) (hg : ev E g = some (.func (.func f) #[] #[])) (he : evs E args.toList = some vs)
    (hfn : C.P.funcs[f]? = some fn) (hnm : (fn.name == "runtime.NumGoroutine") = false) (hbd : fn.body.isNone = false)
    (hc : ∀ w, St C.w0 I H w → PureX C.P f vs w R) : Eff C E I H o (fun v I' H' => R v ∧ I = I' ∧ H = H') := by
  intro a w hs hw K Q hk
  have h1 : args.map a.eval = vs.toArray := by
    rw [← hs.evs he]; cases args; simp
  have hrun : (execOp a.eval o).run C.P w = .ok (.enter f vs.toArray) w := by
    simp only [execOp, ho, resolve, h1, hs.ev hg]
    simp [Deferred.ofValue, invoke, call_of hfn hnm hbd]
  refine wpIn_of_call (R := fun v w'' => R v ∧ Below w.heap.size w w'') (by rw [ho]; rfl) hrun ((hc w hw).mono fun e w' ⟨v, h1, h2, h3⟩ => ⟨v, h1, h2, h3⟩) fun v w'' ⟨hp, hb⟩ => hk v I H w'' ⟨hp, rfl, rfl⟩ (hw.garb hb)
theorem Le.of_st {w0 w : World} {I : Look} {H : List HA} (h : St w0 I H w) : Le I (look w) := h.imm
end Go.Tri
namespace Go.Tri
open Go.RowKit
theorem e_storeS {C : Cx} {E : Env} {I : Look} {H : List HA} {o : Oper} {p x : Operand} {t T : TypeId} {b off bytes : Nat} {v z : Value} {cs cs' : List Value} {F : List HA} (ho : o.op = .store t p x) (hi : TI C.P t 1 bytes z)
    (hp : ev E p = some (.pointer (some ⟨b, off, none⟩))) (hx : ev E x = some v) (h1 : One v) [hpk : PickRow b T cs F H] (hlt : Nat.blt off cs.length = true) (hcs : cs.set off v = cs') :
    Eff C E I H o (fun _ I' H' => I = I' ∧ H' = row b T cs' :: F) := by
  subst hcs
  exact e_store ho hi hp hx h1 hlt
end Go.Tri
namespace Go.Tri
open Go.RowKit
/-- nothing panics -/
def noPanic (Q : Exit → Act → World → Prop) : Exit → Act → World → Prop
  | .panic _, _, _ => False
  | e, a, w => Q e a w
theorem enterMN {P : Program} {f : FuncId} {fn : Func} {c : Code} {args : List Value} {R : Ending → World → Prop} {n : Nat} {w : World} {I : Look} {H : List HA}
    (hf : P.funcs[f]? = some fn) (hb : fn.body = some c) (hn : fn.ntmps = n) (ha : Nat.ble args.length n = true) (hst : St w I H w)
    (h : T ⟨P, none, n, w⟩ c (zipE 0 args) I H [] (noPanic (bodyPostM (WF none) 0 P fn R))) : Calls P f args.toArray w R :=
  enterM hf hb hn ha hst (t_mono h fun e a w hq => by
    cases e <;> first | exact hq | exact hq.elim)
section
variable {C : Cx} {E : Env} {I : Look} {H : List HA} {D : List Deferred} {Q : Exit → Act → World → Prop}
theorem n_np_ret (h : N C .ret E I H D Q) : N C .ret E I H D (noPanic Q) := h
theorem n_np_norm (h : N C .normal E I H D Q) : N C .normal E I H D (noPanic Q) := h
variable {ops : Array Oper} {K : Act → Prop}
theorem s_and2 {l rest : List Oper} {p oj : Oper} (k j dj d y : Nat) (b c : Bool) (hsplit : l.drop k = p :: rest) (hga : skipOk ops j true (l.take k) [] = true) (hj : ops[j]? = some oj) (hdj : oj.dst = some dj)
    (hb : get E dj = some (.bool b)) (hoff : (keysOff (dsts (l.take k)) E && !(dsts (l.take k)).contains dj) = true)
    (hy : b = true → QS C ops (l.take k) ((dj, .bool true) :: E) I H (fun a' => a'.tmps[y]? = some (.bool c)))
    (hpw : ∀ a : Act, Sat E C.n a.tmps → Region.wanted p (yielded ops a.tmps) = true) (hpd : p.dst = some d) (hn : Nat.blt d C.n = true) (hpp : p.op = .pick (.tmp dj) (.tmp y) (.const (.bool false)))
    (kk : QS C ops rest ((d, .bool (b && c)) :: E) I H K) : QS C ops l E I H K := s_short2 k j dj d y true b c hsplit hga hj hdj hb hoff hy hpw hpd hn (.inl ⟨rfl, hpp⟩) kk
theorem s_or2 {l rest : List Oper} {p oj : Oper} (k j dj d y : Nat) (b c : Bool) (hsplit : l.drop k = p :: rest) (hga : skipOk ops j false (l.take k) [] = true) (hj : ops[j]? = some oj) (hdj : oj.dst = some dj)
    (hb : get E dj = some (.bool b)) (hoff : (keysOff (dsts (l.take k)) E && !(dsts (l.take k)).contains dj) = true)
    (hy : b = false → QS C ops (l.take k) ((dj, .bool false) :: E) I H (fun a' => a'.tmps[y]? = some (.bool c)))
    (hpw : ∀ a : Act, Sat E C.n a.tmps → Region.wanted p (yielded ops a.tmps) = true) (hpd : p.dst = some d) (hn : Nat.blt d C.n = true) (hpp : p.op = .pick (.tmp dj) (.const (.bool true)) (.tmp y))
    (kk : QS C ops rest ((d, .bool (b || c)) :: E) I H K) : QS C ops l E I H K := s_short2 k j dj d y false b c hsplit hga hj hdj hb hoff hy hpw hpd hn (.inr ⟨rfl, hpp⟩) kk
end
end Go.Tri
namespace Go.Tri
open Go.RowKit
/-- the place of element i of an array -/
theorem q_indexAddr_arr {C : Cx} {E : Env} {I : Look} {H : List HA} {o : Oper} {x i : Operand} {t e : TypeId} {z : Value} {k : IntKind} {m : Int} {n sz bytes b off : Nat} (ho : o.op = .indexAddr t x i) (ht : C.P.underlying t = some (.array n e)) (hi : TI C.P e sz bytes z)
    (hx : ev E x = some (.pointer (some ⟨b, off, none⟩))) (hix : ev E i = some (.int k m)) (h0 : 0 ≤ m ∧ m < n) :
    Quiet C E I H o (.pointer (some ⟨b, off + m.toNat * sz, none⟩)) :=
  quiet_run (by rw [ho]; rfl) fun a w hs _ => by
    simp [execOp, ho, hs.ev hx, hs.ev hix, Instr.indexAt, run_underlying ht, hi.sizeOf, asIntOf, h0, Instr.sureAddr, Addr.add_lit]
end Go.Tri
