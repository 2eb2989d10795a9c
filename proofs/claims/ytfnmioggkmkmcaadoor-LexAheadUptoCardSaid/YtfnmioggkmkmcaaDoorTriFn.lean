/-
  A function's head and its end; calls.
-/
import Derived.Test.YtfnmioggkmkmcaaDoorTriOps
namespace Go.Tri
open Go.RowKit

def zipE : Nat → List Value → Env
  | _, [] => []
  | k, v :: r => (k, v) :: zipE (k + 1) r

theorem get_zipE : ∀ (vs : List Value) (k j : Nat) (v : Value), get (zipE k vs) j = some v → k ≤ j ∧ vs[j - k]? = some v
  | [], _, _, _, h => by cases h
  | u :: r, k, j, v, h => by
    unfold zipE get at h
    by_cases e : k = j
    · subst e
      rw [show Nat.beq k k = true from Nat.beq_refl k] at h
      cases h
      exact ⟨Nat.le_refl _, by simp⟩
    · rw [show Nat.beq k j = false from by cases hb : Nat.beq k j with | false => rfl | true => exact absurd (Nat.eq_of_beq_eq_true hb) e] at h
      obtain ⟨h1, h2⟩ := get_zipE r (k + 1) j v h
      refine ⟨by omega, ?_⟩
      rw [show j - k = (j - (k + 1)) + 1 by omega, List.getElem?_cons_succ]
      exact h2

theorem enter {P : Program} {f : FuncId} {fn : Func} {c : Code} {args : List Value} {R : Ending → World → Prop} {n : Nat} {w : World} {I : Look} {H : List HA}
    (hf : P.funcs[f]? = some fn) (hb : fn.body = some c) (hn : fn.ntmps = n) (ha : Nat.ble args.length n = true) (hst : St w I H w)
    (h : T ⟨P, none, n, w⟩ c (zipE 0 args) I H [] (bodyPost P fn R)) : Calls P f args.toArray w R := by
  have hal : args.length ≤ n := by simpa using ha
  refine callsIn_wide (n := 0).1 (callsIn_of_wp hf hb trivial ?_)
  refine h _ w ⟨by simp [hn, hal], fun k v hk => ?_⟩ rfl hst
  obtain ⟨_, h2⟩ := get_zipE args 0 k v hk
  have hlt : k < args.length := by
    have := (List.getElem?_eq_some_iff.1 h2).1
    omega
  show (args.toArray ++ Array.replicate (fn.ntmps - args.toArray.size) undef)[k]? = some v
  rw [Array.getElem?_append_left (by simpa using hlt)]
  simpa using h2

section ret
variable {C : Cx} {E : Env} {I : Look} {H : List HA} {R : Ending → World → Prop} {fn : Func}

theorem n_ret1 {t : Nat} {v : Value} (hr : fn.results = #[.tmp t]) (hv : get E t = some v) (k : ∀ w, St C.w0 I H w → R (.returned v) w) : N C .ret E I H [] (bodyPost C.P fn R) := by
  intro a w hs hd hw
  refine ⟨hd, v, ?_, k w hw⟩
  rw [results_tmp hr]
  simp [hs.2 t v hv]
theorem n_ret0 (hr : fn.results = #[]) (k : ∀ w, St C.w0 I H w → R (.returned (.tuple #[])) w) : N C .ret E I H [] (bodyPost C.P fn R) :=
  fun a w _ hd hw => ⟨hd, _, results_none hr _ _ _, k w hw⟩
theorem n_end0 (hr : fn.results = #[]) (k : ∀ w, St C.w0 I H w → R (.returned (.tuple #[])) w) : N C .normal E I H [] (bodyPost C.P fn R) :=
  fun a w _ hd hw => ⟨hd, _, results_none hr _ _ _, k w hw⟩
theorem n_ret2 {t u : Nat} {v x : Value} (hr : fn.results = #[.tmp t, .tmp u]) (hv : get E t = some v) (hx : get E u = some x) (k : ∀ w, St C.w0 I H w → R (.returned (.tuple #[v, x])) w) : N C .ret E I H [] (bodyPost C.P fn R) := by
  intro a w hs hd hw
  refine ⟨hd, _, ?_, k w hw⟩
  rw [results_tmp2 hr]
  simp [hs.2 t v hv, hs.2 u x hx]
theorem n_ret3 {t u s : Nat} {v x y : Value} (hr : fn.results = #[.tmp t, .tmp u, .tmp s]) (hv : get E t = some v) (hx : get E u = some x) (hy : get E s = some y) (k : ∀ w, St C.w0 I H w → R (.returned (.tuple #[v, x, y])) w) : N C .ret E I H [] (bodyPost C.P fn R) := by
  intro a w hs hd hw
  refine ⟨hd, .tuple #[v, x, y], ?_, k w hw⟩
  simp [results, hr, hs.2 t v hv, hs.2 u x hx, hs.2 s y hy]
theorem n_ret4 {t u s r : Nat} {v x y z : Value} (hr : fn.results = #[.tmp t, .tmp u, .tmp s, .tmp r]) (hv : get E t = some v) (hx : get E u = some x) (hy : get E s = some y) (hz : get E r = some z)
    (k : ∀ w, St C.w0 I H w → R (.returned (.tuple #[v, x, y, z])) w) : N C .ret E I H [] (bodyPost C.P fn R) := by
  intro a w hs hd hw
  refine ⟨hd, .tuple #[v, x, y, z], ?_, k w hw⟩
  simp [results, hr, hs.2 t v hv, hs.2 u x hx, hs.2 s y hy, hs.2 r z hz]
end ret

theorem call_of {P : Program} {f : FuncId} {fn : Func} (hf : P.funcs[f]? = some fn) (hn : (fn.name == "runtime.NumGoroutine") = false) (hb : fn.body.isNone = false) (xs : Array Value) (w : World) : (callFunc f xs).run P w = .ok (.enter f xs) w := by
  have hn' : ¬ fn.name = "runtime.NumGoroutine" := by simpa using hn
  have hb' : ¬ fn.body = none := by cases h : fn.body <;> simp_all
  simp [callFunc, hf, hn', hb']

/-- a contract of a function that leaves old memory alone and hands back 'v' -/
def Pure (P : Program) (f : FuncId) (args : List Value) (w : World) (v : Value) : Prop :=
  Calls P f args.toArray w fun e w' => e = .returned v ∧ Below w.heap.size w w'

theorem quiet_call {C : Cx} {E : Env} {I : Look} {H : List HA} {o : Oper} {g : Operand} {f : FuncId} {args : Array Operand} {ts : Array TypeId} {vs : List Value} {v : Value}
    (ho : o.op = .call { callee := .value g, args := args, argTypes := ts }) (hg : ev E g = some (.func (.func f) #[] #[])) (he : evs E args.toList = some vs)
    {fn : Func} (hfn : C.P.funcs[f]? = some fn) (hnm : (fn.name == "runtime.NumGoroutine") = false) (hbd : fn.body.isNone = false)
    (hc : ∀ w, St C.w0 I H w → Pure C.P f vs w v) : Quiet C E I H o v := by
  intro a w hs hw
  have h1 : args.map a.eval = vs.toArray := by
    rw [← hs.evs he]; cases args; simp
  have hrun : (execOp a.eval o).run C.P w = .ok (.enter f vs.toArray) w := by
    simp only [execOp, ho, resolve, h1, hs.ev hg]
    simp [Deferred.ofValue, invoke, call_of hfn hnm hbd]
  refine ⟨by rw [ho]; rfl, ?_⟩
  rw [hrun]
  exact ⟨rfl, hc w hw⟩
end Go.Tri
