/-
  Calls through an interface whose kind is known.
-/
import Derived.Test.YtbogmbdfjgnfaaaGreatDoorTriB21
namespace Go.Tri
open Go.RowKit
section
variable {C : Cx} {E : Env} {I : Look} {H : List HA} {o : Oper}
/-- the method behind a value of such a kind -/
def MethIs (P : Program) (t : TypeId) (name : String) (f : FuncId) : Prop := ∀ (p : Option Addr) (w : World), (method (P.types.size + Made.depth) t (.pointer p) name).run P w = .ok (f, .pointer p) w
theorem run_invoke {r : Operand} {name : String} {t : TypeId} {p : Option Addr} {f : FuncId} {args : Array Operand} {ts : Array TypeId} {vs : List Value} {fn : Func} {a : Act} {w : World}
    (ho : o.op = .call { callee := .invoke r name, args := args, argTypes := ts }) (hr : a.eval r = .iface t (.pointer p)) (h1 : args.map a.eval = vs.toArray) (hm : MethIs C.P t name f)
    (hfn : C.P.funcs[f]? = some fn) (hnm : (fn.name == "runtime.NumGoroutine") = false) (hbd : fn.body.isNone = false) : (execOp a.eval o).run C.P w = .ok (.enter f (.pointer p :: vs).toArray) w := by
  simp only [execOp, ho, resolve, h1, hr]
  have h2 := hm p w
  rw [show Made.depth = 100 from rfl] at h2
  simp [invoke, callMethod, go_sem, h2, call_of hfn hnm hbd]
theorem quiet_inv {r : Operand} {name : String} {t : TypeId} {p : Option Addr} {f : FuncId} {args : Array Operand} {ts : Array TypeId} {vs : List Value} {v : Value} {fn : Func}
    (ho : o.op = .call { callee := .invoke r name, args := args, argTypes := ts }) (hr : ev E r = some (.iface t (.pointer p))) (he : evs E args.toList = some vs) (hm : MethIs C.P t name f)
    (hfn : C.P.funcs[f]? = some fn) (hnm : (fn.name == "runtime.NumGoroutine") = false) (hbd : fn.body.isNone = false)
    (hc : ∀ w, St C.w0 I H w → Pure C.P f (.pointer p :: vs) w v) : Quiet C E I H o v := by
  intro a w hs hw
  have h1 : args.map a.eval = vs.toArray := by
    rw [← hs.evs he]; cases args; simp
  refine ⟨by rw [ho]; rfl, ?_⟩
  rw [run_invoke ho (hs.ev hr) h1 hm hfn hnm hbd]
  exact ⟨rfl, hc w hw⟩
end
end Go.Tri
