/-
  The operations, one rule each.
-/
import Derived.Test.YtfnmioggkmkmcaaDoorTriCore
namespace Go.Tri
open Go.RowKit

def str (l : List UInt8) : Value := .string ⟨l.toArray⟩
def u8 (c : UInt8) : Value := .int .u8 (c.toNat : Int)
theorem str_inj {a b : List UInt8} (h : str a = str b) : a = b := by
  unfold str at h
  injection h with h
  injection h with h
  injection h

/-- an element, by its place -/
def nth {α : Type} (l : List α) (i : Nat) (d : α) : α := l.getD i d
theorem nth_eq {α : Type} {l : List α} {i : Nat} {d : α} (h : i < l.length) : nth l i d = l[i] := by simp [nth, List.getD, h]
theorem get_nth {α : Type} {l : List α} {i : Nat} {d : α} (h : i < l.length) : l[i]? = some (nth l i d) := by rw [nth_eq h, List.getElem?_eq_getElem h]
theorem drop_nth {α : Type} {l : List α} {i : Nat} (d : α) (h : i < l.length) : l.drop i = nth l i d :: l.drop (i + 1) := by rw [nth_eq h]; exact List.drop_eq_getElem_cons h
theorem take_nth {α : Type} {l : List α} {i : Nat} (d : α) (h : i < l.length) : l.take (i + 1) = l.take i ++ [nth l i d] := by rw [nth_eq h]; exact List.take_succ_eq_append_getElem h
theorem nth_mem {α : Type} {l : List α} {i : Nat} {d : α} (h : i < l.length) : nth l i d ∈ l := by rw [nth_eq h]; exact List.getElem_mem h
def plainOp : Op → Bool
  | .defer _ => false
  | _ => true

section ops
variable {C : Cx} {E : Env} {I : Look} {H : List HA} {D : List Deferred} {Q : Exit → Act → World → Prop} {o : Oper}

/-- carried out in the world w, operation 'o' yields 'v' and leaves what there is -/
def qAt (C : Cx) (o : Oper) (ρ : Operand → Value) (w : World) (v : Value) : Prop :=
  plainOp o.op = true ∧ match (execOp ρ o).run C.P w with
    | .ok (.value u) w' => w' = w ∧ u = v
    | .ok (.enter f args) w' => w' = w ∧ Calls C.P f args w (fun e w'' => e = .returned v ∧ Below w.heap.size w w'')
    | _ => False
def Quiet (C : Cx) (E : Env) (I : Look) (H : List HA) (o : Oper) (v : Value) : Prop :=
  ∀ (a : Act) (w : World), Sat E C.n a.tmps → St C.w0 I H w → qAt C o a.eval w v

theorem wpIn_of_run {a : Act} {w w' : World} {K : Act → World → Prop} {v : Value} (hd : plainOp o.op = true)
    (h : (execOp a.eval o).run C.P w = .ok (.value v) w') (hk : K (a.put o.dst v) w') : o.wpIn (WF C.r) 0 C.P a w K Q := by
  refine ⟨fun f _ => trivial, ?_⟩
  rw [Oper.semAt_eq _ _ _ (fun c hc => by rw [hc] at hd; cases hd), h]
  exact hk
theorem wpIn_of_skip {a : Act} {w w' : World} {K : Act → World → Prop} (hd : plainOp o.op = true)
    (h : (execOp a.eval o).run C.P w = .ok .skip w') (hk : K (a.put o.dst undef) w') : o.wpIn (WF C.r) 0 C.P a w K Q := by
  refine ⟨fun f _ => trivial, ?_⟩
  rw [Oper.semAt_eq _ _ _ (fun c hc => by rw [hc] at hd; cases hd), h]
  exact hk
/-- a callee's contract, met at an operation -/
theorem wpIn_of_call {a : Act} {w : World} {K : Act → World → Prop} {f : FuncId} {args : Array Value} {R : Value → World → Prop} (hd : plainOp o.op = true)
    (h : (execOp a.eval o).run C.P w = .ok (.enter f args) w) (hc : Calls C.P f args w (fun e w'' => ∃ v, e = .returned v ∧ R v w'')) (hk : ∀ v w'', R v w'' → K (a.put o.dst v) w'') : o.wpIn (WF C.r) 0 C.P a w K Q := by
  refine ⟨fun f _ => trivial, ?_⟩
  rw [Oper.semAt_eq _ _ _ (fun c hc => by rw [hc] at hd; cases hd), h]
  refine ⟨fun h => by simp at h, ?_⟩
  have hcc : CallsIn Fence.wide 0 C.P f args w (fun e w'' => ∃ v, e = .returned v ∧ R v w'') := callsIn_wide.2 hc
  have hcr : CallsIn (WF C.r) 0 C.P f args w (fun e w'' => ∃ v, e = .returned v ∧ R v w'') := hcc
  exact hcr.mono fun e w'' ⟨v, he, hr⟩ => by subst he; exact hk v w'' hr
theorem qAt.wpIn {a : Act} {w : World} {K : Act → World → Prop} {v : Value} (h : qAt C o a.eval w v) (hk : ∀ w', Below w.heap.size w w' → K (a.put o.dst v) w') : o.wpIn (WF C.r) 0 C.P a w K Q := by
  obtain ⟨hp, h⟩ := h
  split at h
  · rename_i u w' hr
    obtain ⟨rfl, rfl⟩ := h
    exact wpIn_of_run hp hr (hk _ (Below.refl _ _))
  · rename_i f args w' hr
    obtain ⟨rfl, hc⟩ := h
    exact wpIn_of_call (R := fun u w'' => u = v ∧ Below w'.heap.size w' w'') hp hr (hc.mono fun e w'' ⟨he, hb⟩ => ⟨v, he, rfl, hb⟩) fun u w'' ⟨hu, hb⟩ => by subst hu; exact hk w'' hb
  · exact h.elim

theorem quiet_run {v : Value} (hd : plainOp o.op = true)
    (h : ∀ (a : Act) (w : World), Sat E C.n a.tmps → St C.w0 I H w → (execOp a.eval o).run C.P w = .ok (.value v) w) : Quiet C E I H o v :=
  fun a w hs hw => ⟨hd, by rw [h a w hs hw]; exact ⟨rfl, rfl⟩⟩

theorem l_q {ops : Array Oper} {rest : List Oper} {d : Nat} {v : Value} (hg : o.guard = none) (hd : o.dst = some d) (hn : Nat.blt d C.n = true)
    (hq : Quiet C E I H o v) (k : L C ops rest ((d, v) :: E) I H D Q) : L C ops (o :: rest) E I H D Q := by
  intro a w hs hda hw
  refine wpListIn_plain hg fun K hK => (hq a w hs hw).wpIn fun w' g => hK _ _ ?_
  rw [hd]
  exact k _ _ (hs.put (by simpa using hn) v) (by simpa [Act.put] using hda) (hw.garb g)

/-! pure operations -/
theorem q_move {x : Operand} {v : Value} (ho : o.op = .move x) (hx : ev E x = some v) : Quiet C E I H o v :=
  quiet_run (by rw [ho]; rfl) fun a w hs _ => by simp [execOp, ho, hs.ev hx]
theorem q_assign {x : Operand} {v : Value} (ho : o.op = .assign x) (hx : ev E x = some v) : Quiet C E I H o v :=
  quiet_run (by rw [ho]; rfl) fun a w hs _ => by simp [execOp, ho, hs.ev hx]

theorem quiet_bin {op : BinOp} {x y : Operand} {t t' : TypeId} {u v r : Value} (ho : o.op = .binOp op t x y t') (hx : ev E x = some u) (hy : ev E y = some v)
    (hr : ∀ w, (do eqGuard op t x y u v; binOp op t u v : Sem Value).run C.P w = .ok r w) : Quiet C E I H o r :=
  quiet_run (by rw [ho]; rfl) fun a w hs _ => by
    simp only [execOp, ho, hs.ev hx, hs.ev hy]
    rw [Sem.run_bind, hr]
    rfl

section ints
variable {x y : Operand} {t t' : TypeId} {k : IntKind} {m n : Int}
theorem q_add (ho : o.op = .binOp .add t x y t') (hx : ev E x = some (.int k m)) (hy : ev E y = some (.int k n)) : Quiet C E I H o (.int k (k.wrap (m + n))) :=
  quiet_bin ho hx hy fun w => by simp [go_sem]
theorem q_sub (ho : o.op = .binOp .sub t x y t') (hx : ev E x = some (.int k m)) (hy : ev E y = some (.int k n)) : Quiet C E I H o (.int k (k.wrap (m - n))) :=
  quiet_bin ho hx hy fun w => by simp [go_sem]
theorem q_mul (ho : o.op = .binOp .mul t x y t') (hx : ev E x = some (.int k m)) (hy : ev E y = some (.int k n)) : Quiet C E I H o (.int k (k.wrap (m * n))) :=
  quiet_bin ho hx hy fun w => by simp [go_sem]
theorem q_add64 (ho : o.op = .binOp .add t x y t') (hx : ev E x = some (.int .i64 m)) (hy : ev E y = some (.int .i64 n)) (h : -9223372036854775808 ≤ m + n ∧ m + n ≤ 9223372036854775807) : Quiet C E I H o (.int .i64 (m + n)) := by
  have := q_add (C := C) (I := I) (H := H) ho hx hy
  rwa [IntWalk.i64_in _ h] at this
theorem q_sub64 (ho : o.op = .binOp .sub t x y t') (hx : ev E x = some (.int .i64 m)) (hy : ev E y = some (.int .i64 n)) (h : -9223372036854775808 ≤ m - n ∧ m - n ≤ 9223372036854775807) : Quiet C E I H o (.int .i64 (m - n)) := by
  have := q_sub (C := C) (I := I) (H := H) ho hx hy
  rwa [IntWalk.i64_in _ h] at this
theorem q_lss (ho : o.op = .binOp .lss t x y t') (hx : ev E x = some (.int k m)) (hy : ev E y = some (.int k n)) : Quiet C E I H o (.bool (decide (m < n))) :=
  quiet_bin ho hx hy fun w => by simp [go_sem]
theorem q_leq (ho : o.op = .binOp .leq t x y t') (hx : ev E x = some (.int k m)) (hy : ev E y = some (.int k n)) : Quiet C E I H o (.bool (decide (m ≤ n))) :=
  quiet_bin ho hx hy fun w => by simp [go_sem]
theorem q_gtr (ho : o.op = .binOp .gtr t x y t') (hx : ev E x = some (.int k m)) (hy : ev E y = some (.int k n)) : Quiet C E I H o (.bool (decide (n < m))) :=
  quiet_bin ho hx hy fun w => by simp [go_sem]
theorem q_geq (ho : o.op = .binOp .geq t x y t') (hx : ev E x = some (.int k m)) (hy : ev E y = some (.int k n)) : Quiet C E I H o (.bool (decide (n ≤ m))) :=
  quiet_bin ho hx hy fun w => by simp [go_sem]
theorem q_eql (ho : o.op = .binOp .eql t x y t') (hx : ev E x = some (.int k m)) (hy : ev E y = some (.int k n)) : Quiet C E I H o (.bool (decide (m = n))) :=
  quiet_bin ho hx hy fun w => by simp [go_sem]; rfl
theorem q_neq (ho : o.op = .binOp .neq t x y t') (hx : ev E x = some (.int k m)) (hy : ev E y = some (.int k n)) : Quiet C E I H o (.bool (decide (m ≠ n))) :=
  quiet_bin ho hx hy fun w => by simp [go_sem]; rfl
end ints

section strings
variable {x y i j : Operand} {t t' : TypeId} {s s' : List UInt8} {k kl kh : IntKind} {m n : Int}
theorem size_str (s : List UInt8) : (⟨s.toArray⟩ : ByteArray).size = s.length := by simp [ByteArray.size]
theorem quiet_builtin {b : Builtin} {args : Array Operand} {ts : Array TypeId} {vs : List Value} {r : Value} (ho : o.op = .call { callee := .builtin b, args := args, argTypes := ts })
    (he : evs E args.toList = some vs) (hr : ∀ cs w, (builtin b ts o.type cs vs.toArray).run C.P w = .ok (.value r) w) : Quiet C E I H o r :=
  quiet_run (by rw [ho]; rfl) fun a w hs _ => by
    have h1 : args.map a.eval = vs.toArray := by
      rw [← hs.evs he]; cases args; simp
    simp only [execOp, ho, resolve, h1]
    rw [Sem.run_bind, Sem.run_pure]
    exact hr _ w
theorem q_len_str (ho : o.op = .call { callee := .builtin .len, args := #[x], argTypes := #[t] }) (ht : C.P.underlying t = some .string) (hx : ev E x = some (str s)) :
    Quiet C E I H o (.int .i64 (s.length : Int)) :=
  quiet_builtin ho (vs := [str s]) (by simp [evs, hx]) fun cs w => by
    simp [builtin, str, Builtin.len_, run_underlying ht, goInt, size_str]
theorem q_index_str (ho : o.op = .index t x i) (ht : C.P.underlying t = some .string) (hx : ev E x = some (str s)) (hi : ev E i = some (.int k m)) (h : 0 ≤ m ∧ m < s.length) :
    Quiet C E I H o (u8 (nth s m.toNat 0)) :=
  quiet_run (by rw [ho]; rfl) fun a w hs _ => by
    have h1 := hs.ev hx
    have h2 := hs.ev hi
    have hlt : m.toNat < s.length := by omega
    have hg : (⟨s.toArray⟩ : ByteArray)[m.toNat]? = some s[m.toNat] := by
      rw [getElem?_pos _ _ (by simpa [ByteArray.size] using hlt)]; rfl
    simp [execOp, ho, h1, h2, str, Instr.index, run_underlying ht, asIntOf, h.1, hg, u8, nth_eq hlt]
theorem q_eql_str (ho : o.op = .binOp .eql t x y t') (hx : ev E x = some (str s)) (hy : ev E y = some (str s')) : Quiet C E I H o (.bool (decide (s = s'))) :=
  quiet_bin ho hx hy fun w => by
    simp [eqGuard, str, binOp, Op.stringOp, ByteArray.toList_eq]; rw [Bool.eq_iff_iff]; simp
end strings
end ops
end Go.Tri
