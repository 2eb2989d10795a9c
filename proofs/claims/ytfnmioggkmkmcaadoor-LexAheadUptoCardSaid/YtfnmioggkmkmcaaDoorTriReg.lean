/-
  Regions that draw their order: one walk in an order of our own serves every order.
-/
import Derived.Test.YtfnmioggkmkmcaaDoorTriEff
namespace Go.Tri
open Go.RowKit

/-- what a panic is asked does not look at the frame's slots -/
def PutQ (Q : Exit → Act → World → Prop) : Prop := ∀ c a w d v, Q (.panic c) (a.put (some d) v) w → Q (.panic c) a w

section
variable {C : Cx} {ops : Array Oper} {X Z : List Nat} {Q : Exit → Act → World → Prop} {S0 : World → Prop}

/-- Whatever order is picked from here on, in this world and in any that has more garbage. -/
def wa (C : Cx) (ops : Array Oper) (X Z : List Nat) (S0 : World → Prop) (Q : Exit → Act → World → Prop) : Nat → Array Bool → Act → World → Prop
  | 0, listed, a, w => Region.ready .any ops listed = [] ∧ ∀ w2, Below w.heap.size w w2 → Q .normal a w2
  | fuel + 1, listed, a, w => ∀ w2, Below w.heap.size w w2 →
    (Region.ready .any ops listed = [] → Q .normal a w2) ∧
    ∀ i ∈ Region.ready .any ops listed, wpOpIn (WF C.r) 0 C.P ops Q i (fun a' w' => (i ∉ X → Below w2.heap.size w2 w') ∧ (i ∉ Z → S0 w2 → S0 w') ∧ wa C ops X Z S0 Q fuel (listed.setIfInBounds i true) a' w') a w2

theorem below_trans {a b c : World} (h : Below a.heap.size a b) (k : Below b.heap.size b c) : Below a.heap.size a c := h.trans (k.mono h.size)

theorem wa_below : ∀ (fuel : Nat) (listed : Array Bool) (a : Act) (w w' : World), Below w.heap.size w w' → wa C ops X Z S0 Q fuel listed a w → wa C ops X Z S0 Q fuel listed a w'
  | 0, _, _, _, _, hb, h => ⟨h.1, fun w2 h2 => h.2 w2 (below_trans hb h2)⟩
  | _ + 1, _, _, _, _, hb, h => fun w2 h2 => h w2 (below_trans hb h2)

theorem wa_any : ∀ (fuel : Nat) (listed : Array Bool) (a : Act) (w : World), wa C ops X Z S0 Q fuel listed a w → wpAnyIn (WF C.r) 0 C.P .any ops Q fuel listed a w
  | 0, _, _, w, h => ⟨h.1, h.2 w (Below.refl _ _)⟩
  | fuel + 1, _, _, w, h => ⟨(h w (Below.refl _ _)).1, fun i hi => wpOpIn_mono (fun a' w' h' => wa_any fuel _ a' w' h'.2.2) ((h w (Below.refl _ _)).2 i hi)⟩

def plainAll (ops : Array Oper) : Bool := ops.all fun o => match o.op with | .defer _ => false | .select .. => false | _ => true
theorem plainAll_spec (h : plainAll ops = true) {j : Nat} {o : Oper} (ho : ops[j]? = some o) : (∀ c, o.op ≠ .defer c) ∧ (∀ cs b, o.op ≠ .select cs b) := by
  have := Array.all_eq_true_iff_forall_mem.1 h o (Array.mem_of_getElem? ho)
  constructor
  · intro c heq; simp [heq] at this
  · intro cs b heq; simp [heq] at this

/-- operation i yields v in state a: in world w and in any with more garbage -/
def Yd (C : Cx) (ops : Array Oper) (o : Oper) (v : Value) (a : Act) (w : World) : Prop :=
  (Region.wanted o (yielded ops a.tmps) = true ∧ ∀ w2, Below w.heap.size w w2 → qAt C o a.eval w2 v) ∨ (Region.wanted o (yielded ops a.tmps) = false ∧ v = undef)

theorem qAt_put {o : Oper} {a : Act} {dst : Option Tmp} {u v : Value} {w : World} (hs : ∀ cs b, o.op ≠ .select cs b) (h : ∀ d, dst = some d → d ∉ o.looksAt ops) :
    qAt C o (a.put dst u).eval w v ↔ qAt C o a.eval w v := by
  unfold qAt
  rw [execOp_put (ops := ops) o hs a dst u h]

theorem wpOp_put {j : Nat} {oi oj : Oper} {v : Value} (hj : ops[j]? = some oj) (hap : oi.apart ops oj = true) (hpj : (∀ c, oj.op ≠ .defer c) ∧ (∀ cs b, oj.op ≠ .select cs b))
    (hQ : PutQ Q) {K : Act → World → Prop} {a : Act} {w : World} (h : wpOpIn (WF C.r) 0 C.P ops Q j K (a.put oi.dst v) w) :
    wpOpIn (WF C.r) 0 C.P ops Q j (fun a' w' => K (a'.put oi.dst v) w' ∧ ∃ u, a'.tmps = (a.put oj.dst u).tmps) a w := by
  obtain ⟨h1, h2, h3⟩ := Oper.apart_spec hap
  unfold wpOpIn at *
  simp only [hj] at *
  rw [wanted_put oj a oi.dst v h1] at h
  have hcomm : ∀ u, (a.put oi.dst v).put oj.dst u = (a.put oj.dst u).put oi.dst v := fun u => Act.put_comm a v u h2
  have hQ' : ∀ c w', Q (.panic c) (a.put oi.dst v) w' → Q (.panic c) a w' := fun c w' hq => by
    cases hd : oi.dst with
    | none => rw [hd] at hq; exact hq
    | some d => rw [hd] at hq; exact hQ c a w' d v hq
  split
  · rename_i hw
    simp only [hw, if_true] at h
    unfold Oper.wpIn at *
    refine ⟨fun _ _ => trivial, ?_⟩
    have h := h.2
    rw [Oper.semAt_eq _ _ _ hpj.1] at h ⊢
    rw [execOp_put oj hpj.2 a oi.dst v h1] at h
    cases hr : (execOp a.eval oj).run C.P w with
    | halt x w' =>
      rw [hr] at h
      cases x <;> simp only [Oper.uponIn] at h ⊢ <;> first | exact hQ' _ _ h | exact h
    | ok x w' =>
      rw [hr] at h
      cases x <;> simp only [Oper.uponIn] at h ⊢ <;>
        first
          | exact ⟨by rw [← hcomm]; exact h, _, rfl⟩
          | exact ⟨h.1, CallsIn.mono h.2 (fun e w'' he => by cases e <;> first | exact ⟨by rw [← hcomm]; exact he, _, rfl⟩ | exact hQ' _ _ he | exact he)⟩
          | exact ⟨h.1, RowsIn.mono h.2 (fun _ _ he => ⟨by rw [← hcomm]; exact he, _, rfl⟩)⟩
          | exact ⟨h.1, RoundIn.mono h.2 (fun e w'' he => by cases e <;> first | exact ⟨by rw [← hcomm]; exact he, _, rfl⟩ | exact hQ' _ _ he | exact he)⟩
          | exact ⟨by rw [← Act.put_comm _ v undef h2, ← Act.put_defers]; exact h, undef, by cases oj.dst <;> rfl⟩
          | exact h.elim
  · rename_i hw
    simp only [hw] at h
    exact ⟨fun _ _ => trivial, by rw [← hcomm]; exact h.2, _, rfl⟩

theorem eval_of_tmps {a b : Act} (h : a.tmps = b.tmps) : a.eval = b.eval := by
  funext x
  cases x <;> simp [Act.eval, h]

theorem Yd.next {o oj : Oper} {v u : Value} {a a' : Act} {w w' : World} (hs : ∀ cs b, o.op ≠ .select cs b) (hy : Yd C ops o v a w) (ha : a'.tmps = (a.put oj.dst u).tmps) (hap : o.apart ops oj = true)
    (hw : ∀ w2, Below w'.heap.size w' w2 → Region.wanted o (yielded ops a.tmps) = true → qAt C o a.eval w2 v) : Yd C ops o v a' w' := by
  obtain ⟨_, _, h3⟩ := Oper.apart_spec hap
  have e1 : Region.wanted o (yielded ops a'.tmps) = Region.wanted o (yielded ops a.tmps) := by rw [ha]; exact wanted_put o a oj.dst u h3
  have e2 : a'.eval = (a.put oj.dst u).eval := eval_of_tmps ha
  rcases hy with ⟨h1, _⟩ | ⟨h1, h2⟩
  · exact .inl ⟨by rw [e1]; exact h1, fun w2 hb => by rw [e2]; exact (qAt_put hs h3).2 (hw w2 hb h1)⟩
  · exact .inr ⟨by rw [e1]; exact h1, h2⟩

theorem Yd.below {o : Oper} {v : Value} {a : Act} {w w' : World} (hy : Yd C ops o v a w) (hb : Below w.heap.size w w') : Yd C ops o v a w' := by
  rcases hy with ⟨h1, h2⟩ | h
  · exact .inl ⟨h1, fun w2 h => h2 w2 (below_trans hb h)⟩
  · exact .inr h

theorem Yd.wpOp {i : Nat} {o : Oper} {v : Value} {a : Act} {w : World} (hi : ops[i]? = some o) (hy : Yd C ops o v a w) {K : Act → World → Prop} (h : ∀ w', Below w.heap.size w w' → K (a.put o.dst v) w') :
    wpOpIn (WF C.r) 0 C.P ops Q i K a w := by
  unfold wpOpIn
  simp only [hi]
  rcases hy with ⟨h1, h2⟩ | ⟨h1, rfl⟩
  · simp only [h1, if_true]
    exact (h2 w (Below.refl _ _)).wpIn h
  · simp only [h1, Bool.false_eq_true, if_false]
    exact ⟨fun _ _ => trivial, h w (Below.refl _ _)⟩

/-- listed operations have what they wait for listed -/
def Closed (ops : Array Oper) (listed : Array Bool) : Prop := ∀ (j : Nat) (oj : Oper), ops[j]? = some oj → listed.getD j false = true → ∀ e ∈ oj.after, Region.binds .any e = true → listed.getD e.on false = true
theorem Closed.set {listed : Array Bool} {i : Nat} (h : Closed ops listed) (hi : i ∈ Region.ready .any ops listed) : Closed ops (listed.setIfInBounds i true) := by
  obtain ⟨_, oi, hoi, hall⟩ := mem_ready.1 hi
  intro j oj hj hl e he hb
  by_cases hij : i = j
  · subst hij
    have : oj = oi := Option.some.inj (hj.symm.trans hoi)
    subst this
    exact getD_set_true (hall e he hb)
  · rw [getD_set_ne false hij] at hl
    exact getD_set_true (h j oj hj hl e he hb)

/-- j waits for i, by some chain -/
def waits (ops : Array Oper) : Nat → Nat → Nat → Bool
  | 0, _, _ => false
  | f + 1, j, i => match ops[j]? with
    | none => false
    | some oj => oj.after.any (fun e => Region.binds .any e && e.on == i) || oj.after.any (fun e => Region.binds .any e && waits ops f e.on i)
theorem waits_not {i : Nat} {listed : Array Bool} (hc : Closed ops listed) (hi : listed.getD i false = false) : ∀ (f j : Nat), waits ops f j i = true → j ∉ Region.ready .any ops listed ∧ listed.getD j false = false
  | 0, _, h => by cases h
  | f + 1, j, h => by
    unfold waits at h
    split at h
    · cases h
    · rename_i oj hj
      have key : ∃ e ∈ oj.after, Region.binds .any e = true ∧ listed.getD e.on false = false := by
        rw [Bool.or_eq_true] at h
        rcases h with h | h
        · obtain ⟨e, he, hb⟩ := Array.any_eq_true'.1 h
          simp only [Bool.and_eq_true, beq_iff_eq] at hb
          exact ⟨e, he, hb.1, by rw [hb.2]; exact hi⟩
        · obtain ⟨e, he, hb⟩ := Array.any_eq_true'.1 h
          simp only [Bool.and_eq_true] at hb
          exact ⟨e, he, hb.1, (waits_not hc hi f e.on hb.2).2⟩
      obtain ⟨e, he, hb, hl⟩ := key
      refine ⟨fun hr => ?_, ?_⟩
      · obtain ⟨_, o', ho', hall⟩ := mem_ready.1 hr
        have : o' = oj := Option.some.inj (ho'.symm.trans hj)
        subst this
        have := hall e he hb
        rw [hl] at this
        cases this
      · cases hj2 : listed.getD j false with
        | false => rfl
        | true =>
          have := hc j oj hj hj2 e he hb
          rw [hl] at this
          cases this

theorem getD_unlisted {listed : Array Bool} {i : Nat} (h : listed.getD i true = false) : listed.getD i false = false := by
  rcases Nat.lt_or_ge i listed.size with h' | h'
  · simp [h'] at h ⊢; exact h
  · simp [Array.getElem?_eq_none h'] at h
/-- **an operation that leaves things alone may be taken first** -/
theorem wa_first (hpl : plainAll ops = true) (hQ : PutQ Q) {i : Nat} {oi : Oper} {v : Value} (hi : ops[i]? = some oi)
    (hX : ∀ j ∈ X, ∃ f, waits ops f j i = true) (hS : ∀ w w', S0 w → Below w.heap.size w w' → S0 w') :
    ∀ (fuel : Nat) (listed : Array Bool) (a : Act) (w : World), Closed ops listed →
      (∀ j oj, ops[j]? = some oj → j ≠ i → listed.getD j true = false → (∀ e ∈ oj.after, Region.binds .any e = true → e.on ≠ i) → oi.apart ops oj = true) →
      i ∈ Region.ready .any ops listed → Yd C ops oi v a w →
      wa C ops X Z S0 Q fuel (listed.setIfInBounds i true) (a.put oi.dst v) w → wa C ops X Z S0 Q (fuel + 1) listed a w := by
  intro fuel
  induction fuel with
  | zero =>
    intro listed a w hcl _ hr hy H w2 hb
    refine ⟨fun h => (by rw [h] at hr; cases hr), fun j hj => ?_⟩
    by_cases hji : j = i
    · subst hji
      exact (hy.below hb).wpOp hi fun w' hb' => ⟨fun _ => hb', fun _ h0 => hS _ _ h0 hb', wa_below _ _ _ _ _ (below_trans hb hb') H⟩
    · have := ready_mono hj hji
      rw [H.1] at this
      cases this
  | succ fuel ih =>
    intro listed a w hcl hfree hr hy H w2 hb
    refine ⟨fun h => (by rw [h] at hr; cases hr), fun j hj => ?_⟩
    by_cases hji : j = i
    · subst hji
      exact (hy.below hb).wpOp hi fun w' hb' => ⟨fun _ => hb', fun _ h0 => hS _ _ h0 hb', wa_below _ _ _ _ _ (below_trans hb hb') H⟩
    · have h1 := (H w2 hb).2 j (ready_mono hj hji)
      obtain ⟨hjun, oj, hoj, hall⟩ := mem_ready.1 hj
      have hiun := (mem_ready.1 hr).1
      have hiunF : listed.getD i false = false := getD_unlisted hiun
      have hnot : ∀ e ∈ oj.after, Region.binds .any e = true → e.on ≠ i := fun e he hb heq => by
        have h1 := hall e he hb
        rw [heq, hiunF] at h1
        cases h1
      have hap := hfree j oj hoj hji hjun hnot
      have h2 := wpOp_put hoj hap (plainAll_spec hpl hoj) hQ h1
      have hfree' : ∀ k ok, ops[k]? = some ok → k ≠ i → (listed.setIfInBounds j true).getD k true = false →
          (∀ e ∈ ok.after, Region.binds .any e = true → e.on ≠ i) → oi.apart ops ok = true := fun k ok hk hki hun hno => by
        refine hfree k ok hk hki ?_ hno
        by_cases hjk : j = k
        · subst hjk; exact hjun
        · rw [getD_set_ne true hjk] at hun; exact hun
      refine wpOpIn_mono (fun a' w' h3 => ?_) h2
      obtain ⟨⟨hk1, hk2, hk3⟩, u, hu⟩ := h3
      refine ⟨hk1, hk2, ih (listed.setIfInBounds j true) a' w' (hcl.set hj) hfree' (ready_mono hr (Ne.symm hji)) ?_ ?_⟩
      · refine hy.next (plainAll_spec hpl hi).2 hu hap fun w3 hb3 hwt => ?_
        have hjX : j ∉ X := fun hx => by
          obtain ⟨f, hf⟩ := hX j hx
          exact (waits_not hcl hiunF f j hf).1 hj
        rcases hy with ⟨_, hq⟩ | ⟨hq, _⟩
        · exact hq w3 (below_trans hb (below_trans (hk1 hjX) hb3))
        · rw [hq] at hwt; cases hwt
      · rw [Array.setIfInBounds_comm _ _ hji]
        exact hk3
/-- **an operation that leaves things alone may be taken first** -/
theorem wa_firstAt (hpl : plainAll ops = true) (hQ : PutQ Q) {i : Nat} {oi : Oper} {v : Value} (hi : ops[i]? = some oi)
    {ρ : Operand → Value} (hall : ∀ w, S0 w → qAt C oi ρ w v) (hZ : ∀ j ∈ Z, ∃ f, waits ops f j i = true) (hS : ∀ w w', S0 w → Below w.heap.size w w' → S0 w') :
    ∀ (fuel : Nat) (listed : Array Bool) (a : Act) (w : World), Closed ops listed →
      (∀ j oj, ops[j]? = some oj → j ≠ i → listed.getD j true = false → (∀ e ∈ oj.after, Region.binds .any e = true → e.on ≠ i) → oi.apart ops oj = true) →
      i ∈ Region.ready .any ops listed → S0 w → Region.wanted oi (yielded ops a.tmps) = true → a.eval = ρ ∨ execOp a.eval oi = execOp ρ oi →
      wa C ops X Z S0 Q fuel (listed.setIfInBounds i true) (a.put oi.dst v) w → wa C ops X Z S0 Q (fuel + 1) listed a w := by
  intro fuel
  induction fuel with
  | zero =>
    intro listed a w hcl _ hr hs hwt hρ H w2 hb
    have hy : Yd C ops oi v a w := .inl ⟨hwt, fun w2 hb => by have := hall w2 (hS _ _ hs hb); unfold qAt at this ⊢; rcases hρ with e | e <;> rw [e] <;> exact this⟩
    refine ⟨fun h => (by rw [h] at hr; cases hr), fun j hj => ?_⟩
    by_cases hji : j = i
    · subst hji
      exact (hy.below hb).wpOp hi fun w' hb' => ⟨fun _ => hb', fun _ h0 => hS _ _ h0 hb', wa_below _ _ _ _ _ (below_trans hb hb') H⟩
    · have := ready_mono hj hji
      rw [H.1] at this
      cases this
  | succ fuel ih =>
    intro listed a w hcl hfree hr hs hwt hρ H w2 hb
    have hy : Yd C ops oi v a w := .inl ⟨hwt, fun w2 hb => by have := hall w2 (hS _ _ hs hb); unfold qAt at this ⊢; rcases hρ with e | e <;> rw [e] <;> exact this⟩
    refine ⟨fun h => (by rw [h] at hr; cases hr), fun j hj => ?_⟩
    by_cases hji : j = i
    · subst hji
      exact (hy.below hb).wpOp hi fun w' hb' => ⟨fun _ => hb', fun _ h0 => hS _ _ h0 hb', wa_below _ _ _ _ _ (below_trans hb hb') H⟩
    · have h1 := (H w2 hb).2 j (ready_mono hj hji)
      obtain ⟨hjun, oj, hoj, hall⟩ := mem_ready.1 hj
      have hiun := (mem_ready.1 hr).1
      have hiunF : listed.getD i false = false := getD_unlisted hiun
      have hnot : ∀ e ∈ oj.after, Region.binds .any e = true → e.on ≠ i := fun e he hb heq => by
        have h1 := hall e he hb
        rw [heq, hiunF] at h1
        cases h1
      have hap := hfree j oj hoj hji hjun hnot
      have h2 := wpOp_put hoj hap (plainAll_spec hpl hoj) hQ h1
      have hfree' : ∀ k ok, ops[k]? = some ok → k ≠ i → (listed.setIfInBounds j true).getD k true = false →
          (∀ e ∈ ok.after, Region.binds .any e = true → e.on ≠ i) → oi.apart ops ok = true := fun k ok hk hki hun hno => by
        refine hfree k ok hk hki ?_ hno
        by_cases hjk : j = k
        · subst hjk; exact hjun
        · rw [getD_set_ne true hjk] at hun; exact hun
      refine wpOpIn_mono (fun a' w' h3 => ?_) h2
      obtain ⟨⟨hk1, hk2, hk3⟩, u, hu⟩ := h3
      obtain ⟨_, _, h3⟩ := Oper.apart_spec hap
      have hjZ : j ∉ Z := fun hx => by
        obtain ⟨f, hf⟩ := hZ j hx
        exact (waits_not hcl hiunF f j hf).1 hj
      refine ⟨hk1, hk2, ih (listed.setIfInBounds j true) a' w' (hcl.set hj) hfree' (ready_mono hr (Ne.symm hji)) (hk2 hjZ (hS _ _ hs hb)) (by rw [hu, wanted_put oi a oj.dst u h3]; exact hwt) ?_ ?_⟩
      · refine .inr ?_
        rw [eval_of_tmps hu, execOp_put (ops := ops) oi (plainAll_spec hpl hi).2 a oj.dst u h3]
        rcases hρ with e | e
        · rw [e]
        · exact e
      · rw [Array.setIfInBounds_comm _ _ hji]
        exact hk3
end

/-- what stands through the region: the rows R0 and what does not turn -/
def Held (C : Cx) (I0 : Look) (R0 : List HA) (w : World) : Prop := ∃ I', Le I0 I' ∧ St C.w0 I' R0 w
theorem Held.below {C : Cx} {I0 : Look} {R0 : List HA} {w w' : World} (h : Held C I0 R0 w) (hb : Below w.heap.size w w') : Held C I0 R0 w' := by
  obtain ⟨I', h1, h2⟩ := h
  exact ⟨I', h1, h2.garb hb⟩

/-- a region with a drawn order, some operations listed already -/
def R (C : Cx) (ops : Array Oper) (X Z : List Nat) (I0 : Look) (R0 : List HA) (fuel : Nat) (listed : Array Bool) (E : Env) (I : Look) (H : List HA) (D : List Deferred) (Q : Exit → Act → World → Prop) : Prop :=
  plainAll ops = true → PutQ Q → ∀ a w, Sat E C.n a.tmps → a.defers = D → St C.w0 I H w → wa C ops X Z (Held C I0 R0) Q fuel listed a w

def closedB (ops : Array Oper) (listed : Array Bool) : Bool := (List.range ops.size).all fun j => match ops[j]? with
  | none => true
  | some oj => !listed.getD j false || oj.after.all fun e => !Region.binds .any e || listed.getD e.on false
theorem closedB_spec {ops : Array Oper} {listed : Array Bool} (h : closedB ops listed = true) : Closed ops listed := by
  intro j oj hj hl e he hb
  have h1 := List.all_eq_true.1 h j (List.mem_range.2 (Array.getElem?_eq_some_iff.1 hj).1)
  simp only [hj, hl, Bool.not_true, Bool.false_or] at h1
  have h2 := Array.all_eq_true_iff_forall_mem.1 h1 e he
  simpa [hb] using h2

def waitsAll (ops : Array Oper) (X : List Nat) (i : Nat) : Bool := X.all fun j => waits ops ops.size j i
/-- all that the two rules below ask of a region and a place in it -/
def okQ (ops : Array Oper) (listed : Array Bool) (i : Nat) : Bool := closedB ops listed && (Region.ready .any ops listed).contains i && Region.free .any ops listed i
def okX (ops : Array Oper) (X : List Nat) (listed : Array Bool) (i : Nat) : Bool := (Region.ready .any ops listed).all (Nat.beq · i) && X.contains i

section
variable {C : Cx} {ops : Array Oper} {X Z : List Nat} {I0 I : Look} {R0 H : List HA} {fuel : Nat} {listed : Array Bool} {E : Env} {D : List Deferred} {Q : Exit → Act → World → Prop} {o : Oper}

theorem t_draw {id : Nat} {l : List Oper} (X Z : List Nat) (R0 : List HA) (hm : C.P.follows .mixedOrders = true) (hpl : plainAll l.toArray = true) (hQ : PutQ Q)
    (h : R C l.toArray X Z I R0 l.length (Array.replicate l.length false) E I H D Q) : T C (.region id l.toArray true) E I H D Q := by
  intro a w hs hd hw
  have hb : Below w.heap.size w { w with drawn := w.drawn + 1 } := (Below.refl _ w).drew
  refine wpIn_region_any hm ?_
  have := wa_any _ _ _ _ (h hpl hQ a { w with drawn := w.drawn + 1 } hs hd (hw.garb hb))
  simpa using this

theorem r_end (hr : (Region.ready .any ops listed).isEmpty = true) (k : N C .normal E I H D Q) : R C ops X Z I0 R0 0 listed E I H D Q :=
  fun _ _ a w hs hd hw => ⟨by simpa using hr, fun w2 hb => k a w2 hs hd (hw.garb hb)⟩

/-- an operation that reads what the region will turn later, behind it -/
theorem r_q1 (i : Nat) {v : Value} {d : Nat} (hok : (okQ ops listed i && waitsAll ops X i) = true) (hi : ops[i]? = some o) (hle : Le I0 I)
    (hg : o.guard = none) (hd : o.dst = some d) (hn : Nat.blt d C.n = true) (hq : Quiet C E I H o v)
    (k : R C ops X Z I0 R0 fuel (listed.setIfInBounds i true) ((d, v) :: E) I H D Q) : R C ops X Z I0 R0 (fuel + 1) listed E I H D Q := by
  intro hpl hQ a w hs hda hw
  simp only [okQ, Bool.and_eq_true] at hok
  refine wa_first hpl hQ hi (v := v) (fun j hj => ⟨_, List.all_eq_true.1 hok.2 j hj⟩) (fun _ _ => Held.below) fuel listed a w (closedB_spec hok.1.1.1) (Region.free_spec hi hok.1.2) (by simpa using hok.1.1.2) (.inl ⟨by simp [Region.wanted, hg], fun w2 hb => hq a w2 hs (hw.garb hb)⟩) ?_
  rw [hd]
  exact k hpl hQ _ _ (hs.put (by simpa using hn) v) (by simpa [Act.put] using hda) hw

/-- an operation that reads what stands through the region -/
theorem r_q0 (i : Nat) {v : Value} {d : Nat} (hok : (okQ ops listed i && waitsAll ops Z i) = true) (hi : ops[i]? = some o) (hle : Le I0 I) [hsub : SubC H R0]
    (hg : o.guard = none) (hd : o.dst = some d) (hn : Nat.blt d C.n = true) (hq : ∀ I', Le I0 I' → Quiet C E I' R0 o v)
    (k : R C ops X Z I0 R0 fuel (listed.setIfInBounds i true) ((d, v) :: E) I H D Q) : R C ops X Z I0 R0 (fuel + 1) listed E I H D Q := by
  intro hpl hQ a w hs hda hw
  simp only [okQ, Bool.and_eq_true] at hok
  have hall : ∀ w', Held C I0 R0 w' → qAt C o a.eval w' v := fun w' ⟨I', h1, h2⟩ => hq I' h1 a w' hs h2
  have key := wa_firstAt (C := C) (ops := ops) (X := X) (Z := Z) (Q := Q) (S0 := Held C I0 R0) hpl hQ hi (v := v) (ρ := a.eval) hall (fun j hj => ⟨_, List.all_eq_true.1 hok.2 j hj⟩) (fun _ _ => Held.below) fuel listed a w (closedB_spec hok.1.1.1) (Region.free_spec hi hok.1.2) (by simpa using hok.1.1.2) ⟨I, hle, hw.sub hsub.sub⟩ (by simp [Region.wanted, hg]) (.inl rfl)
  refine key ?_
  rw [hd]
  exact k hpl hQ _ _ (hs.put (by simpa using hn) v) (by simpa [Act.put] using hda) hw

theorem okX_ready {i j : Nat} (h : okX ops X listed i = true) (hj : j ∈ Region.ready .any ops listed) : j = i := by
  simp only [okX, Bool.and_eq_true] at h
  exact Nat.eq_of_beq_eq_true (List.all_eq_true.1 h.1 j hj)

/-- one operation alone may come up -/
theorem r_e (i : Nat) {d : Nat} {Post : Value → Look → List HA → Prop} (hok : okX ops X listed i = true) (hne : (Region.ready .any ops listed).isEmpty = false) (hi : ops[i]? = some o) (hle : Le I0 I)
    (hg : o.guard = none) (hd : o.dst = some d) (hn : Nat.blt d C.n = true) (he : Eff C E I H o Post)
    (k : ∀ v I' H', Post v I' H' → Le I I' ∧ (Z.contains i = true ∨ SubH H' R0) ∧ R C ops X Z I0 R0 fuel (listed.setIfInBounds i true) ((d, v) :: E) I' H' D Q) : R C ops X Z I0 R0 (fuel + 1) listed E I H D Q := by
  intro hpl hQ a w hs hda hw w2 hb
  refine ⟨fun h => (by rw [h] at hne; cases hne), fun j hj => ?_⟩
  obtain rfl := okX_ready hok hj
  unfold wpOpIn
  simp only [hi]
  rw [if_pos (by simp [Region.wanted, hg])]
  refine he a w2 hs (hw.garb hb) _ _ fun v I' H' w' hp hw' => ?_
  obtain ⟨hII, hsub, hk⟩ := k v I' H' hp
  simp only [okX, Bool.and_eq_true] at hok
  refine ⟨fun hx => absurd (by simpa using hok.2) hx, fun hz _ => ?_, ?_⟩
  · rcases hsub with hc | hsub
    · exact absurd (by simpa using hc) hz
    · exact ⟨I', hle.trans hII, hw'.sub hsub⟩
  rw [hd]
  exact hk hpl hQ _ _ (hs.put (by simpa using hn) v) (by simpa [Act.put] using hda) hw'
theorem r_e0 (i : Nat) {Post : Value → Look → List HA → Prop} (hok : okX ops X listed i = true) (hne : (Region.ready .any ops listed).isEmpty = false) (hi : ops[i]? = some o) (hle : Le I0 I)
    (hg : o.guard = none) (hd : o.dst = none) (he : Eff C E I H o Post)
    (k : ∀ v I' H', Post v I' H' → Le I I' ∧ (Z.contains i = true ∨ SubH H' R0) ∧ R C ops X Z I0 R0 fuel (listed.setIfInBounds i true) E I' H' D Q) : R C ops X Z I0 R0 (fuel + 1) listed E I H D Q := by
  intro hpl hQ a w hs hda hw w2 hb
  refine ⟨fun h => (by rw [h] at hne; cases hne), fun j hj => ?_⟩
  obtain rfl := okX_ready hok hj
  unfold wpOpIn
  simp only [hi]
  rw [if_pos (by simp [Region.wanted, hg])]
  refine he a w2 hs (hw.garb hb) _ _ fun v I' H' w' hp hw' => ?_
  obtain ⟨hII, hsub, hk⟩ := k v I' H' hp
  simp only [okX, Bool.and_eq_true] at hok
  refine ⟨fun hx => absurd (by simpa using hok.2) hx, fun hz _ => ?_, ?_⟩
  · rcases hsub with hc | hsub
    · exact absurd (by simpa using hc) hz
    · exact ⟨I', hle.trans hII, hw'.sub hsub⟩
  rw [hd]
  exact hk hpl hQ _ _ hs hda hw'
/-- one operation of several that may come up -/
def RX (C : Cx) (ops : Array Oper) (X Z : List Nat) (I0 : Look) (R0 : List HA) (fuel : Nat) (listed : Array Bool) (E : Env) (I : Look) (H : List HA) (D : List Deferred) (Q : Exit → Act → World → Prop) (m : Nat) : Prop :=
  plainAll ops = true → PutQ Q → ∀ a w, Sat E C.n a.tmps → a.defers = D → St C.w0 I H w →
    wpOpIn (WF C.r) 0 C.P ops Q m (fun a' w' => (m ∉ X → Below w.heap.size w w') ∧ (m ∉ Z → Held C I0 R0 w → Held C I0 R0 w') ∧ wa C ops X Z (Held C I0 R0) Q fuel (listed.setIfInBounds m true) a' w') a w
theorem x_e (i : Nat) {d : Nat} {Post : Value → Look → List HA → Prop} (hX : X.contains i = true) (hi : ops[i]? = some o) (hle : Le I0 I)
    (hg : o.guard = none) (hd : o.dst = some d) (hn : Nat.blt d C.n = true) (he : Eff C E I H o Post)
    (k : ∀ v I' H', Post v I' H' → Le I I' ∧ (Z.contains i = true ∨ SubH H' R0) ∧ R C ops X Z I0 R0 fuel (listed.setIfInBounds i true) ((d, v) :: E) I' H' D Q) : RX C ops X Z I0 R0 fuel listed E I H D Q i := by
  intro hpl hQ a w hs hda hw
  unfold wpOpIn
  simp only [hi]
  rw [if_pos (by simp [Region.wanted, hg])]
  refine he a w hs hw _ _ fun v I' H' w' hp hw' => ?_
  obtain ⟨hII, hsub, hk⟩ := k v I' H' hp
  refine ⟨fun hx => absurd (by simpa using hX) hx, fun hz _ => ?_, ?_⟩
  · rcases hsub with hc | hsub
    · exact absurd (by simpa using hc) hz
    · exact ⟨I', hle.trans hII, hw'.sub hsub⟩
  rw [hd]
  exact hk hpl hQ _ _ (hs.put (by simpa using hn) v) (by simpa [Act.put] using hda) hw'
theorem r_two (i j : Nat) (hok : (Region.ready .any ops listed).all (fun m => Nat.beq m i || Nat.beq m j) = true) (hne : (Region.ready .any ops listed).isEmpty = false)
    (hi : RX C ops X Z I0 R0 fuel listed E I H D Q i) (hj : RX C ops X Z I0 R0 fuel listed E I H D Q j) : R C ops X Z I0 R0 (fuel + 1) listed E I H D Q := by
  intro hpl hQ a w hs hda hw w2 hb
  refine ⟨fun h => (by rw [h] at hne; cases hne), fun m hm => ?_⟩
  have := List.all_eq_true.1 hok m hm
  rw [Bool.or_eq_true] at this
  rcases this with h | h
  · obtain rfl := Nat.eq_of_beq_eq_true h
    exact hi hpl hQ a w2 hs hda (hw.garb hb)
  · obtain rfl := Nat.eq_of_beq_eq_true h
    exact hj hpl hQ a w2 hs hda (hw.garb hb)
end
end Go.Tri
