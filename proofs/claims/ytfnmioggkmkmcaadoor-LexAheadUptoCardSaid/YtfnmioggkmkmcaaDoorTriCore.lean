/-
  A small logic of triples over the model's calculus: a frame is known by a list of slots, memory by a list of owned rows and by what does not turn.
-/
import Derived.WalkKit
import Derived.OwnWalkIn
import Derived.OrdersIn
import Derived.Maps.AppendAt
namespace Go.Tri
open Go.RowKit

def WF (r : Option Nat) : Fence := { fn := fun _ => True, depth := none, alive := false, round := r }
@[simp] theorem WF_round (r : Option Nat) : (WF r).round = r := rfl
@[simp] theorem WF_depth (r : Option Nat) : (WF r).depth = none := rfl
@[simp] theorem WF_fn (r : Option Nat) (f : FuncId) : (WF r).fn f = True := rfl
theorem WF_none : WF none = Fence.wide := rfl

abbrev Look := Nat → Option Obj
def look (w : World) : Look := fun b => w.heap[b]?
def Le (I J : Look) : Prop := ∀ b o, I b = some o → J b = some o
theorem Le.refl (I : Look) : Le I I := fun _ _ h => h
theorem Le.trans {I J K : Look} (h : Le I J) (k : Le J K) : Le I K := fun b o x => k b o (h b o x)

/-! ### owned rows -/
structure HA where
  own : Option Nat
  sat : Look → Prop
  loc : ∀ h h' : Look, (∀ b, own = some b → h' b = h b) → sat h → sat h'
  dom : ∀ h b, own = some b → sat h → ∃ o, h b = some o

def obj (b : Nat) (o : Obj) : HA :=
  ⟨some b, fun h => h b = some o, fun _ _ e s => (e b rfl).trans s, fun _ _ e s => by cases e; exact ⟨_, s⟩⟩
/-- block b is just these cells of element type T -/
def row (b : Nat) (T : TypeId) (cs : List Value) : HA := obj b (.cells cs.toArray T (0, 0))

def vecSat (v : Value) (T : TypeId) (sz n : Nat) (xs : List Value) (h : Look) : Prop :=
  xs.length = n * sz ∧ ((v = .slice none 0 0 ∧ n = 0) ∨
    ∃ g cap cur, v = .slice (some ⟨g, 0, none⟩) n cap ∧ h g = some (.cells cur T (0, 0)) ∧ n ≤ cap ∧ cap ≤ maxLen ∧ cur.size = cap * sz ∧ cur.toList.take (n * sz) = xs)
/-- a slice of the call's own: nil, or the head of a row that nobody else holds -/
def vec (v : Value) (T : TypeId) (sz n : Nat) (xs : List Value) : HA :=
  ⟨v.ownBlock, vecSat v T sz n xs, fun h h' e s => by
    obtain ⟨hl, hs⟩ := s
    refine ⟨hl, ?_⟩
    rcases hs with hs | ⟨g, cap, cur, rfl, hg, r⟩
    · exact .inl hs
    · exact .inr ⟨g, cap, cur, rfl, (e g rfl).trans hg, r⟩, fun h b e s => by
    obtain ⟨_, hs⟩ := s
    rcases hs with ⟨rfl, _⟩ | ⟨g, cap, cur, rfl, hg, _⟩
    · cases e
    · cases e; exact ⟨_, hg⟩⟩

def owns (H : List HA) : List Nat := H.filterMap HA.own

structure St (w0 : World) (I : Look) (H : List HA) (w : World) : Prop where
  os : w.os = w0.os
  tape : w.tape = w0.tape
  output : w.output = w0.output
  size : w0.heap.size ≤ w.heap.size
  imm : ∀ b o, I b = some o → w.heap[b]? = some o
  sat : ∀ x ∈ H, x.sat (look w)
  sep : (owns H).Nodup
  dis : ∀ x ∈ H, ∀ b, x.own = some b → I b = none

theorem lt_of_some {w : World} {b : Nat} {o : Obj} (h : w.heap[b]? = some o) : b < w.heap.size := (Array.getElem?_eq_some_iff.1 h).1

theorem St.own_lt {w0 w : World} {I : Look} {H : List HA} (h : St w0 I H w) {x : HA} (hx : x ∈ H) {b : Nat} (hb : x.own = some b) : b < w.heap.size := by
  obtain ⟨o, ho⟩ := x.dom _ b hb (h.sat x hx)
  exact lt_of_some ho

theorem St.start (w : World) (I : Look) (hI : Le I (look w)) : St w I [] w :=
  ⟨rfl, rfl, rfl, Nat.le_refl _, fun b o h => hI b o h, (fun _ h => by cases h), (by simp [owns]), (fun _ h => by cases h)⟩

theorem St.garb {w0 w w' : World} {I : Look} {H : List HA} (h : St w0 I H w) (g : Below w.heap.size w w') : St w0 I H w' where
  os := g.os.trans h.os
  tape := g.tape.trans h.tape
  output := g.output.trans h.output
  size := Nat.le_trans h.size g.size
  imm := fun b o hb => by have := h.imm b o hb; rw [g.block b (lt_of_some this)]; exact this
  sat := fun x hx => x.loc _ _ (fun b hb => g.block b (h.own_lt hx hb)) (h.sat x hx)
  sep := h.sep
  dis := h.dis

theorem St.below {w0 w : World} {H : List HA} (h : St w0 (look w0) H w) : Below w0.heap.size w0 w :=
  ⟨h.os, h.tape, h.output, h.size, fun k hk => by
    have hs : w0.heap[k]? = some w0.heap[k] := Array.getElem?_eq_getElem hk
    rw [h.imm k _ hs, hs]⟩

theorem St.le {w0 w : World} {I : Look} {H : List HA} (h : St w0 I H w) : Le I (look w) := h.imm

theorem owns_perm {H H' : List HA} (p : H.Perm H') : (owns H).Perm (owns H') := p.filterMap _

theorem St.perm {w0 w : World} {I : Look} {H H' : List HA} (h : St w0 I H w) (p : H.Perm H') : St w0 I H' w :=
  { h with
    sat := fun x hx => h.sat x (p.mem_iff.2 hx)
    sep := (owns_perm p).nodup_iff.1 h.sep
    dis := fun x hx => h.dis x (p.mem_iff.2 hx) }

theorem St.tail {w0 w : World} {I : Look} {x : HA} {H : List HA} (h : St w0 I (x :: H) w) : St w0 I H w :=
  { h with
    sat := fun y hy => h.sat y (List.mem_cons_of_mem _ hy)
    sep := by
      have := h.sep
      unfold owns at this ⊢
      rw [List.filterMap_cons] at this
      split at this
      · exact this
      · exact (List.nodup_cons.1 this).2
    dis := fun y hy => h.dis y (List.mem_cons_of_mem _ hy) }

/-- what is not said of memory may be taken back -/
theorem St.less {w0 w : World} {I J : Look} {H : List HA} (h : St w0 J H w) (hle : Le I J) : St w0 I H w :=
  { h with
    imm := fun b o hb => h.imm b o (hle b o hb)
    dis := fun x hx b hb => by
      have := h.dis x hx b hb
      cases hI : I b with
      | none => rfl
      | some o => rw [hle b o hI] at this; cases this }

theorem St.rebase {w0 w1 w : World} {I J : Look} {H H' : List HA} (h : St w0 I H w1) (k : St w1 J H' w) : St w0 J H' w :=
  { k with os := k.os.trans h.os, tape := k.tape.trans h.tape, output := k.output.trans h.output, size := Nat.le_trans h.size k.size }

/-- a new block -/
theorem St.new {w0 w : World} {I : Look} {H : List HA} (h : St w0 I H w) (o : Obj) : St w0 I (obj w.heap.size o :: H) (w.alloc o) := by
  have g : Below w.heap.size w (w.alloc o) := (Below.refl _ w).alloc (Nat.le_refl _) o
  have h' := h.garb g
  refine { h' with sat := ?_, sep := ?_, dis := ?_ }
  · intro x hx
    rcases List.mem_cons.1 hx with rfl | hx
    · exact heap_alloc_new w o
    · exact h'.sat x hx
  · unfold owns
    rw [List.filterMap_cons]
    show (w.heap.size :: owns H).Nodup
    refine List.nodup_cons.2 ⟨fun hm => ?_, h.sep⟩
    obtain ⟨x, hx, he⟩ := List.mem_filterMap.1 hm
    have := h.own_lt hx he
    omega
  · intro x hx b hb
    rcases List.mem_cons.1 hx with rfl | hx
    · cases hb
      cases hI : I w.heap.size with
      | none => rfl
      | some o' => have := lt_of_some (h.imm _ _ hI); omega
    · exact h.dis x hx b hb

/-- the head turns: a store, an append -/
theorem St.turn {w0 w w' : World} {I : Look} {x y : HA} {F : List HA} (h : St w0 I (x :: F) w)
    (os : w'.os = w.os) (tape : w'.tape = w.tape) (output : w'.output = w.output) (size : w.heap.size ≤ w'.heap.size)
    (same : ∀ k, k < w.heap.size → some k ≠ x.own → w'.heap[k]? = w.heap[k]?)
    (hy : y.sat (look w')) (hown : y.own = x.own ∨ ∃ b, y.own = some b ∧ w.heap.size ≤ b) : St w0 I (y :: F) w' := by
  have hx : ∀ z ∈ F, ∀ b, z.own = some b → some b ≠ x.own := by
    intro z hz b hb he
    have hs := h.sep
    unfold owns at hs
    rw [List.filterMap_cons, ← he] at hs
    exact (List.nodup_cons.1 hs).1 (List.mem_filterMap.2 ⟨z, hz, hb⟩)
  refine ⟨os.trans h.os, tape.trans h.tape, output.trans h.output, Nat.le_trans h.size size, ?_, ?_, ?_, ?_⟩
  · intro b o hb
    have hw := h.imm b o hb
    rw [same b (lt_of_some hw) (fun e => by have := h.dis x (List.mem_cons_self) b e.symm; rw [this] at hb; cases hb)]
    exact hw
  · intro z hz
    rcases List.mem_cons.1 hz with rfl | hz
    · exact hy
    · exact z.loc _ _ (fun b hb => same b (h.own_lt (List.mem_cons_of_mem _ hz) hb) (hx z hz b hb)) (h.sat z (List.mem_cons_of_mem _ hz))
  · have ht := h.tail.sep
    unfold owns at ht ⊢
    rw [List.filterMap_cons]
    cases hyo : y.own with
    | none => exact ht
    | some b =>
      refine List.nodup_cons.2 ⟨fun hm => ?_, ht⟩
      obtain ⟨z, hz, he⟩ := List.mem_filterMap.1 hm
      rcases hown with e | ⟨b', e, hle⟩
      · exact hx z hz b he (by rw [← hyo]; exact e)
      · rw [hyo] at e; cases e
        have := h.own_lt (List.mem_cons_of_mem _ hz) he
        omega
  · intro z hz b hb
    rcases List.mem_cons.1 hz with rfl | hz
    · rcases hown with e | ⟨b', e, hle⟩
      · exact h.dis x (List.mem_cons_self) b (by rw [← e]; exact hb)
      · rw [hb] at e; cases e
        cases hI : I b with
        | none => rfl
        | some o' => have := lt_of_some (h.imm _ _ hI); omega
    · exact h.dis z (List.mem_cons_of_mem _ hz) b hb

/-! ### frames -/
def get : List (Nat × Value) → Nat → Option Value
  | [], _ => none
  | (j, v) :: r, k => bif Nat.beq j k then some v else get r k
def ev (E : List (Nat × Value)) : Operand → Option Value
  | .tmp t => get E t
  | .const v => some v
  | .func f => some (.func (.func f) #[] #[])
  | .global g => some (.pointer (some ⟨g, 0, none⟩))
def evs (E : List (Nat × Value)) : List Operand → Option (List Value)
  | [] => some []
  | x :: r => match ev E x, evs E r with
    | some v, some vs => some (v :: vs)
    | _, _ => none

def Sat (E : List (Nat × Value)) (n : Nat) (τ : Array Value) : Prop := τ.size = n ∧ ∀ k v, get E k = some v → τ[k]? = some v

theorem Sat.ev {E : List (Nat × Value)} {n : Nat} {a : Act} (h : Sat E n a.tmps) {x : Operand} {v : Value} (hx : ev E x = some v) : a.eval x = v := by
  cases x with
  | tmp t =>
    have := h.2 t v hx
    simp [Act.eval, this]
  | const u => cases hx; rfl
  | global g => cases hx; rfl
  | func f => cases hx; rfl

theorem Sat.evs {E : List (Nat × Value)} {n : Nat} {a : Act} (h : Sat E n a.tmps) : ∀ {xs : List Operand} {vs : List Value}, evs E xs = some vs → xs.map a.eval = vs
  | [], _, hx => by cases hx; rfl
  | x :: r, vs, hx => by
    unfold Tri.evs at hx
    split at hx
    · rename_i v vs' h1 h2
      cases hx
      rw [List.map_cons, h.ev h1, h.evs h2]
    · cases hx

theorem Sat.put {E : List (Nat × Value)} {n d : Nat} {a : Act} (h : Sat E n a.tmps) (hd : d < n) (v : Value) : Sat ((d, v) :: E) n (a.put (some d) v).tmps := by
  refine ⟨by simpa [Act.put] using h.1, fun k u hk => ?_⟩
  unfold get at hk
  by_cases e : d = k
  · subst e
    rw [show Nat.beq d d = true from Nat.beq_refl d] at hk
    cases hk
    simp [Act.put, h.1, hd]
  · rw [show Nat.beq d k = false from by cases hb : Nat.beq d k with | false => rfl | true => exact absurd (Nat.eq_of_beq_eq_true hb) e] at hk
    have := h.2 k u hk
    simpa [Act.put, Array.getElem?_setIfInBounds_ne e] using this

def Sub (E E' : List (Nat × Value)) : Prop := ∀ k v, get E' k = some v → get E k = some v
theorem Sat.sub {E E' : List (Nat × Value)} {n : Nat} {τ : Array Value} (h : Sat E n τ) (hs : Sub E E') : Sat E' n τ := ⟨h.1, fun k v hk => h.2 k v (hs k v hk)⟩
theorem sub_nil {E : List (Nat × Value)} : Sub E [] := fun _ _ h => by cases h
theorem sub_cons {E E' : List (Nat × Value)} {k : Nat} {v : Value} (h : get E k = some v) (hs : Sub E E') : Sub E ((k, v) :: E') := by
  intro j u hj
  unfold get at hj
  by_cases e : k = j
  · subst e
    rw [show Nat.beq k k = true from Nat.beq_refl k] at hj
    cases hj
    exact h
  · rw [show Nat.beq k j = false from by cases hb : Nat.beq k j with | false => rfl | true => exact absurd (Nat.eq_of_beq_eq_true hb) e] at hj
    exact hs j u hj
theorem sub_cons' {E E' : List (Nat × Value)} {k : Nat} {v v' : Value} (h : get E k = some v') (e : v' = v) (hs : Sub E E') : Sub E ((k, v) :: E') := sub_cons (e ▸ h) hs
theorem Sub.refl (E : List (Nat × Value)) : Sub E E := fun _ _ h => h

/-! ### judgements -/
structure Cx where
  P : Program
  r : Option Nat
  n : Nat
  w0 : World

abbrev Env := List (Nat × Value)

def T (C : Cx) (c : Code) (E : Env) (I : Look) (H : List HA) (D : List Deferred) (Q : Exit → Act → World → Prop) : Prop :=
  ∀ a w, Sat E C.n a.tmps → a.defers = D → St C.w0 I H w → c.wpIn (WF C.r) 0 C.P Q a w
def L (C : Cx) (ops : Array Oper) (l : List Oper) (E : Env) (I : Look) (H : List HA) (D : List Deferred) (Q : Exit → Act → World → Prop) : Prop :=
  ∀ a w, Sat E C.n a.tmps → a.defers = D → St C.w0 I H w → wpListIn (WF C.r) 0 C.P ops Q l a w
def N (C : Cx) (e : Exit) (E : Env) (I : Look) (H : List HA) (D : List Deferred) (Q : Exit → Act → World → Prop) : Prop :=
  ∀ a w, Sat E C.n a.tmps → a.defers = D → St C.w0 I H w → Q e a w

section code
variable {C : Cx} {E : Env} {I : Look} {H : List HA} {D : List Deferred} {Q : Exit → Act → World → Prop}

theorem t_seq {x y : Code} (h : T C x E I H D (Exit.then (y.wpIn (WF C.r) 0 C.P Q) Q)) : T C (.seq x y) E I H D Q :=
  fun a w hs hd hw => wpIn_seq (h a w hs hd hw)
theorem n_then {y : Code} (h : T C y E I H D Q) : N C .normal E I H D (Exit.then (y.wpIn (WF C.r) 0 C.P Q) Q) := h
theorem n_thenK {K : Act → World → Prop} (h : ∀ a w, Sat E C.n a.tmps → a.defers = D → St C.w0 I H w → K a w) : N C .normal E I H D (Exit.then K Q) := h
theorem n_ret_then {K : Act → World → Prop} (h : N C .ret E I H D Q) : N C .ret E I H D (Exit.then K Q) := h
theorem n_exit_then {K : Act → World → Prop} {id : Nat} (h : N C (.exit id) E I H D Q) : N C (.exit id) E I H D (Exit.then K Q) := h
theorem n_ret_block {id : Nat} (h : N C .ret E I H D Q) : N C .ret E I H D (Exit.inBlock id Q) := h
theorem n_block {id : Nat} (h : N C .normal E I H D Q) : N C .normal E I H D (Exit.inBlock id Q) := h
theorem n_exit_block {id : Nat} (h : N C .normal E I H D Q) : N C (.exit id) E I H D (Exit.inBlock id Q) := fun a w hs hd hw => by
  have := h a w hs hd hw
  simpa [Exit.inBlock] using this
theorem n_exit_other {id id' : Nat} (e : Nat.beq id id' = false) (h : N C (.exit id) E I H D Q) : N C (.exit id) E I H D (Exit.inBlock id' Q) := fun a w hs hd hw => by
  have := h a w hs hd hw
  have e' : ¬ id = id' := fun x => by subst x; rw [show Nat.beq id id = true from Nat.beq_refl id] at e; cases e
  simpa [Exit.inBlock, e'] using this
theorem t_skip (h : N C .normal E I H D Q) : T C .skip E I H D Q := fun a w hs hd hw => wpIn_skip (h a w hs hd hw)
theorem t_exit {id : Nat} (h : N C (.exit id) E I H D Q) : T C (.exit id) E I H D Q := fun a w hs hd hw => wpIn_exit (h a w hs hd hw)
theorem t_ret (h : N C .ret E I H D Q) : T C .ret E I H D Q := fun a w hs hd hw => wpIn_ret (h a w hs hd hw)
theorem t_block {id : Nat} {c : Code} (h : T C c E I H D (Exit.inBlock id Q)) : T C (.block id c) E I H D Q := fun a w hs hd hw => wpIn_block (h a w hs hd hw)
theorem t_cond {c : Operand} {x y : Code} {b : Bool} (hc : ev E c = some (.bool b)) (ht : b = true → T C x E I H D Q) (hf : b = false → T C y E I H D Q) : T C (.cond c x y) E I H D Q :=
  fun a w hs hd hw => wpIn_cond_split (hs.ev hc) (fun e => ht e a w hs hd hw) (fun e => hf e a w hs hd hw)
theorem t_region {id : Nat} {l : List Oper} (h : L C l.toArray l E I H D Q) : T C (.region id l.toArray false) E I H D Q :=
  fun a w hs hd hw => wpIn_region_lit (h a w hs hd hw)
theorem l_nil {ops : Array Oper} (h : N C .normal E I H D Q) : L C ops [] E I H D Q := h

/-- knowing less of the frame -/
theorem t_sub {c : Code} {E' : Env} (hs : Sub E E') (h : T C c E' I H D Q) : T C c E I H D Q := fun a w s hd hw => h a w (s.sub hs) hd hw
theorem n_sub {e : Exit} {E' : Env} (hs : Sub E E') (h : N C e E' I H D Q) : N C e E I H D Q := fun a w s hd hw => h a w (s.sub hs) hd hw
theorem l_sub {ops : Array Oper} {l : List Oper} {E' : Env} (hs : Sub E E') (h : L C ops l E' I H D Q) : L C ops l E I H D Q := fun a w s hd hw => h a w (s.sub hs) hd hw
/-- knowing less of memory, or saying it otherwise -/
theorem t_heap {c : Code} {I' : Look} {H' : List HA} (h : T C c E I' H' D Q) (hi : ∀ w, St C.w0 I H w → St C.w0 I' H' w) : T C c E I H D Q := fun a w s hd hw => h a w s hd (hi w hw)
theorem n_heap {e : Exit} {I' : Look} {H' : List HA} (h : N C e E I' H' D Q) (hi : ∀ w, St C.w0 I H w → St C.w0 I' H' w) : N C e E I H D Q := fun a w s hd hw => h a w s hd (hi w hw)
theorem t_mono {c : Code} {Q' : Exit → Act → World → Prop} (h : T C c E I H D Q') (hq : ∀ e a w, Q' e a w → Q e a w) : T C c E I H D Q := fun a w s hd hw => wpIn_mono (h a w s hd hw) hq

/-- a loop: frames, memory and measure by a ghost -/
def Round {ι : Type} (C : Cx) (Cd : ι → Prop) (μ : ι → Nat) (EI : ι → Env) (II : ι → Look) (HI : ι → List HA) (D : List Deferred) (i : ι) (a : Act) (w : World) : Prop :=
  ∃ j, Cd j ∧ μ j < μ i ∧ Sat (EI j) C.n a.tmps ∧ a.defers = D ∧ St C.w0 (II j) (HI j) w
theorem t_loop {ι : Type} {c : Code} (Cd : ι → Prop) (μ : ι → Nat) (EI : ι → Env) (II : ι → Look) (HI : ι → List HA) (i0 : ι) (hc : Cd i0) (he : Sub E (EI i0))
    (hh : ∀ w, St C.w0 I H w → St C.w0 (II i0) (HI i0) w)
    (round : ∀ i, Cd i → T C c (EI i) (II i) (HI i) D (Exit.then (Round C Cd μ EI II HI D i) Q)) : T C (.loop c) E I H D Q := by
  intro a w hs hd hw b k cs hro hb hr
  have key : ∀ m i a w, μ i = m → Cd i → Sat (EI i) C.n a.tmps → a.defers = D → St C.w0 (II i) (HI i) w →
      ∃ e a' w', Q e a' w' ∧ ArrivesIn (Machine.fenced C.P (WF C.r)) C.P (lone (b.atR a (.code c :: .inLoop c :: k)) cs w) b k cs e a' w' := by
    intro m
    induction m using Nat.strongRecOn with
    | _ m ih =>
      intro i a w hk hci hs hd hw
      obtain ⟨e, a₁, w₁, hq, harr⟩ := round i hci a w hs hd hw b (.inLoop c :: k) cs hro hb hr
      cases e with
      | normal =>
        obtain ⟨j, hcj, hlt, hsj, hdj, hwj⟩ := hq
        obtain ⟨e₂, a₂, w₂, hq₂, harr₂⟩ := ih (μ j) (hk ▸ hlt) j a₁ w₁ rfl hcj hsj hdj hwj
        exact ⟨e₂, a₂, w₂, hq₂, .of_steps (StepsIn.trans harr (.one (fenced_calm hb hr rfl) stepR_inLoop)) harr₂⟩
      | exit id => exact ⟨_, a₁, w₁, hq, .pass (x := .inLoop c) rfl (fun _ _ => .inl (by simp)) harr⟩
      | goto l => exact ⟨_, a₁, w₁, hq, .pass (x := .inLoop c) rfl (fun _ _ => .inl (by simp)) harr⟩
      | ret => exact ⟨_, a₁, w₁, hq, .pass (x := .inLoop c) rfl (fun _ _ => .inl (by simp)) harr⟩
      | panic ch => exact ⟨_, a₁, w₁, hq, .pass (x := .inLoop c) rfl (fun _ _ => .inl (by simp)) harr⟩
      | outgrown => exact ⟨_, a₁, w₁, hq, .pass (x := .inLoop c) rfl (fun _ _ => .inl (by simp)) harr⟩
  obtain ⟨e, a', w', hq, harr⟩ := key _ i0 a w rfl hc (hs.sub he) hd (hh w hw)
  exact ⟨e, a', w', hq, .of_steps (.one (fenced_calm hb hr rfl) stepR_loop) harr⟩
/-- the end of a round -/
theorem n_round {ι : Type} {Cd : ι → Prop} {μ : ι → Nat} {EI : ι → Env} {II : ι → Look} {HI : ι → List HA} {i : ι} (j : ι) (hc : Cd j) (hm : μ j < μ i) (he : Sub E (EI j))
    (hh : ∀ w, St C.w0 I H w → St C.w0 (II j) (HI j) w) : N C .normal E I H D (Exit.then (Round C Cd μ EI II HI D i) Q) :=
  fun _ w hs hd hw => ⟨j, hc, hm, hs.sub he, hd, hh w hw⟩
theorem get_app : ∀ (A B : Env) (k : Nat), get (A ++ B) k = match get A k with | some v => some v | none => get B k
  | [], _, _ => rfl
  | (j, v) :: A, B, k => by
    show (bif Nat.beq j k then some v else get (A ++ B) k) = match (bif Nat.beq j k then some v else get A k) with | some v => some v | none => get B k
    cases Nat.beq j k with
    | true => rfl
    | false => exact get_app A B k
theorem sub_app {A B : Env} (h : Sub E A) (k : Sub E B) : Sub E (A ++ B) := by
  intro j v hj
  rw [get_app] at hj
  split at hj
  · rename_i u hu
    cases hj
    exact h j _ hu
  · exact k j v hj

/-- a loop whose round leaves the slots E0 alone -/
theorem t_loopE {ι : Type} {c : Code} (Cd : ι → Prop) (μ : ι → Nat) (EV : ι → Env) (E0 : Env) (II : ι → Look) (HI : ι → List HA) (i0 : ι) (hc : Cd i0) (he : Sub E (EV i0)) (he0 : Sub E E0)
    (hh : ∀ w, St C.w0 I H w → St C.w0 (II i0) (HI i0) w)
    (round : ∀ i, Cd i → T C c (EV i ++ E0) (II i) (HI i) D (Exit.then (Round C Cd μ (fun i => EV i ++ E0) II HI D i) Q)) : T C (.loop c) E I H D Q :=
  t_loop Cd μ (fun i => EV i ++ E0) II HI i0 hc (sub_app he he0) hh round
theorem n_roundE {ι : Type} {Cd : ι → Prop} {μ : ι → Nat} {EV : ι → Env} {E0 : Env} {II : ι → Look} {HI : ι → List HA} {i : ι} (j : ι) (hc : Cd j) (hm : μ j < μ i) (he : Sub E (EV j)) (he0 : Sub E E0)
    (hh : ∀ w, St C.w0 I H w → St C.w0 (II j) (HI j) w) : N C .normal E I H D (Exit.then (Round C Cd μ (fun i => EV i ++ E0) II HI D i) Q) :=
  n_round j hc hm (sub_app he he0) hh
/-- where ways meet again -/
def Cut {ι : Type} (C : Cx) (Cd : ι → Prop) (EV : ι → Env) (E0 : Env) (II : ι → Look) (HI : ι → List HA) (D : List Deferred) (a : Act) (w : World) : Prop :=
  ∃ j, Cd j ∧ Sat (EV j ++ E0) C.n a.tmps ∧ a.defers = D ∧ St C.w0 (II j) (HI j) w
theorem t_cut {ι : Type} {x y : Code} (Cd : ι → Prop) (EV : ι → Env) (E0 : Env) (II : ι → Look) (HI : ι → List HA)
    (hx : T C x E I H D (Exit.then (Cut C Cd EV E0 II HI D) Q)) (hy : ∀ i, Cd i → T C y (EV i ++ E0) (II i) (HI i) D Q) : T C (.seq x y) E I H D Q := by
  intro a w hs hd hw
  refine wpIn_seq (wpIn_mono (hx a w hs hd hw) ?_)
  intro e a' w' hq
  cases e with
  | normal =>
    obtain ⟨j, h1, h2, h3, h4⟩ := hq
    exact hy j h1 a' w' h2 h3 h4
  | exit id => exact hq
  | goto t => exact hq
  | ret => exact hq
  | panic c => exact hq
  | outgrown => exact hq
theorem t_cutE {ι : Type} {x y : Code} (Cd : ι → Prop) (EV : ι → Env) (E0 : Env) (II : ι → Look) (HI : ι → List HA) (_ : Sub E E0)
    (hx : T C x E I H D (Exit.then (Cut C Cd EV E0 II HI D) Q)) (hy : ∀ i, Cd i → T C y (EV i ++ E0) (II i) (HI i) D Q) : T C (.seq x y) E I H D Q := t_cut Cd EV E0 II HI hx hy
theorem n_cut {ι : Type} {Cd : ι → Prop} {EV : ι → Env} {E0 : Env} {II : ι → Look} {HI : ι → List HA} (j : ι) (hc : Cd j) (he : Sub E (EV j)) (he0 : Sub E E0)
    (hh : ∀ w, St C.w0 I H w → St C.w0 (II j) (HI j) w) : N C .normal E I H D (Exit.then (Cut C Cd EV E0 II HI D) Q) :=
  fun _ w hs hd hw => ⟨j, hc, hs.sub (sub_app he he0), hd, hh w hw⟩
end code
end Go.Tri
