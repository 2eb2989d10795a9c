/-
 A small logic of triples over the model's calculus: a frame is known by a list of slots, memory by a list of owned rows and by what does not turn.
-/
import Derived.WalkKit
import Derived.OwnWalkIn
import Derived.OrdersIn
import Derived.Maps.AppendAt
namespace Go.Tri
open Go.RowKit

def WF (r : Option Nat) : Fence := { fn := fun _ => True, depth := none, alive := false, round := r }
@[simp] theorem WF_round (r : Option Nat) : (WF r).round = r := rfl
@[simp] theorem WF_depth (r : Option Nat) : (WF r).depth = none := rfl
@[simp] theorem WF_fn (r : Option Nat) (f : FuncId) : (WF r).fn f = True := rfl
theorem WF_none : WF none = Fence.wide := rfl

abbrev Look := Nat → Option Obj
def look (w : World) : Look := fun b => w.heap[b]?
def Le (I J : Look) : Prop := ∀ b o, I b = some o → J b = some o
theorem Le.refl (I : Look) : Le I I := fun _ _ h => h
theorem Le.trans {I J K : Look} (h : Le I J) (k : Le J K) : Le I K := fun b o x => k b o (h b o x)

/-! ### owned rows -/
structure HA where
 own : Option Nat
 sat : Look → Prop
 loc : ∀ h h' : Look, (∀ b, own = some b → h' b = h b) → sat h → sat h'
 dom : ∀ h b, own = some b → sat h → ∃ o, h b = some o

def obj (b : Nat) (o : Obj) : HA :=
 ⟨some b, fun h => h b = some o, fun _ _ e s => (e b rfl).trans s, fun _ _ e s => by cases e; exact ⟨_, s⟩⟩
/-- block b is just these cells of element type T -/
def row (b : Nat) (T : TypeId) (cs : List Value) : HA := obj b (.cells cs.toArray T (0, 0))

def vecSat (v : Value) (T : TypeId) (sz n : Nat) (xs : List Value) (h : Look) : Prop :=
 xs.length = n * sz ∧ ((v = .slice none 0 0 ∧ n = 0) ∨
  ∃ g cap cur, v = .slice (some ⟨g, 0, none⟩) n cap ∧ h g = some (.cells cur T (0, 0)) ∧ n ≤ cap ∧ cap ≤ maxLen ∧ cur.size = cap * sz ∧ cur.toList.take (n * sz) = xs)
/-- a slice of the call's own: nil, or the head of a row that nobody else holds -/
def vec (v : Value) (T : TypeId) (sz n : Nat) (xs : List Value) : HA :=
 ⟨v.ownBlock, vecSat v T sz n xs, fun h h' e s => by
  obtain ⟨hl, hs⟩ := s
  refine ⟨hl, ?_⟩
  rcases hs with hs | ⟨g, cap, cur, rfl, hg, r⟩
  ·exact .inl hs
  ·exact .inr ⟨g, cap, cur, rfl, (e g rfl).trans hg, r⟩, fun h b e s => by
  obtain ⟨_, hs⟩ := s
  rcases hs with ⟨rfl, _⟩ | ⟨g, cap, cur, rfl, hg, _⟩
  ·cases e
  ·cases e; exact ⟨_, hg⟩⟩

def owns (H : List HA) : List Nat := H.filterMap HA.own

structure St (w0 : World) (I : Look) (H : List HA) (w : World) : Prop where
 os : w.os = w0.os
 tape : w.tape = w0.tape
 output : w.output = w0.output
 size : w0.heap.size ≤ w.heap.size
 imm : ∀ b o, I b = some o → w.heap[b]? = some o
 sat : ∀ x ∈ H, x.sat (look w)
 sep : (owns H).Nodup
 dis : ∀ x ∈ H, ∀ b, x.own = some b → I b = none

theorem lt_of_some {w : World} {b : Nat} {o : Obj} (h : w.heap[b]? = some o) : b < w.heap.size := (Array.getElem?_eq_some_iff.1 h).1

theorem St.own_lt {w0 w : World} {I : Look} {H : List HA} (h : St w0 I H w) {x : HA} (hx : x ∈ H) {b : Nat} (hb : x.own = some b) : b < w.heap.size := by
 obtain ⟨o, ho⟩ := x.dom _ b hb (h.sat x hx)
 exact lt_of_some ho

theorem St.start (w : World) (I : Look) (hI : Le I (look w)) : St w I [] w :=
 ⟨rfl, rfl, rfl, Nat.le_refl _, fun b o h => hI b o h, (fun _ h => by cases h), (by simp [owns]), (fun _ h => by cases h)⟩

theorem St.garb {w0 w w' : World} {I : Look} {H : List HA} (h : St w0 I H w) (g : Below w.heap.size w w') : St w0 I H w' where
 os := g.os.trans h.os
 tape := g.tape.trans h.tape
 output := g.output.trans h.output
 size := Nat.le_trans h.size g.size
 imm := fun b o hb => by have := h.imm b o hb; rw [g.block b (lt_of_some this)]; exact this
 sat := fun x hx => x.loc _ _ (fun b hb => g.block b (h.own_lt hx hb)) (h.sat x hx)
 sep := h.sep
 dis := h.dis

theorem St.below {w0 w : World} {H : List HA} (h : St w0 (look w0) H w) : Below w0.heap.size w0 w :=
 ⟨h.os, h.tape, h.output, h.size, fun k hk => by
  have hs : w0.heap[k]? = some w0.heap[k] := Array.getElem?_eq_getElem hk
  rw [h.imm k _ hs, hs]⟩

theorem St.le {w0 w : World} {I : Look} {H : List HA} (h : St w0 I H w) : Le I (look w) := h.imm

theorem owns_perm {H H' : List HA} (p : H.Perm H') : (owns H).Perm (owns H') := p.filterMap _

theorem St.perm {w0 w : World} {I : Look} {H H' : List HA} (h : St w0 I H w) (p : H.Perm H') : St w0 I H' w :=
 { h with
  sat := fun x hx => h.sat x (p.mem_iff.2 hx)
  sep := (owns_perm p).nodup_iff.1 h.sep
  dis := fun x hx => h.dis x (p.mem_iff.2 hx) }

theorem St.tail {w0 w : World} {I : Look} {x : HA} {H : List HA} (h : St w0 I (x :: H) w) : St w0 I H w :=
 { h with
  sat := fun y hy => h.sat y (List.mem_cons_of_mem _ hy)
  sep := by
   have := h.sep
   unfold owns at this ⊢
   rw [List.filterMap_cons] at this
   split at this
   ·exact this
   ·exact (List.nodup_cons.1 this).2
  dis := fun y hy => h.dis y (List.mem_cons_of_mem _ hy) }

/-- what is not said of memory may be taken back -/
theorem St.less {w0 w : World} {I J : Look} {H : List HA} (h : St w0 J H w) (hle : Le I J) : St w0 I H w :=
 { h with
  imm := fun b o hb => h.imm b o (hle b o hb)
  dis := fun x hx b hb => by
   have := h.dis x hx b hb
   cases hI : I b with
   | none => rfl
   | some o => rw [hle b o hI] at this; cases this }

theorem St.rebase {w0 w1 w : World} {I J : Look} {H H' : List HA} (h : St w0 I H w1) (k : St w1 J H' w) : St w0 J H' w :=
 { k with os := k.os.trans h.os, tape := k.tape.trans h.tape, output := k.output.trans h.output, size := Nat.le_trans h.size k.size }

/-- a new block -/
theorem St.new {w0 w : World} {I : Look} {H : List HA} (h : St w0 I H w) (o : Obj) : St w0 I (obj w.heap.size o :: H) (w.alloc o) := by
 have g : Below w.heap.size w (w.alloc o) := (Below.refl _ w).alloc (Nat.le_refl _) o
 have h' := h.garb g
 refine { h' with sat := ?_, sep := ?_, dis := ?_ }
 ·intro x hx
  rcases List.mem_cons.1 hx with rfl | hx
  ·exact heap_alloc_new w o
  ·exact h'.sat x hx
 ·unfold owns
  rw [List.filterMap_cons]
  show (w.heap.size :: owns H).Nodup
  refine List.nodup_cons.2 ⟨fun hm => ?_, h.sep⟩
  obtain ⟨x, hx, he⟩ := List.mem_filterMap.1 hm
  have := h.own_lt hx he
  omega
 ·intro x hx b hb
  rcases List.mem_cons.1 hx with rfl | hx
  ·cases hb
   cases hI : I w.heap.size with
   | none => rfl
   | some o' => have := lt_of_some (h.imm _ _ hI); omega
  ·exact h.dis x hx b hb

/-- the head turns: a store, an append -/
theorem St.turn {w0 w w' : World} {I : Look} {x y : HA} {F : List HA} (h : St w0 I (x :: F) w)
  (os : w'.os = w.os) (tape : w'.tape = w.tape) (output : w'.output = w.output) (size : w.heap.size ≤ w'.heap.size)
  (same : ∀ k, k < w.heap.size → some k ≠ x.own → w'.heap[k]? = w.heap[k]?)
  (hy : y.sat (look w')) (hown : y.own = x.own ∨ ∃ b, y.own = some b ∧ w.heap.size ≤ b) : St w0 I (y :: F) w' := by
 have hx : ∀ z ∈ F, ∀ b, z.own = some b → some b ≠ x.own := by
  intro z hz b hb he
  have hs := h.sep
  unfold owns at hs
  rw [List.filterMap_cons, ← he] at hs
  exact (List.nodup_cons.1 hs).1 (List.mem_filterMap.2 ⟨z, hz, hb⟩)
 refine ⟨os.trans h.os, tape.trans h.tape, output.trans h.output, Nat.le_trans h.size size, ?_, ?_, ?_, ?_⟩
 ·intro b o hb
  have hw := h.imm b o hb
  rw [same b (lt_of_some hw) (fun e => by have := h.dis x (List.mem_cons_self) b e.symm; rw [this] at hb; cases hb)]
  exact hw
 ·intro z hz
  rcases List.mem_cons.1 hz with rfl | hz
  ·exact hy
  ·exact z.loc _ _ (fun b hb => same b (h.own_lt (List.mem_cons_of_mem _ hz) hb) (hx z hz b hb)) (h.sat z (List.mem_cons_of_mem _ hz))
 ·have ht := h.tail.sep
  unfold owns at ht ⊢
  rw [List.filterMap_cons]
  cases hyo : y.own with
  | none => exact ht
  | some b =>
   refine List.nodup_cons.2 ⟨fun hm => ?_, ht⟩
   obtain ⟨z, hz, he⟩ := List.mem_filterMap.1 hm
   rcases hown with e | ⟨b', e, hle⟩
   ·exact hx z hz b he (by rw [← hyo]; exact e)
   ·rw [hyo] at e; cases e
    have := h.own_lt (List.mem_cons_of_mem _ hz) he
    omega
 ·intro z hz b hb
  rcases List.mem_cons.1 hz with rfl | hz
  ·rcases hown with e | ⟨b', e, hle⟩
   ·exact h.dis x (List.mem_cons_self) b (by rw [← e]; exact hb)
   ·rw [hb] at e; cases e
    cases hI : I b with
    | none => rfl
    | some o' => have := lt_of_some (h.imm _ _ hI); omega
  ·exact h.dis z (List.mem_cons_of_mem _ hz) b hb

/-! ### frames -/
def get : List (Nat × Value) → Nat → Option Value
 | [], _ => none
 | (j, v) :: r, k => bif Nat.beq j k then some v else get r k
def ev (E : List (Nat × Value)) : Operand → Option Value
 | .tmp t => get E t
 | .const v => some v
 | .func f => some (.func (.func f) #[] #[])
 | .global g => some (.pointer (some ⟨g, 0, none⟩))
def evs (E : List (Nat × Value)) : List Operand → Option (List Value)
 | [] => some []
 | x :: r => match ev E x, evs E r with
  | some v, some vs => some (v :: vs)
  | _, _ => none

def Sat (E : List (Nat × Value)) (n : Nat) (τ : Array Value) : Prop := τ.size = n ∧ ∀ k v, get E k = some v → τ[k]? = some v

theorem Sat.ev {E : List (Nat × Value)} {n : Nat} {a : Act} (h : Sat E n a.tmps) {x : Operand} {v : Value} (hx : ev E x = some v) : a.eval x = v := by
 cases x with
 | tmp t =>
  have := h.2 t v hx
  simp [Act.eval, this]
 | const u => cases hx; rfl
 | global g => cases hx; rfl
 | func f => cases hx; rfl

theorem Sat.evs {E : List (Nat × Value)} {n : Nat} {a : Act} (h : Sat E n a.tmps) : ∀ {xs : List Operand} {vs : List Value}, evs E xs = some vs → xs.map a.eval = vs
 | [], _, hx => by cases hx; rfl
 | x :: r, vs, hx => by
  unfold Tri.evs at hx
  split at hx
  ·rename_i v vs' h1 h2
   cases hx
   rw [List.map_cons, h.ev h1, h.evs h2]
  ·cases hx

theorem Sat.put {E : List (Nat × Value)} {n d : Nat} {a : Act} (h : Sat E n a.tmps) (hd : d < n) (v : Value) : Sat ((d, v) :: E) n (a.put (some d) v).tmps := by
 refine ⟨by simpa [Act.put] using h.1, fun k u hk => ?_⟩
 unfold get at hk
 by_cases e : d = k
 ·subst e
  rw [show Nat.beq d d = true from Nat.beq_refl d] at hk
  cases hk
  simp [Act.put, h.1, hd]
 ·rw [show Nat.beq d k = false from by cases hb : Nat.beq d k with | false => rfl | true => exact absurd (Nat.eq_of_beq_eq_true hb) e] at hk
  have := h.2 k u hk
  simpa [Act.put, Array.getElem?_setIfInBounds_ne e] using this

def Sub (E E' : List (Nat × Value)) : Prop := ∀ k v, get E' k = some v → get E k = some v
theorem Sat.sub {E E' : List (Nat × Value)} {n : Nat} {τ : Array Value} (h : Sat E n τ) (hs : Sub E E') : Sat E' n τ := ⟨h.1, fun k v hk => h.2 k v (hs k v hk)⟩
theorem sub_nil {E : List (Nat × Value)} : Sub E [] := fun _ _ h => by cases h
theorem sub_cons {E E' : List (Nat × Value)} {k : Nat} {v : Value} (h : get E k = some v) (hs : Sub E E') : Sub E ((k, v) :: E') := by
 intro j u hj
 unfold get at hj
 by_cases e : k = j
 ·subst e
  rw [show Nat.beq k k = true from Nat.beq_refl k] at hj
  cases hj
  exact h
 ·rw [show Nat.beq k j = false from by cases hb : Nat.beq k j with | false => rfl | true => exact absurd (Nat.eq_of_beq_eq_true hb) e] at hj
  exact hs j u hj
theorem sub_cons' {E E' : List (Nat × Value)} {k : Nat} {v v' : Value} (h : get E k = some v') (e : v' = v) (hs : Sub E E') : Sub E ((k, v) :: E') := sub_cons (e ▸ h) hs
theorem Sub.refl (E : List (Nat × Value)) : Sub E E := fun _ _ h => h

/-! ### judgements -/
structure Cx where
 P : Program
 r : Option Nat
 n : Nat
 w0 : World

abbrev Env := List (Nat × Value)

def T (C : Cx) (c : Code) (E : Env) (I : Look) (H : List HA) (D : List Deferred) (Q : Exit → Act → World → Prop) : Prop :=
 ∀ a w, Sat E C.n a.tmps → a.defers = D → St C.w0 I H w → c.wpIn (WF C.r) 0 C.P Q a w
def L (C : Cx) (ops : Array Oper) (l : List Oper) (E : Env) (I : Look) (H : List HA) (D : List Deferred) (Q : Exit → Act → World → Prop) : Prop :=
 ∀ a w, Sat E C.n a.tmps → a.defers = D → St C.w0 I H w → wpListIn (WF C.r) 0 C.P ops Q l a w
def N (C : Cx) (e : Exit) (E : Env) (I : Look) (H : List HA) (D : List Deferred) (Q : Exit → Act → World → Prop) : Prop :=
 ∀ a w, Sat E C.n a.tmps → a.defers = D → St C.w0 I H w → Q e a w

section code
variable {C : Cx} {E : Env} {I : Look} {H : List HA} {D : List Deferred} {Q : Exit → Act → World → Prop}

theorem t_seq {x y : Code} (h : T C x E I H D (Exit.then (y.wpIn (WF C.r) 0 C.P Q) Q)) : T C (.seq x y) E I H D Q :=
 fun a w hs hd hw => wpIn_seq (h a w hs hd hw)
theorem n_then {y : Code} (h : T C y E I H D Q) : N C .normal E I H D (Exit.then (y.wpIn (WF C.r) 0 C.P Q) Q) := h
theorem n_ret_then {K : Act → World → Prop} (h : N C .ret E I H D Q) : N C .ret E I H D (Exit.then K Q) := h
theorem n_exit_then {K : Act → World → Prop} {id : Nat} (h : N C (.exit id) E I H D Q) : N C (.exit id) E I H D (Exit.then K Q) := h
theorem n_ret_block {id : Nat} (h : N C .ret E I H D Q) : N C .ret E I H D (Exit.inBlock id Q) := h
theorem n_block {id : Nat} (h : N C .normal E I H D Q) : N C .normal E I H D (Exit.inBlock id Q) := h
theorem n_exit_block {id : Nat} (h : N C .normal E I H D Q) : N C (.exit id) E I H D (Exit.inBlock id Q) := fun a w hs hd hw => by
 have := h a w hs hd hw
 simpa [Exit.inBlock] using this
theorem n_exit_other {id id' : Nat} (e : Nat.beq id id' = false) (h : N C (.exit id) E I H D Q) : N C (.exit id) E I H D (Exit.inBlock id' Q) := fun a w hs hd hw => by
 have := h a w hs hd hw
 have e' : ¬ id = id' := fun x => by subst x; rw [show Nat.beq id id = true from Nat.beq_refl id] at e; cases e
 simpa [Exit.inBlock, e'] using this
theorem t_skip (h : N C .normal E I H D Q) : T C .skip E I H D Q := fun a w hs hd hw => wpIn_skip (h a w hs hd hw)
theorem t_exit {id : Nat} (h : N C (.exit id) E I H D Q) : T C (.exit id) E I H D Q := fun a w hs hd hw => wpIn_exit (h a w hs hd hw)
theorem t_ret (h : N C .ret E I H D Q) : T C .ret E I H D Q := fun a w hs hd hw => wpIn_ret (h a w hs hd hw)
theorem t_block {id : Nat} {c : Code} (h : T C c E I H D (Exit.inBlock id Q)) : T C (.block id c) E I H D Q := fun a w hs hd hw => wpIn_block (h a w hs hd hw)
theorem t_cond {c : Operand} {x y : Code} {b : Bool} (hc : ev E c = some (.bool b)) (ht : b = true → T C x E I H D Q) (hf : b = false → T C y E I H D Q) : T C (.cond c x y) E I H D Q :=
 fun a w hs hd hw => wpIn_cond_split (hs.ev hc) (fun e => ht e a w hs hd hw) (fun e => hf e a w hs hd hw)
theorem t_region {id : Nat} {l : List Oper} (h : L C l.toArray l E I H D Q) : T C (.region id l.toArray false) E I H D Q :=
 fun a w hs hd hw => wpIn_region_lit (h a w hs hd hw)
theorem l_nil {ops : Array Oper} (h : N C .normal E I H D Q) : L C ops [] E I H D Q := h

theorem l_sub {ops : Array Oper} {l : List Oper} {E' : Env} (hs : Sub E E') (h : L C ops l E' I H D Q) : L C ops l E I H D Q := fun a w s hd hw => h a w (s.sub hs) hd hw
/-- knowing less of memory, or saying it otherwise -/
theorem t_heap {c : Code} {I' : Look} {H' : List HA} (h : T C c E I' H' D Q) (hi : ∀ w, St C.w0 I H w → St C.w0 I' H' w) : T C c E I H D Q := fun a w s hd hw => h a w s hd (hi w hw)
theorem t_mono {c : Code} {Q' : Exit → Act → World → Prop} (h : T C c E I H D Q') (hq : ∀ e a w, Q' e a w → Q e a w) : T C c E I H D Q := fun a w s hd hw => wpIn_mono (h a w s hd hw) hq

/-- a loop: frames, memory and measure by a ghost -/
def Round {ι : Type} (C : Cx) (Cd : ι → Prop) (μ : ι → Nat) (EI : ι → Env) (II : ι → Look) (HI : ι → List HA) (D : List Deferred) (i : ι) (a : Act) (w : World) : Prop :=
 ∃ j, Cd j ∧ μ j < μ i ∧ Sat (EI j) C.n a.tmps ∧ a.defers = D ∧ St C.w0 (II j) (HI j) w
theorem t_loop {ι : Type} {c : Code} (Cd : ι → Prop) (μ : ι → Nat) (EI : ι → Env) (II : ι → Look) (HI : ι → List HA) (i0 : ι) (hc : Cd i0) (he : Sub E (EI i0))
  (hh : ∀ w, St C.w0 I H w → St C.w0 (II i0) (HI i0) w)
  (round : ∀ i, Cd i → T C c (EI i) (II i) (HI i) D (Exit.then (Round C Cd μ EI II HI D i) Q)) : T C (.loop c) E I H D Q := by
 intro a w hs hd hw b k cs hro hb hr
 have key : ∀ m i a w, μ i = m → Cd i → Sat (EI i) C.n a.tmps → a.defers = D → St C.w0 (II i) (HI i) w →
   ∃ e a' w', Q e a' w' ∧ ArrivesIn (Machine.fenced C.P (WF C.r)) C.P (lone (b.atR a (.code c :: .inLoop c :: k)) cs w) b k cs e a' w' := by
  intro m
  induction m using Nat.strongRecOn with
  | _ m ih =>
   intro i a w hk hci hs hd hw
   obtain ⟨e, a₁, w₁, hq, harr⟩ := round i hci a w hs hd hw b (.inLoop c :: k) cs hro hb hr
   cases e with
   | normal =>
    obtain ⟨j, hcj, hlt, hsj, hdj, hwj⟩ := hq
    obtain ⟨e₂, a₂, w₂, hq₂, harr₂⟩ := ih (μ j) (hk ▸ hlt) j a₁ w₁ rfl hcj hsj hdj hwj
    exact ⟨e₂, a₂, w₂, hq₂, .of_steps (StepsIn.trans harr (.one (fenced_calm hb hr rfl) stepR_inLoop)) harr₂⟩
   | exit id => exact ⟨_, a₁, w₁, hq, .pass (x := .inLoop c) rfl (fun _ _ => .inl (by simp)) harr⟩
   | goto l => exact ⟨_, a₁, w₁, hq, .pass (x := .inLoop c) rfl (fun _ _ => .inl (by simp)) harr⟩
   | ret => exact ⟨_, a₁, w₁, hq, .pass (x := .inLoop c) rfl (fun _ _ => .inl (by simp)) harr⟩
   | panic ch => exact ⟨_, a₁, w₁, hq, .pass (x := .inLoop c) rfl (fun _ _ => .inl (by simp)) harr⟩
   | outgrown => exact ⟨_, a₁, w₁, hq, .pass (x := .inLoop c) rfl (fun _ _ => .inl (by simp)) harr⟩
 obtain ⟨e, a', w', hq, harr⟩ := key _ i0 a w rfl hc (hs.sub he) hd (hh w hw)
 exact ⟨e, a', w', hq, .of_steps (.one (fenced_calm hb hr rfl) stepR_loop) harr⟩
/-- the end of a round -/
theorem n_round {ι : Type} {Cd : ι → Prop} {μ : ι → Nat} {EI : ι → Env} {II : ι → Look} {HI : ι → List HA} {i : ι} (j : ι) (hc : Cd j) (hm : μ j < μ i) (he : Sub E (EI j))
  (hh : ∀ w, St C.w0 I H w → St C.w0 (II j) (HI j) w) : N C .normal E I H D (Exit.then (Round C Cd μ EI II HI D i) Q) :=
 fun _ w hs hd hw => ⟨j, hc, hm, hs.sub he, hd, hh w hw⟩
theorem get_app : ∀ (A B : Env) (k : Nat), get (A ++ B) k = match get A k with | some v => some v | none => get B k
 | [], _, _ => rfl
 | (j, v) :: A, B, k => by
  show (bif Nat.beq j k then some v else get (A ++ B) k) = match (bif Nat.beq j k then some v else get A k) with | some v => some v | none => get B k
  cases Nat.beq j k with
  | true => rfl
  | false => exact get_app A B k
theorem sub_app {A B : Env} (h : Sub E A) (k : Sub E B) : Sub E (A ++ B) := by
 intro j v hj
 rw [get_app] at hj
 split at hj
 ·rename_i u hu
  cases hj
  exact h j _ hu
 ·exact k j v hj

/-- a loop whose round leaves the slots E0 alone -/
theorem t_loopE {ι : Type} {c : Code} (Cd : ι → Prop) (μ : ι → Nat) (EV : ι → Env) (E0 : Env) (II : ι → Look) (HI : ι → List HA) (i0 : ι) (hc : Cd i0) (he : Sub E (EV i0)) (he0 : Sub E E0)
  (hh : ∀ w, St C.w0 I H w → St C.w0 (II i0) (HI i0) w)
  (round : ∀ i, Cd i → T C c (EV i ++ E0) (II i) (HI i) D (Exit.then (Round C Cd μ (fun i => EV i ++ E0) II HI D i) Q)) : T C (.loop c) E I H D Q :=
 t_loop Cd μ (fun i => EV i ++ E0) II HI i0 hc (sub_app he he0) hh round
theorem n_roundE {ι : Type} {Cd : ι → Prop} {μ : ι → Nat} {EV : ι → Env} {E0 : Env} {II : ι → Look} {HI : ι → List HA} {i : ι} (j : ι) (hc : Cd j) (hm : μ j < μ i) (he : Sub E (EV j)) (he0 : Sub E E0)
  (hh : ∀ w, St C.w0 I H w → St C.w0 (II j) (HI j) w) : N C .normal E I H D (Exit.then (Round C Cd μ (fun i => EV i ++ E0) II HI D i) Q) :=
 n_round j hc hm (sub_app he he0) hh
/-- where ways meet again -/
def Cut {ι : Type} (C : Cx) (Cd : ι → Prop) (EV : ι → Env) (E0 : Env) (II : ι → Look) (HI : ι → List HA) (D : List Deferred) (a : Act) (w : World) : Prop :=
 ∃ j, Cd j ∧ Sat (EV j ++ E0) C.n a.tmps ∧ a.defers = D ∧ St C.w0 (II j) (HI j) w
theorem t_cut {ι : Type} {x y : Code} (Cd : ι → Prop) (EV : ι → Env) (E0 : Env) (II : ι → Look) (HI : ι → List HA)
  (hx : T C x E I H D (Exit.then (Cut C Cd EV E0 II HI D) Q)) (hy : ∀ i, Cd i → T C y (EV i ++ E0) (II i) (HI i) D Q) : T C (.seq x y) E I H D Q := by
 intro a w hs hd hw
 refine wpIn_seq (wpIn_mono (hx a w hs hd hw) ?_)
 intro e a' w' hq
 cases e with
 | normal =>
  obtain ⟨j, h1, h2, h3, h4⟩ := hq
  exact hy j h1 a' w' h2 h3 h4
 | exit id => exact hq
 | goto t => exact hq
 | ret => exact hq
 | panic c => exact hq
 | outgrown => exact hq
theorem t_cutE {ι : Type} {x y : Code} (Cd : ι → Prop) (EV : ι → Env) (E0 : Env) (II : ι → Look) (HI : ι → List HA) (_ : Sub E E0)
  (hx : T C x E I H D (Exit.then (Cut C Cd EV E0 II HI D) Q)) (hy : ∀ i, Cd i → T C y (EV i ++ E0) (II i) (HI i) D Q) : T C (.seq x y) E I H D Q := t_cut Cd EV E0 II HI hx hy
theorem n_cut {ι : Type} {Cd : ι → Prop} {EV : ι → Env} {E0 : Env} {II : ι → Look} {HI : ι → List HA} (j : ι) (hc : Cd j) (he : Sub E (EV j)) (he0 : Sub E E0)
  (hh : ∀ w, St C.w0 I H w → St C.w0 (II j) (HI j) w) : N C .normal E I H D (Exit.then (Cut C Cd EV E0 II HI D) Q) :=
 fun _ w hs hd hw => ⟨j, hc, hs.sub (sub_app he he0), hd, hh w hw⟩
end code
end Go.Tri

/-
 The operations, one rule each.
-/
namespace Go.Tri
open Go.RowKit

def str (l : List UInt8) : Value := .string ⟨l.toArray⟩
def u8 (c : UInt8) : Value := .int .u8 (c.toNat : Int)
/-- an element, by its place -/
def nth {α : Type} (l : List α) (i : Nat) (d : α) : α := l.getD i d
theorem nth_eq {α : Type} {l : List α} {i : Nat} {d : α} (h : i < l.length) : nth l i d = l[i] := by simp [nth, List.getD, h]
theorem get_nth {α : Type} {l : List α} {i : Nat} {d : α} (h : i < l.length) : l[i]? = some (nth l i d) := by rw [nth_eq h, List.getElem?_eq_getElem h]
theorem drop_nth {α : Type} {l : List α} {i : Nat} (d : α) (h : i < l.length) : l.drop i = nth l i d :: l.drop (i + 1) := by rw [nth_eq h]; exact List.drop_eq_getElem_cons h
theorem take_nth {α : Type} {l : List α} {i : Nat} (d : α) (h : i < l.length) : l.take (i + 1) = l.take i ++ [nth l i d] := by rw [nth_eq h]; exact List.take_succ_eq_append_getElem h
theorem nth_mem {α : Type} {l : List α} {i : Nat} {d : α} (h : i < l.length) : nth l i d ∈ l := by rw [nth_eq h]; exact List.getElem_mem h
def plainOp : Op → Bool
 | .defer _ => false
 | _ => true

section ops
variable {C : Cx} {E : Env} {I : Look} {H : List HA} {D : List Deferred} {Q : Exit → Act → World → Prop} {o : Oper}

/-- carried out in the world w, operation 'o' yields 'v' and leaves what there is -/
def qAt (C : Cx) (o : Oper) (ρ : Operand → Value) (w : World) (v : Value) : Prop :=
 plainOp o.op = true ∧ match (execOp ρ o).run C.P w with
  | .ok (.value u) w' => w' = w ∧ u = v
  | .ok (.enter f args) w' => w' = w ∧ Calls C.P f args w (fun e w'' => e = .returned v ∧ Below w.heap.size w w'')
  | _ => False
def Quiet (C : Cx) (E : Env) (I : Look) (H : List HA) (o : Oper) (v : Value) : Prop :=
 ∀ (a : Act) (w : World), Sat E C.n a.tmps → St C.w0 I H w → qAt C o a.eval w v

theorem wpIn_of_run {a : Act} {w w' : World} {K : Act → World → Prop} {v : Value} (hd : plainOp o.op = true)
  (h : (execOp a.eval o).run C.P w = .ok (.value v) w') (hk : K (a.put o.dst v) w') : o.wpIn (WF C.r) 0 C.P a w K Q := by
 refine ⟨fun f _ => trivial, ?_⟩
 rw [Oper.semAt_eq _ _ _ (fun c hc => by rw [hc] at hd; cases hd), h]
 exact hk
theorem wpIn_of_skip {a : Act} {w w' : World} {K : Act → World → Prop} (hd : plainOp o.op = true)
  (h : (execOp a.eval o).run C.P w = .ok .skip w') (hk : K (a.put o.dst undef) w') : o.wpIn (WF C.r) 0 C.P a w K Q := by
 refine ⟨fun f _ => trivial, ?_⟩
 rw [Oper.semAt_eq _ _ _ (fun c hc => by rw [hc] at hd; cases hd), h]
 exact hk
/-- a callee's contract, met at an operation -/
theorem wpIn_of_call {a : Act} {w : World} {K : Act → World → Prop} {f : FuncId} {args : Array Value} {R : Value → World → Prop} (hd : plainOp o.op = true)
  (h : (execOp a.eval o).run C.P w = .ok (.enter f args) w) (hc : Calls C.P f args w (fun e w'' => ∃ v, e = .returned v ∧ R v w'')) (hk : ∀ v w'', R v w'' → K (a.put o.dst v) w'') : o.wpIn (WF C.r) 0 C.P a w K Q := by
 refine ⟨fun f _ => trivial, ?_⟩
 rw [Oper.semAt_eq _ _ _ (fun c hc => by rw [hc] at hd; cases hd), h]
 refine ⟨fun h => by simp at h, ?_⟩
 have hcc : CallsIn Fence.wide 0 C.P f args w (fun e w'' => ∃ v, e = .returned v ∧ R v w'') := callsIn_wide.2 hc
 have hcr : CallsIn (WF C.r) 0 C.P f args w (fun e w'' => ∃ v, e = .returned v ∧ R v w'') := hcc
 exact hcr.mono fun e w'' ⟨v, he, hr⟩ => by subst he; exact hk v w'' hr
theorem qAt.wpIn {a : Act} {w : World} {K : Act → World → Prop} {v : Value} (h : qAt C o a.eval w v) (hk : ∀ w', Below w.heap.size w w' → K (a.put o.dst v) w') : o.wpIn (WF C.r) 0 C.P a w K Q := by
 obtain ⟨hp, h⟩ := h
 split at h
 ·rename_i u w' hr
  obtain ⟨rfl, rfl⟩ := h
  exact wpIn_of_run hp hr (hk _ (Below.refl _ _))
 ·rename_i f args w' hr
  obtain ⟨rfl, hc⟩ := h
  exact wpIn_of_call (R := fun u w'' => u = v ∧ Below w'.heap.size w' w'') hp hr (hc.mono fun e w'' ⟨he, hb⟩ => ⟨v, he, rfl, hb⟩) fun u w'' ⟨hu, hb⟩ => by subst hu; exact hk w'' hb
 ·exact h.elim

theorem quiet_run {v : Value} (hd : plainOp o.op = true)
  (h : ∀ (a : Act) (w : World), Sat E C.n a.tmps → St C.w0 I H w → (execOp a.eval o).run C.P w = .ok (.value v) w) : Quiet C E I H o v :=
 fun a w hs hw => ⟨hd, by rw [h a w hs hw]; exact ⟨rfl, rfl⟩⟩

theorem l_q {ops : Array Oper} {rest : List Oper} {d : Nat} {v : Value} (hg : o.guard = none) (hd : o.dst = some d) (hn : Nat.blt d C.n = true)
  (hq : Quiet C E I H o v) (k : L C ops rest ((d, v) :: E) I H D Q) : L C ops (o :: rest) E I H D Q := by
 intro a w hs hda hw
 refine wpListIn_plain hg fun K hK => (hq a w hs hw).wpIn fun w' g => hK _ _ ?_
 rw [hd]
 exact k _ _ (hs.put (by simpa using hn) v) (by simpa [Act.put] using hda) (hw.garb g)

/-! pure operations -/
theorem q_move {x : Operand} {v : Value} (ho : o.op = .move x) (hx : ev E x = some v) : Quiet C E I H o v :=
 quiet_run (by rw [ho]; rfl) fun a w hs _ => by simp [execOp, ho, hs.ev hx]
theorem q_assign {x : Operand} {v : Value} (ho : o.op = .assign x) (hx : ev E x = some v) : Quiet C E I H o v :=
 quiet_run (by rw [ho]; rfl) fun a w hs _ => by simp [execOp, ho, hs.ev hx]

theorem quiet_bin {op : BinOp} {x y : Operand} {t t' : TypeId} {u v r : Value} (ho : o.op = .binOp op t x y t') (hx : ev E x = some u) (hy : ev E y = some v)
  (hr : ∀ w, (do eqGuard op t x y u v; binOp op t u v : Sem Value).run C.P w = .ok r w) : Quiet C E I H o r :=
 quiet_run (by rw [ho]; rfl) fun a w hs _ => by
  simp only [execOp, ho, hs.ev hx, hs.ev hy]
  rw [Sem.run_bind, hr]
  rfl

section ints
variable {x y : Operand} {t t' : TypeId} {k : IntKind} {m n : Int}
theorem q_add (ho : o.op = .binOp .add t x y t') (hx : ev E x = some (.int k m)) (hy : ev E y = some (.int k n)) : Quiet C E I H o (.int k (k.wrap (m + n))) :=
 quiet_bin ho hx hy fun w => by simp [go_sem]
theorem q_sub (ho : o.op = .binOp .sub t x y t') (hx : ev E x = some (.int k m)) (hy : ev E y = some (.int k n)) : Quiet C E I H o (.int k (k.wrap (m - n))) :=
 quiet_bin ho hx hy fun w => by simp [go_sem]
theorem q_mul (ho : o.op = .binOp .mul t x y t') (hx : ev E x = some (.int k m)) (hy : ev E y = some (.int k n)) : Quiet C E I H o (.int k (k.wrap (m * n))) :=
 quiet_bin ho hx hy fun w => by simp [go_sem]
theorem q_add64 (ho : o.op = .binOp .add t x y t') (hx : ev E x = some (.int .i64 m)) (hy : ev E y = some (.int .i64 n)) (h : -9223372036854775808 ≤ m + n ∧ m + n ≤ 9223372036854775807) : Quiet C E I H o (.int .i64 (m + n)) := by
 have := q_add (C := C) (I := I) (H := H) ho hx hy
 rwa [IntWalk.i64_in _ h] at this
theorem q_sub64 (ho : o.op = .binOp .sub t x y t') (hx : ev E x = some (.int .i64 m)) (hy : ev E y = some (.int .i64 n)) (h : -9223372036854775808 ≤ m - n ∧ m - n ≤ 9223372036854775807) : Quiet C E I H o (.int .i64 (m - n)) := by
 have := q_sub (C := C) (I := I) (H := H) ho hx hy
 rwa [IntWalk.i64_in _ h] at this
theorem q_lss (ho : o.op = .binOp .lss t x y t') (hx : ev E x = some (.int k m)) (hy : ev E y = some (.int k n)) : Quiet C E I H o (.bool (decide (m < n))) :=
 quiet_bin ho hx hy fun w => by simp [go_sem]
theorem q_leq (ho : o.op = .binOp .leq t x y t') (hx : ev E x = some (.int k m)) (hy : ev E y = some (.int k n)) : Quiet C E I H o (.bool (decide (m ≤ n))) :=
 quiet_bin ho hx hy fun w => by simp [go_sem]
theorem q_gtr (ho : o.op = .binOp .gtr t x y t') (hx : ev E x = some (.int k m)) (hy : ev E y = some (.int k n)) : Quiet C E I H o (.bool (decide (n < m))) :=
 quiet_bin ho hx hy fun w => by simp [go_sem]
theorem q_geq (ho : o.op = .binOp .geq t x y t') (hx : ev E x = some (.int k m)) (hy : ev E y = some (.int k n)) : Quiet C E I H o (.bool (decide (n ≤ m))) :=
 quiet_bin ho hx hy fun w => by simp [go_sem]
theorem q_eql (ho : o.op = .binOp .eql t x y t') (hx : ev E x = some (.int k m)) (hy : ev E y = some (.int k n)) : Quiet C E I H o (.bool (decide (m = n))) :=
 quiet_bin ho hx hy fun w => by simp [go_sem]; rfl
theorem q_neq (ho : o.op = .binOp .neq t x y t') (hx : ev E x = some (.int k m)) (hy : ev E y = some (.int k n)) : Quiet C E I H o (.bool (decide (m ≠ n))) :=
 quiet_bin ho hx hy fun w => by simp [go_sem]; rfl
end ints

section strings
variable {x y i j : Operand} {t t' : TypeId} {s s' : List UInt8} {k kl kh : IntKind} {m n : Int}
theorem size_str (s : List UInt8) : (⟨s.toArray⟩ : ByteArray).size = s.length := by simp [ByteArray.size]
theorem quiet_builtin {b : Builtin} {args : Array Operand} {ts : Array TypeId} {vs : List Value} {r : Value} (ho : o.op = .call { callee := .builtin b, args := args, argTypes := ts })
  (he : evs E args.toList = some vs) (hr : ∀ cs w, (builtin b ts o.type cs vs.toArray).run C.P w = .ok (.value r) w) : Quiet C E I H o r :=
 quiet_run (by rw [ho]; rfl) fun a w hs _ => by
  have h1 : args.map a.eval = vs.toArray := by
   rw [← hs.evs he]; cases args; simp
  simp only [execOp, ho, resolve, h1]
  rw [Sem.run_bind, Sem.run_pure]
  exact hr _ w
theorem q_len_str (ho : o.op = .call { callee := .builtin .len, args := #[x], argTypes := #[t] }) (ht : C.P.underlying t = some .string) (hx : ev E x = some (str s)) :
  Quiet C E I H o (.int .i64 (s.length : Int)) :=
 quiet_builtin ho (vs := [str s]) (by simp [evs, hx]) fun cs w => by
  simp [builtin, str, Builtin.len_, run_underlying ht, goInt, size_str]
theorem q_index_str (ho : o.op = .index t x i) (ht : C.P.underlying t = some .string) (hx : ev E x = some (str s)) (hi : ev E i = some (.int k m)) (h : 0 ≤ m ∧ m < s.length) :
  Quiet C E I H o (u8 (nth s m.toNat 0)) :=
 quiet_run (by rw [ho]; rfl) fun a w hs _ => by
  have h1 := hs.ev hx
  have h2 := hs.ev hi
  have hlt : m.toNat < s.length := by omega
  have hg : (⟨s.toArray⟩ : ByteArray)[m.toNat]? = some s[m.toNat] := by
   rw [getElem?_pos _ _ (by simpa [ByteArray.size] using hlt)]; rfl
  simp [execOp, ho, h1, h2, str, Instr.index, run_underlying ht, asIntOf, h.1, hg, u8, nth_eq hlt]
theorem q_eql_str (ho : o.op = .binOp .eql t x y t') (hx : ev E x = some (str s)) (hy : ev E y = some (str s')) : Quiet C E I H o (.bool (decide (s = s'))) :=
 quiet_bin ho hx hy fun w => by
  simp [eqGuard, str, binOp, Op.stringOp, ByteArray.toList_eq]; rw [Bool.eq_iff_iff]; simp
end strings
end ops
end Go.Tri

/-
 A function's head and its end; calls.
-/
namespace Go.Tri
open Go.RowKit

def zipE : Nat → List Value → Env
 | _, [] => []
 | k, v :: r => (k, v) :: zipE (k + 1) r

theorem get_zipE : ∀ (vs : List Value) (k j : Nat) (v : Value), get (zipE k vs) j = some v → k ≤ j ∧ vs[j - k]? = some v
 | [], _, _, _, h => by cases h
 | u :: r, k, j, v, h => by
  unfold zipE get at h
  by_cases e : k = j
  ·subst e
   rw [show Nat.beq k k = true from Nat.beq_refl k] at h
   cases h
   exact ⟨Nat.le_refl _, by simp⟩
  ·rw [show Nat.beq k j = false from by cases hb : Nat.beq k j with | false => rfl | true => exact absurd (Nat.eq_of_beq_eq_true hb) e] at h
   obtain ⟨h1, h2⟩ := get_zipE r (k + 1) j v h
   refine ⟨by omega, ?_⟩
   rw [show j - k = (j - (k + 1)) + 1 by omega, List.getElem?_cons_succ]
   exact h2

theorem enter {P : Program} {f : FuncId} {fn : Func} {c : Code} {args : List Value} {R : Ending → World → Prop} {n : Nat} {w : World} {I : Look} {H : List HA}
  (hf : P.funcs[f]? = some fn) (hb : fn.body = some c) (hn : fn.ntmps = n) (ha : Nat.ble args.length n = true) (hst : St w I H w)
  (h : T ⟨P, none, n, w⟩ c (zipE 0 args) I H [] (bodyPost P fn R)) : Calls P f args.toArray w R := by
 have hal : args.length ≤ n := by simpa using ha
 refine callsIn_wide (n := 0).1 (callsIn_of_wp hf hb trivial ?_)
 refine h _ w ⟨by simp [hn, hal], fun k v hk => ?_⟩ rfl hst
 obtain ⟨_, h2⟩ := get_zipE args 0 k v hk
 have hlt : k < args.length := by
  have := (List.getElem?_eq_some_iff.1 h2).1
  omega
 show (args.toArray ++ Array.replicate (fn.ntmps - args.toArray.size) undef)[k]? = some v
 rw [Array.getElem?_append_left (by simpa using hlt)]
 simpa using h2

section ret
variable {C : Cx} {E : Env} {I : Look} {H : List HA} {R : Ending → World → Prop} {fn : Func}

theorem n_ret1 {t : Nat} {v : Value} (hr : fn.results = #[.tmp t]) (hv : get E t = some v) (k : ∀ w, St C.w0 I H w → R (.returned v) w) : N C .ret E I H [] (bodyPost C.P fn R) := by
 intro a w hs hd hw
 refine ⟨hd, v, ?_, k w hw⟩
 rw [results_tmp hr]
 simp [hs.2 t v hv]
theorem n_ret0 (hr : fn.results = #[]) (k : ∀ w, St C.w0 I H w → R (.returned (.tuple #[])) w) : N C .ret E I H [] (bodyPost C.P fn R) :=
 fun a w _ hd hw => ⟨hd, _, results_none hr _ _ _, k w hw⟩
theorem n_end0 (hr : fn.results = #[]) (k : ∀ w, St C.w0 I H w → R (.returned (.tuple #[])) w) : N C .normal E I H [] (bodyPost C.P fn R) :=
 fun a w _ hd hw => ⟨hd, _, results_none hr _ _ _, k w hw⟩
theorem n_ret2 {t u : Nat} {v x : Value} (hr : fn.results = #[.tmp t, .tmp u]) (hv : get E t = some v) (hx : get E u = some x) (k : ∀ w, St C.w0 I H w → R (.returned (.tuple #[v, x])) w) : N C .ret E I H [] (bodyPost C.P fn R) := by
 intro a w hs hd hw
 refine ⟨hd, _, ?_, k w hw⟩
 rw [results_tmp2 hr]
 simp [hs.2 t v hv, hs.2 u x hx]
theorem n_ret3 {t u s : Nat} {v x y : Value} (hr : fn.results = #[.tmp t, .tmp u, .tmp s]) (hv : get E t = some v) (hx : get E u = some x) (hy : get E s = some y) (k : ∀ w, St C.w0 I H w → R (.returned (.tuple #[v, x, y])) w) : N C .ret E I H [] (bodyPost C.P fn R) := by
 intro a w hs hd hw
 refine ⟨hd, .tuple #[v, x, y], ?_, k w hw⟩
 simp [results, hr, hs.2 t v hv, hs.2 u x hx, hs.2 s y hy]
end ret

theorem call_of {P : Program} {f : FuncId} {fn : Func} (hf : P.funcs[f]? = some fn) (hn : (fn.name == "runtime.NumGoroutine") = false) (hb : fn.body.isNone = false) (xs : Array Value) (w : World) : (callFunc f xs).run P w = .ok (.enter f xs) w := by
 have hn' : ¬ fn.name = "runtime.NumGoroutine" := by simpa using hn
 have hb' : ¬ fn.body = none := by cases h : fn.body <;> simp_all
 simp [callFunc, hf, hn', hb']

/-- a contract of a function that leaves old memory alone and hands back 'v' -/
def Pure (P : Program) (f : FuncId) (args : List Value) (w : World) (v : Value) : Prop :=
 Calls P f args.toArray w fun e w' => e = .returned v ∧ Below w.heap.size w w'

theorem quiet_call {C : Cx} {E : Env} {I : Look} {H : List HA} {o : Oper} {g : Operand} {f : FuncId} {args : Array Operand} {ts : Array TypeId} {vs : List Value} {v : Value}
  (ho : o.op = .call { callee := .value g, args := args, argTypes := ts }) (hg : ev E g = some (.func (.func f) #[] #[])) (he : evs E args.toList = some vs)
  {fn : Func} (hfn : C.P.funcs[f]? = some fn) (hnm : (fn.name == "runtime.NumGoroutine") = false) (hbd : fn.body.isNone = false)
  (hc : ∀ w, St C.w0 I H w → Pure C.P f vs w v) : Quiet C E I H o v := by
 intro a w hs hw
 have h1 : args.map a.eval = vs.toArray := by
  rw [← hs.evs he]; cases args; simp
 have hrun : (execOp a.eval o).run C.P w = .ok (.enter f vs.toArray) w := by
  simp only [execOp, ho, resolve, h1, hs.ev hg]
  simp [Deferred.ofValue, invoke, call_of hfn hnm hbd]
 refine ⟨by rw [ho]; rfl, ?_⟩
 rw [hrun]
 exact ⟨rfl, hc w hw⟩
end Go.Tri

/-
 Memory: what reads as what; loads, stores, new rows, slices.
-/
namespace Go.Tri
open Go.RowKit

/-! ### facts on types -/
def notAgg : TypeDesc → Bool
 | .struct _ | .array _ _ => false
 | _ => true
theorem run_isAgg_false {P : Program} {t : TypeId} {d : TypeDesc} (h : P.underlying t = some d) (hd : notAgg d = true) (w : World) : (isAgg t).run P w = .ok false w := by
 unfold isAgg
 rw [Sem.run_bind, run_underlying h]
 cases d <;> first | rfl | cases hd
theorem run_isAgg_true {P : Program} {t : TypeId} {fs : Array Field} (h : P.underlying t = some (.struct fs)) (w : World) : (isAgg t).run P w = .ok true w := by
 unfold isAgg
 rw [Sem.run_bind, run_underlying h]
 rfl
/-- a type's row: cells, bytes, zero -/
def TI (P : Program) (t : TypeId) (size bytes : Nat) (z : Value) : Prop := ∃ i, P.info? t = some i ∧ i.size = size ∧ i.bytes = bytes ∧ i.zero = some z
theorem ti_of {P : Program} {t : TypeId} {size bytes : Nat} {z : Value} (h : (P.info? t).map (fun i => (i.size, i.bytes, i.zero)) = some (size, bytes, some z)) : TI P t size bytes z := by
 cases hi : P.info? t with
 | none => rw [hi] at h; cases h
 | some i =>
  rw [hi] at h
  simp only [Option.map_some, Option.some.injEq, Prod.mk.injEq] at h
  exact ⟨i, hi, h.1, h.2.1, h.2.2⟩
theorem TI.sizeOf {P : Program} {t : TypeId} {size bytes : Nat} {z : Value} (h : TI P t size bytes z) (w : World) : (Go.sizeOf t).run P w = .ok size w := by
 obtain ⟨i, hi, h1, _, _⟩ := h
 unfold Go.sizeOf
 simp [typeInfo, hi, h1]
theorem TI.zero {P : Program} {t : TypeId} {size bytes : Nat} {z : Value} (h : TI P t size bytes z) (w : World) : (zeroValue t).run P w = .ok z w := by
 obtain ⟨i, hi, _, _, h3⟩ := h
 unfold zeroValue
 simp [typeInfo, hi, h3]

/-! ### what a cell reads -/
/-- cell (b, o) reads u, whatever else there is -/
def Rd (w0 : World) (I : Look) (H : List HA) (b o : Nat) (u : Value) : Prop := ∀ w, St w0 I H w → w.cell? ⟨b, o, none⟩ = some u
def CellI (I : Look) (b o : Nat) (u : Value) : Prop := ∃ cur T fr, I b = some (.cells cur T fr) ∧ cur[o]? = some u
theorem CellI.mono {I J : Look} {b o : Nat} {u : Value} (h : CellI I b o u) (hle : Le I J) : CellI J b o u := by
 obtain ⟨cur, T, fr, h1, h2⟩ := h
 exact ⟨cur, T, fr, hle _ _ h1, h2⟩
section
variable {w0 : World} {I : Look} {H : List HA} {b o : Nat} {u : Value}
theorem rd_imm (h : CellI I b o u) : Rd w0 I H b o u := fun w hw => by
 obtain ⟨cur, T, fr, h1, h2⟩ := h
 unfold World.cell?
 simp only [hw.imm b _ h1]
 exact h2
theorem rd_row {T : TypeId} {cs : List Value} (hm : row b T cs ∈ H) (hu : cs[o]? = some u) : Rd w0 I H b o u := fun w hw => by
 have h1 : w.heap[b]? = some (.cells cs.toArray T (0, 0)) := hw.sat _ hm
 unfold World.cell?
 simp only [h1]
 simpa using hu
def adr (v : Value) : Addr := match v with | .slice (some a) _ _ => a | _ => ⟨0, 0, none⟩
theorem rd_vec {v : Value} {T : TypeId} {sz n j : Nat} {xs : List Value} (hm : vec v T sz n xs ∈ H) (hu : xs[j]? = some u) : Rd w0 I H (adr v).block ((adr v).off + j) u := fun w hw => by
 obtain ⟨hl, hs⟩ := hw.sat _ hm
 rcases hs with ⟨rfl, rfl⟩ | ⟨g, cap, cur, rfl, hg, hn, hc, hsz, rfl⟩
 ·have := (List.getElem?_eq_some_iff.1 hu).1
  rw [hl] at this
  simp at this
 ·unfold World.cell?
  have hg' : w.heap[g]? = some (.cells cur T (0, 0)) := hg
  simp only [adr, hg']
  rw [List.getElem?_take] at hu
  split at hu
  ·simpa using hu
  ·cases hu
end

/-- a slice that does not turn any more: its elements' cells -/
def Sl (I : Look) (sz : Nat) (v : Value) (xss : List (List Value)) : Prop :=
 (∃ A c, v = .slice A xss.length c ∧ xss.length ≤ c ∧ (xss ≠ [] → ∀ a, A = some a → a.spot = none) ∧ (xss ≠ [] → A ≠ none)) ∧
 ∀ i j cs u, xss[i]? = some cs → cs[j]? = some u → CellI I (adr v).block ((adr v).off + i * sz + j) u
theorem Sl.mono {I J : Look} {sz : Nat} {v : Value} {xss : List (List Value)} (h : Sl I sz v xss) (hle : Le I J) : Sl J sz v xss :=
 ⟨h.1, fun i j cs u h1 h2 => (h.2 i j cs u h1 h2).mono hle⟩
theorem sl_nil {I : Look} {sz c : Nat} {A : Option Addr} (hA : ∀ a, A = some a → a.spot = none) : Sl I sz (.slice A 0 c) [] :=
 ⟨⟨A, c, rfl, Nat.zero_le _, fun _ => hA, fun h => absurd rfl h⟩, fun _ _ _ _ h => by cases h⟩

/-- a value of one cell -/
def One (v : Value) : Prop := v.cells = #[v] ∧ v.oneCell' = true
theorem Sl.one {I : Look} {sz : Nat} {v : Value} {xss : List (List Value)} (h : Sl I sz v xss) : One v := by
 obtain ⟨⟨A, c, rfl, _⟩, _⟩ := h
 exact ⟨rfl, rfl⟩

theorem run_load {P : Program} {w : World} {a : Addr} {u : Value} (h : w.cell? a = some u) : (load a).run P w = .ok u w := by
 simp [load, Sem.run, h]

section ops
variable {C : Cx} {E : Env} {I : Look} {H : List HA} {D : List Deferred} {Q : Exit → Act → World → Prop} {o : Oper}

theorem q_load {x : Operand} {t : TypeId} {d : TypeDesc} {b off : Nat} {u : Value} (ho : o.op = .load t x) (ht : C.P.underlying t = some d) (hd : notAgg d = true)
  (hx : ev E x = some (.pointer (some ⟨b, off, none⟩))) (hr : Rd C.w0 I H b off u) : Quiet C E I H o u :=
 quiet_run (by rw [ho]; rfl) fun a w hs hw => by
  have h1 := hs.ev hx
  have h2 := hr w hw
  simp [execOp, ho, h1, Instr.loadAt, Instr.sureAddr, loadVar, run_isAgg_false ht hd, load, Sem.run, h2]

def Rds (w0 : World) (I : Look) (H : List HA) (b o : Nat) (us : List Value) : Prop := ∀ j u, us[j]? = some u → Rd w0 I H b (o + j) u
theorem rds_row {w0 : World} {b k n : Nat} {T : TypeId} {cs us : List Value} (hm : row b T cs ∈ H) (hu : (cs.drop k).take n = us) : Rds w0 I H b k us := fun j u hj => by
 refine rd_row hm ?_
 subst hu
 rw [List.getElem?_take] at hj
 split at hj
 ·rw [← List.getElem?_drop]; exact hj
 ·cases hj
theorem rds_imm {w0 : World} {b k : Nat} {us : List Value} (h : ∀ j u, us[j]? = some u → CellI I b (k + j) u) : Rds w0 I H b k us := fun j u hj => rd_imm (h j u hj)

theorem run_loadCells {P : Program} {w : World} {b k : Nat} {us : List Value} (h : ∀ j u, us[j]? = some u → w.cell? ⟨b, k + j, none⟩ = some u) :
  (loadCells ⟨b, k, none⟩ us.length).run P w = .ok us.toArray w := by
 unfold loadCells
 have key : ∀ (m i : Nat) (acc : Array Value), i + m = us.length → acc = (us.take i).toArray → (loadCellsFrom ⟨b, k, none⟩ i m acc).run P w = .ok us.toArray w := by
  intro m
  induction m with
  | zero =>
   intro i acc hi ha
   rw [show i = us.length by omega, List.take_length] at ha
   simp [loadCellsFrom, ha]
  | succ m ih =>
   intro i acc hi ha
   have hlt : i < us.length := by omega
   have hc := h i us[i] (List.getElem?_eq_getElem hlt)
   simp only [loadCellsFrom]
   rw [Sem.run_bind]
   rw [Addr.add_lit, run_load hc]
   simp only [Result.andThen_ok]
   refine ih (i + 1) _ (by omega) ?_
   subst ha
   rw [List.take_succ_eq_append_getElem hlt]
   simp
 exact key us.length 0 #[] (by omega) (by simp)

theorem q_load_agg {x : Operand} {t : TypeId} {fs : Array Field} {b off n bytes : Nat} {z : Value} {us : List Value} (ho : o.op = .load t x) (ht : C.P.underlying t = some (.struct fs)) (hi : TI C.P t n bytes z) (hn : us.length = n)
  (hx : ev E x = some (.pointer (some ⟨b, off, none⟩))) (hr : Rds C.w0 I H b off us) : Quiet C E I H o (.agg us.toArray) :=
 quiet_run (by rw [ho]; rfl) fun a w hs hw => by
  have h1 := hs.ev hx
  have h2 := run_loadCells (P := C.P) (w := w) (b := b) (k := off) (us := us) (fun j u hj => hr j u hj w hw)
  subst hn
  simp [execOp, ho, h1, Instr.loadAt, Instr.sureAddr, loadVar, run_isAgg_true ht, hi.sizeOf, h2]

theorem q_nilCheck {x : Operand} {a : Addr} (ho : o.op = .nilCheck x) (hx : ev E x = some (.pointer (some a))) : Quiet C E I H o (.pointer (some a)) :=
 quiet_run (by rw [ho]; rfl) fun ac w hs _ => by simp [execOp, ho, hs.ev hx]

theorem q_fieldAddr {x : Operand} {t tf : TypeId} {fs : Array Field} {k b off n bytes : Nat} {z : Value} {f : Field} (ho : o.op = .fieldAddr t x k) (ht : C.P.underlying t = some (.struct fs))
  (hf : fs[k]? = some f) (htf : f.type = tf) (hi : TI C.P tf n bytes z) (hn : Nat.ble 1 n = true) (hx : ev E x = some (.pointer (some ⟨b, off, none⟩))) : Quiet C E I H o (.pointer (some ⟨b, off + f.offset, none⟩)) :=
 quiet_run (by rw [ho]; rfl) fun a w hs _ => by
  have hn' : n ≠ 0 := by
   have : 1 ≤ n := by simpa using hn
   omega
  subst htf
  simp [execOp, ho, hs.ev hx, Instr.fieldAt, run_underlying ht, hf, Instr.sureAddr, fieldPlace, hi.sizeOf, hn', Addr.add_lit]

/-- the place of element i of a slice -/
theorem q_indexAddr {x i : Operand} {t e : TypeId} {v z : Value} {k : IntKind} {m : Int} {n sz bytes : Nat} (ho : o.op = .indexAddr t x i) (ht : C.P.underlying t = some (.slice e)) (hi : TI C.P e sz bytes z)
  (hx : ev E x = some v) (hix : ev E i = some (.int k m)) (hv : ∃ A c, v = .slice A n c ∧ (0 < n → ∀ a, A = some a → a.spot = none) ∧ (0 < n → A ≠ none)) (h0 : 0 ≤ m ∧ m < n) :
  Quiet C E I H o (.pointer (some ⟨(adr v).block, (adr v).off + m.toNat * sz, none⟩)) :=
 quiet_run (by rw [ho]; rfl) fun a w hs _ => by
  obtain ⟨A, c, rfl, hsp, hne⟩ := hv
  cases A with
  | none => exact absurd rfl (hne (by omega))
  | some ad =>
   have hspot := hsp (by omega) ad rfl
   have hadd : ad.add (m.toNat * sz) = ⟨ad.block, ad.off + m.toNat * sz, none⟩ := by
    obtain ⟨b, of, sp⟩ := ad
    cases hspot
    exact Addr.add_lit b of _
   simp [execOp, ho, hs.ev hx, hs.ev hix, Instr.indexAt, run_underlying ht, hi.sizeOf, asIntOf, h0, adr, hadd]
theorem Sl.shape {sz n : Nat} {v : Value} {xss : List (List Value)} (h : Sl I sz v xss) (hn : xss.length = n) : ∃ A c, v = .slice A n c ∧ (0 < n → ∀ a, A = some a → a.spot = none) ∧ (0 < n → A ≠ none) := by
 obtain ⟨⟨A, c, rfl, _, h1, h2⟩, _⟩ := h
 subst hn
 exact ⟨A, c, rfl, fun hp => h1 (List.ne_nil_of_length_pos hp), fun hp => h2 (List.ne_nil_of_length_pos hp)⟩

theorem q_len {x : Operand} {t e : TypeId} {v : Value} {n : Nat} (ho : o.op = .call { callee := .builtin .len, args := #[x], argTypes := #[t] }) (ht : C.P.underlying t = some (.slice e)) (hx : ev E x = some v)
  (hv : ∃ A c, v = .slice A n c) : Quiet C E I H o (.int .i64 (n : Int)) :=
 quiet_builtin ho (vs := [v]) (by simp [evs, hx]) fun cs w => by
  obtain ⟨A, c, rfl⟩ := hv
  simp [builtin, Builtin.len_, run_underlying ht, goInt]
theorem Sl.len {sz : Nat} {v : Value} {xss : List (List Value)} (h : Sl I sz v xss) : ∃ A c, v = .slice A xss.length c := by
 obtain ⟨⟨A, c, rfl, _⟩, _⟩ := h
 exact ⟨A, c, rfl⟩
/-- the same, off an owned row -/
theorem q_len_vec {x : Operand} {t e te : TypeId} {v : Value} {n sz : Nat} {xs : List Value} (ho : o.op = .call { callee := .builtin .len, args := #[x], argTypes := #[t] }) (ht : C.P.underlying t = some (.slice e)) (hx : ev E x = some v)
  (hm : vec v te sz n xs ∈ H) : Quiet C E I H o (.int .i64 (n : Int)) := by
 intro a w hs hw
 have hv : ∃ A c, v = .slice A n c := by
  obtain ⟨_, hh⟩ := hw.sat _ hm
  rcases hh with ⟨rfl, rfl⟩ | ⟨g, cap, cur, rfl, _⟩
  ·exact ⟨_, _, rfl⟩
  ·exact ⟨_, _, rfl⟩
 exact q_len (C := C) (I := I) (H := H) ho ht hx hv a w hs hw
theorem q_indexAddr_vec {x i : Operand} {t e te : TypeId} {v z : Value} {k : IntKind} {m : Int} {n sz sz' bytes : Nat} {xs : List Value} (ho : o.op = .indexAddr t x i) (ht : C.P.underlying t = some (.slice e)) (hi : TI C.P e sz bytes z)
  (hx : ev E x = some v) (hix : ev E i = some (.int k m)) (hm : vec v te sz' n xs ∈ H) (h0 : 0 ≤ m ∧ m < n) :
  Quiet C E I H o (.pointer (some ⟨(adr v).block, (adr v).off + m.toNat * sz, none⟩)) := by
 intro a w hs hw
 have hv : ∃ A c, v = .slice A n c ∧ (0 < n → ∀ a, A = some a → a.spot = none) ∧ (0 < n → A ≠ none) := by
  obtain ⟨_, hh⟩ := hw.sat _ hm
  rcases hh with ⟨rfl, rfl⟩ | ⟨g, cap, cur, rfl, _⟩
  ·exact ⟨_, _, rfl, (fun _ a ha => by cases ha), (fun h => absurd h (by omega))⟩
  ·exact ⟨_, _, rfl, (fun _ a ha => by cases ha; rfl), (fun _ h => by cases h)⟩
 exact q_indexAddr (C := C) (I := I) (H := H) ho ht hi hx hix hv h0 a w hs hw

theorem q_not {x : Operand} {t : TypeId} {b : Bool} (ho : o.op = .unOp .not t x) (hx : ev E x = some (.bool b)) : Quiet C E I H o (.bool (!b)) :=
 quiet_run (by rw [ho]; rfl) fun a w hs _ => by simp [execOp, ho, hs.ev hx, Op.unary]
theorem q_pick {c x y : Operand} {b : Bool} {u v : Value} (ho : o.op = .pick c x y) (hc : ev E c = some (.bool b)) (hx : ev E x = some u) (hy : ev E y = some v) : Quiet C E I H o (bif b then u else v) :=
 quiet_run (by rw [ho]; rfl) fun a w hs _ => by
  cases b <;> simp [execOp, ho, hs.ev hc, hs.ev hx, hs.ev hy, asBool]
theorem q_extract {x : Operand} {k : Nat} {vs : Array Value} {v : Value} (ho : o.op = .extract x k) (hx : ev E x = some (.tuple vs)) (hv : vs[k]? = some v) : Quiet C E I H o v :=
 quiet_run (by rw [ho]; rfl) fun a w hs _ => by simp [execOp, ho, hs.ev hx, Instr.extract, hv]
theorem q_makeFunc {fn : Fn} {xs ys : Array Operand} {us vs : List Value} (ho : o.op = .makeFunc fn xs ys) (hx : evs E xs.toList = some us) (hy : evs E ys.toList = some vs) : Quiet C E I H o (.func fn us.toArray vs.toArray) :=
 quiet_run (by rw [ho]; rfl) fun a w hs _ => by
  have h1 : xs.map a.eval = us.toArray := by rw [← hs.evs hx]; cases xs; simp
  have h2 : ys.map a.eval = vs.toArray := by rw [← hs.evs hy]; cases ys; simp
  simp [execOp, ho, h1, h2, Instr.makeFunc]
end ops
end Go.Tri

/-
 Operations that turn memory: new rows, stores, append.
-/
namespace Go.Tri
open Go.RowKit

def Pick (H : List HA) (x : HA) (F : List HA) : Prop := H.Perm (x :: F)
theorem pick_head {x : HA} {F : List HA} : Pick (x :: F) x F := List.Perm.refl _
theorem pick_tail {x y : HA} {H F : List HA} (h : Pick H x F) : Pick (y :: H) x (y :: F) := (List.Perm.cons y h).trans (List.Perm.swap x y F)

def SubH (H H' : List HA) : Prop := ∃ G, H.Perm (G ++ H')
theorem subH_refl (H : List HA) : SubH H H := ⟨[], List.Perm.refl _⟩
theorem subH_drop {x : HA} {H H' : List HA} (h : SubH H H') : SubH (x :: H) H' := by
 obtain ⟨G, h⟩ := h
 exact ⟨x :: G, List.Perm.cons x h⟩
theorem subH_cons {x : HA} {H F H' : List HA} (p : Pick H x F) (h : SubH F H') : SubH H (x :: H') := by
 obtain ⟨G, h⟩ := h
 exact ⟨G, (p.trans (List.Perm.cons x h)).trans List.perm_middle.symm⟩
theorem St.drops {w0 w : World} {I : Look} : ∀ {G H : List HA}, St w0 I (G ++ H) w → St w0 I H w
 | [], _, h => h
 | _ :: G, _, h => St.drops (G := G) h.tail
theorem St.sub {w0 w : World} {I : Look} {H H' : List HA} (h : St w0 I H w) (s : SubH H H') : St w0 I H' w := by
 obtain ⟨G, p⟩ := s
 exact (h.perm p).drops

class InRow (b : Nat) (T : outParam TypeId) (cs : outParam (List Value)) (H : List HA) : Prop where
 mem : row b T cs ∈ H
instance inRow_head {b : Nat} {T : TypeId} {cs : List Value} {H : List HA} : InRow b T cs (row b T cs :: H) := ⟨List.mem_cons_self⟩
instance (priority := low) inRow_tail {b : Nat} {T : TypeId} {cs : List Value} {y : HA} {H : List HA} [h : InRow b T cs H] : InRow b T cs (y :: H) := ⟨List.mem_cons_of_mem _ h.mem⟩
class InVec (v : Value) (T : outParam TypeId) (sz n : outParam Nat) (xs : outParam (List Value)) (H : List HA) : Prop where
 mem : vec v T sz n xs ∈ H
instance inVec_head {v : Value} {T : TypeId} {sz n : Nat} {xs : List Value} {H : List HA} : InVec v T sz n xs (vec v T sz n xs :: H) := ⟨List.mem_cons_self⟩
instance (priority := low) inVec_tail {v : Value} {T : TypeId} {sz n : Nat} {xs : List Value} {y : HA} {H : List HA} [h : InVec v T sz n xs H] : InVec v T sz n xs (y :: H) := ⟨List.mem_cons_of_mem _ h.mem⟩
class PickRow (b : Nat) (T : outParam TypeId) (cs : outParam (List Value)) (F : outParam (List HA)) (H : List HA) : Prop where
 pick : Pick H (row b T cs) F
instance pickRow_head {b : Nat} {T : TypeId} {cs : List Value} {F : List HA} : PickRow b T cs F (row b T cs :: F) := ⟨pick_head⟩
instance (priority := low) pickRow_tail {b : Nat} {T : TypeId} {cs : List Value} {y : HA} {F H : List HA} [h : PickRow b T cs F H] : PickRow b T cs (y :: F) (y :: H) := ⟨pick_tail h.pick⟩
class PickVec (v : Value) (T : outParam TypeId) (sz n : outParam Nat) (xs : outParam (List Value)) (F : outParam (List HA)) (H : List HA) : Prop where
 pick : Pick H (vec v T sz n xs) F
instance pickVec_head {v : Value} {T : TypeId} {sz n : Nat} {xs : List Value} {F : List HA} : PickVec v T sz n xs F (vec v T sz n xs :: F) := ⟨pick_head⟩
instance (priority := low) pickVec_tail {v : Value} {T : TypeId} {sz n : Nat} {xs : List Value} {y : HA} {F H : List HA} [h : PickVec v T sz n xs F H] : PickVec v T sz n xs (y :: F) (y :: H) := ⟨pick_tail h.pick⟩
class PickI (x : HA) (F : outParam (List HA)) (H : List HA) : Prop where
 pick : Pick H x F
instance pickI_head {x : HA} {F : List HA} : PickI x F (x :: F) := ⟨pick_head⟩
instance (priority := low) pickI_tail {x y : HA} {F H : List HA} [h : PickI x F H] : PickI x (y :: F) (y :: H) := ⟨pick_tail h.pick⟩
class SubC (H H' : List HA) : Prop where
 sub : SubH H H'
instance subC_refl {H : List HA} : SubC H H := ⟨subH_refl H⟩
instance (priority := low) subC_cons {x : HA} {H F H' : List HA} [p : PickI x F H] [h : SubC F H'] : SubC H (x :: H') := ⟨subH_cons p.pick h.sub⟩
instance subC_nil {H : List HA} : SubC H [] := ⟨⟨H, by simp⟩⟩
instance (priority := low) subC_drop {x : HA} {H H' : List HA} [h : SubC H H'] : SubC (x :: H) H' := ⟨subH_drop h.sub⟩
theorem subC_st {w0 w : World} {I : Look} {H H' : List HA} [h : SubC H H'] (hw : St w0 I H w) : St w0 I H' w := hw.sub h.sub

section ops
variable {C : Cx} {E : Env} {I : Look} {H : List HA} {D : List Deferred} {Q : Exit → Act → World → Prop} {o : Oper}

def Eff (C : Cx) (E : Env) (I : Look) (H : List HA) (o : Oper) (Post : Value → Look → List HA → Prop) : Prop :=
 ∀ (a : Act) (w : World), Sat E C.n a.tmps → St C.w0 I H w → ∀ (K : Act → World → Prop) (Q : Exit → Act → World → Prop),
  (∀ v I' H' w', Post v I' H' → St C.w0 I' H' w' → K (a.put o.dst v) w') → o.wpIn (WF C.r) 0 C.P a w K Q

theorem l_e {ops : Array Oper} {rest : List Oper} {d : Nat} {Post : Value → Look → List HA → Prop} (hg : o.guard = none) (hd : o.dst = some d) (hn : Nat.blt d C.n = true)
  (he : Eff C E I H o Post) (k : ∀ v I' H', Post v I' H' → L C ops rest ((d, v) :: E) I' H' D Q) : L C ops (o :: rest) E I H D Q := by
 intro a w hs hda hw
 refine wpListIn_plain hg fun K hK => he a w hs hw K Q fun v I' H' w' hp hw' => hK _ _ ?_
 rw [hd]
 exact k v I' H' hp _ _ (hs.put (by simpa using hn) v) (by simpa [Act.put] using hda) hw'
theorem l_e0 {ops : Array Oper} {rest : List Oper} {Post : Value → Look → List HA → Prop} (hg : o.guard = none) (hd : o.dst = none)
  (he : Eff C E I H o Post) (k : ∀ v I' H', Post v I' H' → L C ops rest E I' H' D Q) : L C ops (o :: rest) E I H D Q := by
 intro a w hs hda hw
 refine wpListIn_plain hg fun K hK => he a w hs hw K Q fun v I' H' w' hp hw' => hK _ _ ?_
 rw [hd]
 exact k v I' H' hp _ _ hs hda hw'

theorem q_load_row {x : Operand} {t T : TypeId} {d : TypeDesc} {b off : Nat} {u : Value} {cs : List Value} (ho : o.op = .load t x) (ht : C.P.underlying t = some d) (hd : notAgg d = true)
  (hx : ev E x = some (.pointer (some ⟨b, off, none⟩))) [hm : InRow b T cs H] (hu : cs[off]? = some u) : Quiet C E I H o u := q_load ho ht hd hx (rd_row hm.mem hu)
theorem q_load_vec {x : Operand} {t T : TypeId} {d : TypeDesc} {sz n j : Nat} {v u : Value} {xs : List Value} (ho : o.op = .load t x) (ht : C.P.underlying t = some d) (hd : notAgg d = true)
  (hx : ev E x = some (.pointer (some ⟨(adr v).block, (adr v).off + j, none⟩))) [hm : InVec v T sz n xs H] (hu : xs[j]? = some u) : Quiet C E I H o u := q_load ho ht hd hx (rd_vec hm.mem hu)
theorem q_load_rowA {x : Operand} {t T : TypeId} {fs : Array Field} {b off n bytes : Nat} {z : Value} {cs us : List Value} (ho : o.op = .load t x) (ht : C.P.underlying t = some (.struct fs)) (hi : TI C.P t n bytes z)
  (hx : ev E x = some (.pointer (some ⟨b, off, none⟩))) [hm : InRow b T cs H] (hu : (cs.drop off).take n = us) (hn : us.length = n) : Quiet C E I H o (.agg us.toArray) := q_load_agg ho ht hi hn hx (rds_row hm.mem hu)
theorem q_lenV {x : Operand} {t e te : TypeId} {v : Value} {n sz : Nat} {xs : List Value} (ho : o.op = .call { callee := .builtin .len, args := #[x], argTypes := #[t] }) (ht : C.P.underlying t = some (.slice e)) (hx : ev E x = some v)
  [hm : InVec v te sz n xs H] : Quiet C E I H o (.int .i64 (n : Int)) := q_len_vec ho ht hx hm.mem
theorem q_indexAddrV {x i : Operand} {t e te : TypeId} {v z : Value} {k : IntKind} {m : Int} {n sz sz' bytes : Nat} {xs : List Value} (ho : o.op = .indexAddr t x i) (ht : C.P.underlying t = some (.slice e)) (hi : TI C.P e sz bytes z)
  (hx : ev E x = some v) (hix : ev E i = some (.int k m)) [hm : InVec v te sz' n xs H] (h0 : 0 ≤ m ∧ m < n) :
  Quiet C E I H o (.pointer (some ⟨(adr v).block, (adr v).off + m.toNat * sz, none⟩)) := q_indexAddr_vec ho ht hi hx hix hm.mem h0

theorem run_newRow {P : Program} {w : World} {t : TypeId} {c : Array Value} : (newRow t c).run P w = .ok ⟨w.heap.size, 0, none⟩ (w.alloc (.cells c t)) := by
 unfold newRow
 rfl

theorem eff_new {x : Value → Value} {T : TypeId} {cs : List Value} (hp : plainOp o.op = true)
  (hr : ∀ (a : Act) (w : World), Sat E C.n a.tmps → St C.w0 I H w → (execOp a.eval o).run C.P w = .ok (.value (x (.pointer (some ⟨w.heap.size, 0, none⟩)))) (w.alloc (.cells cs.toArray T))) :
  Eff C E I H o (fun v I' H' => ∃ b, v = x (.pointer (some ⟨b, 0, none⟩)) ∧ I = I' ∧ H' = row b T cs :: H) :=
 fun a w hs hw K Q hk => wpIn_of_run hp (hr a w hs hw) (hk _ _ _ _ ⟨w.heap.size, rfl, rfl, rfl⟩ (hw.new _))

theorem e_box {x : Operand} {T : TypeId} {v : Value} {cs : List Value} (ho : o.op = .box T x) (hx : ev E x = some v) (hc : v.cells = cs.toArray) :
  Eff C E I H o (fun v I' H' => ∃ b, v = .pointer (some ⟨b, 0, none⟩) ∧ I = I' ∧ H' = row b T cs :: H) :=
 eff_new (x := id) (by rw [ho]; rfl) fun a w hs _ => by
  simp only [execOp, ho, hs.ev hx, Instr.box, newVar, hc]
  simp [run_newRow]
theorem e_alloc {T : TypeId} {n bytes : Nat} {z : Value} {cs : List Value} (ho : o.op = .alloc T) (hi : TI C.P T n bytes z) (hc : z.cells = cs.toArray) :
  Eff C E I H o (fun v I' H' => ∃ b, v = .pointer (some ⟨b, 0, none⟩) ∧ I = I' ∧ H' = row b T cs :: H) :=
 eff_new (x := id) (by rw [ho]; rfl) fun a w hs _ => by
  simp only [execOp, ho, Instr.alloc]
  simp [hi.zero, newVar, hc, run_newRow]

theorem fill_one {z c : Array Value} (h : c.size = z.size) : Instr.fill (fun i => some (i * c.size, c.size)) z [(0, .agg c)] = some c := by
 simp only [Instr.fill, Value.cells, Nat.zero_mul, Nat.zero_add, ne_eq, not_true_eq_false, h, Nat.lt_irrefl, false_or, if_false, gt_iff_lt, Option.some.injEq]
 have key : ∀ (l : List Value) (k : Nat) (A : Array Value), k + l.length = A.size → (l.zipIdx k).foldl (fun cs (x : Value × Nat) => cs.setIfInBounds x.2 x.1) A = (A.toList.take k ++ l).toArray := by
  intro l
  induction l with
  | nil =>
   intro k A hk
   simp only [List.length_nil, Nat.add_zero] at hk
   subst hk
   rw [← Array.length_toList, List.take_length]
   simp
  | cons v l ih =>
   intro k A hk
   simp only [List.length_cons] at hk
   rw [List.zipIdx_cons, List.foldl_cons, ih (k + 1) _ (by simp; omega)]
   congr 1
   simp only [Array.toList_setIfInBounds]
   rw [List.take_set, List.set_eq_take_append_cons_drop, if_pos (by simp; omega), List.take_take, Nat.min_eq_left (by omega)]
   simp
 have := key c.toList 0 z (by simp [h])
 rw [← Array.foldl_toList]
 simpa using this

theorem e_buildSlice1 {x : Operand} {t e : TypeId} {n bytes : Nat} {v z : Value} {cs : List Value} (ho : o.op = .buildSlice t 1 #[(0, x)]) (ht : C.P.underlying t = some (.slice e)) (hi : TI C.P e n bytes z) (hn : Nat.ble 1 n && Nat.ble n 1000 = true) (hz : z.cells.size = n)
  (hx : ev E x = some v) (hc : v.cells = cs.toArray) (hl : cs.length = n) :
  Eff C E I H o (fun v I' H' => ∃ b, v = .slice (some ⟨b, 0, none⟩) 1 1 ∧ I = I' ∧ H' = row b e cs :: H) := by
 refine eff_new (x := fun p => match p with | .pointer a => .slice a 1 1 | _ => p) (by rw [ho]; rfl) fun a w hs _ => ?_
 have hn : 1 ≤ n ∧ n ≤ 1000 := by simpa using hn
 have hf : Instr.fill (fun i => some (i * n, n)) ((Array.range (1 * n)).map (z.cells[· % z.cells.size]!)) [(0, v)] = some cs.toArray := by
  have h1 := fill_one (z := (Array.range (1 * n)).map (z.cells[· % z.cells.size]!)) (c := cs.toArray) (by simp [hl])
  have h2 : cs.toArray.size = n := by simpa using hl
  rw [h2] at h1
  rw [← h1]
  simp only [Instr.fill, hc]
  rfl
 simp only [execOp, ho, Instr.buildSlice]
 simp [run_underlying ht, hi.sizeOf, hi.zero, show ¬ (16777216 < n) from by omega, show ¬ n = 0 from by omega, hs.ev hx]
 simp only [Nat.one_mul] at hf
 rw [hf]
 simp [run_newRow]

/-- a store of one cell -/
theorem run_store1 {P : Program} {w : World} {b off : Nat} {T : TypeId} {cs : List Value} {v : Value} (h1 : v.oneCell' = true) (hw : w.heap[b]? = some (.cells cs.toArray T (0, 0))) (hlt : off < cs.length) :
  (store ⟨b, off, none⟩ v).run P w = .ok () (w.setCell ⟨b, off, none⟩ v) := by
 have hcell : w.cell? ⟨b, off, none⟩ = some cs[off] := by
  unfold World.cell?
  simp [hw, hlt]
 have hfz : w.frozen? ⟨b, off, none⟩ = false := by
  unfold World.frozen?
  simp [hw]
 rw [run_store P w _ v .plain h1]
 simp [stored, hcell, hfz]
theorem heap_setCell_row {w : World} {b off : Nat} {T : TypeId} {cs : List Value} {v : Value} (hw : w.heap[b]? = some (.cells cs.toArray T (0, 0))) :
  (w.setCell ⟨b, off, none⟩ v).heap[b]? = some (.cells (cs.set off v).toArray T (0, 0)) := by
 simp [World.setCell, Array.getElem?_modify, hw]
theorem st_set {w0 w : World} {F : List HA} {b off : Nat} {T : TypeId} {cs : List Value} (v : Value) (h : St w0 I (row b T cs :: F) w) : St w0 I (row b T (cs.set off v) :: F) (w.setCell ⟨b, off, none⟩ v) := by
 have hb : w.heap[b]? = some (.cells cs.toArray T (0, 0)) := h.sat _ (List.mem_cons_self)
 refine h.turn rfl rfl rfl (by simp) (fun k _ hk => Below.heap_setCell _ _ _ _ (fun e => hk (by rw [e]; rfl))) ?_ (.inl rfl)
 exact heap_setCell_row hb

theorem e_store {p x : Operand} {t T : TypeId} {b off bytes : Nat} {v z : Value} {cs : List Value} {F : List HA} (ho : o.op = .store t p x) (hi : TI C.P t 1 bytes z)
  (hp : ev E p = some (.pointer (some ⟨b, off, none⟩))) (hx : ev E x = some v) (h1 : One v) [hpk : PickRow b T cs F H] (hlt : Nat.blt off cs.length = true) :
  Eff C E I H o (fun _ I' H' => I = I' ∧ H' = row b T (cs.set off v) :: F) := by
 intro a w hs hw K Q hk
 have hw' := hw.perm hpk.pick
 have hb : w.heap[b]? = some (.cells cs.toArray T (0, 0)) := hw'.sat _ (List.mem_cons_self)
 refine wpIn_of_skip (by rw [ho]; rfl) ?_ (hk undef I _ _ ⟨rfl, rfl⟩ (st_set v hw'))
 simp only [execOp, ho, hs.ev hp, hs.ev hx, Instr.storeAt, Instr.sureAddr, storeVar, h1.1]
 simp [hi.sizeOf, storeCells, Addr.add_zero', run_store1 h1.2 hb (by simpa using hlt)]

theorem run_storeCells {P : Program} {T : TypeId} {b off : Nat} : ∀ (us : List Value) (i : Nat) (cs : List Value) (w : World), (∀ u ∈ us, u.oneCell' = true) → off + i + us.length ≤ cs.length → w.heap[b]? = some (.cells cs.toArray T (0, 0)) →
  ∃ w', (storeCells ⟨b, off, none⟩ us i).run P w = .ok () w' ∧ w'.heap[b]? = some (.cells (cs.take (off + i) ++ us ++ cs.drop (off + i + us.length)).toArray T (0, 0)) ∧ w'.os = w.os ∧ w'.tape = w.tape ∧ w'.output = w.output ∧ w'.heap.size = w.heap.size ∧ (∀ k, k ≠ b → w'.heap[k]? = w.heap[k]?)
 | [], i, cs, w, _, _, hw => ⟨w, by simp [storeCells], by simpa using hw, rfl, rfl, rfl, rfl, fun _ _ => rfl⟩
 | u :: us, i, cs, w, h1, hl, hw => by
  simp only [List.length_cons] at hl
  have hs := run_store1 (P := P) (off := off + i) (h1 u (List.mem_cons_self)) hw (by omega)
  obtain ⟨w', r1, r2, r3, r4, r5, r6, r7⟩ := run_storeCells (P := P) (T := T) (b := b) (off := off) us (i + 1) (cs.set (off + i) u) (w.setCell ⟨b, off + i, none⟩ u) (fun x hx => h1 x (List.mem_cons_of_mem _ hx)) (by rw [List.length_set]; omega) (heap_setCell_row hw)
  refine ⟨w', ?_, ?_, r3, r4, r5, by rw [r6]; simp, fun k hk => (r7 k hk).trans (Below.heap_setCell _ _ _ _ hk)⟩
  ·unfold storeCells
   rw [Sem.run_bind, Addr.add_lit, hs]
   simpa using r1
  ·rw [r2]
   congr 3
   rw [show off + (i + 1) = off + i + 1 by omega, List.take_set, List.take_succ_eq_append_getElem (by omega), List.set_append_right _ _ (by simp; omega)]
   simp only [List.length_take, List.length_cons]
   rw [show off + i - min (off + i) cs.length = 0 by omega]
   simp only [List.set_cons_zero, List.append_assoc, List.cons_append, List.nil_append]
   rw [List.drop_set_of_lt (by omega)]
   congr 4
   omega

theorem e_store_agg {p x : Operand} {t T : TypeId} {b off n bytes : Nat} {z : Value} {cs us : List Value} {F : List HA} (ho : o.op = .store t p x) (hi : TI C.P t n bytes z)
  (hp : ev E p = some (.pointer (some ⟨b, off, none⟩))) (hx : ev E x = some (.agg us.toArray)) (hn : us.length = n) (h1 : ∀ u ∈ us, u.oneCell' = true) [hpk : PickRow b T cs F H] (hlt : Nat.ble (off + n) cs.length = true) :
  Eff C E I H o (fun _ I' H' => I = I' ∧ H' = row b T (cs.take off ++ us ++ cs.drop (off + n)) :: F) := by
 intro a w hs hw K Q hk
 have hw' := hw.perm hpk.pick
 have hb : w.heap[b]? = some (.cells cs.toArray T (0, 0)) := hw'.sat _ (List.mem_cons_self)
 obtain ⟨w', r1, r2, r3, r4, r5, r6, r7⟩ := run_storeCells (P := C.P) (off := off) us 0 cs w h1 (by simp at hlt; omega) hb
 simp only [Nat.add_zero, hn] at r2
 refine wpIn_of_skip (w' := w') (by rw [ho]; rfl) ?_ (hk undef I _ _ ⟨rfl, rfl⟩ (hw'.turn r3 r4 r5 (by omega) (fun k _ hk => r7 k (fun e => hk (by rw [e]; rfl))) r2 (.inl rfl)))
 simp only [execOp, ho, hs.ev hp, hs.ev hx, Instr.storeAt, Instr.sureAddr, storeVar, Value.cells]
 subst hn
 simp [hi.sizeOf, r1]

theorem e_store_all {p x : Operand} {t T : TypeId} {b n bytes : Nat} {z : Value} {cs us : List Value} {F : List HA} (ho : o.op = .store t p x) (hi : TI C.P t n bytes z)
  (hp : ev E p = some (.pointer (some ⟨b, 0, none⟩))) (hx : ev E x = some (.agg us.toArray)) (hn : us.length = n) (h1 : ∀ u ∈ us, u.oneCell' = true) [hpk : PickRow b T cs F H] (hlt : cs.length = n) :
  Eff C E I H o (fun _ I' H' => I = I' ∧ H' = row b T us :: F) := by
 have := e_store_agg (C := C) (E := E) (I := I) (H := H) (off := 0) ho hi hp hx hn h1 (by simp [hlt])
 intro a w hs hw K Q hk
 refine this a w hs hw K Q fun v I' H' w' hp' hw' => hk v I' H' w' ⟨hp'.1, ?_⟩ hw'
 rw [hp'.2]
 simp [List.drop_of_length_le (Nat.le_of_eq hlt)]

theorem vec_owns {w : World} {v : Value} {T : TypeId} {sz n : Nat} {xs : List Value} : vecSat v T sz n xs (look w) ↔ w.ownsRow 0 T sz v n xs := by
 constructor
 ·rintro ⟨h1, h2 | ⟨g, cap, cur, h2, h3, h4⟩⟩
  ·exact ⟨h1, .inl h2⟩
  ·exact ⟨h1, .inr ⟨g, cap, cur, h2, Nat.zero_le _, h3, h4⟩⟩
 ·rintro ⟨h1, h2 | ⟨g, cap, cur, h2, _, h3, h4⟩⟩
  ·exact ⟨h1, .inl h2⟩
  ·exact ⟨h1, .inr ⟨g, cap, cur, h2, h3, h4⟩⟩

theorem e_append {x y : Operand} {t e e' : TypeId} {n m c sz bytes b off : Nat} {v z : Value} {xs news : List Value} {F : List HA} (ho : o.op = .call { callee := .builtin .append, args := #[x, y], argTypes := #[t, t] })
  (ht : C.P.underlying t = some (.slice e)) (hi : TI C.P e sz bytes z) (hz : z.cells.size = sz) (hsz : Nat.blt 0 sz = true)
  (hx : ev E x = some v) (hy : ev E y = some (.slice (some ⟨b, off, none⟩) m c)) [hpk : PickVec v e' sz n xs F H] (hee : e = e')
  (hr : Rds C.w0 I H b off news) (hl : news.length = m * sz) (h1 : ∀ u ∈ news, u.oneCell' = true) (h63 : n + m ≤ maxLen) (hby : (n + m) * bytes ≤ 140737488355328) :
  Eff C E I H o (fun v' I' H' => I = I' ∧ H' = vec v' e' sz (n + m) (xs ++ news) :: F) := by
 subst hee
 intro a w hs hw K Q hk
 have hw' := hw.perm hpk.pick
 have hv : vecSat v e sz n xs (look w) := hw'.sat _ (List.mem_cons_self)
 obtain ⟨i, hii, hi1, hi2, hi3⟩ := hi
 obtain ⟨v', w', hrun, ho', hg, _, hob⟩ := run_append_own_at (P := C.P) w 0 t o.type e i z sz bytes ht hii hi3 hi1 hi2 hz (by simpa using hsz) v n xs (vec_owns.1 hv) ⟨b, off, none⟩ m c news hl
  (fun j u hj => by rw [Addr.add_lit]; exact hr j u hj w hw) h1 h63 hby (Nat.zero_le _)
 refine wpIn_of_run (v := v') (w' := w') (by rw [ho]; rfl) ?_ (hk v' I _ w' ⟨rfl, rfl⟩ (hw'.turn (x := vec v e sz n xs) hg.os hg.tape hg.output hg.size (fun k hk hne => hg.block k hk hne) (vec_owns.2 ho') ?_))
 ·simp only [execOp, ho, resolve]
  simp [hs.ev hx, hs.ev hy, invoke, builtin, hrun]
 ·rcases hob with e | e
  ·exact .inl e
  ·exact .inr ⟨_, e, Nat.le_refl _⟩

/-- an owned slice that will not turn any more becomes data -/
theorem st_freeze {w0 w : World} {v : Value} {T : TypeId} {sz n : Nat} {xss : List (List Value)} {F : List HA} (h : St w0 I (vec v T sz n xss.flatten :: F) w) (hn : xss.length = n) (hu : ∀ cs ∈ xss, cs.length = sz) :
  ∃ J, Le I J ∧ St w0 J F w ∧ Sl J sz v xss := by
 have hv : vecSat v T sz n xss.flatten (look w) := h.sat _ (List.mem_cons_self)
 have hdis := h.dis _ (List.mem_cons_self)
 obtain ⟨hl, hs⟩ := hv
 rcases hs with ⟨rfl, rfl⟩ | ⟨g, cap, cur, rfl, hg, hc1, hc2, hc3, hc4⟩
 ·have : xss = [] := List.eq_nil_of_length_eq_zero hn
  subst this
  exact ⟨I, Le.refl _, h.tail, sl_nil (fun _ h => by cases h)⟩
 ·have hIg : I g = none := hdis g rfl
  let J : Look := fun b => if b = g then some (.cells cur T (0, 0)) else I b
  have hle : Le I J := fun b o hb => by
   show (if b = g then _ else I b) = _
   split
   ·rename_i e; subst e; rw [hIg] at hb; cases hb
   ·exact hb
  refine ⟨J, hle, ?_, ⟨some ⟨g, 0, none⟩, cap, by rw [hn], by omega, (fun _ a ha => by cases ha; rfl), (fun _ h => by cases h)⟩, ?_⟩
  ·refine { h.tail with imm := fun b o hb => ?_, dis := fun y hy b hb => ?_ }
   ·by_cases e : b = g
    ·subst e
     have : o = .cells cur T (0, 0) := by
      have : (if b = b then some (Obj.cells cur T (0, 0)) else I b) = some o := hb
      simpa using this.symm
     subst this
     exact hg
    ·exact h.imm b o (by have : (if b = g then some (Obj.cells cur T (0, 0)) else I b) = some o := hb; rwa [if_neg e] at this)
   ·show (if b = g then _ else I b) = none
    by_cases e : b = g
    ·subst e
     exfalso
     have hsep := h.sep
     unfold owns at hsep
     rw [List.filterMap_cons] at hsep
     exact (List.nodup_cons.1 hsep).1 (List.mem_filterMap.2 ⟨y, hy, hb⟩)
    ·rw [if_neg e]
     exact h.tail.dis y hy b hb
  ·intro i j cs u hi hj
   refine ⟨cur, T, (0, 0), by show (if g = g then _ else _) = _; rw [if_pos rfl], ?_⟩
   show cur[0 + i * sz + j]? = some u
   have hfl : ∀ (l : List (List Value)) (i : Nat) (cs : List Value), (∀ c ∈ l, c.length = sz) → l[i]? = some cs → cs[j]? = some u → l.flatten[i * sz + j]? = some u := by
    intro l
    induction l with
    | nil => intro i cs _ hi; cases hi
    | cons c l ih =>
     intro i cs hu hi hj
     have hc := hu c (List.mem_cons_self)
     cases i with
     | zero =>
      simp only [List.getElem?_cons_zero, Option.some.injEq] at hi
      subst hi
      have hlt := (List.getElem?_eq_some_iff.1 hj).1
      simp only [List.flatten_cons, Nat.zero_mul, Nat.zero_add]
      rw [List.getElem?_append_left hlt]
      exact hj
     | succ i =>
      simp only [List.getElem?_cons_succ] at hi
      simp only [List.flatten_cons]
      rw [Nat.add_mul, Nat.one_mul, List.getElem?_append_right (by omega)]
      rw [show i * sz + sz + j - c.length = i * sz + j by omega]
      exact ih i cs (fun x hx => hu x (List.mem_cons_of_mem _ hx)) hi hj
   have h2 := hfl xss i cs hu hi hj
   rw [← hc4, List.getElem?_take] at h2
   split at h2
   ·simpa using h2
   ·cases h2
end ops
end Go.Tri

/-
 Regions that draw their order: one walk in an order of our own serves every order.
-/
namespace Go.Tri
open Go.RowKit

/-- what a panic is asked does not look at the frame's slots -/
def PutQ (Q : Exit → Act → World → Prop) : Prop := ∀ c a w d v, Q (.panic c) (a.put (some d) v) w → Q (.panic c) a w

section
variable {C : Cx} {ops : Array Oper} {X Z : List Nat} {Q : Exit → Act → World → Prop} {S0 : World → Prop}

/-- Whatever order is picked from here on, in this world and in any that has more garbage. -/
def wa (C : Cx) (ops : Array Oper) (X Z : List Nat) (S0 : World → Prop) (Q : Exit → Act → World → Prop) : Nat → Array Bool → Act → World → Prop
 | 0, listed, a, w => Region.ready .any ops listed = [] ∧ ∀ w2, Below w.heap.size w w2 → Q .normal a w2
 | fuel + 1, listed, a, w => ∀ w2, Below w.heap.size w w2 →
  (Region.ready .any ops listed = [] → Q .normal a w2) ∧
  ∀ i ∈ Region.ready .any ops listed, wpOpIn (WF C.r) 0 C.P ops Q i (fun a' w' => (i ∉ X → Below w2.heap.size w2 w') ∧ (i ∉ Z → S0 w2 → S0 w') ∧ wa C ops X Z S0 Q fuel (listed.setIfInBounds i true) a' w') a w2

theorem below_trans {a b c : World} (h : Below a.heap.size a b) (k : Below b.heap.size b c) : Below a.heap.size a c := h.trans (k.mono h.size)

theorem wa_below : ∀ (fuel : Nat) (listed : Array Bool) (a : Act) (w w' : World), Below w.heap.size w w' → wa C ops X Z S0 Q fuel listed a w → wa C ops X Z S0 Q fuel listed a w'
 | 0, _, _, _, _, hb, h => ⟨h.1, fun w2 h2 => h.2 w2 (below_trans hb h2)⟩
 | _ + 1, _, _, _, _, hb, h => fun w2 h2 => h w2 (below_trans hb h2)

theorem wa_any : ∀ (fuel : Nat) (listed : Array Bool) (a : Act) (w : World), wa C ops X Z S0 Q fuel listed a w → wpAnyIn (WF C.r) 0 C.P .any ops Q fuel listed a w
 | 0, _, _, w, h => ⟨h.1, h.2 w (Below.refl _ _)⟩
 | fuel + 1, _, _, w, h => ⟨(h w (Below.refl _ _)).1, fun i hi => wpOpIn_mono (fun a' w' h' => wa_any fuel _ a' w' h'.2.2) ((h w (Below.refl _ _)).2 i hi)⟩

def plainAll (ops : Array Oper) : Bool := ops.all fun o => match o.op with | .defer _ => false | .select .. => false | _ => true
theorem plainAll_spec (h : plainAll ops = true) {j : Nat} {o : Oper} (ho : ops[j]? = some o) : (∀ c, o.op ≠ .defer c) ∧ (∀ cs b, o.op ≠ .select cs b) := by
 have := Array.all_eq_true_iff_forall_mem.1 h o (Array.mem_of_getElem? ho)
 constructor
 ·intro c heq; simp [heq] at this
 ·intro cs b heq; simp [heq] at this

/-- operation i yields v in state a: in world w and in any with more garbage -/
def Yd (C : Cx) (ops : Array Oper) (o : Oper) (v : Value) (a : Act) (w : World) : Prop :=
 (Region.wanted o (yielded ops a.tmps) = true ∧ ∀ w2, Below w.heap.size w w2 → qAt C o a.eval w2 v) ∨ (Region.wanted o (yielded ops a.tmps) = false ∧ v = undef)

theorem qAt_put {o : Oper} {a : Act} {dst : Option Tmp} {u v : Value} {w : World} (hs : ∀ cs b, o.op ≠ .select cs b) (h : ∀ d, dst = some d → d ∉ o.looksAt ops) :
  qAt C o (a.put dst u).eval w v ↔ qAt C o a.eval w v := by
 unfold qAt
 rw [execOp_put (ops := ops) o hs a dst u h]

theorem wpOp_put {j : Nat} {oi oj : Oper} {v : Value} (hj : ops[j]? = some oj) (hap : oi.apart ops oj = true) (hpj : (∀ c, oj.op ≠ .defer c) ∧ (∀ cs b, oj.op ≠ .select cs b))
  (hQ : PutQ Q) {K : Act → World → Prop} {a : Act} {w : World} (h : wpOpIn (WF C.r) 0 C.P ops Q j K (a.put oi.dst v) w) :
  wpOpIn (WF C.r) 0 C.P ops Q j (fun a' w' => K (a'.put oi.dst v) w' ∧ ∃ u, a'.tmps = (a.put oj.dst u).tmps) a w := by
 obtain ⟨h1, h2, h3⟩ := Oper.apart_spec hap
 unfold wpOpIn at *
 simp only [hj] at *
 rw [wanted_put oj a oi.dst v h1] at h
 have hcomm : ∀ u, (a.put oi.dst v).put oj.dst u = (a.put oj.dst u).put oi.dst v := fun u => Act.put_comm a v u h2
 have hQ' : ∀ c w', Q (.panic c) (a.put oi.dst v) w' → Q (.panic c) a w' := fun c w' hq => by
  cases hd : oi.dst with
  | none => rw [hd] at hq; exact hq
  | some d => rw [hd] at hq; exact hQ c a w' d v hq
 split
 ·rename_i hw
  simp only [hw, if_true] at h
  unfold Oper.wpIn at *
  refine ⟨fun _ _ => trivial, ?_⟩
  have h := h.2
  rw [Oper.semAt_eq _ _ _ hpj.1] at h ⊢
  rw [execOp_put oj hpj.2 a oi.dst v h1] at h
  cases hr : (execOp a.eval oj).run C.P w with
  | halt x w' =>
   rw [hr] at h
   cases x <;> simp only [Oper.uponIn] at h ⊢ <;> first | exact hQ' _ _ h | exact h
  | ok x w' =>
   rw [hr] at h
   cases x <;> simp only [Oper.uponIn] at h ⊢ <;>
    first
     | exact ⟨by rw [← hcomm]; exact h, _, rfl⟩
     | exact ⟨h.1, CallsIn.mono h.2 (fun e w'' he => by cases e <;> first | exact ⟨by rw [← hcomm]; exact he, _, rfl⟩ | exact hQ' _ _ he | exact he)⟩
     | exact ⟨h.1, RowsIn.mono h.2 (fun _ _ he => ⟨by rw [← hcomm]; exact he, _, rfl⟩)⟩
     | exact ⟨h.1, RoundIn.mono h.2 (fun e w'' he => by cases e <;> first | exact ⟨by rw [← hcomm]; exact he, _, rfl⟩ | exact hQ' _ _ he | exact he)⟩
     | exact ⟨by rw [← Act.put_comm _ v undef h2, ← Act.put_defers]; exact h, undef, by cases oj.dst <;> rfl⟩
     | exact h.elim
 ·rename_i hw
  simp only [hw] at h
  exact ⟨fun _ _ => trivial, by rw [← hcomm]; exact h.2, _, rfl⟩

theorem eval_of_tmps {a b : Act} (h : a.tmps = b.tmps) : a.eval = b.eval := by
 funext x
 cases x <;> simp [Act.eval, h]

theorem Yd.next {o oj : Oper} {v u : Value} {a a' : Act} {w w' : World} (hs : ∀ cs b, o.op ≠ .select cs b) (hy : Yd C ops o v a w) (ha : a'.tmps = (a.put oj.dst u).tmps) (hap : o.apart ops oj = true)
  (hw : ∀ w2, Below w'.heap.size w' w2 → Region.wanted o (yielded ops a.tmps) = true → qAt C o a.eval w2 v) : Yd C ops o v a' w' := by
 obtain ⟨_, _, h3⟩ := Oper.apart_spec hap
 have e1 : Region.wanted o (yielded ops a'.tmps) = Region.wanted o (yielded ops a.tmps) := by rw [ha]; exact wanted_put o a oj.dst u h3
 have e2 : a'.eval = (a.put oj.dst u).eval := eval_of_tmps ha
 rcases hy with ⟨h1, _⟩ | ⟨h1, h2⟩
 ·exact .inl ⟨by rw [e1]; exact h1, fun w2 hb => by rw [e2]; exact (qAt_put hs h3).2 (hw w2 hb h1)⟩
 ·exact .inr ⟨by rw [e1]; exact h1, h2⟩

theorem Yd.below {o : Oper} {v : Value} {a : Act} {w w' : World} (hy : Yd C ops o v a w) (hb : Below w.heap.size w w') : Yd C ops o v a w' := by
 rcases hy with ⟨h1, h2⟩ | h
 ·exact .inl ⟨h1, fun w2 h => h2 w2 (below_trans hb h)⟩
 ·exact .inr h

theorem Yd.wpOp {i : Nat} {o : Oper} {v : Value} {a : Act} {w : World} (hi : ops[i]? = some o) (hy : Yd C ops o v a w) {K : Act → World → Prop} (h : ∀ w', Below w.heap.size w w' → K (a.put o.dst v) w') :
  wpOpIn (WF C.r) 0 C.P ops Q i K a w := by
 unfold wpOpIn
 simp only [hi]
 rcases hy with ⟨h1, h2⟩ | ⟨h1, rfl⟩
 ·simp only [h1, if_true]
  exact (h2 w (Below.refl _ _)).wpIn h
 ·simp only [h1, Bool.false_eq_true, if_false]
  exact ⟨fun _ _ => trivial, h w (Below.refl _ _)⟩

/-- listed operations have what they wait for listed -/
def Closed (ops : Array Oper) (listed : Array Bool) : Prop := ∀ (j : Nat) (oj : Oper), ops[j]? = some oj → listed.getD j false = true → ∀ e ∈ oj.after, Region.binds .any e = true → listed.getD e.on false = true
theorem Closed.set {listed : Array Bool} {i : Nat} (h : Closed ops listed) (hi : i ∈ Region.ready .any ops listed) : Closed ops (listed.setIfInBounds i true) := by
 obtain ⟨_, oi, hoi, hall⟩ := mem_ready.1 hi
 intro j oj hj hl e he hb
 by_cases hij : i = j
 ·subst hij
  have : oj = oi := Option.some.inj (hj.symm.trans hoi)
  subst this
  exact getD_set_true (hall e he hb)
 ·rw [getD_set_ne false hij] at hl
  exact getD_set_true (h j oj hj hl e he hb)

/-- j waits for i, by some chain -/
def waits (ops : Array Oper) : Nat → Nat → Nat → Bool
 | 0, _, _ => false
 | f + 1, j, i => match ops[j]? with
  | none => false
  | some oj => oj.after.any (fun e => Region.binds .any e && e.on == i) || oj.after.any (fun e => Region.binds .any e && waits ops f e.on i)
theorem waits_not {i : Nat} {listed : Array Bool} (hc : Closed ops listed) (hi : listed.getD i false = false) : ∀ (f j : Nat), waits ops f j i = true → j ∉ Region.ready .any ops listed ∧ listed.getD j false = false
 | 0, _, h => by cases h
 | f + 1, j, h => by
  unfold waits at h
  split at h
  ·cases h
  ·rename_i oj hj
   have key : ∃ e ∈ oj.after, Region.binds .any e = true ∧ listed.getD e.on false = false := by
    rw [Bool.or_eq_true] at h
    rcases h with h | h
    ·obtain ⟨e, he, hb⟩ := Array.any_eq_true'.1 h
     simp only [Bool.and_eq_true, beq_iff_eq] at hb
     exact ⟨e, he, hb.1, by rw [hb.2]; exact hi⟩
    ·obtain ⟨e, he, hb⟩ := Array.any_eq_true'.1 h
     simp only [Bool.and_eq_true] at hb
     exact ⟨e, he, hb.1, (waits_not hc hi f e.on hb.2).2⟩
   obtain ⟨e, he, hb, hl⟩ := key
   refine ⟨fun hr => ?_, ?_⟩
   ·obtain ⟨_, o', ho', hall⟩ := mem_ready.1 hr
    have : o' = oj := Option.some.inj (ho'.symm.trans hj)
    subst this
    have := hall e he hb
    rw [hl] at this
    cases this
   ·cases hj2 : listed.getD j false with
    | false => rfl
    | true =>
     have := hc j oj hj hj2 e he hb
     rw [hl] at this
     cases this

theorem getD_unlisted {listed : Array Bool} {i : Nat} (h : listed.getD i true = false) : listed.getD i false = false := by
 rcases Nat.lt_or_ge i listed.size with h' | h'
 ·simp [h'] at h ⊢; exact h
 ·simp [Array.getElem?_eq_none h'] at h
/-- **an operation that leaves things alone may be taken first** -/
theorem wa_first (hpl : plainAll ops = true) (hQ : PutQ Q) {i : Nat} {oi : Oper} {v : Value} (hi : ops[i]? = some oi)
  (hX : ∀ j ∈ X, ∃ f, waits ops f j i = true) (hS : ∀ w w', S0 w → Below w.heap.size w w' → S0 w') :
  ∀ (fuel : Nat) (listed : Array Bool) (a : Act) (w : World), Closed ops listed →
   (∀ j oj, ops[j]? = some oj → j ≠ i → listed.getD j true = false → (∀ e ∈ oj.after, Region.binds .any e = true → e.on ≠ i) → oi.apart ops oj = true) →
   i ∈ Region.ready .any ops listed → Yd C ops oi v a w →
   wa C ops X Z S0 Q fuel (listed.setIfInBounds i true) (a.put oi.dst v) w → wa C ops X Z S0 Q (fuel + 1) listed a w := by
 intro fuel
 induction fuel with
 | zero =>
  intro listed a w hcl _ hr hy H w2 hb
  refine ⟨fun h => (by rw [h] at hr; cases hr), fun j hj => ?_⟩
  by_cases hji : j = i
  ·subst hji
   exact (hy.below hb).wpOp hi fun w' hb' => ⟨fun _ => hb', fun _ h0 => hS _ _ h0 hb', wa_below _ _ _ _ _ (below_trans hb hb') H⟩
  ·have := ready_mono hj hji
   rw [H.1] at this
   cases this
 | succ fuel ih =>
  intro listed a w hcl hfree hr hy H w2 hb
  refine ⟨fun h => (by rw [h] at hr; cases hr), fun j hj => ?_⟩
  by_cases hji : j = i
  ·subst hji
   exact (hy.below hb).wpOp hi fun w' hb' => ⟨fun _ => hb', fun _ h0 => hS _ _ h0 hb', wa_below _ _ _ _ _ (below_trans hb hb') H⟩
  ·have h1 := (H w2 hb).2 j (ready_mono hj hji)
   obtain ⟨hjun, oj, hoj, hall⟩ := mem_ready.1 hj
   have hiun := (mem_ready.1 hr).1
   have hiunF : listed.getD i false = false := getD_unlisted hiun
   have hnot : ∀ e ∈ oj.after, Region.binds .any e = true → e.on ≠ i := fun e he hb heq => by
    have h1 := hall e he hb
    rw [heq, hiunF] at h1
    cases h1
   have hap := hfree j oj hoj hji hjun hnot
   have h2 := wpOp_put hoj hap (plainAll_spec hpl hoj) hQ h1
   have hfree' : ∀ k ok, ops[k]? = some ok → k ≠ i → (listed.setIfInBounds j true).getD k true = false →
     (∀ e ∈ ok.after, Region.binds .any e = true → e.on ≠ i) → oi.apart ops ok = true := fun k ok hk hki hun hno => by
    refine hfree k ok hk hki ?_ hno
    by_cases hjk : j = k
    ·subst hjk; exact hjun
    ·rw [getD_set_ne true hjk] at hun; exact hun
   refine wpOpIn_mono (fun a' w' h3 => ?_) h2
   obtain ⟨⟨hk1, hk2, hk3⟩, u, hu⟩ := h3
   refine ⟨hk1, hk2, ih (listed.setIfInBounds j true) a' w' (hcl.set hj) hfree' (ready_mono hr (Ne.symm hji)) ?_ ?_⟩
   ·refine hy.next (plainAll_spec hpl hi).2 hu hap fun w3 hb3 hwt => ?_
    have hjX : j ∉ X := fun hx => by
     obtain ⟨f, hf⟩ := hX j hx
     exact (waits_not hcl hiunF f j hf).1 hj
    rcases hy with ⟨_, hq⟩ | ⟨hq, _⟩
    ·exact hq w3 (below_trans hb (below_trans (hk1 hjX) hb3))
    ·rw [hq] at hwt; cases hwt
   ·rw [Array.setIfInBounds_comm _ _ hji]
    exact hk3
/-- **an operation that leaves things alone may be taken first** -/
theorem wa_firstAt (hpl : plainAll ops = true) (hQ : PutQ Q) {i : Nat} {oi : Oper} {v : Value} (hi : ops[i]? = some oi)
  {ρ : Operand → Value} (hall : ∀ w, S0 w → qAt C oi ρ w v) (hZ : ∀ j ∈ Z, ∃ f, waits ops f j i = true) (hS : ∀ w w', S0 w → Below w.heap.size w w' → S0 w') :
  ∀ (fuel : Nat) (listed : Array Bool) (a : Act) (w : World), Closed ops listed →
   (∀ j oj, ops[j]? = some oj → j ≠ i → listed.getD j true = false → (∀ e ∈ oj.after, Region.binds .any e = true → e.on ≠ i) → oi.apart ops oj = true) →
   i ∈ Region.ready .any ops listed → S0 w → Region.wanted oi (yielded ops a.tmps) = true → a.eval = ρ ∨ execOp a.eval oi = execOp ρ oi →
   wa C ops X Z S0 Q fuel (listed.setIfInBounds i true) (a.put oi.dst v) w → wa C ops X Z S0 Q (fuel + 1) listed a w := by
 intro fuel
 induction fuel with
 | zero =>
  intro listed a w hcl _ hr hs hwt hρ H w2 hb
  have hy : Yd C ops oi v a w := .inl ⟨hwt, fun w2 hb => by have := hall w2 (hS _ _ hs hb); unfold qAt at this ⊢; rcases hρ with e | e <;> rw [e] <;> exact this⟩
  refine ⟨fun h => (by rw [h] at hr; cases hr), fun j hj => ?_⟩
  by_cases hji : j = i
  ·subst hji
   exact (hy.below hb).wpOp hi fun w' hb' => ⟨fun _ => hb', fun _ h0 => hS _ _ h0 hb', wa_below _ _ _ _ _ (below_trans hb hb') H⟩
  ·have := ready_mono hj hji
   rw [H.1] at this
   cases this
 | succ fuel ih =>
  intro listed a w hcl hfree hr hs hwt hρ H w2 hb
  have hy : Yd C ops oi v a w := .inl ⟨hwt, fun w2 hb => by have := hall w2 (hS _ _ hs hb); unfold qAt at this ⊢; rcases hρ with e | e <;> rw [e] <;> exact this⟩
  refine ⟨fun h => (by rw [h] at hr; cases hr), fun j hj => ?_⟩
  by_cases hji : j = i
  ·subst hji
   exact (hy.below hb).wpOp hi fun w' hb' => ⟨fun _ => hb', fun _ h0 => hS _ _ h0 hb', wa_below _ _ _ _ _ (below_trans hb hb') H⟩
  ·have h1 := (H w2 hb).2 j (ready_mono hj hji)
   obtain ⟨hjun, oj, hoj, hall⟩ := mem_ready.1 hj
   have hiun := (mem_ready.1 hr).1
   have hiunF : listed.getD i false = false := getD_unlisted hiun
   have hnot : ∀ e ∈ oj.after, Region.binds .any e = true → e.on ≠ i := fun e he hb heq => by
    have h1 := hall e he hb
    rw [heq, hiunF] at h1
    cases h1
   have hap := hfree j oj hoj hji hjun hnot
   have h2 := wpOp_put hoj hap (plainAll_spec hpl hoj) hQ h1
   have hfree' : ∀ k ok, ops[k]? = some ok → k ≠ i → (listed.setIfInBounds j true).getD k true = false →
     (∀ e ∈ ok.after, Region.binds .any e = true → e.on ≠ i) → oi.apart ops ok = true := fun k ok hk hki hun hno => by
    refine hfree k ok hk hki ?_ hno
    by_cases hjk : j = k
    ·subst hjk; exact hjun
    ·rw [getD_set_ne true hjk] at hun; exact hun
   refine wpOpIn_mono (fun a' w' h3 => ?_) h2
   obtain ⟨⟨hk1, hk2, hk3⟩, u, hu⟩ := h3
   obtain ⟨_, _, h3⟩ := Oper.apart_spec hap
   have hjZ : j ∉ Z := fun hx => by
    obtain ⟨f, hf⟩ := hZ j hx
    exact (waits_not hcl hiunF f j hf).1 hj
   refine ⟨hk1, hk2, ih (listed.setIfInBounds j true) a' w' (hcl.set hj) hfree' (ready_mono hr (Ne.symm hji)) (hk2 hjZ (hS _ _ hs hb)) (by rw [hu, wanted_put oi a oj.dst u h3]; exact hwt) ?_ ?_⟩
   ·refine .inr ?_
    rw [eval_of_tmps hu, execOp_put (ops := ops) oi (plainAll_spec hpl hi).2 a oj.dst u h3]
    rcases hρ with e | e
    ·rw [e]
    ·exact e
   ·rw [Array.setIfInBounds_comm _ _ hji]
    exact hk3
end

/-- what stands through the region: the rows R0 and what does not turn -/
def Held (C : Cx) (I0 : Look) (R0 : List HA) (w : World) : Prop := ∃ I', Le I0 I' ∧ St C.w0 I' R0 w
theorem Held.below {C : Cx} {I0 : Look} {R0 : List HA} {w w' : World} (h : Held C I0 R0 w) (hb : Below w.heap.size w w') : Held C I0 R0 w' := by
 obtain ⟨I', h1, h2⟩ := h
 exact ⟨I', h1, h2.garb hb⟩

/-- a region with a drawn order, some operations listed already -/
def R (C : Cx) (ops : Array Oper) (X Z : List Nat) (I0 : Look) (R0 : List HA) (fuel : Nat) (listed : Array Bool) (E : Env) (I : Look) (H : List HA) (D : List Deferred) (Q : Exit → Act → World → Prop) : Prop :=
 plainAll ops = true → PutQ Q → ∀ a w, Sat E C.n a.tmps → a.defers = D → St C.w0 I H w → wa C ops X Z (Held C I0 R0) Q fuel listed a w

def closedB (ops : Array Oper) (listed : Array Bool) : Bool := (List.range ops.size).all fun j => match ops[j]? with
 | none => true
 | some oj => !listed.getD j false || oj.after.all fun e => !Region.binds .any e || listed.getD e.on false
theorem closedB_spec {ops : Array Oper} {listed : Array Bool} (h : closedB ops listed = true) : Closed ops listed := by
 intro j oj hj hl e he hb
 have h1 := List.all_eq_true.1 h j (List.mem_range.2 (Array.getElem?_eq_some_iff.1 hj).1)
 simp only [hj, hl, Bool.not_true, Bool.false_or] at h1
 have h2 := Array.all_eq_true_iff_forall_mem.1 h1 e he
 simpa [hb] using h2

def waitsAll (ops : Array Oper) (X : List Nat) (i : Nat) : Bool := X.all fun j => waits ops ops.size j i
/-- all that the two rules below ask of a region and a place in it -/
def okQ (ops : Array Oper) (listed : Array Bool) (i : Nat) : Bool := closedB ops listed && (Region.ready .any ops listed).contains i && Region.free .any ops listed i
def okX (ops : Array Oper) (X : List Nat) (listed : Array Bool) (i : Nat) : Bool := (Region.ready .any ops listed).all (Nat.beq · i) && X.contains i

section
variable {C : Cx} {ops : Array Oper} {X Z : List Nat} {I0 I : Look} {R0 H : List HA} {fuel : Nat} {listed : Array Bool} {E : Env} {D : List Deferred} {Q : Exit → Act → World → Prop} {o : Oper}

theorem t_draw {id : Nat} {l : List Oper} (X Z : List Nat) (R0 : List HA) (hm : C.P.follows .mixedOrders = true) (hpl : plainAll l.toArray = true) (hQ : PutQ Q)
  (h : R C l.toArray X Z I R0 l.length (Array.replicate l.length false) E I H D Q) : T C (.region id l.toArray true) E I H D Q := by
 intro a w hs hd hw
 have hb : Below w.heap.size w { w with drawn := w.drawn + 1 } := (Below.refl _ w).drew
 refine wpIn_region_any hm ?_
 have := wa_any _ _ _ _ (h hpl hQ a { w with drawn := w.drawn + 1 } hs hd (hw.garb hb))
 simpa using this

theorem r_end (hr : (Region.ready .any ops listed).isEmpty = true) (k : N C .normal E I H D Q) : R C ops X Z I0 R0 0 listed E I H D Q :=
 fun _ _ a w hs hd hw => ⟨by simpa using hr, fun w2 hb => k a w2 hs hd (hw.garb hb)⟩

/-- an operation that reads what the region will turn later, behind it -/
theorem r_q1 (i : Nat) {v : Value} {d : Nat} (hok : (okQ ops listed i && waitsAll ops X i) = true) (hi : ops[i]? = some o) (hle : Le I0 I)
  (hg : o.guard = none) (hd : o.dst = some d) (hn : Nat.blt d C.n = true) (hq : Quiet C E I H o v)
  (k : R C ops X Z I0 R0 fuel (listed.setIfInBounds i true) ((d, v) :: E) I H D Q) : R C ops X Z I0 R0 (fuel + 1) listed E I H D Q := by
 intro hpl hQ a w hs hda hw
 simp only [okQ, Bool.and_eq_true] at hok
 refine wa_first hpl hQ hi (v := v) (fun j hj => ⟨_, List.all_eq_true.1 hok.2 j hj⟩) (fun _ _ => Held.below) fuel listed a w (closedB_spec hok.1.1.1) (Region.free_spec hi hok.1.2) (by simpa using hok.1.1.2) (.inl ⟨by simp [Region.wanted, hg], fun w2 hb => hq a w2 hs (hw.garb hb)⟩) ?_
 rw [hd]
 exact k hpl hQ _ _ (hs.put (by simpa using hn) v) (by simpa [Act.put] using hda) hw

/-- an operation that reads what stands through the region -/
theorem r_q0 (i : Nat) {v : Value} {d : Nat} (hok : (okQ ops listed i && waitsAll ops Z i) = true) (hi : ops[i]? = some o) (hle : Le I0 I) [hsub : SubC H R0]
  (hg : o.guard = none) (hd : o.dst = some d) (hn : Nat.blt d C.n = true) (hq : ∀ I', Le I0 I' → Quiet C E I' R0 o v)
  (k : R C ops X Z I0 R0 fuel (listed.setIfInBounds i true) ((d, v) :: E) I H D Q) : R C ops X Z I0 R0 (fuel + 1) listed E I H D Q := by
 intro hpl hQ a w hs hda hw
 simp only [okQ, Bool.and_eq_true] at hok
 have hall : ∀ w', Held C I0 R0 w' → qAt C o a.eval w' v := fun w' ⟨I', h1, h2⟩ => hq I' h1 a w' hs h2
 have key := wa_firstAt (C := C) (ops := ops) (X := X) (Z := Z) (Q := Q) (S0 := Held C I0 R0) hpl hQ hi (v := v) (ρ := a.eval) hall (fun j hj => ⟨_, List.all_eq_true.1 hok.2 j hj⟩) (fun _ _ => Held.below) fuel listed a w (closedB_spec hok.1.1.1) (Region.free_spec hi hok.1.2) (by simpa using hok.1.1.2) ⟨I, hle, hw.sub hsub.sub⟩ (by simp [Region.wanted, hg]) (.inl rfl)
 refine key ?_
 rw [hd]
 exact k hpl hQ _ _ (hs.put (by simpa using hn) v) (by simpa [Act.put] using hda) hw

theorem okX_ready {i j : Nat} (h : okX ops X listed i = true) (hj : j ∈ Region.ready .any ops listed) : j = i := by
 simp only [okX, Bool.and_eq_true] at h
 exact Nat.eq_of_beq_eq_true (List.all_eq_true.1 h.1 j hj)

/-- one operation alone may come up -/
theorem r_e (i : Nat) {d : Nat} {Post : Value → Look → List HA → Prop} (hok : okX ops X listed i = true) (hne : (Region.ready .any ops listed).isEmpty = false) (hi : ops[i]? = some o) (hle : Le I0 I)
  (hg : o.guard = none) (hd : o.dst = some d) (hn : Nat.blt d C.n = true) (he : Eff C E I H o Post)
  (k : ∀ v I' H', Post v I' H' → Le I I' ∧ (Z.contains i = true ∨ SubH H' R0) ∧ R C ops X Z I0 R0 fuel (listed.setIfInBounds i true) ((d, v) :: E) I' H' D Q) : R C ops X Z I0 R0 (fuel + 1) listed E I H D Q := by
 intro hpl hQ a w hs hda hw w2 hb
 refine ⟨fun h => (by rw [h] at hne; cases hne), fun j hj => ?_⟩
 obtain rfl := okX_ready hok hj
 unfold wpOpIn
 simp only [hi]
 rw [if_pos (by simp [Region.wanted, hg])]
 refine he a w2 hs (hw.garb hb) _ _ fun v I' H' w' hp hw' => ?_
 obtain ⟨hII, hsub, hk⟩ := k v I' H' hp
 simp only [okX, Bool.and_eq_true] at hok
 refine ⟨fun hx => absurd (by simpa using hok.2) hx, fun hz _ => ?_, ?_⟩
 ·rcases hsub with hc | hsub
  ·exact absurd (by simpa using hc) hz
  ·exact ⟨I', hle.trans hII, hw'.sub hsub⟩
 rw [hd]
 exact hk hpl hQ _ _ (hs.put (by simpa using hn) v) (by simpa [Act.put] using hda) hw'
theorem r_e0 (i : Nat) {Post : Value → Look → List HA → Prop} (hok : okX ops X listed i = true) (hne : (Region.ready .any ops listed).isEmpty = false) (hi : ops[i]? = some o) (hle : Le I0 I)
  (hg : o.guard = none) (hd : o.dst = none) (he : Eff C E I H o Post)
  (k : ∀ v I' H', Post v I' H' → Le I I' ∧ (Z.contains i = true ∨ SubH H' R0) ∧ R C ops X Z I0 R0 fuel (listed.setIfInBounds i true) E I' H' D Q) : R C ops X Z I0 R0 (fuel + 1) listed E I H D Q := by
 intro hpl hQ a w hs hda hw w2 hb
 refine ⟨fun h => (by rw [h] at hne; cases hne), fun j hj => ?_⟩
 obtain rfl := okX_ready hok hj
 unfold wpOpIn
 simp only [hi]
 rw [if_pos (by simp [Region.wanted, hg])]
 refine he a w2 hs (hw.garb hb) _ _ fun v I' H' w' hp hw' => ?_
 obtain ⟨hII, hsub, hk⟩ := k v I' H' hp
 simp only [okX, Bool.and_eq_true] at hok
 refine ⟨fun hx => absurd (by simpa using hok.2) hx, fun hz _ => ?_, ?_⟩
 ·rcases hsub with hc | hsub
  ·exact absurd (by simpa using hc) hz
  ·exact ⟨I', hle.trans hII, hw'.sub hsub⟩
 rw [hd]
 exact hk hpl hQ _ _ hs hda hw'
/-- one operation of several that may come up -/
def RX (C : Cx) (ops : Array Oper) (X Z : List Nat) (I0 : Look) (R0 : List HA) (fuel : Nat) (listed : Array Bool) (E : Env) (I : Look) (H : List HA) (D : List Deferred) (Q : Exit → Act → World → Prop) (m : Nat) : Prop :=
 plainAll ops = true → PutQ Q → ∀ a w, Sat E C.n a.tmps → a.defers = D → St C.w0 I H w →
  wpOpIn (WF C.r) 0 C.P ops Q m (fun a' w' => (m ∉ X → Below w.heap.size w w') ∧ (m ∉ Z → Held C I0 R0 w → Held C I0 R0 w') ∧ wa C ops X Z (Held C I0 R0) Q fuel (listed.setIfInBounds m true) a' w') a w
theorem x_e (i : Nat) {d : Nat} {Post : Value → Look → List HA → Prop} (hX : X.contains i = true) (hi : ops[i]? = some o) (hle : Le I0 I)
  (hg : o.guard = none) (hd : o.dst = some d) (hn : Nat.blt d C.n = true) (he : Eff C E I H o Post)
  (k : ∀ v I' H', Post v I' H' → Le I I' ∧ (Z.contains i = true ∨ SubH H' R0) ∧ R C ops X Z I0 R0 fuel (listed.setIfInBounds i true) ((d, v) :: E) I' H' D Q) : RX C ops X Z I0 R0 fuel listed E I H D Q i := by
 intro hpl hQ a w hs hda hw
 unfold wpOpIn
 simp only [hi]
 rw [if_pos (by simp [Region.wanted, hg])]
 refine he a w hs hw _ _ fun v I' H' w' hp hw' => ?_
 obtain ⟨hII, hsub, hk⟩ := k v I' H' hp
 refine ⟨fun hx => absurd (by simpa using hX) hx, fun hz _ => ?_, ?_⟩
 ·rcases hsub with hc | hsub
  ·exact absurd (by simpa using hc) hz
  ·exact ⟨I', hle.trans hII, hw'.sub hsub⟩
 rw [hd]
 exact hk hpl hQ _ _ (hs.put (by simpa using hn) v) (by simpa [Act.put] using hda) hw'
theorem r_two (i j : Nat) (hok : (Region.ready .any ops listed).all (fun m => Nat.beq m i || Nat.beq m j) = true) (hne : (Region.ready .any ops listed).isEmpty = false)
  (hi : RX C ops X Z I0 R0 fuel listed E I H D Q i) (hj : RX C ops X Z I0 R0 fuel listed E I H D Q j) : R C ops X Z I0 R0 (fuel + 1) listed E I H D Q := by
 intro hpl hQ a w hs hda hw w2 hb
 refine ⟨fun h => (by rw [h] at hne; cases hne), fun m hm => ?_⟩
 have := List.all_eq_true.1 hok m hm
 rw [Bool.or_eq_true] at this
 rcases this with h | h
 ·obtain rfl := Nat.eq_of_beq_eq_true h
  exact hi hpl hQ a w2 hs hda (hw.garb hb)
 ·obtain rfl := Nat.eq_of_beq_eq_true h
  exact hj hpl hQ a w2 hs hda (hw.garb hb)
end
end Go.Tri

/-
 Runs of operations that leave things alone: in regions with a drawn order and without; guarded operations; short circuits.
-/
namespace Go.Tri
open Go.RowKit

/-- the operations in the text's order, each yielding one value in every world of the class -/
def qs (C : Cx) (ops : Array Oper) (I : Look) (H : List HA) (K : Act → Prop) : List Oper → Act → Prop
 | [], a => K a
 | o :: rest, a => (Region.wanted o (yielded ops a.tmps) = true ∧ ∃ v, (∀ w, St C.w0 I H w → qAt C o a.eval w v) ∧ qs C ops I H K rest (a.put o.dst v)) ∨
   (Region.wanted o (yielded ops a.tmps) = false ∧ qs C ops I H K rest (a.put o.dst undef))

section
variable {C : Cx} {ops : Array Oper} {I : Look} {H : List HA} {E : Env} {D : List Deferred} {Q : Exit → Act → World → Prop} {K K' : Act → Prop}

theorem qs_mono (h : ∀ a, K a → K' a) : ∀ (l : List Oper) (a : Act), qs C ops I H K l a → qs C ops I H K' l a
 | [], a, hq => h a hq
 | _ :: rest, _, hq => by
  rcases hq with ⟨h1, v, h2, h3⟩ | ⟨h1, h3⟩
  ·exact .inl ⟨h1, v, h2, qs_mono h rest _ h3⟩
  ·exact .inr ⟨h1, qs_mono h rest _ h3⟩
theorem qs_append : ∀ (l1 l2 : List Oper) (a : Act), qs C ops I H (qs C ops I H K l2) l1 a → qs C ops I H K (l1 ++ l2) a
 | [], _, _, h => h
 | _ :: rest, l2, _, hq => by
  rcases hq with ⟨h1, v, h2, h3⟩ | ⟨h1, h3⟩
  ·exact .inl ⟨h1, v, h2, qs_append rest l2 _ h3⟩
  ·exact .inr ⟨h1, qs_append rest l2 _ h3⟩

theorem qs_list : ∀ (l rest : List Oper) (a : Act) (w : World), qs C ops I H (fun a' => ∀ w', Below w.heap.size w w' → wpListIn (WF C.r) 0 C.P ops Q rest a' w') l a → St C.w0 I H w → wpListIn (WF C.r) 0 C.P ops Q (l ++ rest) a w
 | [], _, _, w, h, _ => h w (Below.refl _ _)
 | o :: l, rest, a, w, h, hw => by
  unfold qs at h
  show wpListIn (WF C.r) 0 C.P ops Q (o :: (l ++ rest)) a w
  refine wpListIn_step fun K hK => ?_
  rcases h with ⟨h1, v, h2, h3⟩ | ⟨h1, h3⟩
  ·rw [if_pos h1]
   refine (h2 w hw).wpIn fun w' hb => hK _ _ (qs_list l rest _ w' (qs_mono (fun a' h w2 hb2 => h w2 (below_trans hb hb2)) l _ h3) (hw.garb hb))
  ·rw [if_neg (by simp [h1])]
   exact ⟨fun _ _ => trivial, hK _ _ (qs_list l rest _ w h3 hw)⟩

theorem put_defers (a : Act) (dst : Option Tmp) (v : Value) : (a.put dst v).defers = a.defers := by cases dst <;> rfl
theorem put_size (a : Act) (dst : Option Tmp) (v : Value) : (a.put dst v).tmps.size = a.tmps.size := by cases dst <;> simp [Act.put]
def dsts (l : List Oper) : List Nat := l.filterMap (·.dst)
/-- slots that nobody writes keep what they hold -/
theorem qs_keeps : ∀ (l : List Oper) (a : Act), qs C ops I H K l a → qs C ops I H (fun a' => K a' ∧ a'.defers = a.defers ∧ a'.tmps.size = a.tmps.size ∧ ∀ t, t ∉ dsts l → a'.tmps[t]? = a.tmps[t]?) l a
 | [], _, h => ⟨h, rfl, rfl, fun _ _ => rfl⟩
 | o :: l, a, hq => by
  have key : ∀ v, qs C ops I H K l (a.put o.dst v) → qs C ops I H (fun a' => K a' ∧ a'.defers = a.defers ∧ a'.tmps.size = a.tmps.size ∧ ∀ t, t ∉ dsts (o :: l) → a'.tmps[t]? = a.tmps[t]?) l (a.put o.dst v) := fun v h => by
   refine qs_mono (fun a' h' => ?_) l _ (qs_keeps l _ h)
   obtain ⟨h1, h2, h3, h4⟩ := h'
   refine ⟨h1, by rw [h2, put_defers], by rw [h3, put_size], fun t ht => ?_⟩
   unfold dsts at ht
   rw [List.filterMap_cons] at ht
   cases hd : o.dst with
   | none =>
    rw [hd] at ht h4
    exact h4 t ht
   | some d =>
    rw [hd] at ht h4
    rw [h4 t (fun h => ht (List.mem_cons_of_mem _ h))]
    have hne : d ≠ t := fun e => ht (by subst e; exact List.mem_cons_self)
    simp [Act.put, Array.getElem?_setIfInBounds_ne hne]
  rcases hq with ⟨h1, v, h2, h3⟩ | ⟨h1, h3⟩
  ·exact .inl ⟨h1, v, h2, key v h3⟩
  ·exact .inr ⟨h1, key undef h3⟩

/-- **one walk in the text's order serves every order** -/
theorem qs_wa (hpl : plainAll ops = true) (hQ : PutQ Q) : ∀ (l : List Oper) (k : Nat) (listed : Array Bool) (a : Act) (w : World), (∀ j, l[j]? = ops[k + j]?) → Region.lexFrom .any ops l.length k listed = true → Closed ops listed → St C.w0 I H w →
  qs C ops I H (fun a' => a'.defers = a.defers → ∀ w', St C.w0 I H w' → Q .normal a' w') l a → wa C ops [] [] (St C.w0 I H) Q l.length listed a w
 | [], _, listed, a, w, _, hB, _, hw, h => ⟨by simpa [Region.lexFrom] using hB, fun w2 hb => h rfl w2 (hw.garb hb)⟩
 | o :: l, k, listed, a, w, hl, hB, hc, hw, h => by
  have h0 : ops[k]? = some o := by simpa using (hl 0).symm
  simp only [List.length_cons, Region.lexFrom, Bool.and_eq_true] at hB
  obtain ⟨⟨hr, hf⟩, hB'⟩ := hB
  have hr' : k ∈ Region.ready .any ops listed := by simpa using hr
  have step : ∀ v, Yd C ops o v a w → qs C ops I H (fun a' => a'.defers = a.defers → ∀ w', St C.w0 I H w' → Q .normal a' w') l (a.put o.dst v) → wa C ops [] [] (St C.w0 I H) Q (l.length + 1) listed a w := fun v hy hq =>
   wa_first hpl hQ h0 (fun j hj => by cases hj) (fun _ _ h hb => h.garb hb) l.length listed a w hc (Region.free_spec h0 hf) hr' hy
    (qs_wa hpl hQ l (k + 1) _ _ w (fun j => by have := hl (j + 1); simpa [Nat.add_assoc, Nat.add_comm 1 j] using this) hB' (hc.set hr') hw (qs_mono (fun a' h' e => h' (e.trans (put_defers _ _ _))) l _ hq))
  rcases h with ⟨h1, v, h2, h3⟩ | ⟨h1, h3⟩
  ·exact step v (.inl ⟨h1, fun w2 hb => h2 w2 (hw.garb hb)⟩) h3
  ·exact step undef (.inr ⟨h1, rfl⟩) h3

def QS (C : Cx) (ops : Array Oper) (l : List Oper) (E : Env) (I : Look) (H : List HA) (K : Act → Prop) : Prop := ∀ a, Sat E C.n a.tmps → qs C ops I H K l a

theorem closed_none (ops : Array Oper) (m : Nat) : Closed ops (Array.replicate m false) := by
 intro j oj _ hl
 exfalso
 rcases Nat.lt_or_ge j m with h | h
 ·simp [h] at hl
 ·simp [h] at hl

/-- what is asked behind a region -/
def Done (C : Cx) (I : Look) (H : List HA) (D : List Deferred) (Q : Exit → Act → World → Prop) (a' : Act) : Prop := a'.defers = D → ∀ w', St C.w0 I H w' → Q .normal a' w'
/-- a region all of whose operations leave things alone -/
theorem t_qreg {id : Nat} {l : List Oper} (hs : QS C l.toArray l E I H (Done C I H D Q)) : T C (.region id l.toArray false) E I H D Q := by
 intro a w hsat hd hw
 have h1 := qs_keeps l a (hs a hsat)
 have h2 := qs_list (Q := Q) l [] a w (qs_mono (fun a' h' w' hb => h'.1 (h'.2.1.trans hd) w' (hw.garb hb)) l a h1) hw
 rw [List.append_nil] at h2
 exact wpIn_region_lit h2
theorem t_qdraw {id : Nat} {l : List Oper} (hm : C.P.follows .mixedOrders = true) (hB : (plainAll l.toArray && Region.lexB .any l.toArray) = true) (hQ : PutQ Q)
  (hs : QS C l.toArray l E I H (Done C I H D Q)) : T C (.region id l.toArray true) E I H D Q := by
 intro a w hsat hd hw
 have hb : Below w.heap.size w { w with drawn := w.drawn + 1 } := (Below.refl _ w).drew
 rw [Bool.and_eq_true] at hB
 obtain ⟨hpl, hB⟩ := hB
 simp only [Region.lexB, Bool.and_eq_true] at hB
 refine wpIn_region_any hm ?_
 have h3 : qs C l.toArray I H (fun a' => a'.defers = a.defers → ∀ w', St C.w0 I H w' → Q .normal a' w') l a := by
  refine qs_mono (fun a' h' => ?_) l a (hs a hsat)
  intro hd' w' hw'
  exact h' (hd'.trans hd) w' hw'
 have h2 := qs_wa (w := { w with drawn := w.drawn + 1 }) hpl hQ l 0 (Array.replicate l.length false) a (by simp) (by simpa using hB.2) (closed_none _ _) (hw.garb hb) h3
 have := wa_any _ _ _ _ h2
 simpa using this

theorem s_done (h : N C .normal E I H D Q) : QS C ops [] E I H (Done C I H D Q) := fun a hs hd w' hw' => h a w' hs hd hw'
theorem s_val {y : Nat} {v : Value} (h : get E y = some v) : QS C ops [] E I H (fun a' => a'.tmps[y]? = some v) := fun _ hs => hs.2 y v h
theorem s_q {o : Oper} {rest : List Oper} {d : Nat} {v : Value} (hg : o.guard = none) (hd : o.dst = some d) (hn : Nat.blt d C.n = true) (hq : Quiet C E I H o v)
  (k : QS C ops rest ((d, v) :: E) I H K) : QS C ops (o :: rest) E I H K := fun a hs =>
 .inl ⟨by simp [Region.wanted, hg], v, fun w hw => hq a w hs hw, by rw [hd]; exact k _ (hs.put (by simpa using hn) v)⟩
theorem yielded_of {a : Act} {j : Nat} {oj : Oper} {dj : Nat} {b : Bool} (hs : Sat E C.n a.tmps) (hj : ops[j]? = some oj) (hdj : oj.dst = some dj) (hb : get E dj = some (.bool b)) : yielded ops a.tmps j = some b := by
 unfold yielded
 simp [hj, hdj, hs.2 dj _ hb]
/-- a guarded operation that is wanted -/
theorem s_g {o oj : Oper} {rest : List Oper} {d j dj : Nat} {b : Bool} {v : Value} (hg : o.guard = some (j, b)) (hj : ops[j]? = some oj) (hdj : oj.dst = some dj) (hb : get E dj = some (.bool b)) (hd : o.dst = some d) (hn : Nat.blt d C.n = true) (hq : Quiet C E I H o v)
  (k : QS C ops rest ((d, v) :: E) I H K) : QS C ops (o :: rest) E I H K := fun a hs =>
 .inl ⟨by simp [Region.wanted, hg, yielded_of hs hj hdj hb], v, fun w hw => hq a w hs hw, by rw [hd]; exact k _ (hs.put (by simpa using hn) v)⟩
def keysOff (l : List Nat) : Env → Bool
 | [] => true
 | (k, _) :: r => !l.contains k && keysOff l r
theorem get_keysOff {l : List Nat} : ∀ {E : Env} {k : Nat} {v : Value}, keysOff l E = true → get E k = some v → k ∉ l
 | (j, u) :: r, k, v, h, hg => by
  unfold keysOff at h
  rw [Bool.and_eq_true] at h
  unfold get at hg
  by_cases e : j = k
  ·subst e
   simpa using h.1
  ·rw [show Nat.beq j k = false from by cases hb : Nat.beq j k with | false => rfl | true => exact absurd (Nat.eq_of_beq_eq_true hb) e] at hg
   exact get_keysOff h.2 hg

end
end Go.Tri
