/-
 A small logic of triples over the model's calculus: a frame is known by a list of slots, memory by a list of owned rows and by what does not turn.
-/
import Derived.WalkKit
import Derived.OwnWalkIn
import Derived.OrdersIn
import Derived.Maps.AppendAt
namespace Go.Tri
open Go.RowKit

def WF (r : Option Nat) : Fence := { fn := fun _ => True, depth := none, alive := false, round := r }
@[simp] theorem Ya (r : Option Nat) : (WF r).round = r := rfl
@[simp] theorem AGt (r : Option Nat) : (WF r).depth = none := rfl
@[simp] theorem AOX (r : Option Nat) (f : FuncId) : (WF r).fn f = True := rfl
theorem M9 : WF none = Fence.wide := rfl

abbrev AU := Nat → Option Obj
def BF (w : World) : AU := fun b => w.heap[b]?
def Le (I J : AU) : Prop := ∀ b o, I b = some o → J b = some o
theorem Le.refl (I : AU) : Le I I := fun _ _ h => h
theorem Le.trans {I J K : AU} (h : Le I J) (k : Le J K) : Le I K := fun b o x => k b o (h b o x)

structure HA where
 own : Option Nat
 sat : AU → Prop
 loc : ∀ h h' : AU, (∀ b, own = some b → h' b = h b) → sat h → sat h'
 dom : ∀ h b, own = some b → sat h → ∃ o, h b = some o

def Fq (b : Nat) (o : Obj) : HA :=
 ⟨some b, fun h => h b = some o, fun _ _ e s => (e b rfl).trans s, fun _ _ e s => by cases e; exact ⟨_, s⟩⟩
def row (b : Nat) (T : TypeId) (cs : List Value) : HA := Fq b (.cells cs.toArray T (0, 0))

def Fz (v : Value) (T : TypeId) (sz n : Nat) (xs : List Value) (h : AU) : Prop :=
 xs.length = n * sz ∧ ((v = .slice none 0 0 ∧ n = 0) ∨
  ∃ g cap cur, v = .slice (some ⟨g, 0, none⟩) n cap ∧ h g = some (.cells cur T (0, 0)) ∧ n ≤ cap ∧ cap ≤ maxLen ∧ cur.size = cap * sz ∧ cur.toList.take (n * sz) = xs)
def PU (v : Value) (T : TypeId) (sz n : Nat) (xs : List Value) : HA :=
 ⟨v.ownBlock, Fz v T sz n xs, fun h h' e s => by
  obtain ⟨hl, hs⟩ := s
  refine ⟨hl, ?_⟩
  rcases hs with hs | ⟨g, cap, cur, rfl, hg, r⟩
  ·exact .inl hs
  ·exact .inr ⟨g, cap, cur, rfl, (e g rfl).trans hg, r⟩, fun h b e s => by
  obtain ⟨_, hs⟩ := s
  rcases hs with ⟨rfl, _⟩ | ⟨g, cap, cur, rfl, hg, _⟩
  ·cases e
  ·cases e; exact ⟨_, hg⟩⟩

def Mo (H : List HA) : List Nat := H.filterMap HA.own

structure St (w0 : World) (I : AU) (H : List HA) (w : World) : Prop where
 os : w.os = w0.os
 tape : w.tape = w0.tape
 output : w.output = w0.output
 size : w0.heap.size ≤ w.heap.size
 imm : ∀ b o, I b = some o → w.heap[b]? = some o
 sat : ∀ x ∈ H, x.sat (BF w)
 sep : (Mo H).Nodup
 dis : ∀ x ∈ H, ∀ b, x.own = some b → I b = none

theorem EQ {w : World} {b : Nat} {o : Obj} (h : w.heap[b]? = some o) : b < w.heap.size := (Array.getElem?_eq_some_iff.1 h).1

theorem St.own_lt {w0 w : World} {I : AU} {H : List HA} (h : St w0 I H w) {x : HA} (hx : x ∈ H) {b : Nat} (hb : x.own = some b) : b < w.heap.size := by
 obtain ⟨o, ho⟩ := x.dom _ b hb (h.sat x hx)
 exact EQ ho

theorem St.start (w : World) (I : AU) (hI : Le I (BF w)) : St w I [] w :=
 ⟨rfl, rfl, rfl, Nat.le_refl _, fun b o h => hI b o h, (fun _ h => by cases h), (by simp [Mo]), (fun _ h => by cases h)⟩

theorem St.garb {w0 w w' : World} {I : AU} {H : List HA} (h : St w0 I H w) (g : Below w.heap.size w w') : St w0 I H w' where
 os := g.os.trans h.os
 tape := g.tape.trans h.tape
 output := g.output.trans h.output
 size := Nat.le_trans h.size g.size
 imm := fun b o hb => by have := h.imm b o hb; rw [g.block b (EQ this)]; exact this
 sat := fun x hx => x.loc _ _ (fun b hb => g.block b (h.own_lt hx hb)) (h.sat x hx)
 sep := h.sep
 dis := h.dis

theorem St.below {w0 w : World} {H : List HA} (h : St w0 (BF w0) H w) : Below w0.heap.size w0 w :=
 ⟨h.os, h.tape, h.output, h.size, fun k hk => by
  have hs : w0.heap[k]? = some w0.heap[k] := Array.getElem?_eq_getElem hk
  rw [h.imm k _ hs, hs]⟩

theorem St.le {w0 w : World} {I : AU} {H : List HA} (h : St w0 I H w) : Le I (BF w) := h.imm

theorem Wr {H H' : List HA} (p : H.Perm H') : (Mo H).Perm (Mo H') := p.filterMap _

theorem St.perm {w0 w : World} {I : AU} {H H' : List HA} (h : St w0 I H w) (p : H.Perm H') : St w0 I H' w :=
 { h with
  sat := fun x hx => h.sat x (p.mem_iff.2 hx)
  sep := (Wr p).nodup_iff.1 h.sep
  dis := fun x hx => h.dis x (p.mem_iff.2 hx) }

theorem St.tail {w0 w : World} {I : AU} {x : HA} {H : List HA} (h : St w0 I (x :: H) w) : St w0 I H w :=
 { h with
  sat := fun y hy => h.sat y (List.mem_cons_of_mem _ hy)
  sep := by
   have := h.sep
   unfold Mo at this ⊢
   rw [List.filterMap_cons] at this
   split at this
   ·exact this
   ·exact (List.nodup_cons.1 this).2
  dis := fun y hy => h.dis y (List.mem_cons_of_mem _ hy) }

theorem St.less {w0 w : World} {I J : AU} {H : List HA} (h : St w0 J H w) (Ec : Le I J) : St w0 I H w :=
 { h with
  imm := fun b o hb => h.imm b o (Ec b o hb)
  dis := fun x hx b hb => by
   have := h.dis x hx b hb
   cases hI : I b with
   | none => rfl
   | some o => rw [Ec b o hI] at this; cases this }

theorem St.rebase {w0 w1 w : World} {I J : AU} {H H' : List HA} (h : St w0 I H w1) (k : St w1 J H' w) : St w0 J H' w :=
 { k with os := k.os.trans h.os, tape := k.tape.trans h.tape, output := k.output.trans h.output, size := Nat.le_trans h.size k.size }

theorem St.new {w0 w : World} {I : AU} {H : List HA} (h : St w0 I H w) (o : Obj) : St w0 I (Fq w.heap.size o :: H) (w.alloc o) := by
 have g : Below w.heap.size w (w.alloc o) := (Below.refl _ w).alloc (Nat.le_refl _) o
 have h' := h.garb g
 refine { h' with sat := ?_, sep := ?_, dis := ?_ }
 ·intro x hx
  rcases List.mem_cons.1 hx with rfl | hx
  ·exact heap_alloc_new w o
  ·exact h'.sat x hx
 ·unfold Mo
  rw [List.filterMap_cons]
  show (w.heap.size :: Mo H).Nodup
  refine List.nodup_cons.2 ⟨fun hm => ?_, h.sep⟩
  obtain ⟨x, hx, he⟩ := List.mem_filterMap.1 hm
  have := h.own_lt hx he
  omega
 ·intro x hx b hb
  rcases List.mem_cons.1 hx with rfl | hx
  ·cases hb
   cases hI : I w.heap.size with
   | none => rfl
   | some o' => have := EQ (h.imm _ _ hI); omega
  ·exact h.dis x hx b hb

theorem St.turn {w0 w w' : World} {I : AU} {x y : HA} {F : List HA} (h : St w0 I (x :: F) w)
  (os : w'.os = w.os) (tape : w'.tape = w.tape) (output : w'.output = w.output) (size : w.heap.size ≤ w'.heap.size)
  (same : ∀ k, k < w.heap.size → some k ≠ x.own → w'.heap[k]? = w.heap[k]?)
  (hy : y.sat (BF w')) (AJu : y.own = x.own ∨ ∃ b, y.own = some b ∧ w.heap.size ≤ b) : St w0 I (y :: F) w' := by
 have hx : ∀ z ∈ F, ∀ b, z.own = some b → some b ≠ x.own := by
  intro z hz b hb he
  have hs := h.sep
  unfold Mo at hs
  rw [List.filterMap_cons, ← he] at hs
  exact (List.nodup_cons.1 hs).1 (List.mem_filterMap.2 ⟨z, hz, hb⟩)
 refine ⟨os.trans h.os, tape.trans h.tape, output.trans h.output, Nat.le_trans h.size size, ?_, ?_, ?_, ?_⟩
 ·intro b o hb
  have hw := h.imm b o hb
  rw [same b (EQ hw) (fun e => by have := h.dis x (List.mem_cons_self) b e.symm; rw [this] at hb; cases hb)]
  exact hw
 ·intro z hz
  rcases List.mem_cons.1 hz with rfl | hz
  ·exact hy
  ·exact z.loc _ _ (fun b hb => same b (h.own_lt (List.mem_cons_of_mem _ hz) hb) (hx z hz b hb)) (h.sat z (List.mem_cons_of_mem _ hz))
 ·have ht := h.tail.sep
  unfold Mo at ht ⊢
  rw [List.filterMap_cons]
  cases hyo : y.own with
  | none => exact ht
  | some b =>
   refine List.nodup_cons.2 ⟨fun hm => ?_, ht⟩
   obtain ⟨z, hz, he⟩ := List.mem_filterMap.1 hm
   rcases AJu with e | ⟨b', e, Ec⟩
   ·exact hx z hz b he (by rw [← hyo]; exact e)
   ·rw [hyo] at e; cases e
    have := h.own_lt (List.mem_cons_of_mem _ hz) he
    omega
 ·intro z hz b hb
  rcases List.mem_cons.1 hz with rfl | hz
  ·rcases AJu with e | ⟨b', e, Ec⟩
   ·exact h.dis x (List.mem_cons_self) b (by rw [← e]; exact hb)
   ·rw [hb] at e; cases e
    cases hI : I b with
    | none => rfl
    | some o' => have := EQ (h.imm _ _ hI); omega
  ·exact h.dis z (List.mem_cons_of_mem _ hz) b hb

def Hg : List (Nat × Value) → Nat → Option Value
 | [], _ => none
 | (j, v) :: r, k => bif Nat.beq j k then some v else Hg r k
def ev (E : List (Nat × Value)) : Operand → Option Value
 | .tmp t => Hg E t
 | .const v => some v
 | .func f => some (.func (.func f) #[] #[])
 | .global g => some (.pointer (some ⟨g, 0, none⟩))
def evs (E : List (Nat × Value)) : List Operand → Option (List Value)
 | [] => some []
 | x :: r => match ev E x, evs E r with
  | some v, some vs => some (v :: vs)
  | _, _ => none

def G2 (E : List (Nat × Value)) (n : Nat) (τ : Array Value) : Prop := τ.size = n ∧ ∀ k v, Hg E k = some v → τ[k]? = some v

theorem G2.ev {E : List (Nat × Value)} {n : Nat} {a : Act} (h : G2 E n a.tmps) {x : Operand} {v : Value} (hx : ev E x = some v) : a.eval x = v := by
 cases x with
 | tmp t =>
  have := h.2 t v hx
  simp [Act.eval, this]
 | const u => cases hx; rfl
 | global g => cases hx; rfl
 | func f => cases hx; rfl

theorem G2.evs {E : List (Nat × Value)} {n : Nat} {a : Act} (h : G2 E n a.tmps) : ∀ {xs : List Operand} {vs : List Value}, evs E xs = some vs → xs.map a.eval = vs
 | [], _, hx => by cases hx; rfl
 | x :: r, vs, hx => by
  unfold Tri.evs at hx
  split at hx
  ·rename_i v vs' h1 h2
   cases hx
   rw [List.map_cons, h.ev h1, h.evs h2]
  ·cases hx

theorem G2.put {E : List (Nat × Value)} {n d : Nat} {a : Act} (h : G2 E n a.tmps) (hd : d < n) (v : Value) : G2 ((d, v) :: E) n (a.put (some d) v).tmps := by
 refine ⟨by simpa [Act.put] using h.1, fun k u hk => ?_⟩
 unfold Hg at hk
 by_cases e : d = k
 ·subst e
  rw [show Nat.beq d d = true from Nat.beq_refl d] at hk
  cases hk
  simp [Act.put, h.1, hd]
 ·rw [show Nat.beq d k = false from by cases hb : Nat.beq d k with | false => rfl | true => exact absurd (Nat.eq_of_beq_eq_true hb) e] at hk
  have := h.2 k u hk
  simpa [Act.put, Array.getElem?_setIfInBounds_ne e] using this

def Kd (E E' : List (Nat × Value)) : Prop := ∀ k v, Hg E' k = some v → Hg E k = some v
theorem G2.sub {E E' : List (Nat × Value)} {n : Nat} {τ : Array Value} (h : G2 E n τ) (hs : Kd E E') : G2 E' n τ := ⟨h.1, fun k v hk => h.2 k v (hs k v hk)⟩
theorem AW {E : List (Nat × Value)} : Kd E [] := fun _ _ h => by cases h
theorem FI {E E' : List (Nat × Value)} {k : Nat} {v : Value} (h : Hg E k = some v) (hs : Kd E E') : Kd E ((k, v) :: E') := by
 intro j u hj
 unfold Hg at hj
 by_cases e : k = j
 ·subst e
  rw [show Nat.beq k k = true from Nat.beq_refl k] at hj
  cases hj
  exact h
 ·rw [show Nat.beq k j = false from by cases hb : Nat.beq k j with | false => rfl | true => exact absurd (Nat.eq_of_beq_eq_true hb) e] at hj
  exact hs j u hj
theorem Bl {E E' : List (Nat × Value)} {k : Nat} {v v' : Value} (h : Hg E k = some v') (e : v' = v) (hs : Kd E E') : Kd E ((k, v) :: E') := FI (e ▸ h) hs
theorem Kd.refl (E : List (Nat × Value)) : Kd E E := fun _ _ h => h

structure Cx where
 P : Program
 r : Option Nat
 n : Nat
 w0 : World

abbrev DJ := List (Nat × Value)

def T (C : Cx) (c : Code) (E : DJ) (I : AU) (H : List HA) (D : List Deferred) (Q : Exit → Act → World → Prop) : Prop :=
 ∀ a w, G2 E C.n a.tmps → a.defers = D → St C.w0 I H w → c.wpIn (WF C.r) 0 C.P Q a w
def L (C : Cx) (ops : Array Oper) (l : List Oper) (E : DJ) (I : AU) (H : List HA) (D : List Deferred) (Q : Exit → Act → World → Prop) : Prop :=
 ∀ a w, G2 E C.n a.tmps → a.defers = D → St C.w0 I H w → wpListIn (WF C.r) 0 C.P ops Q l a w
def N (C : Cx) (e : Exit) (E : DJ) (I : AU) (H : List HA) (D : List Deferred) (Q : Exit → Act → World → Prop) : Prop :=
 ∀ a w, G2 E C.n a.tmps → a.defers = D → St C.w0 I H w → Q e a w

section code
variable {C : Cx} {E : DJ} {I : AU} {H : List HA} {D : List Deferred} {Q : Exit → Act → World → Prop}

theorem AN {x y : Code} (h : T C x E I H D (Exit.then (y.wpIn (WF C.r) 0 C.P Q) Q)) : T C (.seq x y) E I H D Q :=
 fun a w hs hd hw => wpIn_seq (h a w hs hd hw)
theorem Ai {y : Code} (h : T C y E I H D Q) : N C .normal E I H D (Exit.then (y.wpIn (WF C.r) 0 C.P Q) Q) := h
theorem Ag {K : Act → World → Prop} (h : N C .ret E I H D Q) : N C .ret E I H D (Exit.then K Q) := h
theorem AG {K : Act → World → Prop} {id : Nat} (h : N C (.exit id) E I H D Q) : N C (.exit id) E I H D (Exit.then K Q) := h
theorem As {id : Nat} (h : N C .ret E I H D Q) : N C .ret E I H D (Exit.inBlock id Q) := h
theorem AV {id : Nat} (h : N C .normal E I H D Q) : N C .normal E I H D (Exit.inBlock id Q) := h
theorem AQ {id : Nat} (h : N C .normal E I H D Q) : N C (.exit id) E I H D (Exit.inBlock id Q) := fun a w hs hd hw => by
 have := h a w hs hd hw
 simpa [Exit.inBlock] using this
theorem CB {id id' : Nat} (e : Nat.beq id id' = false) (h : N C (.exit id) E I H D Q) : N C (.exit id) E I H D (Exit.inBlock id' Q) := fun a w hs hd hw => by
 have := h a w hs hd hw
 have e' : ¬ id = id' := fun x => by subst x; rw [show Nat.beq id id = true from Nat.beq_refl id] at e; cases e
 simpa [Exit.inBlock, e'] using this
theorem Au (h : N C .normal E I H D Q) : T C .skip E I H D Q := fun a w hs hd hw => wpIn_skip (h a w hs hd hw)
theorem BB {id : Nat} (h : N C (.exit id) E I H D Q) : T C (.exit id) E I H D Q := fun a w hs hd hw => wpIn_exit (h a w hs hd hw)
theorem Aq (h : N C .ret E I H D Q) : T C .ret E I H D Q := fun a w hs hd hw => wpIn_ret (h a w hs hd hw)
theorem AR {id : Nat} {c : Code} (h : T C c E I H D (Exit.inBlock id Q)) : T C (.block id c) E I H D Q := fun a w hs hd hw => wpIn_block (h a w hs hd hw)
theorem AF {c : Operand} {x y : Code} {b : Bool} (hc : ev E c = some (.bool b)) (ht : b = true → T C x E I H D Q) (hf : b = false → T C y E I H D Q) : T C (.cond c x y) E I H D Q :=
 fun a w hs hd hw => wpIn_cond_split (hs.ev hc) (fun e => ht e a w hs hd hw) (fun e => hf e a w hs hd hw)
theorem AH {id : Nat} {l : List Oper} (h : L C l.toArray l E I H D Q) : T C (.region id l.toArray false) E I H D Q :=
 fun a w hs hd hw => wpIn_region_lit (h a w hs hd hw)
theorem BX {ops : Array Oper} (h : N C .normal E I H D Q) : L C ops [] E I H D Q := h

theorem ADH {ops : Array Oper} {l : List Oper} {E' : DJ} (hs : Kd E E') (h : L C ops l E' I H D Q) : L C ops l E I H D Q := fun a w s hd hw => h a w (s.sub hs) hd hw
theorem Ym {c : Code} {Q' : Exit → Act → World → Prop} (h : T C c E I H D Q') (hq : ∀ e a w, Q' e a w → Q e a w) : T C c E I H D Q := fun a w s hd hw => wpIn_mono (h a w s hd hw) hq

def Vg {ι : Type} (C : Cx) (Cd : ι → Prop) (μ : ι → Nat) (EI : ι → DJ) (II : ι → AU) (HI : ι → List HA) (D : List Deferred) (i : ι) (a : Act) (w : World) : Prop :=
 ∃ j, Cd j ∧ μ j < μ i ∧ G2 (EI j) C.n a.tmps ∧ a.defers = D ∧ St C.w0 (II j) (HI j) w
theorem AEK {ι : Type} {c : Code} (Cd : ι → Prop) (μ : ι → Nat) (EI : ι → DJ) (II : ι → AU) (HI : ι → List HA) (i0 : ι) (hc : Cd i0) (he : Kd E (EI i0))
  (hh : ∀ w, St C.w0 I H w → St C.w0 (II i0) (HI i0) w)
  (round : ∀ i, Cd i → T C c (EI i) (II i) (HI i) D (Exit.then (Vg C Cd μ EI II HI D i) Q)) : T C (.loop c) E I H D Q := by
 intro a w hs hd hw b k cs hro hb hr
 have key : ∀ m i a w, μ i = m → Cd i → G2 (EI i) C.n a.tmps → a.defers = D → St C.w0 (II i) (HI i) w →
   ∃ e a' w', Q e a' w' ∧ ArrivesIn (Machine.fenced C.P (WF C.r)) C.P (lone (b.atR a (.code c :: .inLoop c :: k)) cs w) b k cs e a' w' := by
  intro m
  induction m using Nat.strongRecOn with
  | _ m ih =>
   intro i a w hk hci hs hd hw
   obtain ⟨e, a₁, w₁, hq, HD⟩ := round i hci a w hs hd hw b (.inLoop c :: k) cs hro hb hr
   cases e with
   | normal =>
    obtain ⟨j, hcj, FA, hsj, MS, hwj⟩ := hq
    obtain ⟨e₂, a₂, w₂, hq₂, harr₂⟩ := ih (μ j) (hk ▸ FA) j a₁ w₁ rfl hcj hsj MS hwj
    exact ⟨e₂, a₂, w₂, hq₂, .of_steps (StepsIn.trans HD (.one (fenced_calm hb hr rfl) stepR_inLoop)) harr₂⟩
   | exit id => exact ⟨_, a₁, w₁, hq, .pass (x := .inLoop c) rfl (fun _ _ => .inl (by simp)) HD⟩
   | goto l => exact ⟨_, a₁, w₁, hq, .pass (x := .inLoop c) rfl (fun _ _ => .inl (by simp)) HD⟩
   | ret => exact ⟨_, a₁, w₁, hq, .pass (x := .inLoop c) rfl (fun _ _ => .inl (by simp)) HD⟩
   | panic ch => exact ⟨_, a₁, w₁, hq, .pass (x := .inLoop c) rfl (fun _ _ => .inl (by simp)) HD⟩
   | outgrown => exact ⟨_, a₁, w₁, hq, .pass (x := .inLoop c) rfl (fun _ _ => .inl (by simp)) HD⟩
 obtain ⟨e, a', w', hq, HD⟩ := key _ i0 a w rfl hc (hs.sub he) hd (hh w hw)
 exact ⟨e, a', w', hq, .of_steps (.one (fenced_calm hb hr rfl) stepR_loop) HD⟩
theorem ABI {ι : Type} {Cd : ι → Prop} {μ : ι → Nat} {EI : ι → DJ} {II : ι → AU} {HI : ι → List HA} {i : ι} (j : ι) (hc : Cd j) (hm : μ j < μ i) (he : Kd E (EI j))
  (hh : ∀ w, St C.w0 I H w → St C.w0 (II j) (HI j) w) : N C .normal E I H D (Exit.then (Vg C Cd μ EI II HI D i) Q) :=
 fun _ w hs hd hw => ⟨j, hc, hm, hs.sub he, hd, hh w hw⟩
theorem VG : ∀ (A B : DJ) (k : Nat), Hg (A ++ B) k = match Hg A k with | some v => some v | none => Hg B k
 | [], _, _ => rfl
 | (j, v) :: A, B, k => by
  show (bif Nat.beq j k then some v else Hg (A ++ B) k) = match (bif Nat.beq j k then some v else Hg A k) with | some v => some v | none => Hg B k
  cases Nat.beq j k with
  | true => rfl
  | false => exact VG A B k
theorem LO {A B : DJ} (h : Kd E A) (k : Kd E B) : Kd E (A ++ B) := by
 intro j v hj
 rw [VG] at hj
 split at hj
 ·rename_i u hu
  cases hj
  exact h j _ hu
 ·exact k j v hj

theorem A8 {ι : Type} {c : Code} (Cd : ι → Prop) (μ : ι → Nat) (EV : ι → DJ) (E0 : DJ) (II : ι → AU) (HI : ι → List HA) (i0 : ι) (hc : Cd i0) (he : Kd E (EV i0)) (TU : Kd E E0)
  (hh : ∀ w, St C.w0 I H w → St C.w0 (II i0) (HI i0) w)
  (round : ∀ i, Cd i → T C c (EV i ++ E0) (II i) (HI i) D (Exit.then (Vg C Cd μ (fun i => EV i ++ E0) II HI D i) Q)) : T C (.loop c) E I H D Q :=
 AEK Cd μ (fun i => EV i ++ E0) II HI i0 hc (LO he TU) hh round
theorem Ak {ι : Type} {Cd : ι → Prop} {μ : ι → Nat} {EV : ι → DJ} {E0 : DJ} {II : ι → AU} {HI : ι → List HA} {i : ι} (j : ι) (hc : Cd j) (hm : μ j < μ i) (he : Kd E (EV j)) (TU : Kd E E0)
  (hh : ∀ w, St C.w0 I H w → St C.w0 (II j) (HI j) w) : N C .normal E I H D (Exit.then (Vg C Cd μ (fun i => EV i ++ E0) II HI D i) Q) :=
 ABI j hc hm (LO he TU) hh
def Cut {ι : Type} (C : Cx) (Cd : ι → Prop) (EV : ι → DJ) (E0 : DJ) (II : ι → AU) (HI : ι → List HA) (D : List Deferred) (a : Act) (w : World) : Prop :=
 ∃ j, Cd j ∧ G2 (EV j ++ E0) C.n a.tmps ∧ a.defers = D ∧ St C.w0 (II j) (HI j) w
theorem AGS {ι : Type} {x y : Code} (Cd : ι → Prop) (EV : ι → DJ) (E0 : DJ) (II : ι → AU) (HI : ι → List HA)
  (hx : T C x E I H D (Exit.then (Cut C Cd EV E0 II HI D) Q)) (hy : ∀ i, Cd i → T C y (EV i ++ E0) (II i) (HI i) D Q) : T C (.seq x y) E I H D Q := by
 intro a w hs hd hw
 refine wpIn_seq (wpIn_mono (hx a w hs hd hw) ?_)
 intro e a' w' hq
 cases e with
 | normal =>
  obtain ⟨j, h1, h2, h3, h4⟩ := hq
  exact hy j h1 a' w' h2 h3 h4
 | exit id => exact hq
 | goto t => exact hq
 | ret => exact hq
 | panic c => exact hq
 | outgrown => exact hq
theorem Bh {ι : Type} {x y : Code} (Cd : ι → Prop) (EV : ι → DJ) (E0 : DJ) (II : ι → AU) (HI : ι → List HA) (_ : Kd E E0)
  (hx : T C x E I H D (Exit.then (Cut C Cd EV E0 II HI D) Q)) (hy : ∀ i, Cd i → T C y (EV i ++ E0) (II i) (HI i) D Q) : T C (.seq x y) E I H D Q := AGS Cd EV E0 II HI hx hy
theorem Av {ι : Type} {Cd : ι → Prop} {EV : ι → DJ} {E0 : DJ} {II : ι → AU} {HI : ι → List HA} (j : ι) (hc : Cd j) (he : Kd E (EV j)) (TU : Kd E E0)
  (hh : ∀ w, St C.w0 I H w → St C.w0 (II j) (HI j) w) : N C .normal E I H D (Exit.then (Cut C Cd EV E0 II HI D) Q) :=
 fun _ w hs hd hw => ⟨j, hc, hs.sub (LO he TU), hd, hh w hw⟩
end code
end Go.Tri

namespace Go.Tri
open Go.RowKit

def Bj (l : List UInt8) : Value := .string ⟨l.toArray⟩
def u8 (c : UInt8) : Value := .int .u8 (c.toNat : Int)
def nth {α : Type} (l : List α) (i : Nat) (d : α) : α := l.getD i d
theorem Ed {α : Type} {l : List α} {i : Nat} {d : α} (h : i < l.length) : nth l i d = l[i] := by simp [nth, List.getD, h]
theorem Mz {α : Type} {l : List α} {i : Nat} {d : α} (h : i < l.length) : l[i]? = some (nth l i d) := by rw [Ed h, List.getElem?_eq_getElem h]
theorem Bi {α : Type} {l : List α} {i : Nat} (d : α) (h : i < l.length) : l.drop i = nth l i d :: l.drop (i + 1) := by rw [Ed h]; exact List.drop_eq_getElem_cons h
theorem D2 {α : Type} {l : List α} {i : Nat} (d : α) (h : i < l.length) : l.take (i + 1) = l.take i ++ [nth l i d] := by rw [Ed h]; exact List.take_succ_eq_append_getElem h
theorem DG {α : Type} {l : List α} {i : Nat} {d : α} (h : i < l.length) : nth l i d ∈ l := by rw [Ed h]; exact List.getElem_mem h
def Ii : Op → Bool
 | .defer _ => false
 | _ => true

section ops
variable {C : Cx} {E : DJ} {I : AU} {H : List HA} {D : List Deferred} {Q : Exit → Act → World → Prop} {o : Oper}

def Rx (C : Cx) (o : Oper) (ρ : Operand → Value) (w : World) (v : Value) : Prop :=
 Ii o.op = true ∧ match (execOp ρ o).run C.P w with
  | .ok (.value u) w' => w' = w ∧ u = v
  | .ok (.enter f args) w' => w' = w ∧ Calls C.P f args w (fun e w'' => e = .returned v ∧ Below w.heap.size w w'')
  | _ => False
def BS (C : Cx) (E : DJ) (I : AU) (H : List HA) (o : Oper) (v : Value) : Prop :=
 ∀ (a : Act) (w : World), G2 E C.n a.tmps → St C.w0 I H w → Rx C o a.eval w v

theorem C3 {a : Act} {w w' : World} {K : Act → World → Prop} {v : Value} (hd : Ii o.op = true)
  (h : (execOp a.eval o).run C.P w = .ok (.value v) w') (hk : K (a.put o.dst v) w') : o.wpIn (WF C.r) 0 C.P a w K Q := by
 refine ⟨fun f _ => trivial, ?_⟩
 rw [Oper.semAt_eq _ _ _ (fun c hc => by rw [hc] at hd; cases hd), h]
 exact hk
theorem Ff {a : Act} {w w' : World} {K : Act → World → Prop} (hd : Ii o.op = true)
  (h : (execOp a.eval o).run C.P w = .ok .skip w') (hk : K (a.put o.dst undef) w') : o.wpIn (WF C.r) 0 C.P a w K Q := by
 refine ⟨fun f _ => trivial, ?_⟩
 rw [Oper.semAt_eq _ _ _ (fun c hc => by rw [hc] at hd; cases hd), h]
 exact hk
theorem IV {a : Act} {w : World} {K : Act → World → Prop} {f : FuncId} {args : Array Value} {R : Value → World → Prop} (hd : Ii o.op = true)
  (h : (execOp a.eval o).run C.P w = .ok (.enter f args) w) (hc : Calls C.P f args w (fun e w'' => ∃ v, e = .returned v ∧ R v w'')) (hk : ∀ v w'', R v w'' → K (a.put o.dst v) w'') : o.wpIn (WF C.r) 0 C.P a w K Q := by
 refine ⟨fun f _ => trivial, ?_⟩
 rw [Oper.semAt_eq _ _ _ (fun c hc => by rw [hc] at hd; cases hd), h]
 refine ⟨fun h => by simp at h, ?_⟩
 have hcc : CallsIn Fence.wide 0 C.P f args w (fun e w'' => ∃ v, e = .returned v ∧ R v w'') := callsIn_wide.2 hc
 have hcr : CallsIn (WF C.r) 0 C.P f args w (fun e w'' => ∃ v, e = .returned v ∧ R v w'') := hcc
 exact hcr.mono fun e w'' ⟨v, he, hr⟩ => by subst he; exact hk v w'' hr
theorem Rx.wpIn {a : Act} {w : World} {K : Act → World → Prop} {v : Value} (h : Rx C o a.eval w v) (hk : ∀ w', Below w.heap.size w w' → K (a.put o.dst v) w') : o.wpIn (WF C.r) 0 C.P a w K Q := by
 obtain ⟨hp, h⟩ := h
 split at h
 ·rename_i u w' hr
  obtain ⟨rfl, rfl⟩ := h
  exact C3 hp hr (hk _ (Below.refl _ _))
 ·rename_i f args w' hr
  obtain ⟨rfl, hc⟩ := h
  exact IV (R := fun u w'' => u = v ∧ Below w'.heap.size w' w'') hp hr (hc.mono fun e w'' ⟨he, hb⟩ => ⟨v, he, rfl, hb⟩) fun u w'' ⟨hu, hb⟩ => by subst hu; exact hk w'' hb
 ·exact h.elim

theorem Bk {v : Value} (hd : Ii o.op = true)
  (h : ∀ (a : Act) (w : World), G2 E C.n a.tmps → St C.w0 I H w → (execOp a.eval o).run C.P w = .ok (.value v) w) : BS C E I H o v :=
 fun a w hs hw => ⟨hd, by rw [h a w hs hw]; exact ⟨rfl, rfl⟩⟩

theorem l_q {ops : Array Oper} {rest : List Oper} {d : Nat} {v : Value} (hg : o.guard = none) (hd : o.dst = some d) (hn : Nat.blt d C.n = true)
  (hq : BS C E I H o v) (k : L C ops rest ((d, v) :: E) I H D Q) : L C ops (o :: rest) E I H D Q := by
 intro a w hs IY hw
 refine wpListIn_plain hg fun K hK => (hq a w hs hw).wpIn fun w' g => hK _ _ ?_
 rw [hd]
 exact k _ _ (hs.put (by simpa using hn) v) (by simpa [Act.put] using IY) (hw.garb g)

theorem Gc {x : Operand} {v : Value} (ho : o.op = .move x) (hx : ev E x = some v) : BS C E I H o v :=
 Bk (by rw [ho]; rfl) fun a w hs _ => by simp [execOp, ho, hs.ev hx]
theorem YV {x : Operand} {v : Value} (ho : o.op = .assign x) (hx : ev E x = some v) : BS C E I H o v :=
 Bk (by rw [ho]; rfl) fun a w hs _ => by simp [execOp, ho, hs.ev hx]

theorem Cl {op : BinOp} {x y : Operand} {t t' : TypeId} {u v r : Value} (ho : o.op = .binOp op t x y t') (hx : ev E x = some u) (hy : ev E y = some v)
  (hr : ∀ w, (do eqGuard op t x y u v; binOp op t u v : Sem Value).run C.P w = .ok r w) : BS C E I H o r :=
 Bk (by rw [ho]; rfl) fun a w hs _ => by
  simp only [execOp, ho, hs.ev hx, hs.ev hy]
  rw [Sem.run_bind, hr]
  rfl

section ints
variable {x y : Operand} {t t' : TypeId} {k : IntKind} {m n : Int}
theorem AJt (ho : o.op = .binOp .add t x y t') (hx : ev E x = some (.int k m)) (hy : ev E y = some (.int k n)) : BS C E I H o (.int k (k.wrap (m + n))) :=
 Cl ho hx hy fun w => by simp [go_sem]
theorem ADD (ho : o.op = .binOp .sub t x y t') (hx : ev E x = some (.int k m)) (hy : ev E y = some (.int k n)) : BS C E I H o (.int k (k.wrap (m - n))) :=
 Cl ho hx hy fun w => by simp [go_sem]
theorem AHb (ho : o.op = .binOp .mul t x y t') (hx : ev E x = some (.int k m)) (hy : ev E y = some (.int k n)) : BS C E I H o (.int k (k.wrap (m * n))) :=
 Cl ho hx hy fun w => by simp [go_sem]
theorem AX (ho : o.op = .binOp .add t x y t') (hx : ev E x = some (.int .i64 m)) (hy : ev E y = some (.int .i64 n)) (h : -9223372036854775808 ≤ m + n ∧ m + n ≤ 9223372036854775807) : BS C E I H o (.int .i64 (m + n)) := by
 have := AJt (C := C) (I := I) (H := H) ho hx hy
 rwa [IntWalk.i64_in _ h] at this
theorem Fa (ho : o.op = .binOp .sub t x y t') (hx : ev E x = some (.int .i64 m)) (hy : ev E y = some (.int .i64 n)) (h : -9223372036854775808 ≤ m - n ∧ m - n ≤ 9223372036854775807) : BS C E I H o (.int .i64 (m - n)) := by
 have := ADD (C := C) (I := I) (H := H) ho hx hy
 rwa [IntWalk.i64_in _ h] at this
theorem AGR (ho : o.op = .binOp .lss t x y t') (hx : ev E x = some (.int k m)) (hy : ev E y = some (.int k n)) : BS C E I H o (.bool (decide (m < n))) :=
 Cl ho hx hy fun w => by simp [go_sem]
theorem AGH (ho : o.op = .binOp .leq t x y t') (hx : ev E x = some (.int k m)) (hy : ev E y = some (.int k n)) : BS C E I H o (.bool (decide (m ≤ n))) :=
 Cl ho hx hy fun w => by simp [go_sem]
theorem AHR (ho : o.op = .binOp .gtr t x y t') (hx : ev E x = some (.int k m)) (hy : ev E y = some (.int k n)) : BS C E I H o (.bool (decide (n < m))) :=
 Cl ho hx hy fun w => by simp [go_sem]
theorem AGM (ho : o.op = .binOp .geq t x y t') (hx : ev E x = some (.int k m)) (hy : ev E y = some (.int k n)) : BS C E I H o (.bool (decide (n ≤ m))) :=
 Cl ho hx hy fun w => by simp [go_sem]
theorem Vo (ho : o.op = .binOp .eql t x y t') (hx : ev E x = some (.int k m)) (hy : ev E y = some (.int k n)) : BS C E I H o (.bool (decide (m = n))) :=
 Cl ho hx hy fun w => by simp [go_sem]; rfl
theorem X8 (ho : o.op = .binOp .neq t x y t') (hx : ev E x = some (.int k m)) (hy : ev E y = some (.int k n)) : BS C E I H o (.bool (decide (m ≠ n))) :=
 Cl ho hx hy fun w => by simp [go_sem]; rfl
end ints

section strings
variable {x y i j : Operand} {t t' : TypeId} {s s' : List UInt8} {k kl kh : IntKind} {m n : Int}
theorem DC (s : List UInt8) : (⟨s.toArray⟩ : ByteArray).size = s.length := by simp [ByteArray.size]
theorem Hh {b : Builtin} {args : Array Operand} {ts : Array TypeId} {vs : List Value} {r : Value} (ho : o.op = .call { callee := .builtin b, args := args, argTypes := ts })
  (he : evs E args.toList = some vs) (hr : ∀ cs w, (builtin b ts o.type cs vs.toArray).run C.P w = .ok (.value r) w) : BS C E I H o r :=
 Bk (by rw [ho]; rfl) fun a w hs _ => by
  have h1 : args.map a.eval = vs.toArray := by
   rw [← hs.evs he]; cases args; simp
  simp only [execOp, ho, resolve, h1]
  rw [Sem.run_bind, Sem.run_pure]
  exact hr _ w
theorem Ap (ho : o.op = .call { callee := .builtin .len, args := #[x], argTypes := #[t] }) (ht : C.P.underlying t = some .string) (hx : ev E x = some (Bj s)) :
  BS C E I H o (.int .i64 (s.length : Int)) :=
 Hh ho (vs := [Bj s]) (by simp [evs, hx]) fun cs w => by
  simp [builtin, Bj, Builtin.len_, run_underlying ht, goInt, DC]
theorem DL (ho : o.op = .index t x i) (ht : C.P.underlying t = some .string) (hx : ev E x = some (Bj s)) (hi : ev E i = some (.int k m)) (h : 0 ≤ m ∧ m < s.length) :
  BS C E I H o (u8 (nth s m.toNat 0)) :=
 Bk (by rw [ho]; rfl) fun a w hs _ => by
  have h1 := hs.ev hx
  have h2 := hs.ev hi
  have FA : m.toNat < s.length := by omega
  have hg : (⟨s.toArray⟩ : ByteArray)[m.toNat]? = some s[m.toNat] := by
   rw [getElem?_pos _ _ (by simpa [ByteArray.size] using FA)]; rfl
  simp [execOp, ho, h1, h2, Bj, Instr.index, run_underlying ht, asIntOf, h.1, hg, u8, Ed FA]
theorem BM (ho : o.op = .binOp .eql t x y t') (hx : ev E x = some (Bj s)) (hy : ev E y = some (Bj s')) : BS C E I H o (.bool (decide (s = s'))) :=
 Cl ho hx hy fun w => by
  simp [eqGuard, Bj, binOp, Op.stringOp, ByteArray.toList_eq]; rw [Bool.eq_iff_iff]; simp
end strings
end ops
end Go.Tri

namespace Go.Tri
open Go.RowKit

def Rb : Nat → List Value → DJ
 | _, [] => []
 | k, v :: r => (k, v) :: Rb (k + 1) r

theorem Kq : ∀ (vs : List Value) (k j : Nat) (v : Value), Hg (Rb k vs) j = some v → k ≤ j ∧ vs[j - k]? = some v
 | [], _, _, _, h => by cases h
 | u :: r, k, j, v, h => by
  unfold Rb Hg at h
  by_cases e : k = j
  ·subst e
   rw [show Nat.beq k k = true from Nat.beq_refl k] at h
   cases h
   exact ⟨Nat.le_refl _, by simp⟩
  ·rw [show Nat.beq k j = false from by cases hb : Nat.beq k j with | false => rfl | true => exact absurd (Nat.eq_of_beq_eq_true hb) e] at h
   obtain ⟨h1, h2⟩ := Kq r (k + 1) j v h
   refine ⟨by omega, ?_⟩
   rw [show j - k = (j - (k + 1)) + 1 by omega, List.getElem?_cons_succ]
   exact h2

theorem enter {P : Program} {f : FuncId} {fn : Func} {c : Code} {args : List Value} {R : Ending → World → Prop} {n : Nat} {w : World} {I : AU} {H : List HA}
  (hf : P.funcs[f]? = some fn) (hb : fn.body = some c) (hn : fn.ntmps = n) (ha : Nat.ble args.length n = true) (Dh : St w I H w)
  (h : T ⟨P, none, n, w⟩ c (Rb 0 args) I H [] (bodyPost P fn R)) : Calls P f args.toArray w R := by
 have hal : args.length ≤ n := by simpa using ha
 refine callsIn_wide (n := 0).1 (callsIn_of_wp hf hb trivial ?_)
 refine h _ w ⟨by simp [hn, hal], fun k v hk => ?_⟩ rfl Dh
 obtain ⟨_, h2⟩ := Kq args 0 k v hk
 have FA : k < args.length := by
  have := (List.getElem?_eq_some_iff.1 h2).1
  omega
 show (args.toArray ++ Array.replicate (fn.ntmps - args.toArray.size) undef)[k]? = some v
 rw [Array.getElem?_append_left (by simpa using FA)]
 simpa using h2

section ret
variable {C : Cx} {E : DJ} {I : AU} {H : List HA} {R : Ending → World → Prop} {fn : Func}

theorem A1 {t : Nat} {v : Value} (hr : fn.results = #[.tmp t]) (hv : Hg E t = some v) (k : ∀ w, St C.w0 I H w → R (.returned v) w) : N C .ret E I H [] (bodyPost C.P fn R) := by
 intro a w hs hd hw
 refine ⟨hd, v, ?_, k w hw⟩
 rw [results_tmp hr]
 simp [hs.2 t v hv]
theorem Jb (hr : fn.results = #[]) (k : ∀ w, St C.w0 I H w → R (.returned (.tuple #[])) w) : N C .ret E I H [] (bodyPost C.P fn R) :=
 fun a w _ hd hw => ⟨hd, _, results_none hr _ _ _, k w hw⟩
theorem Cm (hr : fn.results = #[]) (k : ∀ w, St C.w0 I H w → R (.returned (.tuple #[])) w) : N C .normal E I H [] (bodyPost C.P fn R) :=
 fun a w _ hd hw => ⟨hd, _, results_none hr _ _ _, k w hw⟩
theorem Dt {t u : Nat} {v x : Value} (hr : fn.results = #[.tmp t, .tmp u]) (hv : Hg E t = some v) (hx : Hg E u = some x) (k : ∀ w, St C.w0 I H w → R (.returned (.tuple #[v, x])) w) : N C .ret E I H [] (bodyPost C.P fn R) := by
 intro a w hs hd hw
 refine ⟨hd, _, ?_, k w hw⟩
 rw [results_tmp2 hr]
 simp [hs.2 t v hv, hs.2 u x hx]
theorem Hf {t u s r : Nat} {v x y z : Value} (hr : fn.results = #[.tmp t, .tmp u, .tmp s, .tmp r]) (hv : Hg E t = some v) (hx : Hg E u = some x) (hy : Hg E s = some y) (hz : Hg E r = some z)
  (k : ∀ w, St C.w0 I H w → R (.returned (.tuple #[v, x, y, z])) w) : N C .ret E I H [] (bodyPost C.P fn R) := by
 intro a w hs hd hw
 refine ⟨hd, .tuple #[v, x, y, z], ?_, k w hw⟩
 simp [results, hr, hs.2 t v hv, hs.2 u x hx, hs.2 s y hy, hs.2 r z hz]
end ret

theorem Gg {P : Program} {f : FuncId} {fn : Func} (hf : P.funcs[f]? = some fn) (hn : (fn.name == "runtime.NumGoroutine") = false) (hb : fn.body.isNone = false) (xs : Array Value) (w : World) : (callFunc f xs).run P w = .ok (.enter f xs) w := by
 have hn' : ¬ fn.name = "runtime.NumGoroutine" := by simpa using hn
 have hb' : ¬ fn.body = none := by cases h : fn.body <;> simp_all
 simp [callFunc, hf, hn', hb']

def Cw (P : Program) (f : FuncId) (args : List Value) (w : World) (v : Value) : Prop :=
 Calls P f args.toArray w fun e w' => e = .returned v ∧ Below w.heap.size w w'

theorem T4 {C : Cx} {E : DJ} {I : AU} {H : List HA} {o : Oper} {g : Operand} {f : FuncId} {args : Array Operand} {ts : Array TypeId} {vs : List Value} {v : Value}
  (ho : o.op = .call { callee := .value g, args := args, argTypes := ts }) (hg : ev E g = some (.func (.func f) #[] #[])) (he : evs E args.toList = some vs)
  {fn : Func} (Oi : C.P.funcs[f]? = some fn) (M5 : (fn.name == "runtime.NumGoroutine") = false) (Nt : fn.body.isNone = false)
  (hc : ∀ w, St C.w0 I H w → Cw C.P f vs w v) : BS C E I H o v := by
 intro a w hs hw
 have h1 : args.map a.eval = vs.toArray := by
  rw [← hs.evs he]; cases args; simp
 have DV : (execOp a.eval o).run C.P w = .ok (.enter f vs.toArray) w := by
  simp only [execOp, ho, resolve, h1, hs.ev hg]
  simp [Deferred.ofValue, invoke, Gg Oi M5 Nt]
 refine ⟨by rw [ho]; rfl, ?_⟩
 rw [DV]
 exact ⟨rfl, hc w hw⟩
end Go.Tri

namespace Go.Tri
open Go.RowKit

def Ji : TypeDesc → Bool
 | .struct _ | .array _ _ => false
 | _ => true
theorem Dz {P : Program} {t : TypeId} {d : TypeDesc} (h : P.underlying t = some d) (hd : Ji d = true) (w : World) : (isAgg t).run P w = .ok false w := by
 unfold isAgg
 rw [Sem.run_bind, run_underlying h]
 cases d <;> first | rfl | cases hd
theorem Ja {P : Program} {t : TypeId} {fs : Array Field} (h : P.underlying t = some (.struct fs)) (w : World) : (isAgg t).run P w = .ok true w := by
 unfold isAgg
 rw [Sem.run_bind, run_underlying h]
 rfl
def TI (P : Program) (t : TypeId) (size bytes : Nat) (z : Value) : Prop := ∃ i, P.info? t = some i ∧ i.size = size ∧ i.bytes = bytes ∧ i.zero = some z
theorem Ej {P : Program} {t : TypeId} {size bytes : Nat} {z : Value} (h : (P.info? t).map (fun i => (i.size, i.bytes, i.zero)) = some (size, bytes, some z)) : TI P t size bytes z := by
 cases hi : P.info? t with
 | none => rw [hi] at h; cases h
 | some i =>
  rw [hi] at h
  simp only [Option.map_some, Option.some.injEq, Prod.mk.injEq] at h
  exact ⟨i, hi, h.1, h.2.1, h.2.2⟩
theorem TI.sizeOf {P : Program} {t : TypeId} {size bytes : Nat} {z : Value} (h : TI P t size bytes z) (w : World) : (Go.sizeOf t).run P w = .ok size w := by
 obtain ⟨i, hi, h1, _, _⟩ := h
 unfold Go.sizeOf
 simp [typeInfo, hi, h1]
theorem TI.zero {P : Program} {t : TypeId} {size bytes : Nat} {z : Value} (h : TI P t size bytes z) (w : World) : (zeroValue t).run P w = .ok z w := by
 obtain ⟨i, hi, _, _, h3⟩ := h
 unfold zeroValue
 simp [typeInfo, hi, h3]

def Rd (w0 : World) (I : AU) (H : List HA) (b o : Nat) (u : Value) : Prop := ∀ w, St w0 I H w → w.cell? ⟨b, o, none⟩ = some u
def GF (I : AU) (b o : Nat) (u : Value) : Prop := ∃ cur T fr, I b = some (.cells cur T fr) ∧ cur[o]? = some u
theorem GF.mono {I J : AU} {b o : Nat} {u : Value} (h : GF I b o u) (Ec : Le I J) : GF J b o u := by
 obtain ⟨cur, T, fr, h1, h2⟩ := h
 exact ⟨cur, T, fr, Ec _ _ h1, h2⟩
section
variable {w0 : World} {I : AU} {H : List HA} {b o : Nat} {u : Value}
theorem B2 (h : GF I b o u) : Rd w0 I H b o u := fun w hw => by
 obtain ⟨cur, T, fr, h1, h2⟩ := h
 unfold World.cell?
 simp only [hw.imm b _ h1]
 exact h2
theorem Tb {T : TypeId} {cs : List Value} (hm : row b T cs ∈ H) (hu : cs[o]? = some u) : Rd w0 I H b o u := fun w hw => by
 have h1 : w.heap[b]? = some (.cells cs.toArray T (0, 0)) := hw.sat _ hm
 unfold World.cell?
 simp only [h1]
 simpa using hu
def GN (v : Value) : Addr := match v with | .slice (some a) _ _ => a | _ => ⟨0, 0, none⟩
theorem Zu {v : Value} {T : TypeId} {sz n j : Nat} {xs : List Value} (hm : PU v T sz n xs ∈ H) (hu : xs[j]? = some u) : Rd w0 I H (GN v).block ((GN v).off + j) u := fun w hw => by
 obtain ⟨hl, hs⟩ := hw.sat _ hm
 rcases hs with ⟨rfl, rfl⟩ | ⟨g, cap, cur, rfl, hg, hn, hc, Lj, rfl⟩
 ·have := (List.getElem?_eq_some_iff.1 hu).1
  rw [hl] at this
  simp at this
 ·unfold World.cell?
  have hg' : w.heap[g]? = some (.cells cur T (0, 0)) := hg
  simp only [GN, hg']
  rw [List.getElem?_take] at hu
  split at hu
  ·simpa using hu
  ·cases hu
end

def Sl (I : AU) (sz : Nat) (v : Value) (xss : List (List Value)) : Prop :=
 (∃ A c, v = .slice A xss.length c ∧ xss.length ≤ c ∧ (xss ≠ [] → ∀ a, A = some a → a.spot = none) ∧ (xss ≠ [] → A ≠ none)) ∧
 ∀ i j cs u, xss[i]? = some cs → cs[j]? = some u → GF I (GN v).block ((GN v).off + i * sz + j) u
theorem Sl.mono {I J : AU} {sz : Nat} {v : Value} {xss : List (List Value)} (h : Sl I sz v xss) (Ec : Le I J) : Sl J sz v xss :=
 ⟨h.1, fun i j cs u h1 h2 => (h.2 i j cs u h1 h2).mono Ec⟩
theorem Fv {I : AU} {sz c : Nat} {A : Option Addr} (hA : ∀ a, A = some a → a.spot = none) : Sl I sz (.slice A 0 c) [] :=
 ⟨⟨A, c, rfl, Nat.zero_le _, fun _ => hA, fun h => absurd rfl h⟩, fun _ _ _ _ h => by cases h⟩

def Lh (v : Value) : Prop := v.cells = #[v] ∧ v.oneCell' = true
theorem Sl.one {I : AU} {sz : Nat} {v : Value} {xss : List (List Value)} (h : Sl I sz v xss) : Lh v := by
 obtain ⟨⟨A, c, rfl, _⟩, _⟩ := h
 exact ⟨rfl, rfl⟩

theorem YQ {P : Program} {w : World} {a : Addr} {u : Value} (h : w.cell? a = some u) : (load a).run P w = .ok u w := by
 simp [load, Sem.run, h]

section ops
variable {C : Cx} {E : DJ} {I : AU} {H : List HA} {D : List Deferred} {Q : Exit → Act → World → Prop} {o : Oper}

theorem To {x : Operand} {t : TypeId} {d : TypeDesc} {b off : Nat} {u : Value} (ho : o.op = .load t x) (ht : C.P.underlying t = some d) (hd : Ji d = true)
  (hx : ev E x = some (.pointer (some ⟨b, off, none⟩))) (hr : Rd C.w0 I H b off u) : BS C E I H o u :=
 Bk (by rw [ho]; rfl) fun a w hs hw => by
  have h1 := hs.ev hx
  have h2 := hr w hw
  simp [execOp, ho, h1, Instr.loadAt, Instr.sureAddr, loadVar, Dz ht hd, load, Sem.run, h2]

def XH (w0 : World) (I : AU) (H : List HA) (b o : Nat) (us : List Value) : Prop := ∀ j u, us[j]? = some u → Rd w0 I H b (o + j) u
theorem QR {w0 : World} {b k n : Nat} {T : TypeId} {cs us : List Value} (hm : row b T cs ∈ H) (hu : (cs.drop k).take n = us) : XH w0 I H b k us := fun j u hj => by
 refine Tb hm ?_
 subst hu
 rw [List.getElem?_take] at hj
 split at hj
 ·rw [← List.getElem?_drop]; exact hj
 ·cases hj
theorem ABH {w0 : World} {b k : Nat} {us : List Value} (h : ∀ j u, us[j]? = some u → GF I b (k + j) u) : XH w0 I H b k us := fun j u hj => B2 (h j u hj)

theorem KB {P : Program} {w : World} {b k : Nat} {us : List Value} (h : ∀ j u, us[j]? = some u → w.cell? ⟨b, k + j, none⟩ = some u) :
  (loadCells ⟨b, k, none⟩ us.length).run P w = .ok us.toArray w := by
 unfold loadCells
 have key : ∀ (m i : Nat) (acc : Array Value), i + m = us.length → acc = (us.take i).toArray → (loadCellsFrom ⟨b, k, none⟩ i m acc).run P w = .ok us.toArray w := by
  intro m
  induction m with
  | zero =>
   intro i acc hi ha
   rw [show i = us.length by omega, List.take_length] at ha
   simp [loadCellsFrom, ha]
  | succ m ih =>
   intro i acc hi ha
   have FA : i < us.length := by omega
   have hc := h i us[i] (List.getElem?_eq_getElem FA)
   simp only [loadCellsFrom]
   rw [Sem.run_bind]
   rw [Addr.add_lit, YQ hc]
   simp only [Result.andThen_ok]
   refine ih (i + 1) _ (by omega) ?_
   subst ha
   rw [List.take_succ_eq_append_getElem FA]
   simp
 exact key us.length 0 #[] (by omega) (by simp)

theorem Bc {x : Operand} {t : TypeId} {fs : Array Field} {b off n bytes : Nat} {z : Value} {us : List Value} (ho : o.op = .load t x) (ht : C.P.underlying t = some (.struct fs)) (hi : TI C.P t n bytes z) (hn : us.length = n)
  (hx : ev E x = some (.pointer (some ⟨b, off, none⟩))) (hr : XH C.w0 I H b off us) : BS C E I H o (.agg us.toArray) :=
 Bk (by rw [ho]; rfl) fun a w hs hw => by
  have h1 := hs.ev hx
  have h2 := KB (P := C.P) (w := w) (b := b) (k := off) (us := us) (fun j u hj => hr j u hj w hw)
  subst hn
  simp [execOp, ho, h1, Instr.loadAt, Instr.sureAddr, loadVar, Ja ht, hi.sizeOf, h2]

theorem T2 {x : Operand} {a : Addr} (ho : o.op = .nilCheck x) (hx : ev E x = some (.pointer (some a))) : BS C E I H o (.pointer (some a)) :=
 Bk (by rw [ho]; rfl) fun ac w hs _ => by simp [execOp, ho, hs.ev hx]

theorem Sy {x : Operand} {t tf : TypeId} {fs : Array Field} {k b off n bytes : Nat} {z : Value} {f : Field} (ho : o.op = .fieldAddr t x k) (ht : C.P.underlying t = some (.struct fs))
  (hf : fs[k]? = some f) (htf : f.type = tf) (hi : TI C.P tf n bytes z) (hn : Nat.ble 1 n = true) (hx : ev E x = some (.pointer (some ⟨b, off, none⟩))) : BS C E I H o (.pointer (some ⟨b, off + f.offset, none⟩)) :=
 Bk (by rw [ho]; rfl) fun a w hs _ => by
  have hn' : n ≠ 0 := by
   have : 1 ≤ n := by simpa using hn
   omega
  subst htf
  simp [execOp, ho, hs.ev hx, Instr.fieldAt, run_underlying ht, hf, Instr.sureAddr, fieldPlace, hi.sizeOf, hn', Addr.add_lit]

theorem DZ {x i : Operand} {t e : TypeId} {v z : Value} {k : IntKind} {m : Int} {n sz bytes : Nat} (ho : o.op = .indexAddr t x i) (ht : C.P.underlying t = some (.slice e)) (hi : TI C.P e sz bytes z)
  (hx : ev E x = some v) (ZT : ev E i = some (.int k m)) (hv : ∃ A c, v = .slice A n c ∧ (0 < n → ∀ a, A = some a → a.spot = none) ∧ (0 < n → A ≠ none)) (h0 : 0 ≤ m ∧ m < n) :
  BS C E I H o (.pointer (some ⟨(GN v).block, (GN v).off + m.toNat * sz, none⟩)) :=
 Bk (by rw [ho]; rfl) fun a w hs _ => by
  obtain ⟨A, c, rfl, QU, EZ⟩ := hv
  cases A with
  | none => exact absurd rfl (EZ (by omega))
  | some ad =>
   have Xh := QU (by omega) ad rfl
   have ALX : ad.add (m.toNat * sz) = ⟨ad.block, ad.off + m.toNat * sz, none⟩ := by
    obtain ⟨b, of, sp⟩ := ad
    cases Xh
    exact Addr.add_lit b of _
   simp [execOp, ho, hs.ev hx, hs.ev ZT, Instr.indexAt, run_underlying ht, hi.sizeOf, asIntOf, h0, GN, ALX]
theorem Sl.shape {sz n : Nat} {v : Value} {xss : List (List Value)} (h : Sl I sz v xss) (hn : xss.length = n) : ∃ A c, v = .slice A n c ∧ (0 < n → ∀ a, A = some a → a.spot = none) ∧ (0 < n → A ≠ none) := by
 obtain ⟨⟨A, c, rfl, _, h1, h2⟩, _⟩ := h
 subst hn
 exact ⟨A, c, rfl, fun hp => h1 (List.ne_nil_of_length_pos hp), fun hp => h2 (List.ne_nil_of_length_pos hp)⟩

theorem CN {x : Operand} {t e : TypeId} {v : Value} {n : Nat} (ho : o.op = .call { callee := .builtin .len, args := #[x], argTypes := #[t] }) (ht : C.P.underlying t = some (.slice e)) (hx : ev E x = some v)
  (hv : ∃ A c, v = .slice A n c) : BS C E I H o (.int .i64 (n : Int)) :=
 Hh ho (vs := [v]) (by simp [evs, hx]) fun cs w => by
  obtain ⟨A, c, rfl⟩ := hv
  simp [builtin, Builtin.len_, run_underlying ht, goInt]
theorem Sl.len {sz : Nat} {v : Value} {xss : List (List Value)} (h : Sl I sz v xss) : ∃ A c, v = .slice A xss.length c := by
 obtain ⟨⟨A, c, rfl, _⟩, _⟩ := h
 exact ⟨A, c, rfl⟩
theorem XE {x : Operand} {t e te : TypeId} {v : Value} {n sz : Nat} {xs : List Value} (ho : o.op = .call { callee := .builtin .len, args := #[x], argTypes := #[t] }) (ht : C.P.underlying t = some (.slice e)) (hx : ev E x = some v)
  (hm : PU v te sz n xs ∈ H) : BS C E I H o (.int .i64 (n : Int)) := by
 intro a w hs hw
 have hv : ∃ A c, v = .slice A n c := by
  obtain ⟨_, hh⟩ := hw.sat _ hm
  rcases hh with ⟨rfl, rfl⟩ | ⟨g, cap, cur, rfl, _⟩
  ·exact ⟨_, _, rfl⟩
  ·exact ⟨_, _, rfl⟩
 exact CN (C := C) (I := I) (H := H) ho ht hx hv a w hs hw
theorem Mt {x i : Operand} {t e te : TypeId} {v z : Value} {k : IntKind} {m : Int} {n sz sz' bytes : Nat} {xs : List Value} (ho : o.op = .indexAddr t x i) (ht : C.P.underlying t = some (.slice e)) (hi : TI C.P e sz bytes z)
  (hx : ev E x = some v) (ZT : ev E i = some (.int k m)) (hm : PU v te sz' n xs ∈ H) (h0 : 0 ≤ m ∧ m < n) :
  BS C E I H o (.pointer (some ⟨(GN v).block, (GN v).off + m.toNat * sz, none⟩)) := by
 intro a w hs hw
 have hv : ∃ A c, v = .slice A n c ∧ (0 < n → ∀ a, A = some a → a.spot = none) ∧ (0 < n → A ≠ none) := by
  obtain ⟨_, hh⟩ := hw.sat _ hm
  rcases hh with ⟨rfl, rfl⟩ | ⟨g, cap, cur, rfl, _⟩
  ·exact ⟨_, _, rfl, (fun _ a ha => by cases ha), (fun h => absurd h (by omega))⟩
  ·exact ⟨_, _, rfl, (fun _ a ha => by cases ha; rfl), (fun _ h => by cases h)⟩
 exact DZ (C := C) (I := I) (H := H) ho ht hi hx ZT hv h0 a w hs hw

theorem AGs {x : Operand} {t : TypeId} {b : Bool} (ho : o.op = .unOp .not t x) (hx : ev E x = some (.bool b)) : BS C E I H o (.bool (!b)) :=
 Bk (by rw [ho]; rfl) fun a w hs _ => by simp [execOp, ho, hs.ev hx, Op.unary]
theorem E6 {c x y : Operand} {b : Bool} {u v : Value} (ho : o.op = .pick c x y) (hc : ev E c = some (.bool b)) (hx : ev E x = some u) (hy : ev E y = some v) : BS C E I H o (bif b then u else v) :=
 Bk (by rw [ho]; rfl) fun a w hs _ => by
  cases b <;> simp [execOp, ho, hs.ev hc, hs.ev hx, hs.ev hy, asBool]
theorem Fw {x : Operand} {k : Nat} {vs : Array Value} {v : Value} (ho : o.op = .extract x k) (hx : ev E x = some (.tuple vs)) (hv : vs[k]? = some v) : BS C E I H o v :=
 Bk (by rw [ho]; rfl) fun a w hs _ => by simp [execOp, ho, hs.ev hx, Instr.extract, hv]
theorem F3 {fn : Fn} {xs ys : Array Operand} {us vs : List Value} (ho : o.op = .makeFunc fn xs ys) (hx : evs E xs.toList = some us) (hy : evs E ys.toList = some vs) : BS C E I H o (.func fn us.toArray vs.toArray) :=
 Bk (by rw [ho]; rfl) fun a w hs _ => by
  have h1 : xs.map a.eval = us.toArray := by rw [← hs.evs hx]; cases xs; simp
  have h2 : ys.map a.eval = vs.toArray := by rw [← hs.evs hy]; cases ys; simp
  simp [execOp, ho, h1, h2, Instr.makeFunc]
end ops
end Go.Tri

namespace Go.Tri
open Go.RowKit

def TE (H : List HA) (x : HA) (F : List HA) : Prop := H.Perm (x :: F)
theorem H6 {x : HA} {F : List HA} : TE (x :: F) x F := List.Perm.refl _
theorem Hz {x y : HA} {H F : List HA} (h : TE H x F) : TE (y :: H) x (y :: F) := (List.Perm.cons y h).trans (List.Perm.swap x y F)

def Mj (H H' : List HA) : Prop := ∃ G, H.Perm (G ++ H')
theorem PG (H : List HA) : Mj H H := ⟨[], List.Perm.refl _⟩
theorem Wo {x : HA} {H H' : List HA} (h : Mj H H') : Mj (x :: H) H' := by
 obtain ⟨G, h⟩ := h
 exact ⟨x :: G, List.Perm.cons x h⟩
theorem PY {x : HA} {H F H' : List HA} (p : TE H x F) (h : Mj F H') : Mj H (x :: H') := by
 obtain ⟨G, h⟩ := h
 exact ⟨G, (p.trans (List.Perm.cons x h)).trans List.perm_middle.symm⟩
theorem St.drops {w0 w : World} {I : AU} : ∀ {G H : List HA}, St w0 I (G ++ H) w → St w0 I H w
 | [], _, h => h
 | _ :: G, _, h => St.drops (G := G) h.tail
theorem St.sub {w0 w : World} {I : AU} {H H' : List HA} (h : St w0 I H w) (s : Mj H H') : St w0 I H' w := by
 obtain ⟨G, p⟩ := s
 exact (h.perm p).drops

class HH (b : Nat) (T : outParam TypeId) (cs : outParam (List Value)) (H : List HA) : Prop where
 mem : row b T cs ∈ H
instance AEm {b : Nat} {T : TypeId} {cs : List Value} {H : List HA} : HH b T cs (row b T cs :: H) := ⟨List.mem_cons_self⟩
instance (priority := low) inRow_tail {b : Nat} {T : TypeId} {cs : List Value} {y : HA} {H : List HA} [h : HH b T cs H] : HH b T cs (y :: H) := ⟨List.mem_cons_of_mem _ h.mem⟩
class GK (v : Value) (T : outParam TypeId) (sz n : outParam Nat) (xs : outParam (List Value)) (H : List HA) : Prop where
 mem : PU v T sz n xs ∈ H
instance ADg {v : Value} {T : TypeId} {sz n : Nat} {xs : List Value} {H : List HA} : GK v T sz n xs (PU v T sz n xs :: H) := ⟨List.mem_cons_self⟩
instance (priority := low) inVec_tail {v : Value} {T : TypeId} {sz n : Nat} {xs : List Value} {y : HA} {H : List HA} [h : GK v T sz n xs H] : GK v T sz n xs (y :: H) := ⟨List.mem_cons_of_mem _ h.mem⟩
class HS (b : Nat) (T : outParam TypeId) (cs : outParam (List Value)) (F : outParam (List HA)) (H : List HA) : Prop where
 pick : TE H (row b T cs) F
instance ACJ {b : Nat} {T : TypeId} {cs : List Value} {F : List HA} : HS b T cs F (row b T cs :: F) := ⟨H6⟩
instance (priority := low) pickRow_tail {b : Nat} {T : TypeId} {cs : List Value} {y : HA} {F H : List HA} [h : HS b T cs F H] : HS b T cs (y :: F) (y :: H) := ⟨Hz h.pick⟩
class D0 (v : Value) (T : outParam TypeId) (sz n : outParam Nat) (xs : outParam (List Value)) (F : outParam (List HA)) (H : List HA) : Prop where
 pick : TE H (PU v T sz n xs) F
instance ABr {v : Value} {T : TypeId} {sz n : Nat} {xs : List Value} {F : List HA} : D0 v T sz n xs F (PU v T sz n xs :: F) := ⟨H6⟩
instance (priority := low) pickVec_tail {v : Value} {T : TypeId} {sz n : Nat} {xs : List Value} {y : HA} {F H : List HA} [h : D0 v T sz n xs F H] : D0 v T sz n xs (y :: F) (y :: H) := ⟨Hz h.pick⟩
class O3 (x : HA) (F : outParam (List HA)) (H : List HA) : Prop where
 pick : TE H x F
instance AEZ {x : HA} {F : List HA} : O3 x F (x :: F) := ⟨H6⟩
instance (priority := low) pickI_tail {x y : HA} {F H : List HA} [h : O3 x F H] : O3 x (y :: F) (y :: H) := ⟨Hz h.pick⟩
class CY (H H' : List HA) : Prop where
 sub : Mj H H'
instance AGC {H : List HA} : CY H H := ⟨PG H⟩
instance (priority := low) subC_cons {x : HA} {H F H' : List HA} [p : O3 x F H] [h : CY F H'] : CY H (x :: H') := ⟨PY p.pick h.sub⟩
instance AID {H : List HA} : CY H [] := ⟨⟨H, by simp⟩⟩
instance (priority := low) subC_drop {x : HA} {H H' : List HA} [h : CY H H'] : CY (x :: H) H' := ⟨Wo h.sub⟩
theorem AA {w0 w : World} {I : AU} {H H' : List HA} [h : CY H H'] (hw : St w0 I H w) : St w0 I H' w := hw.sub h.sub

section ops
variable {C : Cx} {E : DJ} {I : AU} {H : List HA} {D : List Deferred} {Q : Exit → Act → World → Prop} {o : Oper}

def I9 (C : Cx) (E : DJ) (I : AU) (H : List HA) (o : Oper) (Post : Value → AU → List HA → Prop) : Prop :=
 ∀ (a : Act) (w : World), G2 E C.n a.tmps → St C.w0 I H w → ∀ (K : Act → World → Prop) (Q : Exit → Act → World → Prop),
  (∀ v I' H' w', Post v I' H' → St C.w0 I' H' w' → K (a.put o.dst v) w') → o.wpIn (WF C.r) 0 C.P a w K Q

theorem l_e {ops : Array Oper} {rest : List Oper} {d : Nat} {Post : Value → AU → List HA → Prop} (hg : o.guard = none) (hd : o.dst = some d) (hn : Nat.blt d C.n = true)
  (he : I9 C E I H o Post) (k : ∀ v I' H', Post v I' H' → L C ops rest ((d, v) :: E) I' H' D Q) : L C ops (o :: rest) E I H D Q := by
 intro a w hs IY hw
 refine wpListIn_plain hg fun K hK => he a w hs hw K Q fun v I' H' w' hp hw' => hK _ _ ?_
 rw [hd]
 exact k v I' H' hp _ _ (hs.put (by simpa using hn) v) (by simpa [Act.put] using IY) hw'
theorem An {ops : Array Oper} {rest : List Oper} {Post : Value → AU → List HA → Prop} (hg : o.guard = none) (hd : o.dst = none)
  (he : I9 C E I H o Post) (k : ∀ v I' H', Post v I' H' → L C ops rest E I' H' D Q) : L C ops (o :: rest) E I H D Q := by
 intro a w hs IY hw
 refine wpListIn_plain hg fun K hK => he a w hs hw K Q fun v I' H' w' hp hw' => hK _ _ ?_
 rw [hd]
 exact k v I' H' hp _ _ hs IY hw'

theorem Tg {x : Operand} {t T : TypeId} {d : TypeDesc} {b off : Nat} {u : Value} {cs : List Value} (ho : o.op = .load t x) (ht : C.P.underlying t = some d) (hd : Ji d = true)
  (hx : ev E x = some (.pointer (some ⟨b, off, none⟩))) [hm : HH b T cs H] (hu : cs[off]? = some u) : BS C E I H o u := To ho ht hd hx (Tb hm.mem hu)
theorem Tk {x : Operand} {t T : TypeId} {d : TypeDesc} {sz n j : Nat} {v u : Value} {xs : List Value} (ho : o.op = .load t x) (ht : C.P.underlying t = some d) (hd : Ji d = true)
  (hx : ev E x = some (.pointer (some ⟨(GN v).block, (GN v).off + j, none⟩))) [hm : GK v T sz n xs H] (hu : xs[j]? = some u) : BS C E I H o u := To ho ht hd hx (Zu hm.mem hu)
theorem Af {x : Operand} {t T : TypeId} {fs : Array Field} {b off n bytes : Nat} {z : Value} {cs us : List Value} (ho : o.op = .load t x) (ht : C.P.underlying t = some (.struct fs)) (hi : TI C.P t n bytes z)
  (hx : ev E x = some (.pointer (some ⟨b, off, none⟩))) [hm : HH b T cs H] (hu : (cs.drop off).take n = us) (hn : us.length = n) : BS C E I H o (.agg us.toArray) := Bc ho ht hi hn hx (QR hm.mem hu)
theorem Eq {x : Operand} {t e te : TypeId} {v : Value} {n sz : Nat} {xs : List Value} (ho : o.op = .call { callee := .builtin .len, args := #[x], argTypes := #[t] }) (ht : C.P.underlying t = some (.slice e)) (hx : ev E x = some v)
  [hm : GK v te sz n xs H] : BS C E I H o (.int .i64 (n : Int)) := XE ho ht hx hm.mem
theorem LX {x i : Operand} {t e te : TypeId} {v z : Value} {k : IntKind} {m : Int} {n sz sz' bytes : Nat} {xs : List Value} (ho : o.op = .indexAddr t x i) (ht : C.P.underlying t = some (.slice e)) (hi : TI C.P e sz bytes z)
  (hx : ev E x = some v) (ZT : ev E i = some (.int k m)) [hm : GK v te sz' n xs H] (h0 : 0 ≤ m ∧ m < n) :
  BS C E I H o (.pointer (some ⟨(GN v).block, (GN v).off + m.toNat * sz, none⟩)) := Mt ho ht hi hx ZT hm.mem h0

theorem IQ {P : Program} {w : World} {t : TypeId} {c : Array Value} : (newRow t c).run P w = .ok ⟨w.heap.size, 0, none⟩ (w.alloc (.cells c t)) := by
 unfold newRow
 rfl

theorem Mv {x : Value → Value} {T : TypeId} {cs : List Value} (hp : Ii o.op = true)
  (hr : ∀ (a : Act) (w : World), G2 E C.n a.tmps → St C.w0 I H w → (execOp a.eval o).run C.P w = .ok (.value (x (.pointer (some ⟨w.heap.size, 0, none⟩)))) (w.alloc (.cells cs.toArray T))) :
  I9 C E I H o (fun v I' H' => ∃ b, v = x (.pointer (some ⟨b, 0, none⟩)) ∧ I = I' ∧ H' = row b T cs :: H) :=
 fun a w hs hw K Q hk => C3 hp (hr a w hs hw) (hk _ _ _ _ ⟨w.heap.size, rfl, rfl, rfl⟩ (hw.new _))

theorem FE {x : Operand} {T : TypeId} {v : Value} {cs : List Value} (ho : o.op = .box T x) (hx : ev E x = some v) (hc : v.cells = cs.toArray) :
  I9 C E I H o (fun v I' H' => ∃ b, v = .pointer (some ⟨b, 0, none⟩) ∧ I = I' ∧ H' = row b T cs :: H) :=
 Mv (x := id) (by rw [ho]; rfl) fun a w hs _ => by
  simp only [execOp, ho, hs.ev hx, Instr.box, newVar, hc]
  simp [IQ]
theorem Ah {T : TypeId} {n bytes : Nat} {z : Value} {cs : List Value} (ho : o.op = .alloc T) (hi : TI C.P T n bytes z) (hc : z.cells = cs.toArray) :
  I9 C E I H o (fun v I' H' => ∃ b, v = .pointer (some ⟨b, 0, none⟩) ∧ I = I' ∧ H' = row b T cs :: H) :=
 Mv (x := id) (by rw [ho]; rfl) fun a w hs _ => by
  simp only [execOp, ho, Instr.alloc]
  simp [hi.zero, newVar, hc, IQ]

theorem Xt {z c : Array Value} (h : c.size = z.size) : Instr.fill (fun i => some (i * c.size, c.size)) z [(0, .agg c)] = some c := by
 simp only [Instr.fill, Value.cells, Nat.zero_mul, Nat.zero_add, ne_eq, not_true_eq_false, h, Nat.lt_irrefl, gt_iff_lt]
 have key : ∀ (l : List Value) (k : Nat) (A : Array Value), k + l.length = A.size → (l.zipIdx k).foldl (fun cs (x : Value × Nat) => cs.setIfInBounds x.2 x.1) A = (A.toList.take k ++ l).toArray := by
  intro l
  induction l with
  | nil =>
   intro k A hk
   simp only [List.length_nil, Nat.add_zero] at hk
   subst hk
   rw [← Array.length_toList, List.take_length]
   simp
  | cons v l ih =>
   intro k A hk
   simp only [List.length_cons] at hk
   rw [List.zipIdx_cons, List.foldl_cons, ih (k + 1) _ (by simp; omega)]
   congr 1
   simp only [Array.toList_setIfInBounds]
   rw [List.take_set, List.set_eq_take_append_cons_drop, if_pos (by simp; omega), List.take_take, Nat.min_eq_left (by omega)]
   simp
 have := key c.toList 0 z (by simp [h])
 rw [← Array.foldl_toList]
 simpa using this

theorem AS {x : Operand} {t e : TypeId} {n bytes : Nat} {v z : Value} {cs : List Value} (ho : o.op = .buildSlice t 1 #[(0, x)]) (ht : C.P.underlying t = some (.slice e)) (hi : TI C.P e n bytes z) (hn : Nat.ble 1 n && Nat.ble n 1000 = true) (hz : z.cells.size = n)
  (hx : ev E x = some v) (hc : v.cells = cs.toArray) (hl : cs.length = n) :
  I9 C E I H o (fun v I' H' => ∃ b, v = .slice (some ⟨b, 0, none⟩) 1 1 ∧ I = I' ∧ H' = row b e cs :: H) := by
 refine Mv (x := fun p => match p with | .pointer a => .slice a 1 1 | _ => p) (by rw [ho]; rfl) fun a w hs _ => ?_
 have hn : 1 ≤ n ∧ n ≤ 1000 := by simpa using hn
 have hf : Instr.fill (fun i => some (i * n, n)) ((Array.range (1 * n)).map (z.cells[· % z.cells.size]!)) [(0, v)] = some cs.toArray := by
  have h1 := Xt (z := (Array.range (1 * n)).map (z.cells[· % z.cells.size]!)) (c := cs.toArray) (by simp [hl])
  have h2 : cs.toArray.size = n := by simpa using hl
  rw [h2] at h1
  rw [← h1]
  simp only [Instr.fill, hc]
  rfl
 simp only [execOp, ho, Instr.buildSlice]
 simp [run_underlying ht, hi.sizeOf, hi.zero, show ¬ (16777216 < n) from by omega, show ¬ n = 0 from by omega, hs.ev hx]
 simp only [Nat.one_mul] at hf
 rw [hf]
 simp [IQ]

theorem KU {P : Program} {w : World} {b off : Nat} {T : TypeId} {cs : List Value} {v : Value} (h1 : v.oneCell' = true) (hw : w.heap[b]? = some (.cells cs.toArray T (0, 0))) (FA : off < cs.length) :
  (store ⟨b, off, none⟩ v).run P w = .ok () (w.setCell ⟨b, off, none⟩ v) := by
 have Iv : w.cell? ⟨b, off, none⟩ = some cs[off] := by
  unfold World.cell?
  simp [hw, FA]
 have hfz : w.frozen? ⟨b, off, none⟩ = false := by
  unfold World.frozen?
  simp [hw]
 rw [run_store P w _ v .plain h1]
 simp [Iv, hfz]
theorem F1 {w : World} {b off : Nat} {T : TypeId} {cs : List Value} {v : Value} (hw : w.heap[b]? = some (.cells cs.toArray T (0, 0))) :
  (w.setCell ⟨b, off, none⟩ v).heap[b]? = some (.cells (cs.set off v).toArray T (0, 0)) := by
 simp [World.setCell, Array.getElem?_modify, hw]
theorem AEb {w0 w : World} {F : List HA} {b off : Nat} {T : TypeId} {cs : List Value} (v : Value) (h : St w0 I (row b T cs :: F) w) : St w0 I (row b T (cs.set off v) :: F) (w.setCell ⟨b, off, none⟩ v) := by
 have hb : w.heap[b]? = some (.cells cs.toArray T (0, 0)) := h.sat _ (List.mem_cons_self)
 refine h.turn rfl rfl rfl (by simp) (fun k _ hk => Below.heap_setCell _ _ _ _ (fun e => hk (by rw [e]; rfl))) ?_ (.inl rfl)
 exact F1 hb

theorem AAX {p x : Operand} {t T : TypeId} {b off bytes : Nat} {v z : Value} {cs : List Value} {F : List HA} (ho : o.op = .store t p x) (hi : TI C.P t 1 bytes z)
  (hp : ev E p = some (.pointer (some ⟨b, off, none⟩))) (hx : ev E x = some v) (h1 : Lh v) [hpk : HS b T cs F H] (FA : Nat.blt off cs.length = true) :
  I9 C E I H o (fun _ I' H' => I = I' ∧ H' = row b T (cs.set off v) :: F) := by
 intro a w hs hw K Q hk
 have hw' := hw.perm hpk.pick
 have hb : w.heap[b]? = some (.cells cs.toArray T (0, 0)) := hw'.sat _ (List.mem_cons_self)
 refine Ff (by rw [ho]; rfl) ?_ (hk undef I _ _ ⟨rfl, rfl⟩ (AEb v hw'))
 simp only [execOp, ho, hs.ev hp, hs.ev hx, Instr.storeAt, Instr.sureAddr, storeVar, h1.1]
 simp [hi.sizeOf, storeCells, Addr.add_zero', KU h1.2 hb (by simpa using FA)]

theorem G6 {P : Program} {T : TypeId} {b off : Nat} : ∀ (us : List Value) (i : Nat) (cs : List Value) (w : World), (∀ u ∈ us, u.oneCell' = true) → off + i + us.length ≤ cs.length → w.heap[b]? = some (.cells cs.toArray T (0, 0)) →
  ∃ w', (storeCells ⟨b, off, none⟩ us i).run P w = .ok () w' ∧ w'.heap[b]? = some (.cells (cs.take (off + i) ++ us ++ cs.drop (off + i + us.length)).toArray T (0, 0)) ∧ w'.os = w.os ∧ w'.tape = w.tape ∧ w'.output = w.output ∧ w'.heap.size = w.heap.size ∧ (∀ k, k ≠ b → w'.heap[k]? = w.heap[k]?)
 | [], i, cs, w, _, _, hw => ⟨w, by simp [storeCells], by simpa using hw, rfl, rfl, rfl, rfl, fun _ _ => rfl⟩
 | u :: us, i, cs, w, h1, hl, hw => by
  simp only [List.length_cons] at hl
  have hs := KU (P := P) (off := off + i) (h1 u (List.mem_cons_self)) hw (by omega)
  obtain ⟨w', r1, r2, r3, r4, r5, r6, r7⟩ := G6 (P := P) (T := T) (b := b) (off := off) us (i + 1) (cs.set (off + i) u) (w.setCell ⟨b, off + i, none⟩ u) (fun x hx => h1 x (List.mem_cons_of_mem _ hx)) (by rw [List.length_set]; omega) (F1 hw)
  refine ⟨w', ?_, ?_, r3, r4, r5, by rw [r6]; simp, fun k hk => (r7 k hk).trans (Below.heap_setCell _ _ _ _ hk)⟩
  ·unfold storeCells
   rw [Sem.run_bind, Addr.add_lit, hs]
   simpa using r1
  ·rw [r2]
   congr 3
   rw [show off + (i + 1) = off + i + 1 by omega, List.take_set, List.take_succ_eq_append_getElem (by omega), List.set_append_right _ _ (by simp; omega)]
   simp only [List.length_take, List.length_cons]
   rw [show off + i - min (off + i) cs.length = 0 by omega]
   simp only [List.set_cons_zero, List.append_assoc, List.cons_append, List.nil_append]
   rw [List.drop_set_of_lt (by omega)]
   congr 4
   omega

theorem MJ {p x : Operand} {t T : TypeId} {b off n bytes : Nat} {z : Value} {cs us : List Value} {F : List HA} (ho : o.op = .store t p x) (hi : TI C.P t n bytes z)
  (hp : ev E p = some (.pointer (some ⟨b, off, none⟩))) (hx : ev E x = some (.agg us.toArray)) (hn : us.length = n) (h1 : ∀ u ∈ us, u.oneCell' = true) [hpk : HS b T cs F H] (FA : Nat.ble (off + n) cs.length = true) :
  I9 C E I H o (fun _ I' H' => I = I' ∧ H' = row b T (cs.take off ++ us ++ cs.drop (off + n)) :: F) := by
 intro a w hs hw K Q hk
 have hw' := hw.perm hpk.pick
 have hb : w.heap[b]? = some (.cells cs.toArray T (0, 0)) := hw'.sat _ (List.mem_cons_self)
 obtain ⟨w', r1, r2, r3, r4, r5, r6, r7⟩ := G6 (P := C.P) (off := off) us 0 cs w h1 (by simp at FA; omega) hb
 simp only [Nat.add_zero, hn] at r2
 refine Ff (w' := w') (by rw [ho]; rfl) ?_ (hk undef I _ _ ⟨rfl, rfl⟩ (hw'.turn r3 r4 r5 (by omega) (fun k _ hk => r7 k (fun e => hk (by rw [e]; rfl))) r2 (.inl rfl)))
 simp only [execOp, ho, hs.ev hp, hs.ev hx, Instr.storeAt, Instr.sureAddr, storeVar, Value.cells]
 subst hn
 simp [hi.sizeOf, r1]

theorem AE {p x : Operand} {t T : TypeId} {b n bytes : Nat} {z : Value} {cs us : List Value} {F : List HA} (ho : o.op = .store t p x) (hi : TI C.P t n bytes z)
  (hp : ev E p = some (.pointer (some ⟨b, 0, none⟩))) (hx : ev E x = some (.agg us.toArray)) (hn : us.length = n) (h1 : ∀ u ∈ us, u.oneCell' = true) [hpk : HS b T cs F H] (FA : cs.length = n) :
  I9 C E I H o (fun _ I' H' => I = I' ∧ H' = row b T us :: F) := by
 have := MJ (C := C) (E := E) (I := I) (H := H) (off := 0) ho hi hp hx hn h1 (by simp [FA])
 intro a w hs hw K Q hk
 refine this a w hs hw K Q fun v I' H' w' hp' hw' => hk v I' H' w' ⟨hp'.1, ?_⟩ hw'
 rw [hp'.2]
 simp [List.drop_of_length_le (Nat.le_of_eq FA)]

theorem Ht {w : World} {v : Value} {T : TypeId} {sz n : Nat} {xs : List Value} : Fz v T sz n xs (BF w) ↔ w.ownsRow 0 T sz v n xs := by
 constructor
 ·rintro ⟨h1, h2 | ⟨g, cap, cur, h2, h3, h4⟩⟩
  ·exact ⟨h1, .inl h2⟩
  ·exact ⟨h1, .inr ⟨g, cap, cur, h2, Nat.zero_le _, h3, h4⟩⟩
 ·rintro ⟨h1, h2 | ⟨g, cap, cur, h2, _, h3, h4⟩⟩
  ·exact ⟨h1, .inl h2⟩
  ·exact ⟨h1, .inr ⟨g, cap, cur, h2, h3, h4⟩⟩

theorem RX {x y : Operand} {t e e' : TypeId} {n m c sz bytes b off : Nat} {v z : Value} {xs news : List Value} {F : List HA} (ho : o.op = .call { callee := .builtin .append, args := #[x, y], argTypes := #[t, t] })
  (ht : C.P.underlying t = some (.slice e)) (hi : TI C.P e sz bytes z) (hz : z.cells.size = sz) (Lj : Nat.blt 0 sz = true)
  (hx : ev E x = some v) (hy : ev E y = some (.slice (some ⟨b, off, none⟩) m c)) [hpk : D0 v e' sz n xs F H] (Vf : e = e')
  (hr : XH C.w0 I H b off news) (hl : news.length = m * sz) (h1 : ∀ u ∈ news, u.oneCell' = true) (UL : n + m ≤ maxLen) (Tu : (n + m) * bytes ≤ 140737488355328) :
  I9 C E I H o (fun v' I' H' => I = I' ∧ H' = PU v' e' sz (n + m) (xs ++ news) :: F) := by
 subst Vf
 intro a w hs hw K Q hk
 have hw' := hw.perm hpk.pick
 have hv : Fz v e sz n xs (BF w) := hw'.sat _ (List.mem_cons_self)
 obtain ⟨i, hii, hi1, Xk, hi3⟩ := hi
 obtain ⟨v', w', DV, ho', hg, _, hob⟩ := run_append_own_at (P := C.P) w 0 t o.type e i z sz bytes ht hii hi3 hi1 Xk hz (by simpa using Lj) v n xs (Ht.1 hv) ⟨b, off, none⟩ m c news hl
  (fun j u hj => by rw [Addr.add_lit]; exact hr j u hj w hw) h1 UL Tu (Nat.zero_le _)
 refine C3 (v := v') (w' := w') (by rw [ho]; rfl) ?_ (hk v' I _ w' ⟨rfl, rfl⟩ (hw'.turn (x := PU v e sz n xs) hg.os hg.tape hg.output hg.size (fun k hk EZ => hg.block k hk EZ) (Ht.2 ho') ?_))
 ·simp only [execOp, ho, resolve]
  simp [hs.ev hx, hs.ev hy, invoke, builtin, DV]
 ·rcases hob with e | e
  ·exact .inl e
  ·exact .inr ⟨_, e, Nat.le_refl _⟩

theorem L2 {w0 w : World} {v : Value} {T : TypeId} {sz n : Nat} {xss : List (List Value)} {F : List HA} (h : St w0 I (PU v T sz n xss.flatten :: F) w) (hn : xss.length = n) (hu : ∀ cs ∈ xss, cs.length = sz) :
  ∃ J, Le I J ∧ St w0 J F w ∧ Sl J sz v xss := by
 have hv : Fz v T sz n xss.flatten (BF w) := h.sat _ (List.mem_cons_self)
 have AMu := h.dis _ (List.mem_cons_self)
 obtain ⟨hl, hs⟩ := hv
 rcases hs with ⟨rfl, rfl⟩ | ⟨g, cap, cur, rfl, hg, BI, BU, Bd, Cg⟩
 ·have : xss = [] := List.eq_nil_of_length_eq_zero hn
  subst this
  exact ⟨I, Le.refl _, h.tail, Fv (fun _ h => by cases h)⟩
 ·have hIg : I g = none := AMu g rfl
  let J : AU := fun b => if b = g then some (.cells cur T (0, 0)) else I b
  have Ec : Le I J := fun b o hb => by
   show (if b = g then _ else I b) = _
   split
   ·rename_i e; subst e; rw [hIg] at hb; cases hb
   ·exact hb
  refine ⟨J, Ec, ?_, ⟨some ⟨g, 0, none⟩, cap, by rw [hn], by omega, (fun _ a ha => by cases ha; rfl), (fun _ h => by cases h)⟩, ?_⟩
  ·refine { h.tail with imm := fun b o hb => ?_, dis := fun y hy b hb => ?_ }
   ·by_cases e : b = g
    ·subst e
     have : o = .cells cur T (0, 0) := by
      have : (if b = b then some (Obj.cells cur T (0, 0)) else I b) = some o := hb
      simpa using this.symm
     subst this
     exact hg
    ·exact h.imm b o (by have : (if b = g then some (Obj.cells cur T (0, 0)) else I b) = some o := hb; rwa [if_neg e] at this)
   ·show (if b = g then _ else I b) = none
    by_cases e : b = g
    ·subst e
     exfalso
     have Nk := h.sep
     unfold Mo at Nk
     rw [List.filterMap_cons] at Nk
     exact (List.nodup_cons.1 Nk).1 (List.mem_filterMap.2 ⟨y, hy, hb⟩)
    ·rw [if_neg e]
     exact h.tail.dis y hy b hb
  ·intro i j cs u hi hj
   refine ⟨cur, T, (0, 0), by show (if g = g then _ else _) = _; rw [if_pos rfl], ?_⟩
   show cur[0 + i * sz + j]? = some u
   have IB : ∀ (l : List (List Value)) (i : Nat) (cs : List Value), (∀ c ∈ l, c.length = sz) → l[i]? = some cs → cs[j]? = some u → l.flatten[i * sz + j]? = some u := by
    intro l
    induction l with
    | nil => intro i cs _ hi; cases hi
    | cons c l ih =>
     intro i cs hu hi hj
     have hc := hu c (List.mem_cons_self)
     cases i with
     | zero =>
      simp only [List.getElem?_cons_zero, Option.some.injEq] at hi
      subst hi
      have FA := (List.getElem?_eq_some_iff.1 hj).1
      simp only [List.flatten_cons, Nat.zero_mul, Nat.zero_add]
      rw [List.getElem?_append_left FA]
      exact hj
     | succ i =>
      simp only [List.getElem?_cons_succ] at hi
      simp only [List.flatten_cons]
      rw [Nat.add_mul, Nat.one_mul, List.getElem?_append_right (by omega)]
      rw [show i * sz + sz + j - c.length = i * sz + j by omega]
      exact ih i cs (fun x hx => hu x (List.mem_cons_of_mem _ hx)) hi hj
   have h2 := IB xss i cs hu hi hj
   rw [← Cg, List.getElem?_take] at h2
   split at h2
   ·simpa using h2
   ·cases h2
end ops
end Go.Tri

namespace Go.Tri
open Go.RowKit

def Rt (Q : Exit → Act → World → Prop) : Prop := ∀ c a w d v, Q (.panic c) (a.put (some d) v) w → Q (.panic c) a w

section
variable {C : Cx} {ops : Array Oper} {X Z : List Nat} {Q : Exit → Act → World → Prop} {S0 : World → Prop}

def wa (C : Cx) (ops : Array Oper) (X Z : List Nat) (S0 : World → Prop) (Q : Exit → Act → World → Prop) : Nat → Array Bool → Act → World → Prop
 | 0, listed, a, w => Region.ready .any ops listed = [] ∧ ∀ w2, Below w.heap.size w w2 → Q .normal a w2
 | fuel + 1, listed, a, w => ∀ w2, Below w.heap.size w w2 →
  (Region.ready .any ops listed = [] → Q .normal a w2) ∧
  ∀ i ∈ Region.ready .any ops listed, wpOpIn (WF C.r) 0 C.P ops Q i (fun a' w' => (i ∉ X → Below w2.heap.size w2 w') ∧ (i ∉ Z → S0 w2 → S0 w') ∧ wa C ops X Z S0 Q fuel (listed.setIfInBounds i true) a' w') a w2

theorem DK {a b c : World} (h : Below a.heap.size a b) (k : Below b.heap.size b c) : Below a.heap.size a c := h.trans (k.mono h.size)

theorem H2 : ∀ (fuel : Nat) (listed : Array Bool) (a : Act) (w w' : World), Below w.heap.size w w' → wa C ops X Z S0 Q fuel listed a w → wa C ops X Z S0 Q fuel listed a w'
 | 0, _, _, _, _, hb, h => ⟨h.1, fun w2 h2 => h.2 w2 (DK hb h2)⟩
 | _ + 1, _, _, _, _, hb, h => fun w2 h2 => h w2 (DK hb h2)

theorem T8 : ∀ (fuel : Nat) (listed : Array Bool) (a : Act) (w : World), wa C ops X Z S0 Q fuel listed a w → wpAnyIn (WF C.r) 0 C.P .any ops Q fuel listed a w
 | 0, _, _, w, h => ⟨h.1, h.2 w (Below.refl _ _)⟩
 | fuel + 1, _, _, w, h => ⟨(h w (Below.refl _ _)).1, fun i hi => wpOpIn_mono (fun a' w' h' => T8 fuel _ a' w' h'.2.2) ((h w (Below.refl _ _)).2 i hi)⟩

def F9 (ops : Array Oper) : Bool := ops.all fun o => match o.op with | .defer _ => false | .select .. => false | _ => true
theorem Eb (h : F9 ops = true) {j : Nat} {o : Oper} (ho : ops[j]? = some o) : (∀ c, o.op ≠ .defer c) ∧ (∀ cs b, o.op ≠ .select cs b) := by
 have := Array.all_eq_true_iff_forall_mem.1 h o (Array.mem_of_getElem? ho)
 constructor
 ·intro c heq; simp [heq] at this
 ·intro cs b heq; simp [heq] at this

def Yd (C : Cx) (ops : Array Oper) (o : Oper) (v : Value) (a : Act) (w : World) : Prop :=
 (Region.wanted o (yielded ops a.tmps) = true ∧ ∀ w2, Below w.heap.size w w2 → Rx C o a.eval w2 v) ∨ (Region.wanted o (yielded ops a.tmps) = false ∧ v = undef)

theorem AAo {o : Oper} {a : Act} {dst : Option Tmp} {u v : Value} {w : World} (hs : ∀ cs b, o.op ≠ .select cs b) (h : ∀ d, dst = some d → d ∉ o.looksAt ops) :
  Rx C o (a.put dst u).eval w v ↔ Rx C o a.eval w v := by
 unfold Rx
 rw [execOp_put (ops := ops) o hs a dst u h]

theorem Nn {j : Nat} {oi oj : Oper} {v : Value} (hj : ops[j]? = some oj) (XQ : oi.apart ops oj = true) (hpj : (∀ c, oj.op ≠ .defer c) ∧ (∀ cs b, oj.op ≠ .select cs b))
  (hQ : Rt Q) {K : Act → World → Prop} {a : Act} {w : World} (h : wpOpIn (WF C.r) 0 C.P ops Q j K (a.put oi.dst v) w) :
  wpOpIn (WF C.r) 0 C.P ops Q j (fun a' w' => K (a'.put oi.dst v) w' ∧ ∃ u, a'.tmps = (a.put oj.dst u).tmps) a w := by
 obtain ⟨h1, h2, h3⟩ := Oper.apart_spec XQ
 unfold wpOpIn at *
 simp only [hj] at *
 rw [wanted_put oj a oi.dst v h1] at h
 have Rr : ∀ u, (a.put oi.dst v).put oj.dst u = (a.put oj.dst u).put oi.dst v := fun u => Act.put_comm a v u h2
 have hQ' : ∀ c w', Q (.panic c) (a.put oi.dst v) w' → Q (.panic c) a w' := fun c w' hq => by
  cases hd : oi.dst with
  | none => rw [hd] at hq; exact hq
  | some d => rw [hd] at hq; exact hQ c a w' d v hq
 split
 ·rename_i hw
  simp only [hw, if_true] at h
  unfold Oper.wpIn at *
  refine ⟨fun _ _ => trivial, ?_⟩
  have h := h.2
  rw [Oper.semAt_eq _ _ _ hpj.1] at h ⊢
  rw [execOp_put oj hpj.2 a oi.dst v h1] at h
  cases hr : (execOp a.eval oj).run C.P w with
  | halt x w' =>
   rw [hr] at h
   cases x <;> simp only [Oper.uponIn] at h ⊢ <;> first | exact hQ' _ _ h | exact h
  | ok x w' =>
   rw [hr] at h
   cases x <;> simp only [Oper.uponIn] at h ⊢ <;>
    first
     | exact ⟨by rw [← Rr]; exact h, _, rfl⟩
     | exact ⟨h.1, CallsIn.mono h.2 (fun e w'' he => by cases e <;> first | exact ⟨by rw [← Rr]; exact he, _, rfl⟩ | exact hQ' _ _ he | exact he)⟩
     | exact ⟨h.1, RowsIn.mono h.2 (fun _ _ he => ⟨by rw [← Rr]; exact he, _, rfl⟩)⟩
     | exact ⟨h.1, RoundIn.mono h.2 (fun e w'' he => by cases e <;> first | exact ⟨by rw [← Rr]; exact he, _, rfl⟩ | exact hQ' _ _ he | exact he)⟩
     | exact ⟨by rw [← Act.put_comm _ v undef h2, ← Act.put_defers]; exact h, undef, by cases oj.dst <;> rfl⟩
     | exact h.elim
 ·rename_i hw
  simp only [hw] at h
  exact ⟨fun _ _ => trivial, by rw [← Rr]; exact h.2, _, rfl⟩

theorem IW {a b : Act} (h : a.tmps = b.tmps) : a.eval = b.eval := by
 funext x
 cases x <;> simp [Act.eval, h]

theorem Yd.next {o oj : Oper} {v u : Value} {a a' : Act} {w w' : World} (hs : ∀ cs b, o.op ≠ .select cs b) (hy : Yd C ops o v a w) (ha : a'.tmps = (a.put oj.dst u).tmps) (XQ : o.apart ops oj = true)
  (hw : ∀ w2, Below w'.heap.size w' w2 → Region.wanted o (yielded ops a.tmps) = true → Rx C o a.eval w2 v) : Yd C ops o v a' w' := by
 obtain ⟨_, _, h3⟩ := Oper.apart_spec XQ
 have e1 : Region.wanted o (yielded ops a'.tmps) = Region.wanted o (yielded ops a.tmps) := by rw [ha]; exact wanted_put o a oj.dst u h3
 have e2 : a'.eval = (a.put oj.dst u).eval := IW ha
 rcases hy with ⟨h1, _⟩ | ⟨h1, h2⟩
 ·exact .inl ⟨by rw [e1]; exact h1, fun w2 hb => by rw [e2]; exact (AAo hs h3).2 (hw w2 hb h1)⟩
 ·exact .inr ⟨by rw [e1]; exact h1, h2⟩

theorem Yd.below {o : Oper} {v : Value} {a : Act} {w w' : World} (hy : Yd C ops o v a w) (hb : Below w.heap.size w w') : Yd C ops o v a w' := by
 rcases hy with ⟨h1, h2⟩ | h
 ·exact .inl ⟨h1, fun w2 h => h2 w2 (DK hb h)⟩
 ·exact .inr h

theorem Yd.wpOp {i : Nat} {o : Oper} {v : Value} {a : Act} {w : World} (hi : ops[i]? = some o) (hy : Yd C ops o v a w) {K : Act → World → Prop} (h : ∀ w', Below w.heap.size w w' → K (a.put o.dst v) w') :
  wpOpIn (WF C.r) 0 C.P ops Q i K a w := by
 unfold wpOpIn
 simp only [hi]
 rcases hy with ⟨h1, h2⟩ | ⟨h1, rfl⟩
 ·simp only [h1, if_true]
  exact (h2 w (Below.refl _ _)).wpIn h
 ·simp only [h1, Bool.false_eq_true, if_false]
  exact ⟨fun _ _ => trivial, h w (Below.refl _ _)⟩

def HY (ops : Array Oper) (listed : Array Bool) : Prop := ∀ (j : Nat) (oj : Oper), ops[j]? = some oj → listed.getD j false = true → ∀ e ∈ oj.after, Region.binds .any e = true → listed.getD e.on false = true
theorem HY.set {listed : Array Bool} {i : Nat} (h : HY ops listed) (hi : i ∈ Region.ready .any ops listed) : HY ops (listed.setIfInBounds i true) := by
 obtain ⟨_, oi, hoi, G0⟩ := mem_ready.1 hi
 intro j oj hj hl e he hb
 by_cases hij : i = j
 ·subst hij
  have : oj = oi := Option.some.inj (hj.symm.trans hoi)
  subst this
  exact getD_set_true (G0 e he hb)
 ·rw [getD_set_ne false hij] at hl
  exact getD_set_true (h j oj hj hl e he hb)

def Pm (ops : Array Oper) : Nat → Nat → Nat → Bool
 | 0, _, _ => false
 | f + 1, j, i => match ops[j]? with
  | none => false
  | some oj => oj.after.any (fun e => Region.binds .any e && e.on == i) || oj.after.any (fun e => Region.binds .any e && Pm ops f e.on i)
theorem Lp {i : Nat} {listed : Array Bool} (hc : HY ops listed) (hi : listed.getD i false = false) : ∀ (f j : Nat), Pm ops f j i = true → j ∉ Region.ready .any ops listed ∧ listed.getD j false = false
 | 0, _, h => by cases h
 | f + 1, j, h => by
  unfold Pm at h
  split at h
  ·cases h
  ·rename_i oj hj
   have key : ∃ e ∈ oj.after, Region.binds .any e = true ∧ listed.getD e.on false = false := by
    rw [Bool.or_eq_true] at h
    rcases h with h | h
    ·obtain ⟨e, he, hb⟩ := Array.any_eq_true'.1 h
     simp only [Bool.and_eq_true, beq_iff_eq] at hb
     exact ⟨e, he, hb.1, by rw [hb.2]; exact hi⟩
    ·obtain ⟨e, he, hb⟩ := Array.any_eq_true'.1 h
     simp only [Bool.and_eq_true] at hb
     exact ⟨e, he, hb.1, (Lp hc hi f e.on hb.2).2⟩
   obtain ⟨e, he, hb, hl⟩ := key
   refine ⟨fun hr => ?_, ?_⟩
   ·obtain ⟨_, o', ho', G0⟩ := mem_ready.1 hr
    have : o' = oj := Option.some.inj (ho'.symm.trans hj)
    subst this
    have := G0 e he hb
    rw [hl] at this
    cases this
   ·cases Qq : listed.getD j false with
    | false => rfl
    | true =>
     have := hc j oj hj Qq e he hb
     rw [hl] at this
     cases this

theorem He {listed : Array Bool} {i : Nat} (h : listed.getD i true = false) : listed.getD i false = false := by
 rcases Nat.lt_or_ge i listed.size with h' | h'
 ·simp [h'] at h ⊢; exact h
 ·simp [Array.getElem?_eq_none h'] at h
theorem RT (Gw : F9 ops = true) (hQ : Rt Q) {i : Nat} {oi : Oper} {v : Value} (hi : ops[i]? = some oi)
  (hX : ∀ j ∈ X, ∃ f, Pm ops f j i = true) (hS : ∀ w w', S0 w → Below w.heap.size w w' → S0 w') :
  ∀ (fuel : Nat) (listed : Array Bool) (a : Act) (w : World), HY ops listed →
   (∀ j oj, ops[j]? = some oj → j ≠ i → listed.getD j true = false → (∀ e ∈ oj.after, Region.binds .any e = true → e.on ≠ i) → oi.apart ops oj = true) →
   i ∈ Region.ready .any ops listed → Yd C ops oi v a w →
   wa C ops X Z S0 Q fuel (listed.setIfInBounds i true) (a.put oi.dst v) w → wa C ops X Z S0 Q (fuel + 1) listed a w := by
 intro fuel
 induction fuel with
 | zero =>
  intro listed a w EP _ hr hy H w2 hb
  refine ⟨fun h => (by rw [h] at hr; cases hr), fun j hj => ?_⟩
  by_cases Lk : j = i
  ·subst Lk
   exact (hy.below hb).wpOp hi fun w' hb' => ⟨fun _ => hb', fun _ h0 => hS _ _ h0 hb', H2 _ _ _ _ _ (DK hb hb') H⟩
  ·have := ready_mono hj Lk
   rw [H.1] at this
   cases this
 | succ fuel ih =>
  intro listed a w EP MR hr hy H w2 hb
  refine ⟨fun h => (by rw [h] at hr; cases hr), fun j hj => ?_⟩
  by_cases Lk : j = i
  ·subst Lk
   exact (hy.below hb).wpOp hi fun w' hb' => ⟨fun _ => hb', fun _ h0 => hS _ _ h0 hb', H2 _ _ _ _ _ (DK hb hb') H⟩
  ·have h1 := (H w2 hb).2 j (ready_mono hj Lk)
   obtain ⟨SF, oj, Wj, G0⟩ := mem_ready.1 hj
   have Zz := (mem_ready.1 hr).1
   have NI : listed.getD i false = false := He Zz
   have Yv : ∀ e ∈ oj.after, Region.binds .any e = true → e.on ≠ i := fun e he hb heq => by
    have h1 := G0 e he hb
    rw [heq, NI] at h1
    cases h1
   have XQ := MR j oj Wj Lk SF Yv
   have h2 := Nn Wj XQ (Eb Gw Wj) hQ h1
   have NO : ∀ k ok, ops[k]? = some ok → k ≠ i → (listed.setIfInBounds j true).getD k true = false →
     (∀ e ∈ ok.after, Region.binds .any e = true → e.on ≠ i) → oi.apart ops ok = true := fun k ok hk hki hun ET => by
    refine MR k ok hk hki ?_ ET
    by_cases hjk : j = k
    ·subst hjk; exact SF
    ·rw [getD_set_ne true hjk] at hun; exact hun
   refine wpOpIn_mono (fun a' w' h3 => ?_) h2
   obtain ⟨⟨GO, OZ, Ic⟩, u, hu⟩ := h3
   refine ⟨GO, OZ, ih (listed.setIfInBounds j true) a' w' (EP.set hj) NO (ready_mono hr (Ne.symm Lk)) ?_ ?_⟩
   ·refine hy.next (Eb Gw hi).2 hu XQ fun w3 hb3 VP => ?_
    have hjX : j ∉ X := fun hx => by
     obtain ⟨f, hf⟩ := hX j hx
     exact (Lp EP NI f j hf).1 hj
    rcases hy with ⟨_, hq⟩ | ⟨hq, _⟩
    ·exact hq w3 (DK hb (DK (GO hjX) hb3))
    ·rw [hq] at VP; cases VP
   ·rw [Array.setIfInBounds_comm _ _ Lk]
    exact Ic
theorem Tq (Gw : F9 ops = true) (hQ : Rt Q) {i : Nat} {oi : Oper} {v : Value} (hi : ops[i]? = some oi)
  {ρ : Operand → Value} (G0 : ∀ w, S0 w → Rx C oi ρ w v) (hZ : ∀ j ∈ Z, ∃ f, Pm ops f j i = true) (hS : ∀ w w', S0 w → Below w.heap.size w w' → S0 w') :
  ∀ (fuel : Nat) (listed : Array Bool) (a : Act) (w : World), HY ops listed →
   (∀ j oj, ops[j]? = some oj → j ≠ i → listed.getD j true = false → (∀ e ∈ oj.after, Region.binds .any e = true → e.on ≠ i) → oi.apart ops oj = true) →
   i ∈ Region.ready .any ops listed → S0 w → Region.wanted oi (yielded ops a.tmps) = true → a.eval = ρ ∨ execOp a.eval oi = execOp ρ oi →
   wa C ops X Z S0 Q fuel (listed.setIfInBounds i true) (a.put oi.dst v) w → wa C ops X Z S0 Q (fuel + 1) listed a w := by
 intro fuel
 induction fuel with
 | zero =>
  intro listed a w EP _ hr hs VP hρ H w2 hb
  have hy : Yd C ops oi v a w := .inl ⟨VP, fun w2 hb => by have := G0 w2 (hS _ _ hs hb); unfold Rx at this ⊢; rcases hρ with e | e <;> rw [e] <;> exact this⟩
  refine ⟨fun h => (by rw [h] at hr; cases hr), fun j hj => ?_⟩
  by_cases Lk : j = i
  ·subst Lk
   exact (hy.below hb).wpOp hi fun w' hb' => ⟨fun _ => hb', fun _ h0 => hS _ _ h0 hb', H2 _ _ _ _ _ (DK hb hb') H⟩
  ·have := ready_mono hj Lk
   rw [H.1] at this
   cases this
 | succ fuel ih =>
  intro listed a w EP MR hr hs VP hρ H w2 hb
  have hy : Yd C ops oi v a w := .inl ⟨VP, fun w2 hb => by have := G0 w2 (hS _ _ hs hb); unfold Rx at this ⊢; rcases hρ with e | e <;> rw [e] <;> exact this⟩
  refine ⟨fun h => (by rw [h] at hr; cases hr), fun j hj => ?_⟩
  by_cases Lk : j = i
  ·subst Lk
   exact (hy.below hb).wpOp hi fun w' hb' => ⟨fun _ => hb', fun _ h0 => hS _ _ h0 hb', H2 _ _ _ _ _ (DK hb hb') H⟩
  ·have h1 := (H w2 hb).2 j (ready_mono hj Lk)
   obtain ⟨SF, oj, Wj, G0⟩ := mem_ready.1 hj
   have Zz := (mem_ready.1 hr).1
   have NI : listed.getD i false = false := He Zz
   have Yv : ∀ e ∈ oj.after, Region.binds .any e = true → e.on ≠ i := fun e he hb heq => by
    have h1 := G0 e he hb
    rw [heq, NI] at h1
    cases h1
   have XQ := MR j oj Wj Lk SF Yv
   have h2 := Nn Wj XQ (Eb Gw Wj) hQ h1
   have NO : ∀ k ok, ops[k]? = some ok → k ≠ i → (listed.setIfInBounds j true).getD k true = false →
     (∀ e ∈ ok.after, Region.binds .any e = true → e.on ≠ i) → oi.apart ops ok = true := fun k ok hk hki hun ET => by
    refine MR k ok hk hki ?_ ET
    by_cases hjk : j = k
    ·subst hjk; exact SF
    ·rw [getD_set_ne true hjk] at hun; exact hun
   refine wpOpIn_mono (fun a' w' h3 => ?_) h2
   obtain ⟨⟨GO, OZ, Ic⟩, u, hu⟩ := h3
   obtain ⟨_, _, h3⟩ := Oper.apart_spec XQ
   have hjZ : j ∉ Z := fun hx => by
    obtain ⟨f, hf⟩ := hZ j hx
    exact (Lp EP NI f j hf).1 hj
   refine ⟨GO, OZ, ih (listed.setIfInBounds j true) a' w' (EP.set hj) NO (ready_mono hr (Ne.symm Lk)) (OZ hjZ (hS _ _ hs hb)) (by rw [hu, wanted_put oi a oj.dst u h3]; exact VP) ?_ ?_⟩
   ·refine .inr ?_
    rw [IW hu, execOp_put (ops := ops) oi (Eb Gw hi).2 a oj.dst u h3]
    rcases hρ with e | e
    ·rw [e]
    ·exact e
   ·rw [Array.setIfInBounds_comm _ _ Lk]
    exact Ic
end

def Oo (C : Cx) (I0 : AU) (R0 : List HA) (w : World) : Prop := ∃ I', Le I0 I' ∧ St C.w0 I' R0 w
theorem Oo.below {C : Cx} {I0 : AU} {R0 : List HA} {w w' : World} (h : Oo C I0 R0 w) (hb : Below w.heap.size w w') : Oo C I0 R0 w' := by
 obtain ⟨I', h1, h2⟩ := h
 exact ⟨I', h1, h2.garb hb⟩

def R (C : Cx) (ops : Array Oper) (X Z : List Nat) (I0 : AU) (R0 : List HA) (fuel : Nat) (listed : Array Bool) (E : DJ) (I : AU) (H : List HA) (D : List Deferred) (Q : Exit → Act → World → Prop) : Prop :=
 F9 ops = true → Rt Q → ∀ a w, G2 E C.n a.tmps → a.defers = D → St C.w0 I H w → wa C ops X Z (Oo C I0 R0) Q fuel listed a w

def U9 (ops : Array Oper) (listed : Array Bool) : Bool := (List.range ops.size).all fun j => match ops[j]? with
 | none => true
 | some oj => !listed.getD j false || oj.after.all fun e => !Region.binds .any e || listed.getD e.on false
theorem Ir {ops : Array Oper} {listed : Array Bool} (h : U9 ops listed = true) : HY ops listed := by
 intro j oj hj hl e he hb
 have h1 := List.all_eq_true.1 h j (List.mem_range.2 (Array.getElem?_eq_some_iff.1 hj).1)
 simp only [hj, hl, Bool.not_true, Bool.false_or] at h1
 have h2 := Array.all_eq_true_iff_forall_mem.1 h1 e he
 simpa [hb] using h2

def Ld (ops : Array Oper) (X : List Nat) (i : Nat) : Bool := X.all fun j => Pm ops ops.size j i
def okQ (ops : Array Oper) (listed : Array Bool) (i : Nat) : Bool := U9 ops listed && (Region.ready .any ops listed).contains i && Region.free .any ops listed i
def okX (ops : Array Oper) (X : List Nat) (listed : Array Bool) (i : Nat) : Bool := (Region.ready .any ops listed).all (Nat.beq · i) && X.contains i

section
variable {C : Cx} {ops : Array Oper} {X Z : List Nat} {I0 I : AU} {R0 H : List HA} {fuel : Nat} {listed : Array Bool} {E : DJ} {D : List Deferred} {Q : Exit → Act → World → Prop} {o : Oper}

theorem DH {id : Nat} {l : List Oper} (X Z : List Nat) (R0 : List HA) (hm : C.P.follows .mixedOrders = true) (Gw : F9 l.toArray = true) (hQ : Rt Q)
  (h : R C l.toArray X Z I R0 l.length (Array.replicate l.length false) E I H D Q) : T C (.region id l.toArray true) E I H D Q := by
 intro a w hs hd hw
 have hb : Below w.heap.size w { w with drawn := w.drawn + 1 } := (Below.refl _ w).drew
 refine wpIn_region_any hm ?_
 have := T8 _ _ _ _ (h Gw hQ a { w with drawn := w.drawn + 1 } hs hd (hw.garb hb))
 simpa using this

theorem D3 (hr : (Region.ready .any ops listed).isEmpty = true) (k : N C .normal E I H D Q) : R C ops X Z I0 R0 0 listed E I H D Q :=
 fun _ _ a w hs hd hw => ⟨by simpa using hr, fun w2 hb => k a w2 hs hd (hw.garb hb)⟩

theorem ALz (i : Nat) {v : Value} {d : Nat} (Bb : (okQ ops listed i && Ld ops X i) = true) (hi : ops[i]? = some o) (Ec : Le I0 I)
  (hg : o.guard = none) (hd : o.dst = some d) (hn : Nat.blt d C.n = true) (hq : BS C E I H o v)
  (k : R C ops X Z I0 R0 fuel (listed.setIfInBounds i true) ((d, v) :: E) I H D Q) : R C ops X Z I0 R0 (fuel + 1) listed E I H D Q := by
 intro Gw hQ a w hs IY hw
 simp only [okQ, Bool.and_eq_true] at Bb
 refine RT Gw hQ hi (v := v) (fun j hj => ⟨_, List.all_eq_true.1 Bb.2 j hj⟩) (fun _ _ => Oo.below) fuel listed a w (Ir Bb.1.1.1) (Region.free_spec hi Bb.1.2) (by simpa using Bb.1.1.2) (.inl ⟨by simp [Region.wanted, hg], fun w2 hb => hq a w2 hs (hw.garb hb)⟩) ?_
 rw [hd]
 exact k Gw hQ _ _ (hs.put (by simpa using hn) v) (by simpa [Act.put] using IY) hw

theorem AMi (i : Nat) {v : Value} {d : Nat} (Bb : (okQ ops listed i && Ld ops Z i) = true) (hi : ops[i]? = some o) (Ec : Le I0 I) [Kt : CY H R0]
  (hg : o.guard = none) (hd : o.dst = some d) (hn : Nat.blt d C.n = true) (hq : ∀ I', Le I0 I' → BS C E I' R0 o v)
  (k : R C ops X Z I0 R0 fuel (listed.setIfInBounds i true) ((d, v) :: E) I H D Q) : R C ops X Z I0 R0 (fuel + 1) listed E I H D Q := by
 intro Gw hQ a w hs IY hw
 simp only [okQ, Bool.and_eq_true] at Bb
 have G0 : ∀ w', Oo C I0 R0 w' → Rx C o a.eval w' v := fun w' ⟨I', h1, h2⟩ => hq I' h1 a w' hs h2
 have key := Tq (C := C) (ops := ops) (X := X) (Z := Z) (Q := Q) (S0 := Oo C I0 R0) Gw hQ hi (v := v) (ρ := a.eval) G0 (fun j hj => ⟨_, List.all_eq_true.1 Bb.2 j hj⟩) (fun _ _ => Oo.below) fuel listed a w (Ir Bb.1.1.1) (Region.free_spec hi Bb.1.2) (by simpa using Bb.1.1.2) ⟨I, Ec, hw.sub Kt.sub⟩ (by simp [Region.wanted, hg]) (.inl rfl)
 refine key ?_
 rw [hd]
 exact k Gw hQ _ _ (hs.put (by simpa using hn) v) (by simpa [Act.put] using IY) hw

theorem MG {i j : Nat} (h : okX ops X listed i = true) (hj : j ∈ Region.ready .any ops listed) : j = i := by
 simp only [okX, Bool.and_eq_true] at h
 exact Nat.eq_of_beq_eq_true (List.all_eq_true.1 h.1 j hj)

theorem r_e (i : Nat) {d : Nat} {Post : Value → AU → List HA → Prop} (Bb : okX ops X listed i = true) (EZ : (Region.ready .any ops listed).isEmpty = false) (hi : ops[i]? = some o) (Ec : Le I0 I)
  (hg : o.guard = none) (hd : o.dst = some d) (hn : Nat.blt d C.n = true) (he : I9 C E I H o Post)
  (k : ∀ v I' H', Post v I' H' → Le I I' ∧ (Z.contains i = true ∨ Mj H' R0) ∧ R C ops X Z I0 R0 fuel (listed.setIfInBounds i true) ((d, v) :: E) I' H' D Q) : R C ops X Z I0 R0 (fuel + 1) listed E I H D Q := by
 intro Gw hQ a w hs IY hw w2 hb
 refine ⟨fun h => (by rw [h] at EZ; cases EZ), fun j hj => ?_⟩
 obtain rfl := MG Bb hj
 unfold wpOpIn
 simp only [hi]
 rw [if_pos (by simp [Region.wanted, hg])]
 refine he a w2 hs (hw.garb hb) _ _ fun v I' H' w' hp hw' => ?_
 obtain ⟨hII, Kt, hk⟩ := k v I' H' hp
 simp only [okX, Bool.and_eq_true] at Bb
 refine ⟨fun hx => absurd (by simpa using Bb.2) hx, fun hz _ => ?_, ?_⟩
 ·rcases Kt with hc | Kt
  ·exact absurd (by simpa using hc) hz
  ·exact ⟨I', Ec.trans hII, hw'.sub Kt⟩
 rw [hd]
 exact hk Gw hQ _ _ (hs.put (by simpa using hn) v) (by simpa [Act.put] using IY) hw'
theorem Eu (i : Nat) {Post : Value → AU → List HA → Prop} (Bb : okX ops X listed i = true) (EZ : (Region.ready .any ops listed).isEmpty = false) (hi : ops[i]? = some o) (Ec : Le I0 I)
  (hg : o.guard = none) (hd : o.dst = none) (he : I9 C E I H o Post)
  (k : ∀ v I' H', Post v I' H' → Le I I' ∧ (Z.contains i = true ∨ Mj H' R0) ∧ R C ops X Z I0 R0 fuel (listed.setIfInBounds i true) E I' H' D Q) : R C ops X Z I0 R0 (fuel + 1) listed E I H D Q := by
 intro Gw hQ a w hs IY hw w2 hb
 refine ⟨fun h => (by rw [h] at EZ; cases EZ), fun j hj => ?_⟩
 obtain rfl := MG Bb hj
 unfold wpOpIn
 simp only [hi]
 rw [if_pos (by simp [Region.wanted, hg])]
 refine he a w2 hs (hw.garb hb) _ _ fun v I' H' w' hp hw' => ?_
 obtain ⟨hII, Kt, hk⟩ := k v I' H' hp
 simp only [okX, Bool.and_eq_true] at Bb
 refine ⟨fun hx => absurd (by simpa using Bb.2) hx, fun hz _ => ?_, ?_⟩
 ·rcases Kt with hc | Kt
  ·exact absurd (by simpa using hc) hz
  ·exact ⟨I', Ec.trans hII, hw'.sub Kt⟩
 rw [hd]
 exact hk Gw hQ _ _ hs IY hw'
end
end Go.Tri

namespace Go.Tri
open Go.RowKit

def qs (C : Cx) (ops : Array Oper) (I : AU) (H : List HA) (K : Act → Prop) : List Oper → Act → Prop
 | [], a => K a
 | o :: rest, a => (Region.wanted o (yielded ops a.tmps) = true ∧ ∃ v, (∀ w, St C.w0 I H w → Rx C o a.eval w v) ∧ qs C ops I H K rest (a.put o.dst v)) ∨
   (Region.wanted o (yielded ops a.tmps) = false ∧ qs C ops I H K rest (a.put o.dst undef))

section
variable {C : Cx} {ops : Array Oper} {I : AU} {H : List HA} {E : DJ} {D : List Deferred} {Q : Exit → Act → World → Prop} {K K' : Act → Prop}

theorem Gi (h : ∀ a, K a → K' a) : ∀ (l : List Oper) (a : Act), qs C ops I H K l a → qs C ops I H K' l a
 | [], a, hq => h a hq
 | _ :: rest, _, hq => by
  rcases hq with ⟨h1, v, h2, h3⟩ | ⟨h1, h3⟩
  ·exact .inl ⟨h1, v, h2, Gi h rest _ h3⟩
  ·exact .inr ⟨h1, Gi h rest _ h3⟩
theorem L6 : ∀ (l1 l2 : List Oper) (a : Act), qs C ops I H (qs C ops I H K l2) l1 a → qs C ops I H K (l1 ++ l2) a
 | [], _, _, h => h
 | _ :: rest, l2, _, hq => by
  rcases hq with ⟨h1, v, h2, h3⟩ | ⟨h1, h3⟩
  ·exact .inl ⟨h1, v, h2, L6 rest l2 _ h3⟩
  ·exact .inr ⟨h1, L6 rest l2 _ h3⟩

theorem M3 : ∀ (l rest : List Oper) (a : Act) (w : World), qs C ops I H (fun a' => ∀ w', Below w.heap.size w w' → wpListIn (WF C.r) 0 C.P ops Q rest a' w') l a → St C.w0 I H w → wpListIn (WF C.r) 0 C.P ops Q (l ++ rest) a w
 | [], _, _, w, h, _ => h w (Below.refl _ _)
 | o :: l, rest, a, w, h, hw => by
  unfold qs at h
  show wpListIn (WF C.r) 0 C.P ops Q (o :: (l ++ rest)) a w
  refine wpListIn_step fun K hK => ?_
  rcases h with ⟨h1, v, h2, h3⟩ | ⟨h1, h3⟩
  ·rw [if_pos h1]
   refine (h2 w hw).wpIn fun w' hb => hK _ _ (M3 l rest _ w' (Gi (fun a' h w2 Ei => h w2 (DK hb Ei)) l _ h3) (hw.garb hb))
  ·rw [if_neg (by simp [h1])]
   exact ⟨fun _ _ => trivial, hK _ _ (M3 l rest _ w h3 hw)⟩

theorem put_defers (a : Act) (dst : Option Tmp) (v : Value) : (a.put dst v).defers = a.defers := by cases dst <;> rfl
theorem RG (a : Act) (dst : Option Tmp) (v : Value) : (a.put dst v).tmps.size = a.tmps.size := by cases dst <;> simp [Act.put]
def KO (l : List Oper) : List Nat := l.filterMap (·.dst)
theorem LZ : ∀ (l : List Oper) (a : Act), qs C ops I H K l a → qs C ops I H (fun a' => K a' ∧ a'.defers = a.defers ∧ a'.tmps.size = a.tmps.size ∧ ∀ t, t ∉ KO l → a'.tmps[t]? = a.tmps[t]?) l a
 | [], _, h => ⟨h, rfl, rfl, fun _ _ => rfl⟩
 | o :: l, a, hq => by
  have key : ∀ v, qs C ops I H K l (a.put o.dst v) → qs C ops I H (fun a' => K a' ∧ a'.defers = a.defers ∧ a'.tmps.size = a.tmps.size ∧ ∀ t, t ∉ KO (o :: l) → a'.tmps[t]? = a.tmps[t]?) l (a.put o.dst v) := fun v h => by
   refine Gi (fun a' h' => ?_) l _ (LZ l _ h)
   obtain ⟨h1, h2, h3, h4⟩ := h'
   refine ⟨h1, by rw [h2, put_defers], by rw [h3, RG], fun t ht => ?_⟩
   unfold KO at ht
   rw [List.filterMap_cons] at ht
   cases hd : o.dst with
   | none =>
    rw [hd] at ht h4
    exact h4 t ht
   | some d =>
    rw [hd] at ht h4
    rw [h4 t (fun h => ht (List.mem_cons_of_mem _ h))]
    have EZ : d ≠ t := fun e => ht (by subst e; exact List.mem_cons_self)
    simp [Act.put, Array.getElem?_setIfInBounds_ne EZ]
  rcases hq with ⟨h1, v, h2, h3⟩ | ⟨h1, h3⟩
  ·exact .inl ⟨h1, v, h2, key v h3⟩
  ·exact .inr ⟨h1, key undef h3⟩

theorem ADa (Gw : F9 ops = true) (hQ : Rt Q) : ∀ (l : List Oper) (k : Nat) (listed : Array Bool) (a : Act) (w : World), (∀ j, l[j]? = ops[k + j]?) → Region.lexFrom .any ops l.length k listed = true → HY ops listed → St C.w0 I H w →
  qs C ops I H (fun a' => a'.defers = a.defers → ∀ w', St C.w0 I H w' → Q .normal a' w') l a → wa C ops [] [] (St C.w0 I H) Q l.length listed a w
 | [], _, listed, a, w, _, hB, _, hw, h => ⟨by simpa [Region.lexFrom] using hB, fun w2 hb => h rfl w2 (hw.garb hb)⟩
 | o :: l, k, listed, a, w, hl, hB, hc, hw, h => by
  have h0 : ops[k]? = some o := by simpa using (hl 0).symm
  simp only [List.length_cons, Region.lexFrom, Bool.and_eq_true] at hB
  obtain ⟨⟨hr, hf⟩, hB'⟩ := hB
  have hr' : k ∈ Region.ready .any ops listed := by simpa using hr
  have step : ∀ v, Yd C ops o v a w → qs C ops I H (fun a' => a'.defers = a.defers → ∀ w', St C.w0 I H w' → Q .normal a' w') l (a.put o.dst v) → wa C ops [] [] (St C.w0 I H) Q (l.length + 1) listed a w := fun v hy hq =>
   RT Gw hQ h0 (fun j hj => by cases hj) (fun _ _ h hb => h.garb hb) l.length listed a w hc (Region.free_spec h0 hf) hr' hy
    (ADa Gw hQ l (k + 1) _ _ w (fun j => by have := hl (j + 1); simpa [Nat.add_assoc, Nat.add_comm 1 j] using this) hB' (hc.set hr') hw (Gi (fun a' h' e => h' (e.trans (put_defers _ _ _))) l _ hq))
  rcases h with ⟨h1, v, h2, h3⟩ | ⟨h1, h3⟩
  ·exact step v (.inl ⟨h1, fun w2 hb => h2 w2 (hw.garb hb)⟩) h3
  ·exact step undef (.inr ⟨h1, rfl⟩) h3

def QS (C : Cx) (ops : Array Oper) (l : List Oper) (E : DJ) (I : AU) (H : List HA) (K : Act → Prop) : Prop := ∀ a, G2 E C.n a.tmps → qs C ops I H K l a

theorem TK (ops : Array Oper) (m : Nat) : HY ops (Array.replicate m false) := by
 intro j oj _ hl
 exfalso
 rcases Nat.lt_or_ge j m with h | h
 ·simp [h] at hl
 ·simp [h] at hl

def Ye (C : Cx) (I : AU) (H : List HA) (D : List Deferred) (Q : Exit → Act → World → Prop) (a' : Act) : Prop := a'.defers = D → ∀ w', St C.w0 I H w' → Q .normal a' w'
theorem Dw {id : Nat} {l : List Oper} (hs : QS C l.toArray l E I H (Ye C I H D Q)) : T C (.region id l.toArray false) E I H D Q := by
 intro a w Gf hd hw
 have h1 := LZ l a (hs a Gf)
 have h2 := M3 (Q := Q) l [] a w (Gi (fun a' h' w' hb => h'.1 (h'.2.1.trans hd) w' (hw.garb hb)) l a h1) hw
 rw [List.append_nil] at h2
 exact wpIn_region_lit h2
theorem CI {id : Nat} {l : List Oper} (hm : C.P.follows .mixedOrders = true) (hB : (F9 l.toArray && Region.lexB .any l.toArray) = true) (hQ : Rt Q)
  (hs : QS C l.toArray l E I H (Ye C I H D Q)) : T C (.region id l.toArray true) E I H D Q := by
 intro a w Gf hd hw
 have hb : Below w.heap.size w { w with drawn := w.drawn + 1 } := (Below.refl _ w).drew
 rw [Bool.and_eq_true] at hB
 obtain ⟨Gw, hB⟩ := hB
 simp only [Region.lexB, Bool.and_eq_true] at hB
 refine wpIn_region_any hm ?_
 have h3 : qs C l.toArray I H (fun a' => a'.defers = a.defers → ∀ w', St C.w0 I H w' → Q .normal a' w') l a := by
  refine Gi (fun a' h' => ?_) l a (hs a Gf)
  intro hd' w' hw'
  exact h' (hd'.trans hd) w' hw'
 have h2 := ADa (w := { w with drawn := w.drawn + 1 }) Gw hQ l 0 (Array.replicate l.length false) a (by simp) (by simpa using hB.2) (TK _ _) (hw.garb hb) h3
 have := T8 _ _ _ _ h2
 simpa using this

theorem NN (h : N C .normal E I H D Q) : QS C ops [] E I H (Ye C I H D Q) := fun a hs hd w' hw' => h a w' hs hd hw'
theorem Ao {y : Nat} {v : Value} (h : Hg E y = some v) : QS C ops [] E I H (fun a' => a'.tmps[y]? = some v) := fun _ hs => hs.2 y v h
theorem s_q {o : Oper} {rest : List Oper} {d : Nat} {v : Value} (hg : o.guard = none) (hd : o.dst = some d) (hn : Nat.blt d C.n = true) (hq : BS C E I H o v)
  (k : QS C ops rest ((d, v) :: E) I H K) : QS C ops (o :: rest) E I H K := fun a hs =>
 .inl ⟨by simp [Region.wanted, hg], v, fun w hw => hq a w hs hw, by rw [hd]; exact k _ (hs.put (by simpa using hn) v)⟩
theorem IP {a : Act} {j : Nat} {oj : Oper} {dj : Nat} {b : Bool} (hs : G2 E C.n a.tmps) (hj : ops[j]? = some oj) (MS : oj.dst = some dj) (hb : Hg E dj = some (.bool b)) : yielded ops a.tmps j = some b := by
 unfold yielded
 simp [hj, MS, hs.2 dj _ hb]
theorem s_g {o oj : Oper} {rest : List Oper} {d j dj : Nat} {b : Bool} {v : Value} (hg : o.guard = some (j, b)) (hj : ops[j]? = some oj) (MS : oj.dst = some dj) (hb : Hg E dj = some (.bool b)) (hd : o.dst = some d) (hn : Nat.blt d C.n = true) (hq : BS C E I H o v)
  (k : QS C ops rest ((d, v) :: E) I H K) : QS C ops (o :: rest) E I H K := fun a hs =>
 .inl ⟨by simp [Region.wanted, hg, IP hs hj MS hb], v, fun w hw => hq a w hs hw, by rw [hd]; exact k _ (hs.put (by simpa using hn) v)⟩
def Jv (l : List Nat) : DJ → Bool
 | [] => true
 | (k, _) :: r => !l.contains k && Jv l r
theorem MY {l : List Nat} : ∀ {E : DJ} {k : Nat} {v : Value}, Jv l E = true → Hg E k = some v → k ∉ l
 | (j, u) :: r, k, v, h, hg => by
  unfold Jv at h
  rw [Bool.and_eq_true] at h
  unfold Hg at hg
  by_cases e : j = k
  ·subst e
   simpa using h.1
  ·rw [show Nat.beq j k = false from by cases hb : Nat.beq j k with | false => rfl | true => exact absurd (Nat.eq_of_beq_eq_true hb) e] at hg
   exact MY h.2 hg

end
end Go.Tri
