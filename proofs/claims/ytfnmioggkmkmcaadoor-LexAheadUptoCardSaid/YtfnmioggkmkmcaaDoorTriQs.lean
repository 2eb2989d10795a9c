/-
  Runs of operations that leave things alone: in regions with a drawn order and without; guarded operations; short circuits.
-/
import Derived.Test.YtfnmioggkmkmcaaDoorTriReg
namespace Go.Tri
open Go.RowKit

/-- the operations in the text's order, each yielding one value in every world of the class -/
def qs (C : Cx) (ops : Array Oper) (I : Look) (H : List HA) (K : Act → Prop) : List Oper → Act → Prop
  | [], a => K a
  | o :: rest, a => (Region.wanted o (yielded ops a.tmps) = true ∧ ∃ v, (∀ w, St C.w0 I H w → qAt C o a.eval w v) ∧ qs C ops I H K rest (a.put o.dst v)) ∨
      (Region.wanted o (yielded ops a.tmps) = false ∧ qs C ops I H K rest (a.put o.dst undef))

section
variable {C : Cx} {ops : Array Oper} {I : Look} {H : List HA} {E : Env} {D : List Deferred} {Q : Exit → Act → World → Prop} {K K' : Act → Prop}

theorem qs_mono (h : ∀ a, K a → K' a) : ∀ (l : List Oper) (a : Act), qs C ops I H K l a → qs C ops I H K' l a
  | [], a, hq => h a hq
  | _ :: rest, _, hq => by
    rcases hq with ⟨h1, v, h2, h3⟩ | ⟨h1, h3⟩
    · exact .inl ⟨h1, v, h2, qs_mono h rest _ h3⟩
    · exact .inr ⟨h1, qs_mono h rest _ h3⟩
theorem qs_append : ∀ (l1 l2 : List Oper) (a : Act), qs C ops I H (qs C ops I H K l2) l1 a → qs C ops I H K (l1 ++ l2) a
  | [], _, _, h => h
  | _ :: rest, l2, _, hq => by
    rcases hq with ⟨h1, v, h2, h3⟩ | ⟨h1, h3⟩
    · exact .inl ⟨h1, v, h2, qs_append rest l2 _ h3⟩
    · exact .inr ⟨h1, qs_append rest l2 _ h3⟩

theorem qs_list : ∀ (l rest : List Oper) (a : Act) (w : World), qs C ops I H (fun a' => ∀ w', Below w.heap.size w w' → wpListIn (WF C.r) 0 C.P ops Q rest a' w') l a → St C.w0 I H w → wpListIn (WF C.r) 0 C.P ops Q (l ++ rest) a w
  | [], _, _, w, h, _ => h w (Below.refl _ _)
  | o :: l, rest, a, w, h, hw => by
    unfold qs at h
    show wpListIn (WF C.r) 0 C.P ops Q (o :: (l ++ rest)) a w
    refine wpListIn_step fun K hK => ?_
    rcases h with ⟨h1, v, h2, h3⟩ | ⟨h1, h3⟩
    · rw [if_pos h1]
      refine (h2 w hw).wpIn fun w' hb => hK _ _ (qs_list l rest _ w' (qs_mono (fun a' h w2 hb2 => h w2 (below_trans hb hb2)) l _ h3) (hw.garb hb))
    · rw [if_neg (by simp [h1])]
      exact ⟨fun _ _ => trivial, hK _ _ (qs_list l rest _ w h3 hw)⟩

theorem put_defers (a : Act) (dst : Option Tmp) (v : Value) : (a.put dst v).defers = a.defers := by cases dst <;> rfl
theorem put_size (a : Act) (dst : Option Tmp) (v : Value) : (a.put dst v).tmps.size = a.tmps.size := by cases dst <;> simp [Act.put]
def dsts (l : List Oper) : List Nat := l.filterMap (·.dst)
/-- slots that nobody writes keep what they hold -/
theorem qs_keeps : ∀ (l : List Oper) (a : Act), qs C ops I H K l a → qs C ops I H (fun a' => K a' ∧ a'.defers = a.defers ∧ a'.tmps.size = a.tmps.size ∧ ∀ t, t ∉ dsts l → a'.tmps[t]? = a.tmps[t]?) l a
  | [], _, h => ⟨h, rfl, rfl, fun _ _ => rfl⟩
  | o :: l, a, hq => by
    have key : ∀ v, qs C ops I H K l (a.put o.dst v) → qs C ops I H (fun a' => K a' ∧ a'.defers = a.defers ∧ a'.tmps.size = a.tmps.size ∧ ∀ t, t ∉ dsts (o :: l) → a'.tmps[t]? = a.tmps[t]?) l (a.put o.dst v) := fun v h => by
      refine qs_mono (fun a' h' => ?_) l _ (qs_keeps l _ h)
      obtain ⟨h1, h2, h3, h4⟩ := h'
      refine ⟨h1, by rw [h2, put_defers], by rw [h3, put_size], fun t ht => ?_⟩
      unfold dsts at ht
      rw [List.filterMap_cons] at ht
      cases hd : o.dst with
      | none =>
        rw [hd] at ht h4
        exact h4 t ht
      | some d =>
        rw [hd] at ht h4
        rw [h4 t (fun h => ht (List.mem_cons_of_mem _ h))]
        have hne : d ≠ t := fun e => ht (by subst e; exact List.mem_cons_self)
        simp [Act.put, Array.getElem?_setIfInBounds_ne hne]
    rcases hq with ⟨h1, v, h2, h3⟩ | ⟨h1, h3⟩
    · exact .inl ⟨h1, v, h2, key v h3⟩
    · exact .inr ⟨h1, key undef h3⟩

/-- **one walk in the text's order serves every order** -/
theorem qs_wa (hpl : plainAll ops = true) (hQ : PutQ Q) : ∀ (l : List Oper) (k : Nat) (listed : Array Bool) (a : Act) (w : World), (∀ j, l[j]? = ops[k + j]?) → Region.lexFrom .any ops l.length k listed = true → Closed ops listed → St C.w0 I H w →
    qs C ops I H (fun a' => a'.defers = a.defers → ∀ w', St C.w0 I H w' → Q .normal a' w') l a → wa C ops [] [] (St C.w0 I H) Q l.length listed a w
  | [], _, listed, a, w, _, hB, _, hw, h => ⟨by simpa [Region.lexFrom] using hB, fun w2 hb => h rfl w2 (hw.garb hb)⟩
  | o :: l, k, listed, a, w, hl, hB, hc, hw, h => by
    have h0 : ops[k]? = some o := by simpa using (hl 0).symm
    simp only [List.length_cons, Region.lexFrom, Bool.and_eq_true] at hB
    obtain ⟨⟨hr, hf⟩, hB'⟩ := hB
    have hr' : k ∈ Region.ready .any ops listed := by simpa using hr
    have step : ∀ v, Yd C ops o v a w → qs C ops I H (fun a' => a'.defers = a.defers → ∀ w', St C.w0 I H w' → Q .normal a' w') l (a.put o.dst v) → wa C ops [] [] (St C.w0 I H) Q (l.length + 1) listed a w := fun v hy hq =>
      wa_first hpl hQ h0 (fun j hj => by cases hj) (fun _ _ h hb => h.garb hb) l.length listed a w hc (Region.free_spec h0 hf) hr' hy
        (qs_wa hpl hQ l (k + 1) _ _ w (fun j => by have := hl (j + 1); simpa [Nat.add_assoc, Nat.add_comm 1 j] using this) hB' (hc.set hr') hw (qs_mono (fun a' h' e => h' (e.trans (put_defers _ _ _))) l _ hq))
    rcases h with ⟨h1, v, h2, h3⟩ | ⟨h1, h3⟩
    · exact step v (.inl ⟨h1, fun w2 hb => h2 w2 (hw.garb hb)⟩) h3
    · exact step undef (.inr ⟨h1, rfl⟩) h3

def QS (C : Cx) (ops : Array Oper) (l : List Oper) (E : Env) (I : Look) (H : List HA) (K : Act → Prop) : Prop := ∀ a, Sat E C.n a.tmps → qs C ops I H K l a

theorem closed_none (ops : Array Oper) (m : Nat) : Closed ops (Array.replicate m false) := by
  intro j oj _ hl
  exfalso
  rcases Nat.lt_or_ge j m with h | h
  · simp [h] at hl
  · simp [h] at hl

/-- what is asked behind a region -/
def Done (C : Cx) (I : Look) (H : List HA) (D : List Deferred) (Q : Exit → Act → World → Prop) (a' : Act) : Prop := a'.defers = D → ∀ w', St C.w0 I H w' → Q .normal a' w'
/-- a region all of whose operations leave things alone -/
theorem t_qreg {id : Nat} {l : List Oper} (hs : QS C l.toArray l E I H (Done C I H D Q)) : T C (.region id l.toArray false) E I H D Q := by
  intro a w hsat hd hw
  have h1 := qs_keeps l a (hs a hsat)
  have h2 := qs_list (Q := Q) l [] a w (qs_mono (fun a' h' w' hb => h'.1 (h'.2.1.trans hd) w' (hw.garb hb)) l a h1) hw
  rw [List.append_nil] at h2
  exact wpIn_region_lit h2
theorem t_qdraw {id : Nat} {l : List Oper} (hm : C.P.follows .mixedOrders = true) (hB : (plainAll l.toArray && Region.lexB .any l.toArray) = true) (hQ : PutQ Q)
    (hs : QS C l.toArray l E I H (Done C I H D Q)) : T C (.region id l.toArray true) E I H D Q := by
  intro a w hsat hd hw
  have hb : Below w.heap.size w { w with drawn := w.drawn + 1 } := (Below.refl _ w).drew
  rw [Bool.and_eq_true] at hB
  obtain ⟨hpl, hB⟩ := hB
  simp only [Region.lexB, Bool.and_eq_true] at hB
  refine wpIn_region_any hm ?_
  have h3 : qs C l.toArray I H (fun a' => a'.defers = a.defers → ∀ w', St C.w0 I H w' → Q .normal a' w') l a := by
    refine qs_mono (fun a' h' => ?_) l a (hs a hsat)
    intro hd' w' hw'
    exact h' (hd'.trans hd) w' hw'
  have h2 := qs_wa (w := { w with drawn := w.drawn + 1 }) hpl hQ l 0 (Array.replicate l.length false) a (by simp) (by simpa using hB.2) (closed_none _ _) (hw.garb hb) h3
  have := wa_any _ _ _ _ h2
  simpa using this

/-! steps -/
theorem s_end {E' : Env} (h : Sub E E') : QS C ops [] E I H (fun a' => Sat E' C.n a'.tmps) := fun _ hs => hs.sub h
theorem s_done (h : N C .normal E I H D Q) : QS C ops [] E I H (Done C I H D Q) := fun a hs hd w' hw' => h a w' hs hd hw'
theorem s_val {y : Nat} {v : Value} (h : get E y = some v) : QS C ops [] E I H (fun a' => a'.tmps[y]? = some v) := fun _ hs => hs.2 y v h
theorem s_q {o : Oper} {rest : List Oper} {d : Nat} {v : Value} (hg : o.guard = none) (hd : o.dst = some d) (hn : Nat.blt d C.n = true) (hq : Quiet C E I H o v)
    (k : QS C ops rest ((d, v) :: E) I H K) : QS C ops (o :: rest) E I H K := fun a hs =>
  .inl ⟨by simp [Region.wanted, hg], v, fun w hw => hq a w hs hw, by rw [hd]; exact k _ (hs.put (by simpa using hn) v)⟩
theorem yielded_of {a : Act} {j : Nat} {oj : Oper} {dj : Nat} {b : Bool} (hs : Sat E C.n a.tmps) (hj : ops[j]? = some oj) (hdj : oj.dst = some dj) (hb : get E dj = some (.bool b)) : yielded ops a.tmps j = some b := by
  unfold yielded
  simp [hj, hdj, hs.2 dj _ hb]
/-- a guarded operation that is wanted -/
theorem s_g {o oj : Oper} {rest : List Oper} {d j dj : Nat} {b : Bool} {v : Value} (hg : o.guard = some (j, b)) (hj : ops[j]? = some oj) (hdj : oj.dst = some dj) (hb : get E dj = some (.bool b)) (hd : o.dst = some d) (hn : Nat.blt d C.n = true) (hq : Quiet C E I H o v)
    (k : QS C ops rest ((d, v) :: E) I H K) : QS C ops (o :: rest) E I H K := fun a hs =>
  .inl ⟨by simp [Region.wanted, hg, yielded_of hs hj hdj hb], v, fun w hw => hq a w hs hw, by rw [hd]; exact k _ (hs.put (by simpa using hn) v)⟩
/-- all that G asks is guarded by one operation, and is not wanted -/
theorem qs_skips {j : Nat} {b b' : Bool} (hbb : b ≠ b') : ∀ (G : List Oper) (a : Act), (∀ o ∈ G, o.guard = some (j, b)) → yielded ops a.tmps j = some b' → (∀ oj dj, ops[j]? = some oj → oj.dst = some dj → dj ∉ dsts G) →
    (∀ a', a'.defers = a.defers → a'.tmps.size = a.tmps.size → (∀ t, t ∉ dsts G → a'.tmps[t]? = a.tmps[t]?) → K a') → qs C ops I H K G a
  | [], _, _, _, _, h => h _ rfl rfl fun _ _ => rfl
  | o :: G, a, hG, hy, hn, h => by
    refine .inr ⟨?_, qs_skips hbb G _ (fun x hx => hG x (List.mem_cons_of_mem _ hx)) ?_ (fun oj dj h1 h2 hm => hn oj dj h1 h2 ?_) (fun a' h1 h2 h3 => h a' (h1.trans (put_defers _ _ _)) (h2.trans (put_size _ _ _)) fun t ht => ?_)⟩
    · simp [Region.wanted, hG o List.mem_cons_self, hy, hbb.symm]
    · cases hd : o.dst with
      | none => exact hy
      | some d =>
        unfold yielded at hy ⊢
        cases hj : ops[j]? with
        | none => simp [hj] at hy
        | some oj =>
          cases hdj : oj.dst with
          | none => simp [hj, hdj] at hy
          | some dj =>
            have hne : d ≠ dj := fun e => hn oj dj hj hdj (by subst e; unfold dsts; rw [List.filterMap_cons, hd]; exact List.mem_cons_self)
            simp only [hj, hdj, Option.bind_some] at hy ⊢
            simpa [Act.put, Array.getElem?_setIfInBounds_ne hne] using hy
    · unfold dsts at hm ⊢
      rw [List.filterMap_cons]
      split
      · exact hm
      · exact List.mem_cons_of_mem _ hm
    · unfold dsts at ht
      rw [List.filterMap_cons] at ht
      cases hd : o.dst with
      | none =>
        rw [hd] at ht
        have := h3 t ht
        rw [hd] at this
        exact this
      | some d =>
        rw [hd] at ht
        have := h3 t (fun hm => ht (List.mem_cons_of_mem _ hm))
        rw [hd] at this
        rw [this]
        have hne : d ≠ t := fun e => ht (by subst e; exact List.mem_cons_self)
        simp [Act.put, Array.getElem?_setIfInBounds_ne hne]

def keysOff (l : List Nat) : Env → Bool
  | [] => true
  | (k, _) :: r => !l.contains k && keysOff l r
theorem get_keysOff {l : List Nat} : ∀ {E : Env} {k : Nat} {v : Value}, keysOff l E = true → get E k = some v → k ∉ l
  | (j, u) :: r, k, v, h, hg => by
    unfold keysOff at h
    rw [Bool.and_eq_true] at h
    unfold get at hg
    by_cases e : j = k
    · subst e
      simpa using h.1
    · rw [show Nat.beq j k = false from by cases hb : Nat.beq j k with | false => rfl | true => exact absurd (Nat.eq_of_beq_eq_true hb) e] at hg
      exact get_keysOff h.2 hg

/-- 'c && y', 'c || y': the operations of y are guarded by c (operation j, whose slot holds it) -/
def guardedAll (j : Nat) (b : Bool) (G : List Oper) : Bool := G.all fun o => match o.guard with | some (j', b') => Nat.beq j' j && b' == b | none => false
theorem guardedAll_spec {j : Nat} {b : Bool} {G : List Oper} (h : guardedAll j b G = true) : ∀ o ∈ G, o.guard = some (j, b) := fun o ho => by
  have := List.all_eq_true.1 h o ho
  split at this
  · rename_i j' b' hg
    rw [Bool.and_eq_true] at this
    rw [hg, Nat.eq_of_beq_eq_true this.1]
    simpa using this.2
  · cases this

theorem s_short {l rest : List Oper} {p oj : Oper} (k j dj d y : Nat) (want b c : Bool) (hsplit : l.drop k = p :: rest) (hga : guardedAll j want (l.take k) = true) (hj : ops[j]? = some oj) (hdj : oj.dst = some dj)
    (hb : get E dj = some (.bool b)) (hoff : (keysOff (dsts (l.take k)) E && !(dsts (l.take k)).contains dj) = true)
    (hy : b = want → QS C ops (l.take k) ((dj, .bool want) :: E) I H (fun a' => a'.tmps[y]? = some (.bool c)))
    (hpg : p.guard = none) (hpd : p.dst = some d) (hn : Nat.blt d C.n = true) (hpp : (want = true ∧ p.op = .pick (.tmp dj) (.tmp y) (.const (.bool false))) ∨ (want = false ∧ p.op = .pick (.tmp dj) (.const (.bool true)) (.tmp y)))
    (kk : QS C ops rest ((d, .bool (if want then b && c else b || c)) :: E) I H K) : QS C ops l E I H K := by
  intro a hs
  rw [Bool.and_eq_true] at hoff
  rw [← List.take_append_drop k l, hsplit]
  refine qs_append _ _ _ ?_
  have hyl := yielded_of (C := C) hs hj hdj hb
  -- behind the guarded operations
  have after : ∀ a' : Act, a'.defers = a.defers → a'.tmps.size = a.tmps.size → (∀ t, t ∉ dsts (l.take k) → a'.tmps[t]? = a.tmps[t]?) → (b = want → a'.tmps[y]? = some (.bool c)) → qs C ops I H K (p :: rest) a' := by
    intro a' _ h2 h3 h4
    have hsE : Sat E C.n a'.tmps := ⟨by rw [h2]; exact hs.1, fun t v ht => by rw [h3 t (get_keysOff hoff.1 ht)]; exact hs.2 t v ht⟩
    have hc : a'.eval (.tmp dj) = .bool b := hsE.ev (x := .tmp dj) hb
    refine .inl ⟨by simp [Region.wanted, hpg], .bool (if want then b && c else b || c), fun w _ => ?_, by rw [hpd]; exact kk _ (hsE.put (by simpa using hn) _)⟩
    have e1 : ∀ u, a'.eval (.const u) = u := fun _ => rfl
    rcases hpp with ⟨rfl, hp⟩ | ⟨rfl, hp⟩
    · refine ⟨by rw [hp]; rfl, ?_⟩
      cases b with
      | false => simp [execOp, hp, hc, asBool, e1]
      | true =>
        have hy' : a'.eval (.tmp y) = .bool c := by simp [Act.eval, h4 rfl]
        simp [execOp, hp, hc, hy', asBool, e1]
    · refine ⟨by rw [hp]; rfl, ?_⟩
      cases b with
      | true => simp [execOp, hp, hc, asBool, e1]
      | false =>
        have hy' : a'.eval (.tmp y) = .bool c := by simp [Act.eval, h4 rfl]
        simp [execOp, hp, hc, hy', asBool, e1]
  by_cases e : b = want
  · subst e
    have h1 := hy rfl a (hs.sub (by
      intro t v ht
      unfold get at ht
      by_cases e : dj = t
      · subst e
        rw [show Nat.beq dj dj = true from Nat.beq_refl dj] at ht
        cases ht
        exact hb
      · rw [show Nat.beq dj t = false from by cases hb : Nat.beq dj t with | false => rfl | true => exact absurd (Nat.eq_of_beq_eq_true hb) e] at ht
        exact ht))
    exact qs_mono (fun a' h => after a' h.2.1 h.2.2.1 h.2.2.2 fun _ => h.1) _ _ (qs_keeps _ _ h1)
  · refine qs_skips (b := want) (b' := b) (Ne.symm e) _ a (guardedAll_spec hga) hyl (fun oj' dj' h1 h2 => ?_) fun a' h1 h2 h3 => after a' h1 h2 h3 fun e' => absurd e' e
    have : oj' = oj := Option.some.inj (h1.symm.trans hj)
    subst this
    rw [hdj] at h2
    cases h2
    simpa using hoff.2
end
end Go.Tri
