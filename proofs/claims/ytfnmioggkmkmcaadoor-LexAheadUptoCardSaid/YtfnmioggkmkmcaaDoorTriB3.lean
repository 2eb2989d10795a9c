/-
  Pieces of slices that do not turn any more.
-/
import Derived.Test.YtfnmioggkmkmcaaDoorTriB2
import Derived.Laws.Slices
namespace Go.Tri
open Go.RowKit
/-- elements l to h of a slice -/
def cutV (sz l h : Nat) : Value → Value
  | .slice a _ c => .slice (if c = l then a else a.map (·.add (l * sz))) (h - l) (c - l)
  | v => v
theorem Sl.cut {I : Look} {sz l h : Nat} {v : Value} {xss : List (List Value)} (hs : Sl I sz v xss) (h1 : l ≤ h) (h2 : h ≤ xss.length) : Sl I sz (cutV sz l h v) ((xss.drop l).take (h - l)) := by
  obtain ⟨⟨A, c, rfl, hc, hA, hne⟩, hcell⟩ := hs
  have hlen : ((xss.drop l).take (h - l)).length = h - l := by simp; omega
  have hpos : (xss.drop l).take (h - l) ≠ [] → l < h := fun hn => by
    have := List.length_pos_iff.2 hn
    omega
  have hx : (xss.drop l).take (h - l) ≠ [] → xss ≠ [] := fun hn he => by subst he; simp at hn
  refine ⟨⟨_, _, by rw [hlen]; rfl, by omega, fun hn a ha => ?_, fun hn => ?_⟩, fun i j cs u hi hj => ?_⟩
  · have := hpos hn
    rw [if_neg (by omega)] at ha
    cases A with
    | none => cases ha
    | some a0 =>
      have h0 := hA (hx hn) a0 rfl
      obtain ⟨b, o, sp⟩ := a0
      cases h0
      simp only [Option.map_some, Option.some.injEq] at ha
      rw [Addr.add_lit] at ha
      subst ha; rfl
  · have := hpos hn
    rw [if_neg (by omega)]
    cases A with
    | none => exact absurd rfl (hne (hx hn))
    | some a0 => simp
  · have hi' : i < h - l := by
      have := (List.getElem?_eq_some_iff.1 hi).1
      rw [hlen] at this; exact this
    rw [List.getElem?_take, if_pos hi', List.getElem?_drop] at hi
    have hn : xss ≠ [] := by rintro rfl; simp at hi
    have hk := hcell (l + i) j cs u hi hj
    cases A with
    | none => exact absurd rfl (hne hn)
    | some a0 =>
      have h0 := hA hn a0 rfl
      obtain ⟨b, o, sp⟩ := a0
      cases h0
      simp only [cutV, adr]
      rw [if_neg (by omega)]
      simp only [Option.map_some, Addr.add_lit]
      have e : o + l * sz + i * sz + j = o + (l + i) * sz + j := by rw [Nat.add_mul]; omega
      rw [e]
      exact hk
theorem Sl.drop {I : Look} {sz l n : Nat} {v : Value} {xss : List (List Value)} (hs : Sl I sz v xss) (hn : xss.length = n) (h1 : l ≤ n) : Sl I sz (cutV sz l n v) (xss.drop l) := by
  have := hs.cut (l := l) (h := n) h1 (by omega)
  rwa [List.take_of_length_le (by simp; omega)] at this
theorem Sl.dropM {α : Type} {I : Look} {sz l n : Nat} {v : Value} {f : α → List Value} {xs : List α} (hs : Sl I sz v (xs.map f)) (hn : xs.length = n) (h1 : l ≤ n) : Sl I sz (cutV sz l n v) ((xs.drop l).map f) := by
  have := hs.drop (l := l) (n := n) (by rw [List.length_map]; exact hn) h1
  rwa [← List.map_drop] at this
theorem Sl.cutM {α : Type} {I : Look} {sz l h : Nat} {v : Value} {f : α → List Value} {xs : List α} (hs : Sl I sz v (xs.map f)) (h1 : l ≤ h) (h2 : h ≤ xs.length) : Sl I sz (cutV sz l h v) (((xs.drop l).take (h - l)).map f) := by
  have := hs.cut (l := l) (h := h) h1 (by rw [List.length_map]; exact h2)
  rwa [← List.map_drop, ← List.map_take] at this

section
variable {C : Cx} {E : Env} {I : Look} {H : List HA} {D : List Deferred} {Q : Exit → Act → World → Prop} {o : Oper}
variable {x i j : Operand} {t e : TypeId} {v z : Value} {kl kh : IntKind} {m k : Int} {n sz bytes : Nat}
theorem elem_of {P : Program} {t e : TypeId} (ht : P.underlying t = some (.slice e)) : P.underlying t = some (.slice (P.elem t)) ∧ P.elem t = e := by
  have : P.elem t = e := by unfold Program.elem; rw [ht]
  exact ⟨by rw [this]; exact ht, this⟩
theorem q_slice_from (ho : o.op = .slice t x (some i) none none) (ht : C.P.underlying t = some (.slice e)) (hi : TI C.P e sz bytes z) (hx : ev E x = some v) (hj : ev E i = some (.int kl m)) (hv : ∃ A c, v = .slice A n c) (h : 0 ≤ m ∧ m ≤ n) :
    Quiet C E I H o (cutV sz m.toNat n v) :=
  quiet_run (by rw [ho]; rfl) fun a w hs _ => by
    obtain ⟨A, c, rfl⟩ := hv
    obtain ⟨ht', he⟩ := elem_of ht
    simp only [execOp, ho, hs.ev hx, Option.map_some, Option.map_none, hs.ev hj]
    rw [Sem.run_bind, run_sliceAt_slice w t _ _ _ _ ht', run_slice_l w t A n c ht' kl m h.1 h.2, he]
    simp [hi.sizeOf, sliced, cutV]
theorem q_slice_to (ho : o.op = .slice t x none (some j) none) (ht : C.P.underlying t = some (.slice e)) (hi : TI C.P e sz bytes z) (hx : ev E x = some v) (hj : ev E j = some (.int kh k)) (hv : ∃ A c, v = .slice A n c ∧ n ≤ c) (h : 0 ≤ k ∧ k ≤ n) :
    Quiet C E I H o (cutV sz 0 k.toNat v) :=
  quiet_run (by rw [ho]; rfl) fun a w hs _ => by
    obtain ⟨A, c, rfl, hc⟩ := hv
    obtain ⟨ht', he⟩ := elem_of ht
    simp only [execOp, ho, hs.ev hx, Option.map_some, Option.map_none, hs.ev hj]
    rw [Sem.run_bind, run_sliceAt_slice w t _ _ _ _ ht', run_slice_h w t A n c ht' kh k h.1 (by omega), he]
    simp [hi.sizeOf, sliced, cutV]
theorem q_slice_lh (ho : o.op = .slice t x (some i) (some j) none) (ht : C.P.underlying t = some (.slice e)) (hi : TI C.P e sz bytes z) (hx : ev E x = some v) (hj : ev E i = some (.int kl m)) (hk : ev E j = some (.int kh k)) (hv : ∃ A c, v = .slice A n c ∧ n ≤ c) (h : 0 ≤ m ∧ m ≤ k ∧ k ≤ n) :
    Quiet C E I H o (cutV sz m.toNat k.toNat v) :=
  quiet_run (by rw [ho]; rfl) fun a w hs _ => by
    obtain ⟨A, c, rfl, hc⟩ := hv
    obtain ⟨ht', he⟩ := elem_of ht
    simp only [execOp, ho, hs.ev hx, Option.map_some, Option.map_none, hs.ev hj, hs.ev hk]
    rw [Sem.run_bind, run_sliceAt_slice w t _ _ _ _ ht', run_slice_lh w t A n c ht' kl kh m k h.1 h.2.1 (by omega), he]
    simp [hi.sizeOf, sliced, cutV]
theorem Sl.capOf {xss : List (List Value)} (h : Sl I sz v xss) (hn : xss.length = n) : ∃ A c, v = .slice A n c ∧ n ≤ c := by
  obtain ⟨⟨A, c, rfl, hc, _⟩, _⟩ := h
  exact ⟨A, c, by rw [hn], by omega⟩
end
end Go.Tri
namespace Go.Tri
open Go.RowKit
/-! short circuits within one another -/
/-- none of G is wanted: guarded by operation j the other way, or by one of G itself -/
def skipOk (ops : Array Oper) (j : Nat) (want : Bool) : List Oper → List Nat → Bool
  | [], _ => true
  | o :: G, dead => (match o.guard with
      | none => false
      | some (j', b') => (Nat.beq j' j && b' == want) || (match ops[j']? with
        | some oj => match oj.dst with | some d => dead.contains d | none => false
        | none => false)) && skipOk ops j want G (match o.dst with | some d => d :: dead | none => dead)
section
variable {C : Cx} {ops : Array Oper} {I : Look} {H : List HA} {E : Env} {D : List Deferred} {Q : Exit → Act → World → Prop} {K K' : Act → Prop}
def Dead (a : Act) (d : Nat) : Prop := a.tmps[d]? = some undef ∨ a.tmps[d]? = none
theorem dead_put {a : Act} {d : Nat} {dst : Option Nat} (h : Dead a d) : Dead (a.put dst undef) d := by
  cases dst with
  | none => exact h
  | some e =>
    unfold Dead at *
    by_cases he : e = d
    · subst he
      rcases Nat.lt_or_ge e a.tmps.size with hlt | hge
      · left; simp [Act.put, hlt]
      · right; simp [Act.put, hge]
    · simpa [Act.put, Array.getElem?_setIfInBounds_ne he] using h
theorem dead_put_self (a : Act) (d : Nat) : Dead (a.put (some d) undef) d := by
  unfold Dead
  rcases Nat.lt_or_ge d a.tmps.size with hlt | hge
  · left; simp [Act.put, hlt]
  · right; simp [Act.put, hge]
theorem qs_skips2 {j : Nat} {b b' : Bool} (hbb : b ≠ b') : ∀ (G : List Oper) (dead : List Nat) (a : Act), skipOk ops j b G dead = true → (∀ d ∈ dead, Dead a d) → yielded ops a.tmps j = some b' → (∀ oj dj, ops[j]? = some oj → oj.dst = some dj → dj ∉ dsts G) →
    (∀ a', a'.defers = a.defers → a'.tmps.size = a.tmps.size → (∀ t, t ∉ dsts G → a'.tmps[t]? = a.tmps[t]?) → K a') → qs C ops I H K G a
  | [], _, _, _, _, _, _, h => h _ rfl rfl fun _ _ => rfl
  | o :: G, dead, a, hG, hd0, hy, hn, h => by
    unfold skipOk at hG
    rw [Bool.and_eq_true] at hG
    refine .inr ⟨?_, qs_skips2 hbb G (match o.dst with | some d => d :: dead | none => dead) _ hG.2 ?_ ?_ (fun oj dj h1 h2 hm => hn oj dj h1 h2 ?_) (fun a' h1 h2 h3 => h a' (h1.trans (put_defers _ _ _)) (h2.trans (put_size _ _ _)) fun t ht => ?_)⟩
    · cases hg : o.guard with
      | none => simp [hg] at hG
      | some p =>
        obtain ⟨j', b1⟩ := p
        have h1 := hG.1
        simp only [hg, Bool.or_eq_true, Bool.and_eq_true] at h1
        rcases h1 with ⟨h1, h2⟩ | h1
        · have e1 := Nat.eq_of_beq_eq_true h1
          subst e1
          have e2 : b1 = b := by simpa using h2
          subst e2
          simp [Region.wanted, hg, hy, hbb.symm]
        · cases hj : ops[j']? with
          | none => simp [hj] at h1
          | some oj =>
            simp only [hj] at h1
            cases hdj : oj.dst with
            | none => simp [hdj] at h1
            | some dj =>
              simp only [hdj] at h1
              have := hd0 dj (by simpa using h1)
              have hyn : yielded ops a.tmps j' = none := by
                unfold yielded
                simp only [hj, hdj, Option.bind_some]
                rcases this with e | e <;> simp [e, undef]
              simp [Region.wanted, hg, hyn]
    · intro d hd
      cases ho : o.dst with
      | none => rw [ho] at hd; exact hd0 d hd
      | some e =>
        rw [ho] at hd
        rcases List.mem_cons.1 hd with rfl | hd
        · exact dead_put_self a _
        · exact dead_put (hd0 d hd)
    · cases hd : o.dst with
      | none => exact hy
      | some d =>
        unfold yielded at hy ⊢
        cases hj : ops[j]? with
        | none => simp [hj] at hy
        | some oj =>
          cases hdj : oj.dst with
          | none => simp [hj, hdj] at hy
          | some dj =>
            have hne : d ≠ dj := fun e => hn oj dj hj hdj (by subst e; unfold dsts; rw [List.filterMap_cons, hd]; exact List.mem_cons_self)
            simp only [hj, hdj, Option.bind_some] at hy ⊢
            simpa [Act.put, Array.getElem?_setIfInBounds_ne hne] using hy
    · unfold dsts at hm ⊢
      rw [List.filterMap_cons]
      split
      · exact hm
      · exact List.mem_cons_of_mem _ hm
    · unfold dsts at ht
      rw [List.filterMap_cons] at ht
      cases hd : o.dst with
      | none =>
        rw [hd] at ht
        have := h3 t ht
        rw [hd] at this
        exact this
      | some d =>
        rw [hd] at ht
        have := h3 t (fun hm => ht (List.mem_cons_of_mem _ hm))
        rw [hd] at this
        rw [this]
        have hne : d ≠ t := fun e => ht (by subst e; exact List.mem_cons_self)
        simp [Act.put, Array.getElem?_setIfInBounds_ne hne]
theorem s_short2 {l rest : List Oper} {p oj : Oper} (k j dj d y : Nat) (want b c : Bool) (hsplit : l.drop k = p :: rest) (hga : skipOk ops j want (l.take k) [] = true) (hj : ops[j]? = some oj) (hdj : oj.dst = some dj)
    (hb : get E dj = some (.bool b)) (hoff : (keysOff (dsts (l.take k)) E && !(dsts (l.take k)).contains dj) = true)
    (hy : b = want → QS C ops (l.take k) ((dj, .bool want) :: E) I H (fun a' => a'.tmps[y]? = some (.bool c)))
    (hpw : ∀ a : Act, Sat E C.n a.tmps → Region.wanted p (yielded ops a.tmps) = true) (hpd : p.dst = some d) (hn : Nat.blt d C.n = true) (hpp : (want = true ∧ p.op = .pick (.tmp dj) (.tmp y) (.const (.bool false))) ∨ (want = false ∧ p.op = .pick (.tmp dj) (.const (.bool true)) (.tmp y)))
    (kk : QS C ops rest ((d, .bool (if want then b && c else b || c)) :: E) I H K) : QS C ops l E I H K := by
  intro a hs
  rw [Bool.and_eq_true] at hoff
  rw [← List.take_append_drop k l, hsplit]
  refine qs_append _ _ _ ?_
  have hyl := yielded_of (C := C) hs hj hdj hb
  have after : ∀ a' : Act, a'.defers = a.defers → a'.tmps.size = a.tmps.size → (∀ t, t ∉ dsts (l.take k) → a'.tmps[t]? = a.tmps[t]?) → (b = want → a'.tmps[y]? = some (.bool c)) → qs C ops I H K (p :: rest) a' := by
    intro a' _ h2 h3 h4
    have hsE : Sat E C.n a'.tmps := ⟨by rw [h2]; exact hs.1, fun t v ht => by rw [h3 t (get_keysOff hoff.1 ht)]; exact hs.2 t v ht⟩
    have hc : a'.eval (.tmp dj) = .bool b := hsE.ev (x := .tmp dj) hb
    refine .inl ⟨hpw a' hsE, .bool (if want then b && c else b || c), fun w _ => ?_, by rw [hpd]; exact kk _ (hsE.put (by simpa using hn) _)⟩
    have e1 : ∀ u, a'.eval (.const u) = u := fun _ => rfl
    rcases hpp with ⟨rfl, hp⟩ | ⟨rfl, hp⟩
    · refine ⟨by rw [hp]; rfl, ?_⟩
      cases b with
      | false => simp [execOp, hp, hc, asBool, e1]
      | true =>
        have hy' : a'.eval (.tmp y) = .bool c := by simp [Act.eval, h4 rfl]
        simp [execOp, hp, hc, hy', asBool, e1]
    · refine ⟨by rw [hp]; rfl, ?_⟩
      cases b with
      | true => simp [execOp, hp, hc, asBool, e1]
      | false =>
        have hy' : a'.eval (.tmp y) = .bool c := by simp [Act.eval, h4 rfl]
        simp [execOp, hp, hc, hy', asBool, e1]
  by_cases e : b = want
  · subst e
    have h1 := hy rfl a (hs.sub (sub_cons hb (Sub.refl E)))
    exact qs_mono (fun a' h => after a' h.2.1 h.2.2.1 h.2.2.2 fun _ => h.1) _ _ (qs_keeps _ _ h1)
  · refine qs_skips2 (b := want) (b' := b) (Ne.symm e) _ [] a hga (fun d hd => by cases hd) hyl (fun oj' dj' h1 h2 => ?_) fun a' h1 h2 h3 => after a' h1 h2 h3 fun e' => absurd e' e
    have : oj' = oj := Option.some.inj (h1.symm.trans hj)
    subst this
    rw [hdj] at h2
    cases h2
    simpa using hoff.2
end
end Go.Tri
