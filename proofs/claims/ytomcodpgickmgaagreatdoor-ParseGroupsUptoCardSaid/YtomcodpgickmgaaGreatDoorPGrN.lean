/-
  A text's commands, one behind the other, and the same commands within braces.
-/
import Derived.Test.YtomcodpgickmgaaGreatDoorPGrJ
import Derived.Test.YtomcodpgickmgaaGreatDoorPCode
namespace Go.Tri
open Go.RowKit
section
variable {s : List UInt8}
/-- a word that ends a body is a word of the shell -/
theorem contains_pre {sub : List UInt8} : ∀ (a b : List UInt8), Lib.contains b sub = true → Lib.contains (a ++ b) sub = true
  | [], b, h => h
  | c :: a, b, h => by
    show Lib.contains (c :: (a ++ b)) sub = true
    rw [contains_cons, contains_pre a b h, Bool.or_true]
theorem among_closers {x : List UInt8} (h : amongB closersS x = true) : amongB reservedS x = true := by
  unfold amongB at h ⊢
  rw [Bool.and_eq_true] at h ⊢
  refine ⟨h.1, ?_⟩
  have e : [32] ++ reservedS ++ [32] = [32, 33, 32, 123, 32, 99, 97, 115, 101, 32, 102, 111, 114, 32, 105, 102, 32, 117, 110, 116, 105, 108, 32, 119, 104, 105, 108, 101] ++ ([32] ++ closersS ++ [32]) := by decide
  rw [e]
  exact contains_pre _ _ h.2
theorem begin_word {t : Tok} (hk : t.kind = 1) (h : amongB closersS t.text = false) : beginB t = true := by
  unfold beginB
  rw [hk, h]; rfl
theorem key_text {x : List UInt8} {t : Tok} (h : keyB x t = true) : t.kind = 1 ∧ t.text = x := by
  unfold keyB at h
  rw [Bool.and_eq_true, decide_eq_true_eq, decide_eq_true_eq] at h
  exact h
theorem begin_key {x : List UInt8} {t : Tok} (h : keyB x t = true) (hx : amongB closersS x = false) : beginB t = true := by
  obtain ⟨h1, h2⟩ := key_text h
  exact begin_word h1 (by rw [h2]; exact hx)
theorem begin_op {t : Tok} (h : opB [40] t = true) : beginB t = true := by
  unfold beginB
  rw [h]; simp
theorem begin_redir {t : Tok} (h : redirB t = true) : beginB t = true := by
  unfold beginB
  rw [h]; simp
theorem core_begin {B : PS → ReR Nd} {q r : PS} {n : Nd} (hf : Filled s q) (h : coreP s B q = .ok n r) : beginB (headT s q) = true := by
  unfold coreP at h
  rw [bnd_ok (now_filled hf)] at h
  generalize headT s q = t at h ⊢
  by_cases h1 : opB [40] t = true
  · exact begin_op h1
  rw [if_neg h1] at h
  by_cases h2 : keyB [123] t = true
  · exact begin_key h2 (by decide +kernel)
  rw [if_neg h2] at h
  by_cases h3 : keyB [105, 102] t = true
  · exact begin_key h3 (by decide +kernel)
  rw [if_neg h3] at h
  by_cases h4 : keyB [119, 104, 105, 108, 101] t = true
  · exact begin_key h4 (by decide +kernel)
  by_cases h5 : keyB [117, 110, 116, 105, 108] t = true
  · exact begin_key h5 (by decide +kernel)
  rw [if_neg (by simp [h4, h5])] at h
  by_cases h6 : keyB [102, 111, 114] t = true
  · exact begin_key h6 (by decide +kernel)
  rw [if_neg h6] at h
  by_cases h7 : keyB [99, 97, 115, 101] t = true
  · exact begin_key h7 (by decide +kernel)
  rw [if_neg h7] at h
  cases h
theorem cmd_begin {m : Nat} {q r : PS} {n : Nd} (hf : Filled s q) (h : (lvC s (m + 1)).1 q = .ok n r) : beginB (headT s q) = true := by
  change cmdP s (compP s (bodyP s (levP s m))) (simpP s (fnP (lvC s m).2)) q = _ at h
  unfold cmdP at h
  rw [bnd_ok (now_filled hf)] at h
  split at h
  · unfold compP at h
    rw [bnd_v] at h
    cases hc : coreP s (bodyP s (levP s m)) q with
    | bad a e => rw [hc] at h; cases h
    | ok x p => exact core_begin hf hc
  · rename_i h0
    unfold simpP at h
    rw [simpN, bnd_ok (now_filled hf)] at h
    generalize headT s q = t at h h0 ⊢
    by_cases h1 : redirB t = true
    · exact begin_redir h1
    rw [if_neg h1] at h
    by_cases h2 : t.kind = 1
    · refine begin_word h2 ?_
      cases hc : amongB closersS t.text with
      | false => rfl
      | true => exact absurd (by rw [h2, among_closers hc]; simp) h0
    · rw [if_neg h2, if_pos ⟨rfl, rfl⟩] at h
      cases h
theorem item_begin {m : Nat} {q r : PS} {x : Nd × Bool} (hf : Filled s q) (h : itemP s (levP s (m + 1)) q = .ok x r) : beginB (headT s q) = true := by
  unfold itemP at h
  rw [bnd_v] at h
  cases ha : levP s (m + 1) q with
  | bad a e => rw [ha] at h; cases h
  | ok n p =>
    clear h
    unfold levP andorP at ha
    rw [bnd_v] at ha
    cases hp : pipeP s (lvC s (m + 1)).1 q with
    | bad a e => rw [hp] at ha; cases ha
    | ok n p =>
      clear ha
      unfold pipeP at hp
      rw [bnd_ok (now_filled hf)] at hp
      by_cases hk : keyB [33] (headT s q) = true
      · exact begin_key hk (by decide +kernel)
      · rw [if_neg hk, bnd_v] at hp
        cases hc : (lvC s (m + 1)).1 q with
        | bad a e => rw [hc] at hp; cases hp
        | ok n p => exact cmd_begin hf hc
/-- states of the text -/
theorem now_okP (T : Txt s) {p q : PS} {t : Tok} (hv : Inv s p) (hp : OkP s p) (h : nowP s p = .ok t q) : OkP s q := by
  by_cases hf : Filled s p
  · rw [now_filled hf] at h
    cases h
    exact hp
  · have hc : p.line = [] ∧ p.next < s.length := Classical.not_not.1 hf
    obtain ⟨pl, pn⟩ := p
    obtain rfl : pl = [] := hc.1
    by_cases he : (lineP s pn).err = 0
    · have hfil : Filled s ⟨(lineP s pn).toks, (lineP s pn).fin⟩ := by
        intro h2
        have h8 := h2.2
        change (lineP s pn).fin < _ at h8
        rcases lineg_cases T.nl (show pn < s.length from hc.2) T.len he with ⟨h9, _⟩ | ⟨_, h9, _, _⟩
        · exact h9.ne h2.1
        · omega
      rw [now_line hc.2 he hfil] at h
      cases h
      exact OkP.line hp.1 he
    · rw [now_lbad hc.2 he] at h; cases h
theorem okP_head {q : PS} {t : Tok} (hp : OkP s q) (hf : Filled s q) (ht : t = headT s q) (h0 : t.kind = 0) : q.line = [] := by
  cases hl : q.line with
  | nil => rfl
  | cons u L =>
    have := hp.2.1 u (by rw [hl]; exact List.mem_cons_self)
    rw [headT_cons hl] at ht
    rw [ht] at h0
    omega
/-- newlines, with whatever is enough -/
theorem lines_loop (T : Txt s) (f' f : Nat) (h : f ≤ f') : Good s true false f 0 0 (fun _ => 0) (fun _ => True) True (linesN s f) (linesN (grS s) f') := by
  refine Good.loop (ι := Unit) (fun f _ => linesN s f) (fun f _ => linesN (grS s) f) (fun _ => true) (fun _ => 0) (fun _ => True) (fun a p' hd => hd) (fun a p' x e h => by cases h) (fun a p x e h => by cases h) (fun f f' ih a => ?_) f' f h ()
  show Good s true false (f + 1) 0 0 _ _ True (bnd (nowP s) (fun t q => if t.kind = 3 then linesN s f (stepS q) else .ok () q)) (bnd (nowP (grS s)) (fun t q => if t.kind = 3 then linesN (grS s) f' (stepS q) else .ok () q))
  refine Good.now T.nl T.len (GoodK.ite (fun t => t.kind = 3) (fun t => Iff.rfl) (fun _ => kind_iff3) ?_ ?_)
  · refine GoodK.step (j := true) (c := 0) (fun _ => linesN s f) (fun _ => linesN (grS s) f') (fun t ht => ?_) (fun _ => rfl) (by omega) (fun hP => absurd hP.2 (no_kind (by decide))) (fun h => by cases h)
    exact (ih ()).le (fun h => h) (fun h => h) (by omega) (Nat.le_refl _) (fun _ x _ => by omega) (fun x h => h) (fun h => h)
  · exact GoodK.ok (fun _ => ()) (fun _ => rfl) (fun _ => rfl) (fun _ t _ => ⟨Nat.le_refl _, trivial⟩) (fun h => by cases h)
/-- behind the newlines a token is at hand -/
theorem linesN_st (T : Txt s) : ∀ (f : Nat) (p q : PS), muP s p < f → Inv s p → OkP s p → linesN s f p = .ok () q → Filled s q ∧ (headT s q).kind ≠ 3 ∧ Inv s q ∧ OkP s q ∧ muP s q ≤ muP s p ∧ Wt s q ≤ Wt s p
  | 0, p, q, hm, _, _, _ => absurd hm (Nat.not_lt_zero _)
  | f + 1, p, q, hm, hv, ho, h => by
    rw [linesN, bnd_v] at h
    cases hn : nowP s p with
    | bad a e => rw [hn] at h; cases h
    | ok t r =>
      rw [hn] at h
      change (if t.kind = 3 then linesN s f (stepS r) else .ok () r) = _ at h
      obtain ⟨f1, f2, f3, f4, f5⟩ := now_use T.nl T.len hv hn
      have f6 := now_okP T hv ho hn
      by_cases h3 : t.kind = 3
      · rw [if_pos h3] at h
        have e1 := mu_step (s := s) (p := r) (by rw [← f2, h3]; decide)
        have e2 := wt_step0 (s := s) r
        obtain ⟨g1, g2, g3, g4, g5, g6⟩ := linesN_st T f (stepS r) q (by omega) (inv_step0 f3) f6.step h
        exact ⟨g1, g2, g3, g4, by omega, by omega⟩
      · rw [if_neg h3] at h
        cases h
        exact ⟨f1, by rw [← f2]; exact h3, f3, f6, f4, f5⟩
theorem rel_step3 {q q' : PS} {t : Tok} {L : List Tok} (h : Rel s q q') (hl : q.line = t :: L) (h3 : t.kind = 3) : Rel s (stepS q) (stepS q') ∧ (stepS q).line = [] := by
  cases h with
  | inl L0 n h1 h2 =>
    change L0 = _ at hl
    subst hl
    rcases h1 with ⟨rfl, h1⟩ | ⟨h1, h4⟩
    · exact ⟨Rel.btw n h2, rfl⟩
    · exact absurd h3 h1
  | btw n h => cases hl
  | cut L0 h h9 =>
    change L0 = _ at hl
    subst hl
    exact absurd h3 (h9 t List.mem_cons_self)
  | word L0 w w' h1 h2 h4 h5 h9 =>
    cases L0 with
    | nil => exact absurd rfl h1
    | cons u L1 =>
      change u :: (L1 ++ [w]) = _ at hl
      injection hl with e1 e2
      rw [← e1] at h3
      exact absurd h3 (h9 u List.mem_cons_self)
/-- newlines alone to the text's end -/
theorem lines_none (T : Txt s) : ∀ (f f' : Nat) (p p' q : PS), f ≤ f' → muP s p < f → OkP s p → Rel s p p' → linesN s f p = .ok () q → (headT s q).kind = 0 → linesN (grS s) f' p' = .ok () (endE s) ∧ q = ⟨[], s.length⟩
  | 0, f', p, p', q, _, hm, _, _, _, _ => absurd hm (Nat.not_lt_zero _)
  | f + 1, 0, p, p', q, hf, _, _, _, _, _ => absurd hf (by omega)
  | f + 1, f' + 1, p, p', q, hf, hm, ho, hR, h, h0 => by
    rw [linesN, bnd_v] at h
    cases hn : nowP s p with
    | bad a e => rw [hn] at h; cases h
    | ok t r =>
      rw [hn] at h
      change (if t.kind = 3 then linesN s f (stepS r) else .ok () r) = _ at h
      obtain ⟨f1, f2, f3, f4, f5⟩ := now_use T.nl T.len hR.inv hn
      have f6 := now_okP T hR.inv ho hn
      rcases now_sim T.nl T.len hR hn with ⟨L, r', h1, h2, h3⟩ | ⟨h1, h2, h3, h4⟩ | ⟨h1, ⟨h2, h3⟩, h4⟩
      · by_cases k3 : t.kind = 3
        · rw [if_pos k3] at h
          have e1 := mu_step (s := s) (p := r) (by rw [← f2, k3]; decide)
          rw [linesN, bnd_ok h2, if_pos (show (shiftT 2 t).kind = 3 from k3)]
          exact lines_none T f f' (stepS r) (stepS r') q (by omega) (by omega) f6.step (rel_step3 h3 h1 k3).1 h h0
        · rw [if_neg k3] at h
          cases h
          have := okP_head f6 f1 rfl h0
          rw [h1] at this; cases this
      · subst h2 h3
        rw [if_neg (no_kind (by decide))] at h
        cases h
        rw [linesN, bnd_ok h4, if_neg (fun h => absurd (kind_iff3.2 h) (no_kind (by decide)))]
        exact ⟨rfl, rfl⟩
      · by_cases k3 : t.kind = 3
        · exact absurd k3 h3
        · rw [if_neg k3] at h
          cases h
          exact absurd (okP_head f6 f1 rfl h0) h2
end
end Go.Tri

/-
  A text in braces is one command, and its body is what the text's commands are.
-/
namespace Go.Tri
open Go.RowKit
section
variable {s : List UInt8}
def bodyT (s : List UInt8) (A : PS → ReR Nd) (f : Nat) (acc : List Nd) : PS → ReR Nd := bnd (linesP s) (fun _ => bnd (nowP s) (fun t q => if beginB t = true then bodyN s A f acc q else .ok (severalP acc) q))
theorem a_good (T : Txt s) : GN s (levP s 25) (levP (grS s) 24) := andor_good T (pipe_good T (lv_off T 24).1)
theorem bodyK_doom (T : Txt s) (f : Nat) (acc : List Nd) (hb : ¬ NoBs s) {q : PS} (h1 : Doom s q) : DoomR s (bnd (nowP (grS s)) (fun t q => if beginB t = true then bodyN (grS s) (levP (grS s) 24) f acc q else .ok (severalP acc) q) q) := by
  rw [bnd_ok (now_filled (doom_filled h1))]
  split
  · exact (bodyN_good T (a_good T) (B := 0) (Q := True) f 0 (Nat.zero_le _) acc).doom hb q h1
  · exact h1
theorem bodyT_doom (T : Txt s) (f : Nat) (acc : List Nd) (hb : ¬ NoBs s) {p' : PS} (hd : Doom s p') : DoomR s (bodyT (grS s) (levP (grS s) 24) f acc p') := by
  unfold bodyT
  have h1 := (lines_good (g := 0) (B := 0) (Q := True) T).doom hb p' hd
  rw [bnd_v]
  cases hl : linesP (grS s) p' with
  | bad a e => trivial
  | ok x q =>
    rw [hl] at h1
    show DoomR s (bnd (nowP (grS s)) _ q)
    rw [bnd_ok (now_filled (doom_filled h1))]
    split
    · exact (bodyN_good T (a_good T) (B := 0) (Q := True) f 0 (Nat.zero_le _) acc).doom hb q h1
    · exact h1
/-- so a body goes on behind an item that ended -/
theorem bodyN_ended {u : List UInt8} {A : PS → ReR Nd} {f : Nat} {acc : List Nd} {p q : PS} {x : Nd × Bool} (h : itemP u A p = .ok x q) (he : x.2 = true ∨ ∃ t, nowP u q = .ok t q ∧ t.kind = 3) : bodyN u A (f + 1) acc p = bodyT u A f (acc ++ [x.1]) q := by
  rw [bodyN, bnd_ok h]
  rcases he with he | ⟨t, h1, h2⟩
  · rw [if_pos he]; rfl
  · cases hx : x.2 with
    | true => rw [if_pos rfl]; rfl
    | false =>
      rw [if_neg (by simp)]
      have : askP u (fun t => decide (t.kind = 3)) q = .ok true q := by rw [ask_of h1, decide_eq_true h2]
      rw [bnd_ok this]; rfl
theorem lines_one {u : List UInt8} {q : PS} {t : Tok} {L : List Tok} (hl : q.line = t :: L) (h3 : t.kind = 3) : linesP u q = linesP u (stepS q) := by
  have hf : Filled u q := fun h => by rw [hl] at h; cases h.1
  have e : muP u q = muP u (stepS q) + 1 := (mu_stepL (s := u) hl).symm
  unfold linesP
  rw [e, linesN, bnd_ok (now_filled hf), headT_cons hl, if_pos h3]
theorem bodyT_one {u : List UInt8} {A : PS → ReR Nd} {f : Nat} {acc : List Nd} {q : PS} {t : Tok} {L : List Tok} (hl : q.line = t :: L) (h3 : t.kind = 3) : bodyT u A f acc q = bodyT u A f acc (stepS q) := by
  unfold bodyT
  rw [bnd_v, bnd_v, lines_one hl h3]
theorem rel_line {q q' : PS} {t : Tok} {L : List Tok} (h : Rel s q q') (hl : q.line = t :: L) : ∃ L', q'.line = shiftT 2 t :: L' := by
  obtain ⟨f1, f2, f3, f4⟩ := rel_cons h hl
  cases hq : q'.line with
  | nil =>
    exfalso
    cases h with
    | inl L0 n h1 h2 => change L0 = _ at hl; subst hl; cases hq
    | btw n h => cases hl
    | cut L0 h h9 => change L0 = _ at hl; subst hl; cases hq
    | word L0 w w' h1 h2 h3 h4 h9 =>
      change L0.map _ ++ _ = [] at hq
      simp at hq
  | cons u L' => rw [headT_cons hq] at f4; rw [f4]; exact ⟨_, rfl⟩
/-- items of a complete command -/
def itemsN (s : List UInt8) : Nat → PS → List Nd
  | 0, _ => []
  | f + 1, p => match itemP s (levP s 25) p with
    | .bad _ _ => []
    | .ok x r => x.1 :: (if (x.2 && moreB r) = true then itemsN s f r else [])
theorem itemsN_step {f : Nat} {p r : PS} {x : Nd × Bool} (h : itemP s (levP s 25) p = .ok x r) : itemsN s (f + 1) p = x.1 :: (if (x.2 && moreB r) = true then itemsN s f r else []) := by rw [itemsN, h]
theorem comp_own (T : Txt s) : ∀ (f : Nat) (l0 : List Nd) (p q : PS) (n : Nd), muP s p < f → Inv s p → compN s f l0 p = .ok (some n) q →
    n = severalP (l0 ++ itemsN s f p) ∧ itemsN s f p ≠ [] ∧ (∀ x ∈ itemsN s f p, VN x) ∧ wl wn (itemsN s f p) + 200 * Wt s q ≤ 200 * Wt s p ∧ muP s q < muP s p ∧ Inv s q
  | 0, l0, p, q, n, hm, _, _ => absurd hm (Nat.not_lt_zero _)
  | f + 1, l0, p, q, n, hm, hv, h => by
    rw [compN, bnd_v] at h
    cases hi : itemP s (levP s 25) p with
    | bad a e => rw [hi] at h; cases h
    | ok x r =>
      rw [hi] at h
      change (if (x.2 && moreB r) = true then compN s f (l0 ++ [x.1]) r else compEnd (l0 ++ [x.1]) r) = _ at h
      have hG := item_good T (a_good T) (g := f + 1) (B := 0) (Q := True)
      obtain ⟨u1, u2⟩ := hG.use trivial p x r hm hv hi
      obtain ⟨m1, m2, m3⟩ := hG.mu p x r hm hv hi
      rw [itemsN_step hi]
      by_cases hmore : (x.2 && moreB r) = true
      · rw [if_pos hmore] at h ⊢
        obtain ⟨i1, i2, i3, i4, i5, i6⟩ := comp_own T f (l0 ++ [x.1]) r q n (by omega) m2 h
        rw [List.append_assoc] at i1
        refine ⟨i1, by simp, fun y hy => ?_, ?_, by omega, i6⟩
        · rcases List.mem_cons.1 hy with h9 | h9
          · rw [h9]; exact u2
          · exact i3 y h9
        · show wn x.1 + wl wn _ + _ ≤ _
          omega
      · rw [if_neg hmore] at h ⊢
        have hone : (∀ y ∈ [x.1], VN y) := fun y hy => by rw [List.mem_singleton.1 hy]; exact u2
        unfold compEnd at h
        cases hrl : r.line with
        | nil =>
          rw [hrl] at h
          cases h
          exact ⟨rfl, by simp, hone, by show wn x.1 + 0 + _ ≤ _; omega, by omega, m2⟩
        | cons t L =>
          rw [hrl] at h
          dsimp only at h
          split at h
          · cases h
            have e1 := wt_step0 (s := s) r
            have e2 := mu_step0 (s := s) (p := r)
            exact ⟨rfl, by simp, hone, by show wn x.1 + 0 + _ ≤ _; omega, by omega, inv_step0 m2⟩
          · cases h
/-- what the text in braces comes to behind the items: it goes on; it ends; it is nested too deep; it is lost -/
def Goes (s : List UInt8) (R : ReR Nd) (acc : List Nd) (q : PS) : Prop :=
  (∃ f'' q', muP s q < f'' ∧ R = bodyT (grS s) (levP (grS s) 24) f'' acc q' ∧ Rel s q q' ∧ q.line = []) ∨ (q.next = s.length ∧ R = .ok (severalP acc) (endE s)) ∨ (∃ a, R = .bad a 52) ∨ (¬ NoBs s ∧ DoomR s R)
theorem item_filled {u : List UInt8} {A : PS → ReR Nd} {p r : PS} {x : Nd × Bool} (h : itemP u A p = .ok x r) (hx : x.2 = false) : ∃ y p1, A p = .ok y p1 ∧ ∃ t, nowP u p1 = .ok t r := by
  unfold itemP at h
  rw [bnd_v] at h
  cases ha : A p with
  | bad a e => rw [ha] at h; cases h
  | ok n p1 =>
    rw [ha] at h
    change bnd (nowP u) _ p1 = _ at h
    rw [bnd_v] at h
    cases hn : nowP u p1 with
    | bad a e => rw [hn] at h; cases h
    | ok t r1 =>
      rw [hn] at h
      change (if opB [38] t = true then _ else if opB [59] t = true then _ else _) = _ at h
      split at h
      · cases h; cases hx
      · split at h
        · cases h; cases hx
        · cases h; exact ⟨n, p1, rfl, t, hn⟩
theorem comp_sim (T : Txt s) : ∀ (f f' : Nat) (l0 acc : List Nd) (p p' q : PS) (n : Nd), muP s p < f → f ≤ f' → Rel s p p' → compN s f l0 p = .ok (some n) q →
    Goes s (bodyN (grS s) (levP (grS s) 24) f' acc p') (acc ++ itemsN s f p) q
  | 0, f', l0, acc, p, p', q, n, hm, _, _, _ => absurd hm (Nat.not_lt_zero _)
  | f + 1, 0, l0, acc, p, p', q, n, _, hf, _, _ => absurd hf (by omega)
  | f + 1, f' + 1, l0, acc, p, p', q, n, hm, hf, hR, h => by
    rw [compN, bnd_v] at h
    cases hi : itemP s (levP s 25) p with
    | bad a e => rw [hi] at h; cases h
    | ok x r =>
      rw [hi] at h
      change (if (x.2 && moreB r) = true then compN s f (l0 ++ [x.1]) r else compEnd (l0 ++ [x.1]) r) = _ at h
      have hG := item_good T (a_good T) (g := f + 1) (B := 0) (Q := True)
      obtain ⟨m1, m2, m3⟩ := hG.mu p x r hm hR.inv hi
      rcases hG.sim p p' x r hm (Or.inl rfl) hR hi with ⟨r', hI, hR'⟩ | ⟨a, hI⟩ | ⟨hb, hI⟩
      · rw [itemsN_step hi]
        by_cases hmore : (x.2 && moreB r) = true
        · rw [if_pos hmore] at h ⊢
          rw [Bool.and_eq_true] at hmore
          obtain ⟨hx2, hmb⟩ := hmore
          cases hrl : r.line with
          | nil => unfold moreB at hmb; rw [hrl] at hmb; cases hmb
          | cons t L =>
            have ht3 : t.kind ≠ 3 := by
              unfold moreB at hmb
              rw [hrl] at hmb
              simpa using hmb
            have e1 : bodyN (grS s) (levP (grS s) 24) (f' + 1) acc p' = bodyN (grS s) (levP (grS s) 24) f' (acc ++ [x.1]) r' := by
              rw [bodyN_ended hI (Or.inl hx2)]
              obtain ⟨L', hL'⟩ := rel_line hR' hrl
              have hfr : Filled s r := fun h => by rw [hrl] at h; cases h.1
              have hfr' : Filled (grS s) r' := fun h => by rw [hL'] at h; cases h.1
              unfold bodyT
              have hlr : linesP (grS s) r' = .ok () r' := by
                unfold linesP
                rw [linesN, bnd_ok (now_filled hfr'), headT_cons hL', if_neg (show ¬ (shiftT 2 t).kind = 3 from ht3)]
              rw [bnd_ok hlr, bnd_ok (now_filled hfr'), headT_cons hL', if_pos]
              obtain ⟨f, rfl⟩ : ∃ k, f = k + 1 := ⟨f - 1, by omega⟩
              rw [compN, bnd_v] at h
              cases hi2 : itemP s (levP s 25) r with
              | bad a e => rw [hi2] at h; cases h
              | ok y z =>
                have := item_begin hfr hi2
                rw [headT_cons hrl] at this
                exact this
            have ih := (comp_sim T f f' (l0 ++ [x.1]) (acc ++ [x.1]) r r' q n (by omega) (by omega) hR' h)
            rw [e1]
            rw [List.append_assoc] at ih
            exact ih
        · rw [if_neg hmore] at h ⊢
          unfold compEnd at h
          cases hrl : r.line with
          | nil =>
            rw [hrl] at h
            cases h
            cases hx2 : x.2 with
            | true => exact Or.inl ⟨f', r', by omega, bodyN_ended hI (Or.inl hx2), hR', hrl⟩
            | false =>
              obtain ⟨y, p1, ha, t, hn⟩ := item_filled hi hx2
              have hv1 : Inv s p1 := ((a_good T (f + 1) 0 True).mu p y p1 hm hR.inv ha).2.1
              obtain ⟨f1, f2, f3, f4, f5⟩ := now_use T.nl T.len hv1 hn
              have hnx : q.next = s.length := by
                rcases head_cases f1 f3 with ⟨L, h9⟩ | ⟨_, h9, _⟩
                · rw [hrl] at h9; cases h9
                · exact h9
              refine Or.inr (Or.inl ⟨hnx, ?_⟩)
              have hr : q = ⟨[], s.length⟩ := by
                obtain ⟨rl, rn⟩ := q
                cases hrl; cases hnx; rfl
              rw [hr] at hR'
              have hnow : nowP (grS s) r' = .ok (brT s) (endE s) := by
                rcases now_sim T.nl T.len hR' (now_end rfl rfl) with ⟨L, q', h1, _⟩ | ⟨_, _, _, h4⟩ | ⟨_, ⟨h2, _⟩, _⟩
                · cases h1
                · exact h4
                · exact absurd rfl h2
              have hk3 : ¬ (brT s).kind = 3 := fun h => absurd (kind_iff3.2 h) (no_kind (by decide))
              have hask : askP (grS s) (fun t => decide (t.kind = 3)) r' = .ok false (endE s) := by rw [ask_of hnow, decide_eq_false hk3]
              have hlin : linesP (grS s) (endE s) = .ok () (endE s) := by
                unfold linesP
                rw [linesN, bnd_ok (now_filled endE_filled)]
                exact if_neg hk3
              rw [bodyN, bnd_ok hI, if_neg (by rw [hx2]; simp), bnd_ok hask, bnd_ok hlin]
              rfl
          | cons t L =>
            rw [hrl] at h
            dsimp only at h
            split at h
            · rename_i h3
              cases h
              obtain ⟨L', hL'⟩ := rel_line hR' hrl
              have hfr' : Filled (grS s) r' := fun h => by rw [hL'] at h; cases h.1
              have hnow : nowP (grS s) r' = .ok (shiftT 2 t) r' := by rw [now_filled hfr', headT_cons hL']
              obtain ⟨hR2, hl2⟩ := rel_step3 hR' hrl h3
              have e2 := mu_step0 (s := s) (p := r)
              refine Or.inl ⟨f', stepS r', by omega, ?_, hR2, hl2⟩
              rw [bodyN_ended hI (Or.inr ⟨_, hnow, h3⟩), bodyT_one hL' h3]
            · cases h
      · exact Or.inr (Or.inr (Or.inl ⟨a, by rw [bodyN, bnd_bad hI]⟩))
      · refine Or.inr (Or.inr (Or.inr ⟨hb, ?_⟩))
        cases hI2 : itemP (grS s) (levP (grS s) 24) p' with
        | bad a e => rw [bodyN, bnd_bad hI2]; trivial
        | ok y r' =>
          rw [hI2] at hI
          rw [bodyN, bnd_ok hI2]
          have key : ∀ ended, DoomR s (bnd (linesP (grS s)) (fun _ q => if ended = true then bnd (nowP (grS s)) (fun t q => if beginB t = true then bodyN (grS s) (levP (grS s) 24) f' (acc ++ [y.1]) q else .ok (severalP (acc ++ [y.1])) q) q else .ok (severalP (acc ++ [y.1])) q) r') := fun ended => by
            cases ended with
            | true => exact bodyT_doom T f' (acc ++ [y.1]) hb hI
            | false =>
              have h1 := (lines_good (g := 0) (B := 0) (Q := True) T).doom hb r' hI
              cases hl : linesP (grS s) r' with
              | bad a e => rw [bnd_bad hl]; trivial
              | ok z q2 => rw [hl] at h1; rw [bnd_ok hl]; exact h1
          cases hy : y.2 with
          | true => rw [if_pos rfl]; exact key true
          | false =>
            rw [if_neg (by simp)]
            have ha : askP (grS s) (fun t => decide (t.kind = 3)) r' = .ok (decide ((headT (grS s) r').kind = 3)) r' := ask_filled _ (doom_filled hI)
            rw [bnd_ok ha]
            exact key _
end
end Go.Tri

/-
  The commands of a text, and the group that holds them: the plain law.
-/
namespace Go.Tri
open Go.RowKit
/-- a list's commands; or the one command -/
def flatP (n : Nd) : List Nd := if n.kind = 5 then n.kids else [n]
theorem flat_several {l : List Nd} (h : l ≠ []) (hv : ∀ x ∈ l, VN x) : flatP (severalP l) = l := by
  cases l with
  | nil => exact absurd rfl h
  | cons x r =>
    cases r with
    | nil =>
      have hx := (hv x List.mem_cons_self).2
      show flatP (if x.kind = 6 then ndK 5 [x] else x) = [x]
      by_cases h6 : x.kind = 6
      · rw [if_pos h6]; rfl
      · rw [if_neg h6]; unfold flatP; rw [if_neg hx]
    | cons y r => rfl
/-- the commands of a text from a place on, all of them read -/
inductive CmdsP (s : List UInt8) : Nat → List Nd → Prop
  | done (a : Nat) (q : PS) : completeP s ⟨[], a⟩ = .ok none q → CmdsP s a []
  | more (a : Nat) (n : Nd) (q : PS) (l : List Nd) : completeP s ⟨[], a⟩ = .ok (some n) q → CmdsP s q.next l → CmdsP s a (flatP n ++ l)
section
variable {s : List UInt8}
theorem comp_some : ∀ (f : Nat) (l : List Nd) (p q : PS), compN s f l p ≠ .ok none q
  | 0, l, p, q => fun h => by cases h
  | f + 1, l, p, q => fun h => by
    rw [compN, bnd_v] at h
    cases hi : itemP s (levP s 25) p with
    | bad a e => rw [hi] at h; cases h
    | ok x r =>
      rw [hi] at h
      change (if (x.2 && moreB r) = true then compN s f (l ++ [x.1]) r else compEnd (l ++ [x.1]) r) = _ at h
      split at h
      · exact comp_some f _ _ _ h
      · unfold compEnd at h
        split at h
        · cases h
        · split at h <;> cases h
theorem okP_nil {a : Nat} (ha : a ≤ s.length) : OkP s ⟨[], a⟩ := ⟨ha, fun t ht => (by cases ht), Nat.zero_le _⟩
theorem inv_nil {a : Nat} (ha : a ≤ s.length) : Inv s ⟨[], a⟩ := ⟨ha, Or.inl rfl⟩
theorem complete_cases (T : Txt s) {a : Nat} {o : Option Nd} {q : PS} (ha : a ≤ s.length) (h : completeP s ⟨[], a⟩ = .ok o q) :
    ∃ q1, linesN s (muP s ⟨[], a⟩ + 1) ⟨[], a⟩ = .ok () q1 ∧ Filled s q1 ∧ Inv s q1 ∧ OkP s q1 ∧ muP s q1 ≤ muP s ⟨[], a⟩ ∧ Wt s q1 ≤ Wt s ⟨[], a⟩ ∧ (((headT s q1).kind = 0 ∧ o = none) ∨ ((headT s q1).kind ≠ 0 ∧ compN s (muP s q1 + 1) [] q1 = .ok o q)) := by
  unfold completeP at h
  rw [bnd_v] at h
  cases hl : linesP s ⟨[], a⟩ with
  | bad x e => rw [hl] at h; cases h
  | ok x q1 =>
    rw [hl] at h
    have hl2 : linesN s (muP s ⟨[], a⟩ + 1) ⟨[], a⟩ = .ok () q1 := hl
    obtain ⟨g1, g2, g3, g4, g5, g6⟩ := linesN_st T _ _ _ (Nat.lt_succ_self _) (inv_nil ha) (okP_nil ha) hl2
    refine ⟨q1, hl2, g1, g3, g4, g5, g6, ?_⟩
    change bnd (nowP s) _ q1 = _ at h
    rw [bnd_ok (now_filled g1)] at h
    by_cases h0 : (headT s q1).kind = 0
    · rw [if_pos h0] at h
      cases h
      exact Or.inl ⟨h0, rfl⟩
    · rw [if_neg h0] at h
      exact Or.inr ⟨h0, h⟩
theorem complete_end {o : Option Nd} {q : PS} (h : completeP s ⟨[], s.length⟩ = .ok o q) : o = none := by
  have hn : nowP s ⟨[], s.length⟩ = .ok (endT' s) ⟨[], s.length⟩ := now_end rfl rfl
  have hl : linesP s ⟨[], s.length⟩ = .ok () ⟨[], s.length⟩ := by
    unfold linesP
    rw [linesN, bnd_ok hn]
    exact if_neg (no_kind (by decide))
  unfold completeP at h
  rw [bnd_ok hl, bnd_ok hn, if_pos (show (endT' s).kind = 0 from rfl)] at h
  cases h; rfl
theorem cmds_end {l : List Nd} {a : Nat} (h : CmdsP s a l) (ha : a = s.length) : l = [] := by
  cases h with
  | done _ q h => rfl
  | more _ n q l h1 h2 =>
    subst ha
    exact absurd (complete_end h1) (by simp)
/-- what a text's commands are like -/
theorem cmds_own (T : Txt s) {a : Nat} {l : List Nd} (h : CmdsP s a l) : a ≤ s.length → (∀ x ∈ l, VN x) ∧ wl wn l ≤ 200 * Wt s ⟨[], a⟩ := by
  induction h with
  | done a q h => exact fun _ => ⟨fun x hx => (by cases hx), Nat.zero_le _⟩
  | more a n q l h1 h2 ih =>
    intro ha
    obtain ⟨q1, _, g1, g3, g4, g5, g6, g7⟩ := complete_cases T ha h1
    rcases g7 with ⟨_, g7⟩ | ⟨_, g7⟩
    · cases g7
    obtain ⟨c1, c2, c3, c4, c5, c6⟩ := comp_own T (muP s q1 + 1) [] q1 q n (Nat.lt_succ_self _) g3 g7
    rw [List.nil_append] at c1
    obtain ⟨i1, i2⟩ := ih c6.1
    rw [c1, flat_several c2 c3]
    refine ⟨fun x hx => (List.mem_append.1 hx).elim (c3 x) (i1 x), ?_⟩
    have e1 : wl wn (itemsN s (muP s q1 + 1) q1 ++ l) = wl wn (itemsN s (muP s q1 + 1) q1) + wl wn l := by
      generalize itemsN s (muP s q1 + 1) q1 = m
      induction m with
      | nil => show _ = 0 + _; rw [Nat.zero_add]; rfl
      | cons x m ihm => show wn x + wl wn (m ++ l) = wn x + wl wn m + wl wn l; rw [ihm]; omega
    have e2 : Wt s ⟨[], q.next⟩ ≤ Wt s q := by
      unfold Wt
      show 0 + _ ≤ _
      dsimp only
      omega
    omega
def OutB (s : List UInt8) (R : ReR Nd) (n : Nd) : Prop := R = .ok n (endE s) ∨ (∃ a, R = .bad a 52) ∨ (¬ NoBs s ∧ DoomR s R)
/-- an item begins here -/
theorem comp_begins {f : Nat} {l0 : List Nd} {q1 q : PS} {o : Option Nd} (hf : Filled s q1) (h : compN s (f + 1) l0 q1 = .ok o q) : beginB (headT s q1) = true := by
  rw [compN, bnd_v] at h
  cases hi : itemP s (levP s 25) q1 with
  | bad a e => rw [hi] at h; cases h
  | ok x r => exact item_begin hf hi
theorem q_nil {q : PS} (h : q.line = []) : q = ⟨[], q.next⟩ := by
  obtain ⟨l, n⟩ := q
  cases h; rfl
theorem cmds_sim (T : Txt s) {a : Nat} {l : List Nd} (h : CmdsP s a l) : a ≤ s.length → ∀ (acc : List Nd) (f' : Nat) (q' : PS), muP s ⟨[], a⟩ < f' → Rel s ⟨[], a⟩ q' → OutB s (bodyT (grS s) (levP (grS s) 24) f' acc q') (severalP (acc ++ l)) := by
  induction h with
  | done a q h =>
    intro ha acc f' q' hf hR
    obtain ⟨q1, hl, g1, g3, g4, g5, g6, g7⟩ := complete_cases T ha h
    rcases g7 with ⟨g7, _⟩ | ⟨_, g7⟩
    · obtain ⟨e1, _⟩ := lines_none T _ (muP (grS s) q' + 1) _ q' q1 (Nat.succ_le_succ (rel_mu hR)) (Nat.lt_succ_self _) (okP_nil ha) hR hl g7
      refine Or.inl ?_
      unfold bodyT
      rw [bnd_ok (show linesP (grS s) q' = .ok () (endE s) from e1), bnd_ok (now_filled endE_filled)]
      show (if beginB (brT s) = true then _ else _) = _
      rw [if_neg (by rw [beginBr]; simp), List.append_nil]
    · exact absurd g7 (comp_some _ _ _ _)
  | more a n q l h1 h2 ih =>
    intro ha acc f' q' hf hR
    obtain ⟨q1, hl, g1, g3, g4, g5, g6, g7⟩ := complete_cases T ha h1
    rcases g7 with ⟨_, g7⟩ | ⟨g0, g7⟩
    · cases g7
    obtain ⟨c1, c2, c3, c4, c5, c6⟩ := comp_own T (muP s q1 + 1) [] q1 q n (Nat.lt_succ_self _) g3 g7
    rw [List.nil_append] at c1
    have hfl : flatP n = itemsN s (muP s q1 + 1) q1 := by rw [c1, flat_several c2 c3]
    unfold bodyT
    rcases (lines_loop T (muP (grS s) q' + 1) (muP s ⟨[], a⟩ + 1) (Nat.succ_le_succ (rel_mu hR))).sim _ q' () q1 (Nat.lt_succ_self _) (Or.inl rfl) hR hl with ⟨q1', e1, hR1⟩ | ⟨b, e1⟩ | ⟨hb, e1⟩
    · rw [bnd_ok (show linesP (grS s) q' = .ok () q1' from e1)]
      rcases head_cases g1 g3 with ⟨L, h9⟩ | ⟨_, _, h9⟩
      · obtain ⟨r1, r2, r3, r4⟩ := rel_cons hR1 h9
        rw [bnd_ok (now_filled r2), r4, if_pos (show beginB (shiftT 2 (headT s q1)) = true from comp_begins g1 g7)]
        have hG := comp_sim T (muP s q1 + 1) f' [] acc q1 q1' q n (Nat.lt_succ_self _) (by omega) hR1 g7
        rw [hfl]
        rcases hG with ⟨f'', q'', k1, k2, k3, k4⟩ | ⟨k1, k2⟩ | ⟨b, k1⟩ | ⟨k1, k2⟩
        · rw [k2, ← List.append_assoc]
          rw [q_nil k4] at k3 k1
          exact ih c6.1 (acc ++ itemsN s (muP s q1 + 1) q1) f'' q'' k1 k3
        · rw [k2, cmds_end h2 k1, List.append_nil]
          exact Or.inl rfl
        · exact Or.inr (Or.inl ⟨b, k1⟩)
        · exact Or.inr (Or.inr ⟨k1, k2⟩)
      · rw [h9] at g0; exact absurd rfl g0
    · exact Or.inr (Or.inl ⟨b, bnd_bad (show linesP (grS s) q' = .bad b 52 from e1)⟩)
    · refine Or.inr (Or.inr ⟨hb, ?_⟩)
      cases hL : linesP (grS s) q' with
      | bad b e => rw [bnd_bad hL]; trivial
      | ok x r =>
        change DoomR s (linesP (grS s) q') at e1
        rw [hL] at e1
        rw [bnd_ok hL]
        exact bodyK_doom T f' acc hb e1
def lbT : Tok := ⟨1, [123], 0, [], false⟩
theorem line_lb (T : Txt s) : lineP (grS s) ((0 : Nat) : Int) = ⟨[lbT, nlAt 1], 2, 0, 0⟩ := by
  have e0 : lineP [123, 10] ((0 : Nat) : Int) = ⟨[lbT, nlAt 1], 2, 0, 0⟩ := by decide +kernel
  have hlen := T.len
  have := line_within (s := [123, 10]) (a := []) (b := s ++ [125, 10]) (i := 0) ⟨by simp, by decide⟩ (by simp) (by rw [e0]) (by rw [e0]; exact Or.inr ⟨by decide, Or.inl ⟨rfl, rfl⟩⟩) (by simp; omega)
  rw [e0] at this
  have e1 : grS s = [] ++ [123, 10] ++ (s ++ [125, 10]) := by unfold grS; simp
  rw [e1]
  exact this
/-- the body -/
theorem body_law (T : Txt s) {l : List Nd} (h : CmdsP s 0 l) :
    (l = [] → ∃ a, bodyP (grS s) (levP (grS s) 24) ⟨[nlAt 1], 2⟩ = .bad a 56) ∧ (l ≠ [] → OutB s (bodyP (grS s) (levP (grS s) 24) ⟨[nlAt 1], 2⟩) (severalP l)) := by
  have e0 : linesP (grS s) ⟨[nlAt 1], 2⟩ = linesP (grS s) ⟨[], 2⟩ := lines_one (q := ⟨[nlAt 1], 2⟩) rfl rfl
  have e1 : bodyP (grS s) (levP (grS s) 24) ⟨[nlAt 1], 2⟩ = bnd (linesP (grS s)) (fun _ q => bodyN (grS s) (levP (grS s) 24) (muP (grS s) q + 1) [] q) ⟨[], 2⟩ := by
    unfold bodyP
    rw [bnd_v, bnd_v, e0]
  rw [e1]
  have hR : Rel s ⟨[], 0⟩ ⟨[], 2⟩ := Rel.btw 0 (Nat.zero_le _)
  cases h with
  | done _ q h =>
    refine ⟨fun _ => ?_, fun h => absurd rfl h⟩
    obtain ⟨q1, hl, g1, g3, g4, g5, g6, g7⟩ := complete_cases T (Nat.zero_le _) h
    rcases g7 with ⟨g7, _⟩ | ⟨_, g7⟩
    · obtain ⟨e1, _⟩ := lines_none T _ (muP (grS s) ⟨[], 2⟩ + 1) _ _ q1 (Nat.succ_le_succ (rel_mu hR)) (Nat.lt_succ_self _) (okP_nil (Nat.zero_le _)) hR hl g7
      rw [bnd_ok (show linesP (grS s) ⟨[], 2⟩ = .ok () (endE s) from e1)]
      have hc : coreP (grS s) (bodyP (grS s) (levP (grS s) 23)) (endE s) = .bad (brT s).pos 56 := by
        unfold coreP
        rw [bnd_ok (now_filled endE_filled)]
        show (if opB [40] (brT s) = true then _ else if keyB [123] (brT s) = true then _ else if keyB [105, 102] (brT s) = true then _ else if (keyB [119, 104, 105, 108, 101] (brT s) || keyB [117, 110, 116, 105, 108] (brT s)) = true then _ else if keyB [102, 111, 114] (brT s) = true then _ else if keyB [99, 97, 115, 101] (brT s) = true then _ else _) = _
        rw [if_neg (by rw [opBr]; simp), if_neg (by rw [keyBr (by decide)]; simp), if_neg (by rw [keyBr (by decide)]; simp), if_neg (by rw [keyBr (by decide), keyBr (by decide)]; simp), if_neg (by rw [keyBr (by decide)]; simp), if_neg (by rw [keyBr (by decide)]; simp)]
        rfl
      have hA : levP (grS s) 24 (endE s) = .bad (brT s).pos 56 := by
        refine lev_bad endE_filled (by show keyB [33] (brT s) = false; exact keyBr (by decide)) ?_
        rw [show endE s = ⟨brT s :: [nlT s], s.length + 4⟩ from rfl, cmd_comp (by rw [opBr, show (brT s).text = [125] from rfl, show amongB reservedS [125] = true by decide +kernel]; rfl)]
        exact comp_nok hc
      exact ⟨_, by rw [bodyN, bnd_bad (show itemP (grS s) (levP (grS s) 24) (endE s) = .bad (brT s).pos 56 by rw [itemP, bnd_bad hA])]⟩
    · exact absurd g7 (comp_some _ _ _ _)
  | more _ n q l h1 h2 =>
    obtain ⟨q1, hl, g1, g3, g4, g5, g6, g7⟩ := complete_cases T (Nat.zero_le _) h1
    rcases g7 with ⟨_, g7⟩ | ⟨g0, g7⟩
    · cases g7
    obtain ⟨c1, c2, c3, c4, c5, c6⟩ := comp_own T (muP s q1 + 1) [] q1 q n (Nat.lt_succ_self _) g3 g7
    rw [List.nil_append] at c1
    have hfl : flatP n = itemsN s (muP s q1 + 1) q1 := by rw [c1, flat_several c2 c3]
    refine ⟨fun h => absurd (List.append_eq_nil_iff.1 h).1 (by rw [hfl]; exact c2), fun _ => ?_⟩
    rcases (lines_loop T (muP (grS s) ⟨[], 2⟩ + 1) (muP s ⟨[], 0⟩ + 1) (Nat.succ_le_succ (rel_mu hR))).sim _ _ () q1 (Nat.lt_succ_self _) (Or.inl rfl) hR hl with ⟨q1', e1, hR1⟩ | ⟨b, e1⟩ | ⟨hb, e1⟩
    · rw [bnd_ok (show linesP (grS s) ⟨[], 2⟩ = .ok () q1' from e1)]
      have hG := comp_sim T (muP s q1 + 1) (muP (grS s) q1' + 1) [] [] q1 q1' q n (Nat.lt_succ_self _) (Nat.succ_le_succ (rel_mu hR1)) hR1 g7
      rw [hfl]
      rcases hG with ⟨f'', q'', k1, k2, k3, k4⟩ | ⟨k1, k2⟩ | ⟨b, k1⟩ | ⟨k1, k2⟩
      · rw [k2]
        rw [q_nil k4] at k3 k1
        exact cmds_sim T h2 c6.1 ([] ++ itemsN s (muP s q1 + 1) q1) f'' q'' k1 k3
      · rw [k2, cmds_end h2 k1, List.append_nil]
        exact Or.inl rfl
      · exact Or.inr (Or.inl ⟨b, k1⟩)
      · exact Or.inr (Or.inr ⟨k1, k2⟩)
    · exact Or.inr (Or.inl ⟨b, bnd_bad (show linesP (grS s) ⟨[], 2⟩ = .bad b 52 from e1)⟩)
    · refine Or.inr (Or.inr ⟨hb, ?_⟩)
      cases hL : linesP (grS s) ⟨[], 2⟩ with
      | bad b e => rw [bnd_bad hL]; trivial
      | ok x r =>
        change DoomR s (linesP (grS s) ⟨[], 2⟩) at e1
        rw [hL] at e1
        rw [bnd_ok hL]
        exact (bodyN_good T (a_good T) (B := 0) (Q := True) (muP (grS s) r + 1) 0 (Nat.zero_le _) []).doom hb r e1
theorem group_first (T : Txt s) : firstP' (grS s) 0 = match coreP (grS s) (bodyP (grS s) (levP (grS s) 24)) ⟨[lbT, nlAt 1], 2⟩ with
    | .bad a e => ⟨nd0, false, 0, a, e⟩
    | .ok n q => match completeP (grS s) ⟨[], 0⟩ with
      | .ok (some n) q => ⟨n, true, q.next, 0, 0⟩
      | .ok none q => ⟨nd0, false, q.next, 0, 0⟩
      | .bad a e => ⟨nd0, false, 0, a, e⟩ := by
  have hlen := T.len
  unfold firstP'
  rw [grS_len, if_neg (by omega), if_neg (by omega)]
  cases hc : coreP (grS s) (bodyP (grS s) (levP (grS s) 24)) ⟨[lbT, nlAt 1], 2⟩ with
  | ok n q => rfl
  | bad a e =>
    have hA : levP (grS s) 25 ⟨[lbT, nlAt 1], 2⟩ = .bad a e := by
      refine lev_bad filled_c (by show keyB [33] lbT = false; decide) ?_
      rw [cmd_comp (by decide +kernel)]
      exact comp_nok hc
    have : completeP (grS s) ⟨[], 0⟩ = .bad a e := by
      unfold completeP
      rw [lines_l (line_lb T) (by rw [grS_len]; omega) (by decide), now_c, if_neg (by decide), compN, bnd_bad (show itemP (grS s) (levP (grS s) 25) ⟨[lbT, nlAt 1], 2⟩ = .bad a e by rw [itemP, bnd_bad hA])]
    show (match completeP (grS s) ⟨[], 0⟩ with
      | .ok (some n) q => (⟨n, true, q.next, 0, 0⟩ : FirstV)
      | .ok none q => ⟨nd0, false, q.next, 0, 0⟩
      | .bad a e => ⟨nd0, false, 0, a, e⟩) = _
    rw [this]
theorem group_law (T : Txt s) {l : List Nd} (h : CmdsP s 0 l) :
    (l = [] → (firstP' (grS s) 0).err = 56) ∧ (l ≠ [] → (firstP' (grS s) 0).err = 52 ∨ (¬ NoBs s ∧ (firstP' (grS s) 0).err ≠ 0) ∨ firstP' (grS s) 0 = ⟨ndK 8 [severalP l], true, s.length + 4, 0, 0⟩) := by
  obtain ⟨b1, b2⟩ := body_law T h
  have hcore : coreP (grS s) (bodyP (grS s) (levP (grS s) 24)) ⟨[lbT, nlAt 1], 2⟩ = bnd (bodyP (grS s) (levP (grS s) 24)) (fun b => bnd (needP (grS s) (keyB [125])) (fun _ q => .ok (ndK 8 [b]) q)) ⟨[nlAt 1], 2⟩ := by
    unfold coreP
    rw [now_c, if_neg (by decide), if_pos (by decide)]
    rfl
  rw [group_first T, hcore]
  constructor
  · intro hl
    obtain ⟨a, ha⟩ := b1 hl
    rw [bnd_bad ha]
  · intro hl
    rcases b2 hl with hb | ⟨a, hb⟩ | ⟨hbs, hb⟩
    · refine Or.inr (Or.inr ?_)
      have hn : bnd (needP (grS s) (keyB [125])) (fun _ q => ReR.ok (ndK 8 [severalP l]) q) (endE s) = .ok (ndK 8 [severalP l]) ⟨[nlT s], s.length + 4⟩ := need_c (t := brT s) (l := [nlT s]) rfl
      rw [bnd_ok hb, hn]
      have hcok : coreP (grS s) (bodyP (grS s) (levP (grS s) 24)) ⟨[lbT, nlAt 1], 2⟩ = .ok (ndK 8 [severalP l]) ⟨[nlT s], s.length + 4⟩ := by rw [hcore, bnd_ok hb, hn]
      have hrst : Rst (grS s) ⟨[nlT s], s.length + 4⟩ := ⟨filled_c, by show keyT (nlT s) ∈ endKs; show ((3 : Nat), ([10] : List UInt8)) ∈ endKs; decide⟩
      have hA : levP (grS s) 25 ⟨[lbT, nlAt 1], 2⟩ = .ok (ndK 8 [severalP l]) ⟨[nlT s], s.length + 4⟩ := by
        refine lev_ok filled_c (by show keyB [33] lbT = false; decide) ?_ hrst
        rw [cmd_comp (by decide +kernel)]
        exact comp_ok hcok hrst
      have hI : itemP (grS s) (levP (grS s) 25) ⟨[lbT, nlAt 1], 2⟩ = .ok (ndK 8 [severalP l], false) ⟨[nlT s], s.length + 4⟩ := by
        rw [itemP, bnd_ok hA, now_c, if_neg (by show ¬ opB [38] (nlT s) = true; rw [show opB [38] (nlT s) = false from rfl]; simp), if_neg (by show ¬ opB [59] (nlT s) = true; rw [show opB [59] (nlT s) = false from rfl]; simp)]
      have hC : completeP (grS s) ⟨[], 0⟩ = .ok (some (ndK 8 [severalP l])) ⟨[], s.length + 4⟩ := by
        unfold completeP
        rw [lines_l (line_lb T) (by rw [grS_len]; omega) (by decide), now_c, if_neg (by decide), compN, bnd_ok hI, if_neg (by simp)]
        rfl
      show (match completeP (grS s) ⟨[], 0⟩ with
        | .ok (some n) q => (⟨n, true, q.next, 0, 0⟩ : FirstV)
        | .ok none q => ⟨nd0, false, q.next, 0, 0⟩
        | .bad a e => ⟨nd0, false, 0, a, e⟩) = _
      rw [hC]
    · refine Or.inl ?_
      rw [bnd_bad hb]
    · refine Or.inr (Or.inl ⟨hbs, ?_⟩)
      cases hB : bodyP (grS s) (levP (grS s) 24) ⟨[nlAt 1], 2⟩ with
      | bad a e =>
        rw [bnd_bad hB]
        exact (body_good T (a_good T) 0 0 True).nz _ a e hB
      | ok x q =>
        rw [hB] at hb
        have hq : Doom s q := hb
        have hk : keyB [125] (headT (grS s) q) = false := by
          cases hql : q.line with
          | nil => rw [headT_nil hql]; rfl
          | cons t L => rw [headT_cons hql]; exact hq.2 t (by rw [hql]; exact List.mem_cons_self)
        have hn : needP (grS s) (keyB [125]) q = .bad (headT (grS s) q).pos 56 := by
          unfold needP
          rw [bnd_ok (now_filled (doom_filled hq)), if_neg (by rw [hk]; simp)]
        rw [bnd_ok hB, bnd_bad hn]
        show (56 : Nat) ≠ 0
        decide
end
end Go.Tri

/-
  What a text's commands are, one by one, as they are handed on.
-/
namespace Go.Tri
open Go.RowKit
def ycN (s : List UInt8) : Nat → Nat → List (Nd × Nat)
  | 0, _ => []
  | f + 1, a => if (firstP' s a).err ≠ 0 then [(nd0, (firstP' s a).err)] else if (firstP' s a).ok = true then ((firstP' s a).node, 0) :: ycN s f (firstP' s a).next else []
def ycP (s : List UInt8) : List (Nd × Nat) := ycN s (s.length + 1) 0
def flL (l : List (Nd × Nat)) : List Nd := l.flatMap fun x => flatP x.1
section
variable {s : List UInt8}
theorem comp_nzs (T : Txt s) : ∀ (f : Nat) (l : List Nd) (p : PS) (a e : Nat), compN s f l p = .bad a e → e ≠ 0
  | 0, l, p, a, e, h => by cases h
  | f + 1, l, p, a, e, h => by
    rw [compN, bnd_v] at h
    cases hi : itemP s (levP s 25) p with
    | bad a' e' =>
      rw [hi] at h
      cases h
      exact (item_good T (a_good T) (g := 0) (B := 0) (Q := True)).nzs p a e hi
    | ok x r =>
      rw [hi] at h
      change (if (x.2 && moreB r) = true then compN s f (l ++ [x.1]) r else compEnd (l ++ [x.1]) r) = _ at h
      split at h
      · exact comp_nzs T f _ _ _ _ h
      · unfold compEnd at h
        split at h
        · cases h
        · split at h
          · cases h
          · cases h; decide
theorem complete_nzs (T : Txt s) {p : PS} {a e : Nat} (h : completeP s p = .bad a e) : e ≠ 0 := by
  unfold completeP at h
  rw [bnd_v] at h
  cases hl : linesP s p with
  | bad a' e' =>
    rw [hl] at h
    cases h
    exact (lines_good (g := 0) (B := 0) (Q := True) T).nzs p a e hl
  | ok x q =>
    rw [hl] at h
    change bnd (nowP s) _ q = _ at h
    rw [bnd_v] at h
    cases hn : nowP s q with
    | bad a' e' =>
      rw [hn] at h
      cases h
      exact now_nz hn
    | ok t r =>
      rw [hn] at h
      change (if t.kind = 0 then _ else compN s (muP s r + 1) [] r) = _ at h
      split at h
      · cases h
      · exact comp_nzs T _ _ _ _ _ h
theorem first_eq (T : Txt s) {a : Nat} (ha : a ≤ s.length) : firstP' s a = match completeP s ⟨[], a⟩ with
    | .ok (some n) q => ⟨n, true, q.next, 0, 0⟩
    | .ok none q => ⟨nd0, false, q.next, 0, 0⟩
    | .bad a e => ⟨nd0, false, 0, a, e⟩ := by
  have := T.len
  unfold firstP'
  rw [if_neg (by omega), if_neg (by omega), Int.toNat_natCast]
  rfl
theorem first_cases (T : Txt s) {a : Nat} (ha : a ≤ s.length) :
    (∃ n q, completeP s ⟨[], a⟩ = .ok (some n) q ∧ firstP' s a = ⟨n, true, q.next, 0, 0⟩ ∧ a < q.next ∧ q.next ≤ s.length) ∨
    (∃ q, completeP s ⟨[], a⟩ = .ok none q ∧ firstP' s a = ⟨nd0, false, q.next, 0, 0⟩) ∨ ∃ p e, e ≠ 0 ∧ firstP' s a = ⟨nd0, false, 0, p, e⟩ := by
  have h := first_eq T ha
  cases hc : completeP s ⟨[], a⟩ with
  | bad p e => rw [hc] at h; exact Or.inr (Or.inr ⟨p, e, complete_nzs T hc, h⟩)
  | ok o q =>
    rw [hc] at h
    cases o with
    | none => exact Or.inr (Or.inl ⟨q, rfl, h⟩)
    | some n =>
      refine Or.inl ⟨n, q, rfl, h, ?_⟩
      obtain ⟨q1, _, g1, g3, g4, g5, g6, g7⟩ := complete_cases T ha hc
      rcases g7 with ⟨_, g7⟩ | ⟨_, g7⟩
      · cases g7
      obtain ⟨c1, c2, c3, c4, c5, c6⟩ := comp_own T (muP s q1 + 1) [] q1 q n (Nat.lt_succ_self _) g3 g7
      refine ⟨?_, c6.1⟩
      have e1 : s.length - q.next ≤ muP s q := by unfold muP; omega
      have e2 : muP s ⟨[], a⟩ = s.length - a := by unfold muP; simp
      omega
theorem first_on (T : Txt s) {a : Nat} (ha : a ≤ s.length) (he : (firstP' s a).err = 0) (ho : (firstP' s a).ok = true) : a < (firstP' s a).next ∧ (firstP' s a).next ≤ s.length := by
  rcases first_cases T ha with ⟨n, q, _, h, h2⟩ | ⟨q, _, h⟩ | ⟨p, e, h1, h⟩
  · rw [h]; exact h2
  · rw [h] at ho; cases ho
  · rw [h] at he; exact absurd he h1
theorem yc_err {f a : Nat} (h : (firstP' s a).err ≠ 0) : ycN s (f + 1) a = [(nd0, (firstP' s a).err)] := by rw [ycN, if_pos h]
theorem yc_no {f a : Nat} (h : (firstP' s a).err = 0) (ho : (firstP' s a).ok = false) : ycN s (f + 1) a = [] := by rw [ycN, if_neg (by omega), if_neg (by rw [ho]; simp)]
theorem yc_go {f a : Nat} (h : (firstP' s a).err = 0) (ho : (firstP' s a).ok = true) : ycN s (f + 1) a = ((firstP' s a).node, 0) :: ycN s f (firstP' s a).next := by rw [ycN, if_neg (by omega), if_pos ho]
theorem yc_cmds (T : Txt s) : ∀ (f a : Nat), s.length < f + a → a ≤ s.length → (∀ x ∈ ycN s f a, x.2 = 0) → CmdsP s a (flL (ycN s f a))
  | 0, a, h, ha, _ => absurd h (by omega)
  | f + 1, a, h, ha, hx => by
    rcases first_cases T ha with ⟨n, q, hc, h1, h2, h3⟩ | ⟨q, hc, h1⟩ | ⟨p, e, h1, h2⟩
    · have e1 : ycN s (f + 1) a = (n, 0) :: ycN s f q.next := by
        rw [yc_go (by rw [h1]) (by rw [h1]), h1]
      rw [e1] at hx ⊢
      exact CmdsP.more a n q _ hc (yc_cmds T f q.next (by omega) h3 (fun x hx2 => hx x (List.mem_cons_of_mem _ hx2)))
    · rw [yc_no (by rw [h1]) (by rw [h1])]
      exact CmdsP.done a q hc
    · rw [yc_err (by rw [h2]; exact h1), h2] at hx
      exact absurd (hx _ List.mem_cons_self) h1
theorem flL_cons (x : Nd × Nat) (l : List (Nd × Nat)) : flL (x :: l) = flatP x.1 ++ flL l := rfl
theorem flL_app (a b : List (Nd × Nat)) : flL (a ++ b) = flL a ++ flL b := List.flatMap_append
theorem wl_len (l : List Nd) : l.length ≤ wl wn l := by
  have := codes_wn l
  omega
theorem yc_len (T : Txt s) : ∀ (f a : Nat), a ≤ s.length → (flL (ycN s f a)).length ≤ 400 * (s.length - a) + 1
  | 0, a, ha => Nat.zero_le _
  | f + 1, a, ha => by
    rcases first_cases T ha with ⟨n, q, hc, h1, h2, h3⟩ | ⟨q, hc, h1⟩ | ⟨p, e, h1, h2⟩
    · have e1 : ycN s (f + 1) a = (n, 0) :: ycN s f q.next := by
        rw [yc_go (by rw [h1]) (by rw [h1]), h1]
      rw [e1, flL_cons, List.length_append]
      have ih := yc_len T f q.next h3
      obtain ⟨q1, _, g1, g3, g4, g5, g6, g7⟩ := complete_cases T ha hc
      rcases g7 with ⟨_, g7⟩ | ⟨_, g7⟩
      · cases g7
      obtain ⟨c1, c2, c3, c4, c5, c6⟩ := comp_own T (muP s q1 + 1) [] q1 q n (Nat.lt_succ_self _) g3 g7
      rw [List.nil_append] at c1
      have e2 : flatP n = itemsN s (muP s q1 + 1) q1 := by rw [c1, flat_several c2 c3]
      have e3 := wl_len (itemsN s (muP s q1 + 1) q1)
      have e4 : 2 * (s.length - q.next) ≤ Wt s q := by unfold Wt; omega
      have e5 : Wt s ⟨[], a⟩ = 2 * (s.length - a) := by unfold Wt; simp [twS]
      show (flatP n).length + _ ≤ _
      rw [e2]
      omega
    · rw [yc_no (by rw [h1]) (by rw [h1])]; exact Nat.zero_le _
    · rw [yc_err (by rw [h2]; exact h1)]
      show (flatP nd0).length ≤ _
      have : (flatP nd0).length = 1 := rfl
      omega
theorem ys_get {l r : List (Nd × Nat)} {x : Nd × Nat} {n : Nat} (h : l.drop n = x :: r) : n < l.length ∧ l[n]? = some x ∧ l.drop (n + 1) = r := by
  have h1 := congrArg List.length h
  rw [List.length_drop, List.length_cons] at h1
  refine ⟨by omega, ?_, ?_⟩
  · have h2 : (l.drop n)[0]? = some x := by rw [h]; rfl
    rwa [List.getElem?_drop] at h2
  · rw [← List.drop_drop, h]; rfl
theorem ys_none {l : List (Nd × Nat)} {n : Nat} (h : l.drop n = []) (hn : n ≤ l.length) : n = l.length := by
  have h1 := congrArg List.length h
  rw [List.length_drop, List.length_nil] at h1
  omega
theorem flL_snoc {l : List (Nd × Nat)} {n : Nat} {x : Nd × Nat} (h : l[n]? = some x) : flL (l.take (n + 1)) = flL (l.take n) ++ flatP x.1 := by
  obtain ⟨hn, hx⟩ := List.getElem?_eq_some_iff.1 h
  rw [List.take_succ_eq_append_getElem hn, flL_app, hx]
  show _ ++ (flatP x.1 ++ []) = _
  rw [List.append_nil]
theorem flL_take (l : List (Nd × Nat)) (n : Nat) : (flL (l.take n)).length ≤ (flL l).length := by
  conv => rhs; rw [← List.take_append_drop n l, flL_app, List.length_append]
  omega
theorem ycP_len (T : Txt s) (n : Nat) : (flL ((ycP s).take n)).length ≤ 400 * s.length + 1 := by
  have h1 := flL_take (ycP s) n
  have h2 := yc_len T (s.length + 1) 0 (Nat.zero_le _)
  unfold ycP at *
  omega
/-- what the statement asks of a text -/
theorem groups_law (T : Txt s) (h3 : s.length ≤ 3000) (hx : ∀ x ∈ ycP s, x.2 = 0) : (flL (ycP s) = [] → (firstP' (grS s) 0).err = 56) ∧
    (flL (ycP s) ≠ [] → ((firstP' (grS s) 0).err = 52 ∨ (¬ NoBs s ∧ (firstP' (grS s) 0).err ≠ 0) ∨ firstP' (grS s) 0 = ⟨ndK 8 [severalP (flL (ycP s))], true, s.length + 4, 0, 0⟩) ∧
      NdK (severalP (flL (ycP s))) ∧ (codeP (severalP (flL (ycP s)))).length ≤ 9223372036854775807) := by
  have hc : CmdsP s 0 (flL (ycP s)) := yc_cmds T _ _ (by omega) (Nat.zero_le _) hx
  obtain ⟨g1, g2⟩ := group_law T hc
  refine ⟨g1, fun h => ⟨g2 h, ?_⟩⟩
  obtain ⟨o1, o2⟩ := cmds_own T hc (Nat.zero_le _)
  obtain ⟨w1, w2⟩ := several_w _ h o1
  refine ⟨w2, ?_⟩
  have e5 : Wt s ⟨[], 0⟩ = 2 * s.length := by unfold Wt; simp [twS]
  unfold wb at w1
  omega
end
end Go.Tri
