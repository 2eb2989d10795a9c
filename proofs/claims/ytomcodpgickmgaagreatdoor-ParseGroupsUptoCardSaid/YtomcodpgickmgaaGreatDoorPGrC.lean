/-
  Lines of a text that ends with its newline, read within a longer one: where they end, and what they hold.
-/
import Derived.Test.YtomcodpgickmgaaGreatDoorPCode
import Derived.Test.YtomcodpgickmgaaGreatDoorPLex10
namespace Go.Tri
open Go.RowKit
/-- what is gone through ends with a newline only if a backslash stands ahead of it -/
def EndC (l : List UInt8) (k : Nat) : Prop := nth l (k - 1) 0 ≠ 10 ∨ (2 ≤ k ∧ nth l (k - 2) 0 = 92)
theorem nth_drop {l : List UInt8} (j i : Nat) : nth (l.drop j) i 0 = nth l (j + i) 0 := by
  unfold nth
  rw [List.getD_eq_getElem?_getD, List.getD_eq_getElem?_getD, List.getElem?_drop]
theorem endC_drop {l : List UInt8} {j m : Nat} (hm : 1 ≤ m) (h : EndC (l.drop j) m) : EndC l (j + m) := by
  rcases h with h | ⟨h1, h2⟩
  · refine Or.inl ?_
    rw [nth_drop] at h
    rwa [show j + m - 1 = j + (m - 1) by omega]
  · refine Or.inr ⟨by omega, ?_⟩
    rw [nth_drop] at h2
    rwa [show j + m - 2 = j + (m - 2) by omega]
theorem endC_of {l : List UInt8} {k : Nat} {c : UInt8} (h : nth l (k - 1) 0 = c) (hc : c ≠ 10) : EndC l k := Or.inl (by rw [h]; exact hc)
theorem single_endC {l : List UInt8} {k : Nat} (h : singleP l = .ok k) : EndC l k := by
  unfold singleP at h
  split at h
  · cases h
  · rename_i h1
    obtain ⟨i, hi⟩ : ∃ i : Nat, Lib.indexByte (l.drop 1) 39 = i := ⟨(Lib.indexByte (l.drop 1) 39).toNat, by omega⟩
    rw [hi] at h
    cases h
    have h2 := (indexByte_some hi).2.1
    rw [nth_drop] at h2
    refine endC_of (c := 39) ?_ (by decide)
    rw [← h2]
    congr 1
    simp; omega
theorem stB_nth {l t : List UInt8} (h : stB l t = true) {i : Nat} (hi : i < t.length) : nth l i 0 = nth t i 0 := by
  have h1 : l.take t.length = t := of_decide_eq_true h
  conv => rhs; rw [← h1]
  unfold nth
  rw [List.getD_eq_getElem?_getD, List.getD_eq_getElem?_getD, List.getElem?_take, if_pos hi]
theorem inside_endC {dlr : Bool → List UInt8 → SR} {q apo : Bool} {l : List UInt8} {k : Nat} (hd : ∀ q k, dlr q l = .ok k → EndC l k) (hl : l ≠ []) (h0 : nth l 0 0 ≠ 10) (h : insideP dlr q apo l = .ok k) : EndC l k := by
  have hp := List.length_pos_iff.2 hl
  unfold insideP at h
  split at h
  · rename_i h1
    have h2 := stB_nth h1 (i := 0) (by decide)
    cases h
    rcases Nat.lt_or_ge 1 l.length with h3 | h3
    · rw [Nat.min_eq_left (by omega)]
      exact Or.inr ⟨Nat.le_refl _, h2⟩
    · rw [Nat.min_eq_right (by omega), show l.length = 1 by omega]
      exact Or.inl h0
  · split at h
    · exact single_endC h
    · split at h
      · cases h
      · split at h
        · exact hd _ _ h
        · cases h
          rw [Nat.min_eq_left (by omega)]
          exact Or.inl h0
theorem dblL_end34 {dlr : Bool → List UInt8 → SR} (hf : ∀ q l, 2 ≤ l.length → Fit l (dlr q l)) : ∀ (f : Nat) (l : List UInt8) (k : Nat), dblL dlr f l = .ok k → 1 ≤ k ∧ nth l (k - 1) 0 = 34
  | 0, l, k, h => by cases h
  | f + 1, l, k, h => by
    rw [dblL] at h
    split at h
    · cases h
    · rename_i hl
      split at h
      · rename_i h1
        cases h
        exact ⟨Nat.le_refl _, stB_nth h1 (i := 0) (by decide)⟩
      · split at h
        · cases h
        · rename_i j hj
          obtain ⟨m, hm, rfl⟩ := on_ok h
          obtain ⟨h1, h2⟩ := dblL_end34 hf f _ m hm
          rw [nth_drop] at h2
          exact ⟨by omega, by rw [← h2]; congr 1; omega⟩
theorem dlrL_endc {dbl : List UInt8 → SR} {dlr : Bool → List UInt8 → SR} {br q : Bool} : ∀ (f o : Nat) (l : List UInt8) (k : Nat), dlrL dbl dlr br q f o l = .ok k → 1 ≤ k ∧ nth l (k - 1) 0 ≠ 10
  | 0, o, l, k, h => by cases h
  | f + 1, o, l, k, h => by
    rw [dlrL] at h
    split at h
    · cases h
    · split at h
      · split at h
        · cases h
        · obtain ⟨m, hm, rfl⟩ := on_ok h
          obtain ⟨h1, h2⟩ := dlrL_endc f _ _ m hm
          rw [nth_drop] at h2
          exact ⟨by omega, by rwa [show ∀ j, j + m - 1 = j + (m - 1) by omega]⟩
      · split at h
        · rename_i h1
          cases h
          refine ⟨Nat.le_refl _, ?_⟩
          show nth l 0 0 ≠ 10
          rw [Bool.or_eq_true] at h1
          intro he
          rw [he] at h1
          rcases h1 with h1 | h1
          · simp at h1
          · simp at h1
        · split at h
          · cases h
          · obtain ⟨m, hm, rfl⟩ := on_ok h
            obtain ⟨h1, h2⟩ := dlrL_endc f _ _ m hm
            rw [nth_drop] at h2
            exact ⟨by omega, by rwa [show ∀ j, j + m - 1 = j + (m - 1) by omega]⟩
theorem lv_endC : ∀ n, (∀ l k, (lv n).1 l = .ok k → EndC l k) ∧ ∀ q l k, (lv n).2 q l = .ok k → EndC l k
  | 0 => by
    refine ⟨fun l k h => ?_, fun q l k h => ?_⟩
    · cases h
    · cases h
  | n + 1 => by
    refine ⟨fun l k h => ?_, fun q l k h => ?_⟩
    · obtain ⟨m, hm, rfl⟩ := close_ok h
      obtain ⟨h1, h2⟩ := dblL_end34 (lv_fit n).2 _ _ _ hm
      exact endC_drop h1 (endC_of h2 (by decide))
    · obtain ⟨m, hm, rfl⟩ := close_ok h
      obtain ⟨h1, h2⟩ := dlrL_endc _ _ _ _ hm
      exact endC_drop h1 (Or.inl h2)
theorem wordL_endC : ∀ (f : Nat) (l : List UInt8) (k : Nat), wordL f l = .ok k → 1 ≤ k → EndC l k
  | 0, l, k, h, hk => by cases h; omega
  | f + 1, l, k, h, hk => by
    rw [wordL] at h
    split at h
    · cases h; omega
    · rename_i hl
      split at h
      · cases h; omega
      · rename_i hsp
        split at h
        · cases h
        · rename_i j hj
          obtain ⟨m, hm, rfl⟩ := on_okS h
          rcases Nat.eq_zero_or_pos m with h0 | h0
          · subst h0
            rw [Nat.add_zero]
            have hn : nth l 0 0 ≠ 10 := fun e => hsp (by rw [e]; decide)
            unfold wordStep at hj
            split at hj
            · exact (lv_endC 24).1 _ _ hj
            · exact inside_endC (fun q k h => (lv_endC 24).2 q _ _ h) hl hn hj
          · exact endC_drop h0 (wordL_endC f _ m hm h0)
theorem opN_isOp : ∀ (n : Nat) (l : List UInt8), opN n l ≠ [] → isOp (opN n l) = true
  | 0, l, h => absurd rfl h
  | n + 1, l, h => by
    rw [opN] at h ⊢
    split
    · rename_i h1
      unfold opAt at h1
      rw [Bool.and_eq_true] at h1
      exact h1.2
    · rename_i h1
      rw [if_neg h1] at h
      exact opN_isOp n l h
theorem op_no10 {l : List UInt8} (h5 : isOp (opN 3 l) = true) (hp : 0 < (opN 3 l).length) (e : nth l ((opN 3 l).length - 1) 0 = 10) : False := by
  have hle := (opN_len 3 l).1
  have hm : (10 : UInt8) ∈ l.take (opN 3 l).length := by
    rw [← e]
    unfold nth
    rw [List.getD_eq_getElem?_getD, List.getElem?_eq_getElem (by omega), Option.getD_some]
    exact List.mem_take_iff_getElem.2 ⟨(opN 3 l).length - 1, by omega, rfl⟩
  rw [← (opN_len 3 l).2.2] at hm
  rw [op_nl hm] at h5
  cases h5
theorem tokL_endC : ∀ (f : Nat) (l text : List UInt8) (off k kind : Nat), tokL f l = .tok off k kind text → kind ≠ 3 → 1 ≤ k ∧ EndC l k
  | 0, l, text, off, k, kind, h, _ => by cases h
  | f + 1, l, text, off, k, kind, h, h3 => by
    rw [tokL] at h
    split at h
    · cases h
    · rename_i hl
      split at h
      · obtain ⟨o, m, hm, _, rfl⟩ := on_tok h
        obtain ⟨h1, h2⟩ := tokL_endC f _ text o m kind hm h3
        exact ⟨by omega, endC_drop h1 h2⟩
      · rename_i hb0
        have hfit := headP_fit (l := l) hl (by omega)
        rw [h] at hfit
        refine ⟨hfit.1, ?_⟩
        unfold headP at h
        split at h
        · cases h; exact absurd rfl h3
        · split at h
          · rename_i h1
            cases h
            have h5 := opN_isOp 3 l h1
            have hp := List.length_pos_iff.2 h1
            refine Or.inl fun e => ?_
            exact op_no10 h5 hp e
          · unfold restP at h
            split at h
            · cases h
            · rename_i j hj
              split at h
              · cases h
              · cases h
                exact wordL_endC _ _ _ hj hfit.1
theorem tokL_stop : ∀ (f : Nat) (l : List UInt8) (k : Nat), EndNL l → l.length < f → tokL f l = .stop k → k = l.length ∧ 2 ≤ l.length ∧ nth l (l.length - 2) 0 = 92
  | 0, l, k, _, hf, _ => absurd hf (Nat.not_lt_zero _)
  | f + 1, l, k, hu, hf, h => by
    rw [tokL, if_neg hu.1] at h
    have hp := List.length_pos_iff.2 hu.1
    split at h
    · rename_i hb
      obtain ⟨m, hm, rfl⟩ : ∃ m, tokL f (l.drop (blankN l)) = .stop m ∧ k = blankN l + m := by
        cases ht : tokL f (l.drop (blankN l)) with
        | stop m => rw [ht] at h; cases h; exact ⟨m, rfl, rfl⟩
        | tok => rw [ht] at h; cases h
        | bad => rw [ht] at h; cases h
      have hle := blankN_le hu.1
      rcases Nat.lt_or_ge (blankN l) l.length with hlt | hge
      · have ih := tokL_stop f _ m (endNL_drop hu hlt) (by rw [List.length_drop]; omega) hm
        rw [List.length_drop, nth_drop] at ih
        obtain ⟨i1, i2, i3⟩ := ih
        refine ⟨by omega, by omega, ?_⟩
        rw [← i3]; congr 1; omega
      · have heq : blankN l = l.length := by omega
        rw [List.drop_of_length_le (by omega)] at hm
        have hm0 : m = 0 := by
          cases f with
          | zero => cases hm; rfl
          | succ f => rw [tokL, if_pos rfl] at hm; cases hm; rfl
        subst hm0
        refine ⟨by omega, ?_⟩
        clear hm h
        unfold blankN at heq
        split at heq
        · rename_i h1
          have h2 := stB_nth h1 (i := 0) (by decide)
          refine ⟨by omega, ?_⟩
          rw [← heq]; exact h2
        · split at heq
          · rename_i h1
            rw [Bool.or_eq_true, decide_eq_true_eq, decide_eq_true_eq] at h1
            have h2 := hu.2
            rw [← heq] at h2
            change nth l 0 0 = 10 at h2
            rw [h2] at h1
            rcases h1 with h1 | h1 <;> exact absurd h1 (by decide)
          · split at heq
            · exfalso
              obtain ⟨i, hi, hlt⟩ := index_nl hu []
              rw [List.append_nil] at hi
              unfold remark at heq
              rw [hi, if_pos (Int.natCast_nonneg _), Int.toNat_natCast] at heq
              omega
            · omega
    · exfalso
      unfold headP at h
      split at h
      · cases h
      · split at h
        · cases h
        · unfold restP at h
          split at h
          · cases h
          · split at h
            · cases h
            · cases h
/-- the tokens of a whole line: only the last is a newline -/
def NLine : List Tok → Prop
  | [] => False
  | t :: r => (r = [] ∧ t.kind = 3) ∨ (t.kind ≠ 3 ∧ NLine r)
theorem NLine.ne {l : List Tok} (h : NLine l) : l ≠ [] := fun e => by rw [e] at h; exact h
theorem NLine.last : ∀ {l : List Tok}, NLine l → (nth l (l.length - 1) tok0).kind = 3
  | [], h => h.elim
  | [t], h => h.elim (fun h => h.2) (fun h => h.2.elim)
  | t :: u :: r, h => h.elim (fun h => by cases h.1) (fun h => by
      have := NLine.last h.2
      rw [← this]; rfl)
theorem NLine.kinds : ∀ {l m : List Tok}, NLine l → m.length = l.length → (∀ i, (nth m i tok0).kind = (nth l i tok0).kind) → NLine m
  | [], m, h, _, _ => h.elim
  | t :: r, [], _, h, _ => by simp at h
  | t :: r, u :: q, h, hl, hk => by
    have h0 : u.kind = t.kind := hk 0
    rcases h with ⟨rfl, h⟩ | ⟨h1, h2⟩
    · refine Or.inl ⟨List.eq_nil_of_length_eq_zero (by simpa using hl), by rw [h0]; exact h⟩
    · exact Or.inr ⟨by rw [h0]; exact h1, NLine.kinds h2 (by simpa using hl) (fun i => hk (i + 1))⟩
theorem lineL_kinds : ∀ (f p : Nat) (l : List UInt8) (ts : List Tok) (k : Nat), lineL f p l = .ok ts k → NLine ts ∨ ∀ t ∈ ts, t.kind ≠ 3
  | 0, p, l, ts, k, h => by cases h; exact Or.inr fun t ht => by cases ht
  | f + 1, p, l, ts, k, h => by
    rw [lineL] at h
    cases ht : tokP l with
    | stop m => simp only [ht] at h; cases h; exact Or.inr fun t ht => by cases ht
    | bad a e => simp only [ht] at h; cases h
    | tok off m kind text =>
      simp only [ht] at h
      split at h
      · rename_i h1
        cases h
        exact Or.inl (Or.inl ⟨rfl, h1⟩)
      · rename_i h1
        cases hr : lineL f (p + m) (l.drop m) with
        | bad a e => rw [hr] at h; cases h
        | ok ts' k' =>
          rw [hr] at h
          injection h with e1 e2
          subst e1
          rcases lineL_kinds f _ _ _ _ hr with h2 | h2
          · exact Or.inl (Or.inr ⟨h1, h2⟩)
          · refine Or.inr fun t ht => ?_
            rcases List.mem_cons.1 ht with h3 | h3
            · rw [h3]; exact h1
            · exact h2 t h3
/-- a line ends with its newline, or a backslash at the text's end took it -/
theorem lineL_last : ∀ (f p : Nat) (l : List UInt8) (ts : List Tok) (k : Nat), EndNL l → l.length < f → lineL f p l = .ok ts k →
    NLine ts ∨ (k = l.length ∧ 2 ≤ l.length ∧ nth l (l.length - 2) 0 = 92)
  | 0, p, l, ts, k, _, hf, _ => absurd hf (Nat.not_lt_zero _)
  | f + 1, p, l, ts, k, hu, hf, h => by
    have hp := List.length_pos_iff.2 hu.1
    rw [lineL] at h
    cases ht : tokP l with
    | stop m =>
      simp only [ht] at h
      cases h
      exact Or.inr (tokL_stop _ _ _ hu (Nat.lt_succ_self _) ht)
    | bad a e => simp only [ht] at h; cases h
    | tok off m kind text =>
      simp only [ht] at h
      split at h
      · rename_i h1
        cases h
        exact Or.inl (Or.inl ⟨rfl, h1⟩)
      · rename_i h1
        cases hr : lineL f (p + m) (l.drop m) with
        | bad a e => rw [hr] at h; cases h
        | ok ts' k' =>
          rw [hr] at h
          injection h with e1 e2
          subst e1 e2
          obtain ⟨t1, t2⟩ := tokL_endC _ _ _ _ _ _ ht h1
          have t3 := tokP_fit l
          rw [ht] at t3
          rcases Nat.lt_or_ge m l.length with hlt | hge
          · rcases lineL_last f _ _ _ _ (endNL_drop hu hlt) (by rw [List.length_drop]; omega) hr with i1 | ⟨i1, i2, i3⟩
            · exact Or.inl (Or.inr ⟨h1, i1⟩)
            · rw [List.length_drop] at i1 i2 i3
              rw [nth_drop] at i3
              refine Or.inr ⟨by omega, by omega, ?_⟩
              rw [← i3]; congr 1; omega
          · have hml : m = l.length := by have := t3.2.1; omega
            subst hml
            rw [List.drop_length] at hr
            have hr2 : ts' = [] ∧ k' = 0 := by
              cases f with
              | zero => cases hr; exact ⟨rfl, rfl⟩
              | succ f => rw [lineL] at hr; cases hr; exact ⟨rfl, rfl⟩
            obtain ⟨rfl, rfl⟩ := hr2
            refine Or.inr ⟨by omega, ?_⟩
            rcases t2 with t2 | t2
            · exact absurd hu.2 t2
            · exact t2
/-- no backslash takes the last newline -/
def NoBs (s : List UInt8) : Prop := ¬ (2 ≤ s.length ∧ nth s (s.length - 2) 0 = 92)
/-- a line of the text within a longer one -/
theorem line_within {s a b : List UInt8} {i : Nat} (hu : EndNL s) (hi : i < s.length) (h : (lineP s i).err = 0) (hN : NLine (lineP s i).toks) (hs : a.length + s.length + b.length ≤ 65536) :
    lineP (a ++ s ++ b) ((i + a.length : Nat) : Int) = ⟨(lineP s i).toks.map (shiftT a.length), (lineP s i).fin + a.length, 0, 0⟩ := by
  obtain ⟨_, _, _, ts, k, ds, j, e1, e2, e3⟩ := lineP_ok h
  rw [Int.toNat_natCast] at e1 e2
  obtain ⟨f1, f2, f3, f4⟩ := line_fin (by omega) h
  have hn := hN.ne
  have h3 := hN.last
  rw [e3] at hn h3 f1 f2 f3 f4 ⊢
  change ds ≠ [] at hn
  change (nth ds (ds.length - 1) tok0).kind = 3 at h3
  change j ≤ s.length at f2
  obtain ⟨d1, d2, d3⟩ := docsL_le _ _ _ _ _ _ e2
  have hts : ts ≠ [] := fun e => by rw [e] at d2; simp at d2; exact hn d2
  rw [d3, d2] at h3
  obtain ⟨k1, k2⟩ := lineL_nl _ _ _ _ _ e1 hts h3
  have hkl : k ≤ (s.drop i).length := by rw [List.length_drop]; omega
  have hu1 := endNL_take (s := s.drop i) k1 hkl k2
  have hl1 : ((s.drop i).take k).length = k := by rw [List.length_take]; omega
  have hlen : (a ++ s ++ b).length = a.length + s.length + b.length := by rw [List.length_append, List.length_append]
  unfold lineP
  rw [if_neg (by rw [hlen]; omega), if_neg (by rw [hlen]; omega), Int.toNat_natCast]
  unfold lineAt
  have hdr : (a ++ s ++ b).drop (i + a.length) = (s.drop i).take k ++ ((s.drop i).drop k ++ b) := by
    rw [List.append_assoc, Nat.add_comm, List.drop_append, List.drop_of_length_le (by omega), List.nil_append, Nat.add_sub_cancel_left, List.drop_append_of_le_length (by omega), ← List.append_assoc, List.take_append_drop]
  rw [← List.take_append_drop k (s.drop i)] at e1
  have g1 := lineL_loc _ ((a ++ s ++ b).length + 1) i a.length ((s.drop i).take k) _ ((s.drop i).drop k ++ b) ts k hu1 (by rw [hl1, hlen]; omega) e1 hts h3 hl1.symm
  rw [hdr, g1]
  rw [← List.append_nil s] at e2
  have g2 := docsL_loc hu a [] b ts none (i + k) ds j e2 f2
  rw [Option.map_none, ← List.append_assoc] at g2
  show (match docsL (a ++ s ++ b) none (ts.map (shiftT a.length)) (i + a.length + k) with
    | .bad x => (⟨[], 0, x, 54⟩ : LineV)
    | .ok ds j => ⟨ds, j, 0, 0⟩) = _
  rw [show i + a.length + k = i + k + a.length by omega, g2]
deriving instance DecidableEq for TR
/-- a line whose newline a backslash took, with a brace and a newline behind it -/
theorem tokL_brace (f : Nat) : tokL (f + 1) [125, 10] = .tok 0 1 1 [125] := by
  rw [tokL, if_neg (by decide), if_neg (by decide +kernel)]
  decide +kernel
theorem tokL_cut0 : ∀ (f g : Nat) (l : List UInt8) (k : Nat), EndNL l → l.length + 2 < g → tokL f l = .stop k → l.length < f → tokL g (l ++ [125, 10]) = .tok l.length (l.length + 1) 1 [125]
  | 0, g, l, k, _, _, _, hf => absurd hf (Nat.not_lt_zero _)
  | f + 1, g, l, k, hu, hg, h, hf => by
    obtain ⟨g, rfl⟩ : ∃ n, g = n + 1 := ⟨g - 1, by omega⟩
    have hp := List.length_pos_iff.2 hu.1
    have hbl := blankN_loc hu [] [125, 10]
    rw [List.append_nil] at hbl
    rw [tokL, if_neg hu.1] at h
    rw [tokL, if_neg (by simp), ← hbl]
    split at h
    · rename_i hb
      rw [if_pos hb]
      obtain ⟨m, hm, rfl⟩ : ∃ m, tokL f (l.drop (blankN l)) = .stop m ∧ k = blankN l + m := by
        cases ht : tokL f (l.drop (blankN l)) with
        | stop m => rw [ht] at h; cases h; exact ⟨m, rfl, rfl⟩
        | tok => rw [ht] at h; cases h
        | bad => rw [ht] at h; cases h
      have hle := blankN_le hu.1
      rw [List.drop_append_of_le_length hle]
      rcases Nat.lt_or_ge (blankN l) l.length with hlt | hge
      · have ih := tokL_cut0 f g _ m (endNL_drop hu hlt) (by rw [List.length_drop]; omega) hm (by rw [List.length_drop]; omega)
        rw [ih, List.length_drop]
        show TR.tok _ _ _ _ = _
        congr 1 <;> omega
      · have heq : blankN l = l.length := by omega
        obtain ⟨g, rfl⟩ : ∃ n, g = n + 1 := ⟨g - 1, by omega⟩
        rw [heq, List.drop_length, List.nil_append, tokL_brace]
        show TR.tok _ _ _ _ = _
        congr 1
    · exfalso
      unfold headP at h
      split at h
      · cases h
      · split at h
        · cases h
        · unfold restP at h
          split at h
          · cases h
          · split at h
            · cases h
            · cases h
theorem wordL_brace (f : Nat) : wordL (f + 2) [125, 10] = .ok 1 := by
  rw [wordL, if_neg (by decide), if_neg (by decide +kernel), show wordStep [125, 10] = .ok 1 by decide +kernel]
  show (wordL (f + 1) [10]).on 1 = _
  rw [wordL, if_neg (by decide), if_pos (by decide +kernel)]
  rfl
theorem wordL_cut : ∀ (f g : Nat) (u : List UInt8), EndNL u → u.length + 2 ≤ g → wordL f u = .ok u.length → wordL g (u ++ [125, 10]) = .ok (u.length + 1)
  | 0, g, u, hu, _, h => by
    have hp := List.length_pos_iff.2 hu.1
    cases h' : u.length with
    | zero => omega
    | succ n => rw [h'] at h; cases h
  | f + 1, g, u, hu, hg, h => by
    obtain ⟨g, rfl⟩ : ∃ n, g = n + 1 := ⟨g - 1, by omega⟩
    have hp := List.length_pos_iff.2 hu.1
    rw [wordL, if_neg hu.1] at h
    split at h
    · exfalso
      injection h with h
      omega
    · rename_i hsp
      split at h
      · cases h
      · rename_i j hj
        obtain ⟨m, hm, hk⟩ := on_okS h
        have hfit := wordStep_fit hu.1
        rw [hj] at hfit
        have h0 : nth (u ++ [125, 10]) 0 0 = nth u 0 0 := nth_app hp
        have hst : wordStep (u ++ [125, 10]) = .ok j := wordStep_loc u [] [125, 10] j hu (by rw [List.append_nil]; exact hj) hfit.2
        rw [wordL, if_neg (by simp), h0, if_neg hsp, hst]
        show (wordL g ((u ++ [125, 10]).drop j)).on j = _
        rw [List.drop_append_of_le_length hfit.2]
        rcases Nat.lt_or_ge j u.length with hlt | hge
        · have ih := wordL_cut f g _ (endNL_drop hu hlt) (by rw [List.length_drop]; have := hfit.1; omega) (by rw [hm, List.length_drop]; congr 1; omega)
          rw [ih, List.length_drop]
          show SR.ok _ = _
          congr 1; omega
        · have heq : j = u.length := by have := hfit.2; omega
          have hf2 := hfit.1
          obtain ⟨g, rfl⟩ : ∃ n, g = n + 2 := ⟨g - 2, by omega⟩
          rw [heq, List.drop_length, List.nil_append, wordL_brace]
          rfl
theorem tokL_cut1 : ∀ (f g : Nat) (l text : List UInt8) (off kind : Nat), EndNL l → l.length + 2 < g → tokL f l = .tok off l.length kind text → kind ≠ 3 →
    (∃ a e, tokL g (l ++ [125, 10]) = .bad a e) ∨ ∃ text', text' ≠ [125] ∧ tokL g (l ++ [125, 10]) = .tok off (l.length + 1) 1 text'
  | 0, g, l, text, off, kind, _, _, h, _ => by cases h
  | f + 1, g, l, text, off, kind, hu, hg, h, h3 => by
    obtain ⟨g, rfl⟩ : ∃ n, g = n + 1 := ⟨g - 1, by omega⟩
    have hp := List.length_pos_iff.2 hu.1
    have hbl := blankN_loc hu [] [125, 10]
    rw [List.append_nil] at hbl
    have hec := tokL_endC _ _ _ _ _ _ h h3
    rw [tokL, if_neg hu.1] at h
    rw [tokL, if_neg (by simp), ← hbl]
    split at h
    · rename_i hb
      rw [if_pos hb]
      obtain ⟨o, m, hm, rfl, hlm⟩ := on_tok h
      have hle := blankN_le hu.1
      rw [List.drop_append_of_le_length hle]
      rcases Nat.lt_or_ge (blankN l) l.length with hlt | hge
      · rcases tokL_cut1 f g _ text o kind (endNL_drop hu hlt) (by rw [List.length_drop]; omega) (by rw [hm, List.length_drop]; congr 1; omega) h3 with ⟨a, e, h4⟩ | ⟨t', h4, h5⟩
        · rw [h4]; exact Or.inl ⟨_, _, rfl⟩
        · rw [h5]
          refine Or.inr ⟨t', h4, ?_⟩
          rw [List.length_drop]
          show TR.tok _ _ _ _ = _
          congr 1; omega
      · exfalso
        rw [List.drop_of_length_le hge] at hm
        cases f with
        | zero => cases hm
        | succ f => rw [tokL, if_pos rfl] at hm; cases hm
    · rename_i hb
      rw [if_neg hb]
      unfold headP at h
      split at h
      · injection h with _ _ e3 _
        exact absurd e3.symm h3
      · rename_i h10
        split at h
        · rename_i h1
          exfalso
          injection h with _ e2 _ _
          have hle : (opN 3 l).length = l.length := e2
          exact op_no10 (opN_isOp 3 l h1) (by omega) (by rw [hle]; exact hu.2)
        · rename_i h1
          have hop := opP_loc hu [] [125, 10]
          rw [List.append_nil] at hop
          unfold headP
          rw [show nth (l ++ [125, 10]) 0 0 = nth l 0 0 from nth_app hp, if_neg h10, ← hop, if_neg h1]
          unfold restP at h ⊢
          split at h
          · cases h
          · rename_i j hj
            split at h
            · cases h
            · injection h with e1 e2 e3 e4
              subst e1 e2
              have hw : wordP (l ++ [125, 10]) = .ok (l.length + 1) := wordL_cut _ _ l hu (by rw [List.length_append]; exact Nat.le_refl _) hj
              rw [hw]
              show (∃ a e, (if 4096 < l.length + 1 then TR.bad 0 51 else _) = TR.bad a e) ∨ _
              by_cases h9 : 4096 < l.length + 1
              · rw [if_pos h9]; exact Or.inl ⟨_, _, rfl⟩
              · refine Or.inr ⟨l ++ [125], fun e => ?_, ?_⟩
                · have := congrArg List.length e
                  rw [List.length_append] at this
                  simp at this; exact hu.1 this
                · show (if 4096 < l.length + 1 then TR.bad 0 51 else _) = _
                  rw [if_neg h9]
                  have hd1 : (l ++ [125, 10]).take (l.length + 1) = l ++ [125] := by rw [List.take_append, List.take_of_length_le (by omega)]; simp
                  have hd2 : (l ++ [125, 10]).drop (l.length + 1) = [10] := by rw [List.drop_append]; simp
                  unfold numberB
                  rw [hd1, hd2, show stB [10] [60] = false by decide, show stB [10] [62] = false by decide]
                  simp
def nlAt (p : Nat) : Tok := ⟨3, [10], p, [], false⟩
def brAt (p : Nat) : Tok := ⟨1, [125], p, [], false⟩
theorem lineL_nl1 (f p : Nat) : lineL (f + 1) p [10] = .ok [nlAt p] 1 := by
  rw [lineL, show tokP [10] = .tok 0 1 3 [10] by decide +kernel]
  rfl
theorem lineL_cut : ∀ (f g p c : Nat) (l : List UInt8) (ts : List Tok) (k : Nat), EndNL l → l.length < f → l.length + 2 < g → lineL f p l = .ok ts k → ¬ NLine ts →
    (ts ≠ [] ∧ ∃ a e, lineL g (p + c) (l ++ [125, 10]) = .bad a e) ∨ lineL g (p + c) (l ++ [125, 10]) = .ok (ts.map (shiftT c) ++ [brAt (p + c + l.length), nlAt (p + c + l.length + 1)]) (l.length + 2) ∨
      ∃ L w w', ts = L ++ [w] ∧ w.kind ≠ 3 ∧ w'.kind = 1 ∧ w'.text ≠ [125] ∧ lineL g (p + c) (l ++ [125, 10]) = .ok (L.map (shiftT c) ++ [w', nlAt (p + c + l.length + 1)]) (l.length + 2)
  | 0, g, p, c, l, ts, k, _, hf, _, _, _ => absurd hf (Nat.not_lt_zero _)
  | f + 1, g, p, c, l, ts, k, hu, hf, hg, h, hn => by
    obtain ⟨g, rfl⟩ : ∃ n, g = n + 1 := ⟨g - 1, by omega⟩
    have hp := List.length_pos_iff.2 hu.1
    rw [lineL] at h
    rw [lineL]
    cases ht : tokP l with
    | stop m =>
      simp only [ht] at h
      cases h
      have h1 : tokP (l ++ [125, 10]) = .tok l.length (l.length + 1) 1 [125] := by
        unfold tokP
        exact tokL_cut0 _ _ l _ hu (by rw [List.length_append]; exact Nat.lt_succ_self _) ht (Nat.lt_succ_self _)
      rw [h1]
      obtain ⟨g, rfl⟩ : ∃ n, g = n + 1 := ⟨g - 1, by omega⟩
      refine Or.inr (Or.inl ?_)
      show (lineL (g + 1) (p + c + (l.length + 1)) ((l ++ [125, 10]).drop (l.length + 1))).app _ _ = _
      rw [show (l ++ [125, 10] : List UInt8).drop (l.length + 1) = [10] by rw [List.drop_append]; simp, lineL_nl1]
      rfl
    | bad a e => simp only [ht] at h; cases h
    | tok off m kind text =>
      simp only [ht] at h
      split at h
      · rename_i h1
        cases h
        exact absurd (Or.inl ⟨rfl, h1⟩) hn
      · rename_i h1
        cases hr : lineL f (p + m) (l.drop m) with
        | bad a e => rw [hr] at h; cases h
        | ok ts' k' =>
          rw [hr] at h
          injection h with e1 e2
          subst e1 e2
          have t3 := tokP_fit l
          rw [ht] at t3
          obtain ⟨t31, t32, t33, t34⟩ := t3
          rcases Nat.lt_or_ge m l.length with hlt | hge
          · have hloc : tokP (l ++ [125, 10]) = .tok off m kind text := tokP_loc (r := []) hu (by rw [List.append_nil]; exact ht) (Or.inl hlt)
            simp only [hloc]
            rw [if_neg h1, List.drop_append_of_le_length (by omega)]
            have hn' : ¬ NLine ts' := fun h => hn (Or.inr ⟨h1, h⟩)
            have ih := lineL_cut f g (p + m) c _ ts' k' (endNL_drop hu hlt) (by rw [List.length_drop]; omega) (by rw [List.length_drop]; omega) hr hn'
            rw [List.length_drop, show p + m + c = p + c + m by omega, show p + c + m + (l.length - m) = p + c + l.length by omega] at ih
            rcases ih with ⟨_, a, e, ih⟩ | ih | ⟨L, w, w', e1, e2, e3, e4, ih⟩
            · rw [ih]; exact Or.inl ⟨by simp, _, _, rfl⟩
            · rw [ih]
              refine Or.inr (Or.inl ?_)
              show LnR.ok _ _ = _
              congr 1
              · show [_] ++ _ = _
                rw [show p + c + off = p + off + c by omega]; rfl
              · omega
            · rw [ih]
              refine Or.inr (Or.inr ⟨⟨kind, text, p + off, [], false⟩ :: L, w, w', by rw [e1]; rfl, e2, e3, e4, ?_⟩)
              show LnR.ok _ _ = _
              congr 1
              · show [_] ++ _ = _
                rw [show p + c + off = p + off + c by omega]; rfl
              · omega
          · have hml : m = l.length := by omega
            subst hml
            rw [List.drop_length] at hr
            have hr2 : ts' = [] ∧ k' = 0 := by
              cases f with
              | zero => cases hr; exact ⟨rfl, rfl⟩
              | succ f => rw [lineL] at hr; cases hr; exact ⟨rfl, rfl⟩
            obtain ⟨rfl, rfl⟩ := hr2
            rcases tokL_cut1 _ ((l ++ [125, 10]).length + 1) l text off kind hu (by rw [List.length_append]; exact Nat.lt_succ_self _) ht h1 with ⟨a, e, h4⟩ | ⟨t', h4, h5⟩
            · have h4' : tokP (l ++ [125, 10]) = _ := h4
              rw [h4']
              exact Or.inl ⟨by simp, _, _, rfl⟩
            · have h5' : tokP (l ++ [125, 10]) = _ := h5
              rw [h5']
              refine Or.inr (Or.inr ⟨[], _, ⟨1, t', p + c + off, [], false⟩, rfl, h1, rfl, h4, ?_⟩)
              obtain ⟨g, rfl⟩ : ∃ n, g = n + 1 := ⟨g - 1, by omega⟩
              show (lineL (g + 1) (p + c + (l.length + 1)) ((l ++ [125, 10]).drop (l.length + 1))).app _ _ = _
              rw [show (l ++ [125, 10] : List UInt8).drop (l.length + 1) = [10] by rw [List.drop_append]; simp, lineL_nl1]
              rfl
theorem docsL_out (s : List UInt8) : ∀ (ts : List Tok) (prev : Option Tok) (j : Nat), s.length ≤ j → (∃ a, docsL s prev ts j = .bad a) ∨ docsL s prev ts j = .ok ts j
  | [], prev, j, _ => Or.inr rfl
  | t :: r, prev, j, hj => by
    rw [docsL]
    split
    · rw [List.drop_of_length_le hj]
      exact Or.inl ⟨_, rfl⟩
    · rcases docsL_out s r (some t) j hj with ⟨a, h⟩ | h
      · rw [h]; exact Or.inl ⟨_, rfl⟩
      · rw [h]; exact Or.inr rfl
/-- every line of the text within the braces -/
theorem lineg_cases {s : List UInt8} {i : Nat} (hu : EndNL s) (hi : i < s.length) (hs : s.length + 4 ≤ 65536) (h : (lineP s i).err = 0) :
    (NLine (lineP s i).toks ∧ lineP ([123, 10] ++ s ++ [125, 10]) ((i + 2 : Nat) : Int) = ⟨(lineP s i).toks.map (shiftT 2), (lineP s i).fin + 2, 0, 0⟩) ∨
    (¬ NoBs s ∧ (lineP s i).fin = s.length ∧ (∀ t ∈ (lineP s i).toks, t.kind ≠ 3) ∧ (((lineP s i).toks ≠ [] ∧ (lineP ([123, 10] ++ s ++ [125, 10]) ((i + 2 : Nat) : Int)).err ≠ 0) ∨
      lineP ([123, 10] ++ s ++ [125, 10]) ((i + 2 : Nat) : Int) = ⟨(lineP s i).toks.map (shiftT 2) ++ [brAt (s.length + 2), nlAt (s.length + 3)], s.length + 4, 0, 0⟩ ∨
      ∃ L w w', (lineP s i).toks = L ++ [w] ∧ w'.kind = 1 ∧ w'.text ≠ [125] ∧ lineP ([123, 10] ++ s ++ [125, 10]) ((i + 2 : Nat) : Int) = ⟨L.map (shiftT 2) ++ [w', nlAt (s.length + 3)], s.length + 4, 0, 0⟩)) := by
  by_cases hN : NLine (lineP s i).toks
  · exact Or.inl ⟨hN, line_within (a := [123, 10]) (b := [125, 10]) hu hi h hN (by simp; omega)⟩
  refine Or.inr ?_
  obtain ⟨_, _, _, ts, k, ds, j, e1, e2, e3⟩ := lineP_ok h
  rw [Int.toNat_natCast] at e1 e2
  rw [e3] at hN ⊢
  change ¬ NLine ds at hN
  obtain ⟨d1, d2, d3⟩ := docsL_le _ _ _ _ _ _ e2
  have hN2 : ¬ NLine ts := fun h => hN (h.kinds d2 d3)
  have hdl : (s.drop i).length = s.length - i := List.length_drop
  rcases lineL_last _ _ _ _ _ (endNL_drop hu hi) (by omega) e1 with h9 | ⟨h1, h2, h3⟩
  · exact absurd h9 hN2
  rw [nth_drop] at h3
  have hbs : ¬ NoBs s := fun h => h ⟨by omega, by rw [← h3]; congr 1; omega⟩
  have hik : i + k = s.length := by omega
  rw [hik] at e2
  have hds : ds = ts ∧ j = s.length := by
    rcases docsL_out s ts none s.length (Nat.le_refl _) with ⟨a, h⟩ | h
    · rw [h] at e2; cases e2
    · rw [h] at e2; cases e2; exact ⟨rfl, rfl⟩
  obtain ⟨rfl, rfl⟩ := hds
  refine ⟨hbs, rfl, (lineL_kinds _ _ _ _ _ e1).resolve_left hN2, ?_⟩
  have hlen : ([123, 10] ++ s ++ [125, 10] : List UInt8).length = s.length + 4 := by simp
  have hdr : ([123, 10] ++ s ++ [125, 10] : List UInt8).drop (i + 2) = s.drop i ++ [125, 10] := by
    rw [List.append_assoc, Nat.add_comm, List.drop_append, List.drop_of_length_le (by simp)]
    simp
    rw [List.drop_append_of_le_length (by omega)]
  have hc := lineL_cut _ (s.length + 4 + 1) i 2 _ ds k (endNL_drop hu hi) (by omega) (by omega) e1 hN2
  rw [hdl, show i + 2 + (s.length - i) = s.length + 2 by omega] at hc
  unfold lineP
  rw [hlen, if_neg (by omega), if_neg (by omega), Int.toNat_natCast]
  unfold lineAt
  rw [hlen, hdr]
  have fin : ∀ (l : List Tok), lineL (s.length + 4 + 1) (i + 2) (s.drop i ++ [125, 10]) = .ok l (s.length - i + 2) →
      (match lineL (s.length + 4 + 1) (i + 2) (s.drop i ++ [125, 10]) with
        | .bad a e => (⟨[], 0, a, e⟩ : LineV)
        | .ok ts k => match docsL ([123, 10] ++ s ++ [125, 10]) none ts (i + 2 + k) with
          | .bad a => ⟨[], 0, a, 54⟩
          | .ok ds j => ⟨ds, j, 0, 0⟩).err ≠ 0 ∨
      (match lineL (s.length + 4 + 1) (i + 2) (s.drop i ++ [125, 10]) with
        | .bad a e => (⟨[], 0, a, e⟩ : LineV)
        | .ok ts k => match docsL ([123, 10] ++ s ++ [125, 10]) none ts (i + 2 + k) with
          | .bad a => ⟨[], 0, a, 54⟩
          | .ok ds j => ⟨ds, j, 0, 0⟩) = ⟨l, s.length + 4, 0, 0⟩ := by
    intro l hl
    rw [hl]
    dsimp only
    rw [show i + 2 + (s.length - i + 2) = s.length + 4 by omega]
    rcases docsL_out ([123, 10] ++ s ++ [125, 10]) l none (s.length + 4) (by omega) with ⟨a, h⟩ | h
    · rw [h]; exact Or.inl (by show (54 : Nat) ≠ 0; decide)
    · rw [h]; exact Or.inr rfl
  rcases hc with ⟨hne, a, e, hc⟩ | hc | ⟨L, w, w', e1', e2', e3', e4', hc⟩
  · refine Or.inl ⟨hne, ?_⟩
    have hq := lineL_faulty _ _ _ _ _ hc
    rw [hc]
    exact hq
  · by_cases hne : ds = []
    · subst hne
      refine Or.inr (Or.inl ?_)
      rw [hc]
      dsimp only
      rw [show i + 2 + (s.length - i + 2) = s.length + 4 by omega]
      rfl
    · rcases fin _ hc with h | h
      · exact Or.inl ⟨hne, h⟩
      · exact Or.inr (Or.inl h)
  · rcases fin _ hc with h | h
    · exact Or.inl ⟨by rw [e1']; simp, h⟩
    · exact Or.inr (Or.inr ⟨L, w, w', e1', e3', e4', h⟩)
end Go.Tri

/-
  A parser's readers, within braces: what is read is the same, or nested too deep, or lost for good.
-/
namespace Go.Tri
open Go.RowKit
def tw (t : Tok) : Nat := 1 + t.text.length + t.doc.length
def twS : List Tok → Nat
  | [] => 0
  | t :: r => tw t + twS r
def grS (s : List UInt8) : List UInt8 := [123, 10] ++ s ++ [125, 10]
theorem grS_len (s : List UInt8) : (grS s).length = s.length + 4 := by unfold grS; simp
/-- weights of a line -/
theorem trimL_len (l : List UInt8) (c : UInt8) : (Lib.trimLeftB l c).length ≤ l.length := (List.dropWhile_sublist _).length_le
theorem docL_sz (strip : Bool) (d : List UInt8) : ∀ (f : Nat) (l : List UInt8) (x : List UInt8 × Nat), docL strip d f l = some x → x.1.length ≤ x.2
  | 0, l, x, h => by cases h
  | f + 1, l, x, h => by
    rw [docL] at h
    split at h
    · cases h
    · split at h
      · cases h; exact Nat.zero_le _
      · split at h
        · cases h
        · cases hd : docL strip d f (l.drop (remark l + 1)) with
          | none => rw [hd] at h; cases h
          | some y =>
            rw [hd] at h
            cases h
            have ih := docL_sz strip d f _ y hd
            have h1 : (docLine strip l).length ≤ remark l := by
              unfold docLine
              split
              · refine Nat.le_trans (trimL_len _ _) ?_
                rw [List.length_take]; omega
              · rw [List.length_take]; omega
            show (docLine strip l ++ [10] ++ y.1).length ≤ remark l + 1 + y.2
            rw [List.length_append, List.length_append]
            simp only [List.length_cons, List.length_nil]
            omega
theorem docsL_tw (s : List UInt8) : ∀ (ts : List Tok) (prev : Option Tok) (j : Nat) (ds : List Tok) (k : Nat), docsL s prev ts j = .ok ds k → (∀ t ∈ ts, t.doc = []) → j ≤ k ∧ twS ds ≤ twS ts + (k - j)
  | [], prev, j, ds, k, h, _ => by cases h; exact ⟨Nat.le_refl _, Nat.zero_le _⟩
  | t :: r, prev, j, ds, k, h, hn => by
    rw [docsL] at h
    split at h
    · split at h
      · cases h
      · rename_i x hx
        cases hd : docsL s (some t) r (j + x.2) with
        | bad a => rw [hd] at h; cases h
        | ok ds' k' =>
          rw [hd] at h
          cases h
          obtain ⟨i1, i2⟩ := docsL_tw s r _ _ ds' k hd (fun t ht => hn t (List.mem_cons_of_mem _ ht))
          have hsz := docL_sz _ _ _ _ x hx
          have h0 := hn t List.mem_cons_self
          refine ⟨by omega, ?_⟩
          show tw _ + twS ds' ≤ tw t + twS r + (k - j)
          have e1 : tw t = 1 + t.text.length := by unfold tw; rw [h0]; rfl
          have e2 : tw { t with doc := x.1, raw := anyOf t.text quoteSet } = 1 + t.text.length + x.1.length := rfl
          rw [e1, e2]
          omega
    · cases hd : docsL s (some t) r j with
      | bad a => rw [hd] at h; cases h
      | ok ds' k' =>
        rw [hd] at h
        cases h
        obtain ⟨i1, i2⟩ := docsL_tw s r _ _ ds' k hd (fun t ht => hn t (List.mem_cons_of_mem _ ht))
        refine ⟨i1, ?_⟩
        show tw t + twS ds' ≤ tw t + twS r + (k - j)
        omega
theorem lineL_nodoc : ∀ (f p : Nat) (l : List UInt8) (ts : List Tok) (k : Nat), lineL f p l = .ok ts k → ∀ t ∈ ts, t.doc = []
  | 0, p, l, ts, k, h => by cases h; intro t ht; cases ht
  | f + 1, p, l, ts, k, h => by
    rw [lineL] at h
    cases ht : tokP l with
    | stop m => simp only [ht] at h; cases h; intro t ht; cases ht
    | bad a e => simp only [ht] at h; cases h
    | tok off m kind text =>
      simp only [ht] at h
      split at h
      · cases h
        intro t ht
        rw [List.mem_singleton.1 ht]
      · cases hr : lineL f (p + m) (l.drop m) with
        | bad a e => rw [hr] at h; cases h
        | ok ts' k' =>
          rw [hr] at h
          injection h with e1 e2
          subst e1
          intro t ht
          rcases List.mem_cons.1 ht with h9 | h9
          · rw [h9]
          · exact lineL_nodoc f _ _ _ _ hr t h9
theorem stand_tw {s : List UInt8} : ∀ {l : List Tok} {a e : Nat}, StandP s a l e → (∀ t ∈ l, t.doc = []) → a ≤ e ∧ twS l ≤ 2 * (e - a)
  | [], a, e, h, _ => ⟨h.1, Nat.zero_le _⟩
  | t :: r, a, e, h, hn => by
    obtain ⟨⟨h1, h2, h3, h4, _⟩, h5⟩ := h
    obtain ⟨i1, i2⟩ := stand_tw h5 (fun t ht => hn t (List.mem_cons_of_mem _ ht))
    have hp := List.length_pos_iff.2 h4
    have h0 := hn t List.mem_cons_self
    have e1 : tw t = 1 + t.text.length := by unfold tw; rw [h0]; rfl
    refine ⟨by omega, ?_⟩
    show tw t + twS r ≤ _
    omega
theorem line_tw {s : List UInt8} {i : Nat} (hi : i ≤ s.length) (h : (lineP s i).err = 0) : twS (lineP s i).toks ≤ 2 * ((lineP s i).fin - i) := by
  obtain ⟨_, _, _, ts, k, ds, j, e1, e2, e3⟩ := lineP_ok h
  rw [Int.toNat_natCast] at e1 e2
  rw [e3]
  have h1 := stand_tw (lineL_st s _ i ts k hi e1) (lineL_nodoc _ _ _ _ _ e1)
  have h2 := docsL_tw s _ _ _ _ _ e2 (lineL_nodoc _ _ _ _ _ e1)
  show twS ds ≤ 2 * (j - i)
  omega
section
variable (s : List UInt8)
def Wt (p : PS) : Nat := twS p.line + 2 * (s.length - p.next)
def brT : Tok := brAt (s.length + 2)
def nlT : Tok := nlAt (s.length + 3)
def endE : PS := ⟨[brT s, nlT s], s.length + 4⟩
/-- states of the parser of the text, and of the one of the text in braces -/
inductive Rel : PS → PS → Prop
  | inl (L : List Tok) (n : Nat) : NLine L → n ≤ s.length → Rel ⟨L, n⟩ ⟨L.map (shiftT 2), n + 2⟩
  | btw (n : Nat) : n ≤ s.length → Rel ⟨[], n⟩ ⟨[], n + 2⟩
  | cut (L : List Tok) : (L = [] ∨ ¬ NoBs s) → (∀ t ∈ L, t.kind ≠ 3) → Rel ⟨L, s.length⟩ ⟨L.map (shiftT 2) ++ [brT s, nlT s], s.length + 4⟩
  | word (L : List Tok) (w w' : Tok) : L ≠ [] → ¬ NoBs s → w'.kind = 1 → w'.text ≠ [125] → (∀ t ∈ L, t.kind ≠ 3) → Rel ⟨L ++ [w], s.length⟩ ⟨L.map (shiftT 2) ++ [w', nlT s], s.length + 4⟩
/-- no brace is left -/
def Doom (p : PS) : Prop := p.next = s.length + 4 ∧ ∀ t ∈ p.line, keyB [125] t = false
def DoomR {α : Type} : ReR α → Prop
  | .bad _ _ => True
  | .ok _ q => Doom s q
def Out {α : Type} (r' : ReR α) (x : α) (q : PS) : Prop := (∃ q', r' = .ok x q' ∧ Rel s q q') ∨ (∃ a, r' = .bad a 52) ∨ (¬ NoBs s ∧ DoomR s r')
/-- what holds of every state -/
def Inv (p : PS) : Prop := p.next ≤ s.length ∧ (p.line = [] ∨ NLine p.line ∨ ¬ NoBs s)
end
section
variable {s : List UInt8}
theorem Rel.nx {p p' : PS} (h : Rel s p p') : p.next ≤ s.length := by
  cases h with
  | inl L n h1 h2 => exact h2
  | btw n h => exact h
  | cut L h h9 => exact Nat.le_refl _
  | word L w w' h1 h2 h3 h4 h9 => exact Nat.le_refl _
theorem Rel.inv {p p' : PS} (h : Rel s p p') : Inv s p := by
  refine ⟨h.nx, ?_⟩
  cases h with
  | inl L n h1 h2 => exact Or.inr (Or.inl h1)
  | btw n h => exact Or.inl rfl
  | cut L h h9 =>
    rcases h with h | h
    · exact Or.inl h
    · exact Or.inr (Or.inr h)
  | word L w w' h1 h2 h3 h4 h9 => exact Or.inr (Or.inr h2)
theorem inv_step {q : PS} {t : Tok} {L : List Tok} (h : Inv s q) (hl : q.line = t :: L) : Inv s (stepS q) ∧ (t.kind ≠ 3 → (stepS q).line ≠ [] ∨ ¬ NoBs s) := by
  have e : (stepS q).line = L := by unfold stepS; rw [hl]; rfl
  unfold Inv
  rw [e]
  rcases h.2 with h1 | h1 | h1
  · rw [hl] at h1; cases h1
  · rw [hl] at h1
    rcases h1 with ⟨rfl, h2⟩ | ⟨h2, h3⟩
    · exact ⟨⟨h.1, Or.inl rfl⟩, fun h9 => absurd h2 h9⟩
    · exact ⟨⟨h.1, Or.inr (Or.inl h3)⟩, fun _ => Or.inl h3.ne⟩
  · exact ⟨⟨h.1, Or.inr (Or.inr h1)⟩, fun _ => Or.inr h1⟩
theorem inv_step0 {q : PS} (h : Inv s q) : Inv s (stepS q) := by
  cases hl : q.line with
  | nil => exact ⟨h.1, Or.inl (by unfold stepS; rw [hl]; rfl)⟩
  | cons t L => exact (inv_step h hl).1
theorem doom_filled {p' : PS} (h : Doom s p') : Filled (grS s) p' := fun h2 => by rw [grS_len] at h2; have := h.1; omega
theorem doom_step {p' : PS} (h : Doom s p') : Doom s (stepS p') := ⟨h.1, fun t ht => h.2 t (List.mem_of_mem_drop ht)⟩
theorem doom_end : Doom s (stepS (endE s)) := ⟨rfl, fun t ht => by
  have : t = nlT s := List.mem_singleton.1 ht
  rw [this]; rfl⟩
theorem rel_end : Rel s ⟨[], s.length⟩ (endE s) := Rel.cut [] (Or.inl rfl) (fun t ht => by cases ht)
/-- in a line: the token at hand is the same -/
theorem rel_cons {q q' : PS} {t : Tok} {L : List Tok} (h : Rel s q q') (hl : q.line = t :: L) : Filled s q ∧ Filled (grS s) q' ∧ headT s q = t ∧ headT (grS s) q' = shiftT 2 t := by
  refine ⟨fun h2 => ?_, ?_⟩
  · rw [hl] at h2; cases h2.1
  · have key : ∃ L', q'.line = shiftT 2 t :: L' := by
      cases h with
      | inl L0 n h1 h2 => change L0 = _ at hl; rw [hl]; exact ⟨_, rfl⟩
      | btw n h => cases hl
      | cut L0 h h9 => change L0 = _ at hl; rw [hl]; exact ⟨_, rfl⟩
      | word L0 w w' h1 h2 h3 h4 h9 =>
        cases L0 with
        | nil => exact absurd rfl h1
        | cons t0 L1 =>
          change t0 :: (L1 ++ [w]) = _ at hl
          injection hl with e1 e2
          rw [e1]; exact ⟨_, rfl⟩
    obtain ⟨L', hL'⟩ := key
    exact ⟨fun h2 => (by rw [hL'] at h2; cases h2.1), headT_cons hl, headT_cons hL'⟩
/-- one token on -/
theorem rel_step {q q' : PS} {t : Tok} {L : List Tok} (h : Rel s q q') (hl : q.line = t :: L) : (Rel s (stepS q) (stepS q') ∨ (¬ NoBs s ∧ Doom s (stepS q'))) ∧ (t.kind ≠ 3 → (stepS q).line ≠ [] ∨ ¬ NoBs s) := by
  cases h with
  | inl L0 n h1 h2 =>
    change L0 = _ at hl
    subst hl
    rcases h1 with ⟨rfl, h1⟩ | ⟨h1, h3⟩
    · exact ⟨Or.inl (Rel.btw n h2), fun h => absurd h1 h⟩
    · exact ⟨Or.inl (Rel.inl L n h3 h2), fun _ => Or.inl h3.ne⟩
  | btw n h => cases hl
  | cut L0 h h9 =>
    change L0 = _ at hl
    subst hl
    have hb : ¬ NoBs s := h.resolve_left (by simp)
    exact ⟨Or.inl (Rel.cut L (Or.inr hb) (fun t ht => h9 t (List.mem_cons_of_mem _ ht))), fun _ => Or.inr hb⟩
  | word L0 w w' h1 h2 h3 h4 h9 =>
    refine ⟨?_, fun _ => Or.inr h2⟩
    cases L0 with
    | nil => exact absurd rfl h1
    | cons t0 L1 =>
      by_cases h5 : L1 = []
      · subst h5
        refine Or.inr ⟨h2, rfl, fun u hu => ?_⟩
        change u ∈ [w', nlT s] at hu
        rcases List.mem_cons.1 hu with h9 | h9
        · rw [h9]; unfold keyB; rw [decide_eq_false h4, Bool.and_false]
        · rw [List.mem_singleton.1 h9]; rfl
      · exact Or.inl (Rel.word L1 w w' h5 h2 h3 h4 (fun t ht => h9 t (List.mem_cons_of_mem _ ht)))
theorem rel_mu {p p' : PS} (h : Rel s p p') : muP s p ≤ muP (grS s) p' := by
  unfold muP
  rw [grS_len]
  cases h with
  | inl L n h1 h2 => rw [List.length_map]; dsimp only; omega
  | btw n h => dsimp only; omega
  | cut L h h9 => rw [List.length_append, List.length_map]; dsimp only; omega
  | word L w w' h1 h2 h3 h4 h9 => rw [List.length_append, List.length_append, List.length_map]; simp only [List.length_cons, List.length_nil]; omega
theorem lineG (hu : EndNL s) (hs : s.length + 4 ≤ 65536) : lineP (grS s) ((s.length + 2 : Nat) : Int) = ⟨[brT s, nlT s], s.length + 4, 0, 0⟩ := by
  have hlen := grS_len s
  have hdr : (grS s).drop (s.length + 2) = [125, 10] := by
    unfold grS
    rw [List.drop_append, List.drop_of_length_le (by simp)]
    simp
  unfold lineP
  rw [hlen, if_neg (by omega), if_neg (by omega), Int.toNat_natCast]
  unfold lineAt
  rw [hlen, hdr, lineL, show tokP [125, 10] = .tok 0 1 1 [125] by decide +kernel]
  show (match (lineL (s.length + 4) (s.length + 2 + 1) [10]).app [brT s] 1 with
    | .bad a e => (⟨[], 0, a, e⟩ : LineV)
    | .ok ts k => match docsL (grS s) none ts (s.length + 2 + k) with
      | .bad a => ⟨[], 0, a, 54⟩
      | .ok ds j => ⟨ds, j, 0, 0⟩) = _
  rw [show s.length + 4 = s.length + 3 + 1 by omega, lineL_nl1]
  rfl
/-- what the next token is -/
theorem now_use (hu : EndNL s) (hs : s.length + 4 ≤ 65536) {p q : PS} {t : Tok} (hv : Inv s p) (h : nowP s p = .ok t q) : Filled s q ∧ t = headT s q ∧ Inv s q ∧ muP s q ≤ muP s p ∧ Wt s q ≤ Wt s p := by
  have hn := hv.1
  by_cases hf : Filled s p
  · rw [now_filled hf] at h
    cases h
    exact ⟨hf, rfl, hv, Nat.le_refl _, Nat.le_refl _⟩
  · have hc : p.line = [] ∧ p.next < s.length := Classical.not_not.1 hf
    have e0 : fillP s p = if (lineP s p.next).err = 0 then fillN s (s.length - p.next) ⟨(lineP s p.next).toks, (lineP s p.next).fin⟩ else .bad (lineP s p.next).place (lineP s p.next).err := by
      unfold fillP
      rw [fillN, if_pos hc]
    unfold nowP at h
    rw [bnd_v, e0] at h
    unfold bndV at h
    split at h
    · rename_i x q0 h0
      cases h
      split at h0
      · rename_i he
        obtain ⟨f1, f2, f3, f4⟩ := line_fin hn he
        have htw := line_tw hn he
        have hfil : Filled s ⟨(lineP s p.next).toks, (lineP s p.next).fin⟩ := by
          intro h2
          have h8 := h2.2
          change (lineP s p.next).fin < _ at h8
          rcases lineg_cases hu hc.2 hs he with ⟨h9, _⟩ | ⟨_, h9, _, _⟩
          · exact h9.ne h2.1
          · omega
        rw [fill_stop hfil] at h0
        cases h0
        refine ⟨hfil, rfl, ⟨f2, ?_⟩, ?_, ?_⟩
        · rcases lineg_cases hu hc.2 hs he with ⟨h9, _⟩ | ⟨h9, _⟩
          · exact Or.inr (Or.inl h9)
          · exact Or.inr (Or.inr h9)
        · have f5 := f3 hc.2
          unfold muP
          rw [hc.1]
          simp only [List.length_nil]
          omega
        · unfold Wt
          rw [hc.1]
          show _ ≤ twS [] + _
          simp only [twS]
          omega
      · cases h0
    · cases h
end
end Go.Tri

/-
  How readers within braces are put together.
-/
namespace Go.Tri
open Go.RowKit
section
variable (s : List UInt8)
structure Good {α : Type} (i o : Bool) (g c B : Nat) (w : α → Nat) (V : α → Prop) (Q : Prop) (m m' : PS → ReR α) : Prop where
  use : Q → ∀ p x q, muP s p < g → Inv s p → m p = .ok x q → w x + 200 * Wt s q ≤ 200 * Wt s p + B ∧ V x
  mu : ∀ p x q, muP s p < g → Inv s p → m p = .ok x q → muP s q + c ≤ muP s p ∧ Inv s q ∧ (o = true → (i = true ∨ p.line ≠ [] ∨ ¬ NoBs s) → q.line ≠ [] ∨ ¬ NoBs s)
  sim : ∀ p p' x q, muP s p < g → (i = true ∨ p.line ≠ [] ∨ ¬ NoBs s) → Rel s p p' → m p = .ok x q → Out s (m' p') x q
  doom : ¬ NoBs s → ∀ p', Doom s p' → DoomR s (m' p')
  nz : ∀ p' a e, m' p' = .bad a e → e ≠ 0
  nzs : ∀ p a e, m p = .bad a e → e ≠ 0
/-- the same behind the token at hand -/
structure GoodK {α : Type} (i : Bool) (P : Tok → Prop) (o : Bool) (g c B : Nat) (w : α → Nat) (V : α → Prop) (Q : Prop) (k k' : Tok → PS → ReR α) : Prop where
  use : Q → ∀ t q x r, muP s q < g → Inv s q → Filled s q → t = headT s q → P t → k t q = .ok x r → w x + 200 * Wt s r ≤ 200 * Wt s q + B ∧ V x
  mu : ∀ t q x r, muP s q < g → Inv s q → Filled s q → t = headT s q → P t → k t q = .ok x r → muP s r + c ≤ muP s q ∧ Inv s r ∧ (o = true → (i = true ∨ q.line ≠ [] ∨ ¬ NoBs s) → r.line ≠ [] ∨ ¬ NoBs s)
  simI : ∀ t L q q' x r, muP s q < g → q.line = t :: L → Rel s q q' → P t → k t q = .ok x r → Out s (k' (shiftT 2 t) q') x r
  simE : ∀ q x r, muP s q < g → q.line = [] → q.next = s.length → (i = true ∨ ¬ NoBs s) → P (endT' s) → k (endT' s) q = .ok x r → Out s (k' (brT s) (endE s)) x r
  doom : ¬ NoBs s → ∀ t q', Doom s q' → P t → DoomR s (k' t q')
  nz : ∀ t q' a e, k' t q' = .bad a e → P t → e ≠ 0
  nzs : ∀ t q a e, k t q = .bad a e → P t → e ≠ 0
end
section
variable {s : List UInt8} {α β : Type}
theorem now_line {u : List UInt8} {n : Nat} (hn : n < u.length) (he : (lineP u n).err = 0) (hf : Filled u ⟨(lineP u n).toks, (lineP u n).fin⟩) : nowP u ⟨[], n⟩ = .ok (headT u ⟨(lineP u n).toks, (lineP u n).fin⟩) ⟨(lineP u n).toks, (lineP u n).fin⟩ := by
  have e0 : fillP u ⟨[], n⟩ = .ok () ⟨(lineP u n).toks, (lineP u n).fin⟩ := by
    unfold fillP
    rw [fillN, if_pos ⟨rfl, hn⟩, if_pos he, fill_stop hf]
  unfold nowP
  rw [bnd_ok e0]
theorem now_lbad {u : List UInt8} {n : Nat} (hn : n < u.length) (he : (lineP u n).err ≠ 0) : nowP u ⟨[], n⟩ = .bad (lineP u n).place (lineP u n).err := by
  have e0 : fillP u ⟨[], n⟩ = .bad (lineP u n).place (lineP u n).err := by
    unfold fillP
    rw [fillN, if_pos ⟨rfl, hn⟩, if_neg he]
  unfold nowP
  rw [bnd_bad e0]
theorem end_filled : Filled s ⟨[], s.length⟩ := fun h => Nat.lt_irrefl _ h.2
theorem endE_filled : Filled (grS s) (endE s) := fun h => by cases h.1
/-- the token at hand, on both sides -/
theorem now_sim (hu : EndNL s) (hs : s.length + 4 ≤ 65536) {p p' q : PS} {t : Tok} (hR : Rel s p p') (h : nowP s p = .ok t q) :
    (∃ L q', q.line = t :: L ∧ nowP (grS s) p' = .ok (shiftT 2 t) q' ∧ Rel s q q') ∨
    (p.line = [] ∧ q = ⟨[], s.length⟩ ∧ t = endT' s ∧ nowP (grS s) p' = .ok (brT s) (endE s)) ∨
    (¬ NoBs s ∧ (q.line ≠ [] ∧ t.kind ≠ 3) ∧ ((∃ a e, nowP (grS s) p' = .bad a e) ∨ ∃ t' q', nowP (grS s) p' = .ok t' q' ∧ Doom s q')) := by
  cases hl : p.line with
  | cons t0 L =>
    obtain ⟨f1, f2, f3, f4⟩ := rel_cons hR hl
    rw [now_filled f1, f3] at h
    cases h
    exact Or.inl ⟨L, p', hl, by rw [now_filled f2, f4], hR⟩
  | nil =>
    cases hR with
    | inl L n h1 h2 => exact absurd hl h1.ne
    | word L w w' h1 h2 h3 h4 h9 => change L ++ [w] = [] at hl; simp at hl
    | cut L h1 h9 =>
      change L = [] at hl
      subst hl
      rw [now_filled end_filled] at h
      cases h
      exact Or.inr (Or.inl ⟨rfl, rfl, rfl, now_filled endE_filled⟩)
    | btw n h1 =>
      have hS : (n + 2) < (grS s).length := by rw [grS_len]; omega
      rcases Nat.lt_or_ge n s.length with hn | hn
      · by_cases he : (lineP s n).err = 0
        · have hfin := (line_fin h1 he).2.1
          rcases lineg_cases hu hn hs he with ⟨hN, hG⟩ | ⟨hb, hf, hk3, hG⟩
          · cases ht : (lineP s n).toks with
            | nil => exact absurd ht hN.ne
            | cons t0 L =>
              have hf1 : Filled s ⟨(lineP s n).toks, (lineP s n).fin⟩ := fun h => hN.ne h.1
              rw [now_line hn he hf1, headT_cons ht] at h
              cases h
              refine Or.inl ⟨L, ⟨(lineP s n).toks.map (shiftT 2), (lineP s n).fin + 2⟩, ht, ?_, Rel.inl _ _ hN hfin⟩
              change lineP (grS s) _ = _ at hG
              have hf2 : Filled (grS s) ⟨(lineP (grS s) ((n + 2 : Nat) : Int)).toks, (lineP (grS s) ((n + 2 : Nat) : Int)).fin⟩ := by
                rw [hG]
                intro h
                rw [ht] at h
                cases h.1
              rw [now_line hS (by rw [hG]) hf2, hG]
              congr 1
              rw [ht]; rfl
          · have hf1 : Filled s ⟨(lineP s n).toks, (lineP s n).fin⟩ := fun h => by
              have := h.2
              change (lineP s n).fin < _ at this
              omega
            rw [now_line hn he hf1] at h
            change ((_ ∧ (lineP (grS s) ((n + 2 : Nat) : Int)).err ≠ 0) ∨ lineP (grS s) _ = _ ∨ ∃ L w w', _ ∧ _ ∧ _ ∧ lineP (grS s) _ = _) at hG
            rcases hG with ⟨hne, hG⟩ | hG | ⟨L, w, w', e1, e2, e3, hG⟩
            · cases ht : (lineP s n).toks with
              | nil => exact absurd ht hne
              | cons t0 L =>
                rw [ht] at h
                cases h
                exact Or.inr (Or.inr ⟨hb, ⟨by simp, hk3 t0 (by rw [ht]; exact List.mem_cons_self)⟩, Or.inl ⟨_, _, now_lbad hS hG⟩⟩)
            · have hf2 : Filled (grS s) ⟨(lineP (grS s) ((n + 2 : Nat) : Int)).toks, (lineP (grS s) ((n + 2 : Nat) : Int)).fin⟩ := by
                rw [hG]
                intro h
                have := h.1
                simp at this
              have hnow := now_line hS (by rw [hG]) hf2
              rw [hG] at hnow
              cases ht : (lineP s n).toks with
              | nil =>
                rw [ht, hf] at h
                cases h
                refine Or.inr (Or.inl ⟨rfl, rfl, rfl, ?_⟩)
                rw [hnow, ht]; rfl
              | cons t0 L =>
                rw [ht, hf] at h
                cases h
                refine Or.inl ⟨L, _, rfl, ?_, Rel.cut (t0 :: L) (Or.inr hb) (by rw [← ht]; exact hk3)⟩
                rw [hnow, ht]; rfl
            · have hf2 : Filled (grS s) ⟨(lineP (grS s) ((n + 2 : Nat) : Int)).toks, (lineP (grS s) ((n + 2 : Nat) : Int)).fin⟩ := by
                rw [hG]
                intro h
                have := h.1
                simp at this
              have hnow := now_line hS (by rw [hG]) hf2
              rw [hG] at hnow
              cases L with
              | nil =>
                rw [e1] at h hk3
                cases h
                refine Or.inr (Or.inr ⟨hb, ⟨by simp, hk3 w (by simp)⟩, Or.inr ⟨_, _, hnow, rfl, fun u hu => ?_⟩⟩)
                change u ∈ [w', nlT s] at hu
                rcases List.mem_cons.1 hu with h9 | h9
                · rw [h9]; unfold keyB; rw [decide_eq_false e3, Bool.and_false]
                · rw [List.mem_singleton.1 h9]; rfl
              | cons t0 L =>
                rw [e1, hf] at h
                cases h
                refine Or.inl ⟨L ++ [w], _, rfl, ?_, Rel.word (t0 :: L) w w' (by simp) hb e2 e3 (fun t ht => hk3 t (by rw [e1]; exact List.mem_append_left _ ht))⟩
                rw [hnow]; rfl
        · rw [now_lbad hn he] at h; cases h
      · have hne : n = s.length := by omega
        subst hne
        rw [now_filled end_filled] at h
        cases h
        refine Or.inr (Or.inl ⟨rfl, rfl, rfl, ?_⟩)
        have hG := lineG hu hs
        have hf2 : Filled (grS s) ⟨(lineP (grS s) ((s.length + 2 : Nat) : Int)).toks, (lineP (grS s) ((s.length + 2 : Nat) : Int)).fin⟩ := by
          rw [hG]
          intro h
          cases h.1
        rw [now_line hS (by rw [hG]) hf2, hG]
        rfl
theorem fill_nz {u : List UInt8} : ∀ (f : Nat) (p : PS) (a e : Nat), fillN u f p = .bad a e → e ≠ 0
  | 0, p, a, e, h => by cases h
  | f + 1, p, a, e, h => by
    rw [fillN] at h
    split at h
    · split at h
      · exact fill_nz f _ a e h
      · rename_i he; cases h; exact he
    · cases h
theorem now_nz {u : List UInt8} {p : PS} {a e : Nat} (h : nowP u p = .bad a e) : e ≠ 0 := by
  unfold nowP at h
  rw [bnd_v] at h
  cases hf : fillP u p with
  | bad a' e' =>
    rw [hf] at h
    cases h
    exact fill_nz _ _ _ _ hf
  | ok x q => rw [hf] at h; cases h
theorem Good.now (hu : EndNL s) (hs : s.length + 4 ≤ 65536) {i o : Bool} {g c B : Nat} {w : α → Nat} {V : α → Prop} {Q : Prop} {k k' : Tok → PS → ReR α} (hk : GoodK s i (fun _ => True) o g c B w V Q k k') : Good s i o g c B w V Q (bnd (nowP s) k) (bnd (nowP (grS s)) k') where
  use hQ p x r hg hn h := by
    rw [bnd_v] at h
    cases hp : nowP s p with
    | bad a e => rw [hp] at h; cases h
    | ok t q =>
      rw [hp] at h
      obtain ⟨f1, f2, f3, f4, f5⟩ := now_use hu hs hn hp
      obtain ⟨u1, u2⟩ := hk.use hQ t q x r (by omega) f3 f1 f2 trivial h
      exact ⟨by omega, u2⟩
  mu p x r hg hn h := by
    rw [bnd_v] at h
    cases hp : nowP s p with
    | bad a e => rw [hp] at h; cases h
    | ok t q =>
      rw [hp] at h
      obtain ⟨f1, f2, f3, f4, f5⟩ := now_use hu hs hn hp
      obtain ⟨u1, u2, u3⟩ := hk.mu t q x r (by omega) f3 f1 f2 trivial h
      refine ⟨by omega, u2, fun ho hi => u3 ho ?_⟩
      rcases hi with h9 | h9 | h9
      · exact Or.inl h9
      · refine Or.inr (Or.inl ?_)
        have hfp : Filled s p := fun h => h9 h.1
        rw [now_filled hfp] at hp
        cases hp
        exact h9
      · exact Or.inr (Or.inr h9)
  sim p p' x r hg hi hR h := by
    rw [bnd_v] at h
    cases hp : nowP s p with
    | bad a e => rw [hp] at h; cases h
    | ok t q =>
      rw [hp] at h
      obtain ⟨f1, f2, f3, f4, f5⟩ := now_use hu hs hR.inv hp
      rcases now_sim hu hs hR hp with ⟨L, q', h1, h2, h3⟩ | ⟨h1, h2, h3, h4⟩ | ⟨h1, _, h2⟩
      · rw [bnd_ok h2]
        exact hk.simI t L q q' x r (by omega) h1 h3 trivial h
      · rw [bnd_ok h4]
        subst h2 h3
        refine hk.simE _ x r (by omega) rfl rfl ?_ trivial h
        rcases hi with h9 | h9 | h9
        · exact Or.inl h9
        · exact absurd h1 h9
        · exact Or.inr h9
      · refine Or.inr (Or.inr ⟨h1, ?_⟩)
        rcases h2 with ⟨a, e, h2⟩ | ⟨t', q', h2, h3⟩
        · rw [bnd_bad h2]; trivial
        · rw [bnd_ok h2]; exact hk.doom h1 t' q' h3 trivial
  doom hb p' hd := by
    rw [bnd_ok (now_filled (doom_filled hd))]
    exact hk.doom hb _ p' hd trivial
  nz p' a e h := by
    rw [bnd_v] at h
    cases hp : nowP (grS s) p' with
    | bad a' e' =>
      rw [hp] at h
      cases h
      exact now_nz hp
    | ok t q =>
      rw [hp] at h
      exact hk.nz t q a e h trivial
  nzs p a e h := by
    rw [bnd_v] at h
    cases hp : nowP s p with
    | bad a' e' =>
      rw [hp] at h
      cases h
      exact now_nz hp
    | ok t q =>
      rw [hp] at h
      exact hk.nzs t q a e h trivial
theorem wt_step {q : PS} {t : Tok} {L : List Tok} (h : q.line = t :: L) : Wt s (stepS q) + tw t = Wt s q := by
  unfold Wt stepS
  rw [h]
  show twS L + _ + tw t = twS (t :: L) + _
  show twS L + 2 * (s.length - q.next) + tw t = tw t + twS L + _
  omega
theorem wt_step0 (q : PS) : Wt s (stepS q) ≤ Wt s q := by
  cases h : q.line with
  | nil => unfold Wt stepS; rw [h]; exact Nat.le_refl _
  | cons t L => have := wt_step (s := s) h; omega
theorem head_cases {q : PS} (hf : Filled s q) (hn : Inv s q) : (∃ L, q.line = headT s q :: L) ∨ (q.line = [] ∧ q.next = s.length ∧ headT s q = endT' s) := by
  cases h : q.line with
  | nil => exact Or.inr ⟨rfl, by rcases Nat.lt_or_ge q.next s.length with h2 | h2; exact absurd ⟨h, h2⟩ hf; have := hn.1; omega, headT_nil h⟩
  | cons t L => exact Or.inl ⟨L, by rw [headT_cons h]⟩
theorem mu_stepL {q : PS} {t : Tok} {L : List Tok} (h : q.line = t :: L) : muP s (stepS q) + 1 = muP s q := by
  unfold muP stepS
  rw [h]
  show (L.length + _) + 1 = (L.length + 1) + _
  show L.length + (s.length - q.next) + 1 = _
  omega
theorem GoodK.ok {i o : Bool} {P : Tok → Prop} {g B : Nat} {w : α → Nat} {V : α → Prop} {Q : Prop} (f : Tok → α) (hf : ∀ t, f (shiftT 2 t) = f t) (hE : P (endT' s) → f (endT' s) = f (brT s)) (hw : Q → ∀ t, P t → w (f t) ≤ B ∧ V (f t)) (ho : o = true → P (endT' s) → i = false) :
    GoodK s i P o g 0 B w V Q (fun t q => .ok (f t) q) (fun t q => .ok (f t) q) where
  use hQ t q x r hg hn hfl ht hP h := by
    cases h
    obtain ⟨h1, h2⟩ := hw hQ t hP
    exact ⟨by omega, h2⟩
  mu t q x r hg hn hfl ht hP h := by
    cases h
    refine ⟨Nat.le_refl _, hn, fun h9 hi => ?_⟩
    rcases head_cases hfl hn with ⟨L, h3⟩ | ⟨h3, h4, h5⟩
    · exact Or.inl (by rw [h3]; simp)
    · rw [← ht] at h5
      rw [h5] at hP
      rcases hi with h8 | h8 | h8
      · rw [ho h9 hP] at h8; cases h8
      · exact absurd h3 h8
      · exact Or.inr h8
  simI t L q q' x r hg hl hR hP h := by
    cases h
    exact Or.inl ⟨q', by rw [hf], hR⟩
  simE q x r hg hl hn hi hP h := by
    cases h
    refine Or.inl ⟨endE s, by rw [hE hP], ?_⟩
    obtain ⟨ql, qn⟩ := q
    cases hl; cases hn
    exact rel_end
  doom hb t q' hd hP := hd
  nz t q' a e h _ := by cases h
  nzs t q' a e h _ := by cases h
theorem GoodK.okS {i o : Bool} {P : Tok → Prop} {g B : Nat} {w : α → Nat} {V : α → Prop} {Q : Prop} (f : Tok → α) (hf : ∀ t, f (shiftT 2 t) = f t) (hE : ¬ P (endT' s)) (hw : Q → ∀ t, P t → w (f t) ≤ B + 200 * tw t ∧ V (f t)) (ho : o = true → ∀ t, P t → t.kind ≠ 3) :
    GoodK s i P o g 1 B w V Q (fun t q => .ok (f t) (stepS q)) (fun t q => .ok (f t) (stepS q)) where
  use hQ t q x r hg hn hfl ht hP h := by
    cases h
    obtain ⟨h1, h2⟩ := hw hQ t hP
    rcases head_cases hfl hn with ⟨L, h3⟩ | ⟨h3, h4, h5⟩
    · rw [← ht] at h3
      have e2 := wt_step (s := s) h3
      exact ⟨by omega, h2⟩
    · rw [← ht] at h5; rw [h5] at hP; exact absurd hP hE
  mu t q x r hg hn hfl ht hP h := by
    cases h
    rcases head_cases hfl hn with ⟨L, h3⟩ | ⟨h3, h4, h5⟩
    · rw [← ht] at h3
      have e1 := mu_stepL (s := s) h3
      obtain ⟨i1, i2⟩ := inv_step hn h3
      exact ⟨by omega, i1, fun h9 _ => i2 (ho h9 t hP)⟩
    · rw [← ht] at h5; rw [h5] at hP; exact absurd hP hE
  simI t L q q' x r hg hl hR hP h := by
    cases h
    obtain ⟨h1, h2⟩ := rel_step hR hl
    rcases h1 with h1 | ⟨h1, h3⟩
    · exact Or.inl ⟨_, by rw [hf], h1⟩
    · exact Or.inr (Or.inr ⟨h1, h3⟩)
  simE q x r hg hl hn hi hP h := absurd hP hE
  doom hb t q' hd hP := doom_step hd
  nz t q' a e h _ := by cases h
  nzs t q' a e h _ := by cases h
theorem GoodK.bad {i o : Bool} {P : Tok → Prop} {g c B : Nat} {w : α → Nat} {V : α → Prop} {Q : Prop} (f f' : Tok → PS → Nat) (e e' : Nat) (he : e' ≠ 0 := by decide) (he2 : e ≠ 0 := by decide) :
    GoodK s i P o g c B w V Q (fun t q => .bad (f t q) e) (fun t q => .bad (f' t q) e') where
  use hQ t q x r hg hn hfl ht hP h := by cases h
  mu t q x r hg hn hfl ht hP h := by cases h
  simI t L q q' x r hg hl hR hP h := by cases h
  simE q x r hg hl hn hi hP h := by cases h
  doom hb t q' hd hP := trivial
  nz t q' a e h _ := by cases h; exact he
  nzs t q' a e h _ := by cases h; exact he2
/-- one token on, and a reader behind it -/
theorem GoodK.step {i o j : Bool} {P : Tok → Prop} {g c c' B : Nat} {w : α → Nat} {V : α → Prop} {Q : Prop} (m m' : Tok → PS → ReR α) (h : ∀ t, P t → Good s j o (g - 1) c (B + 200 * tw t) w V Q (m t) (m' t)) (hm : ∀ t, m' (shiftT 2 t) = m' t) (hc : c' ≤ c + 1)
    (hE : P (endT' s) → ∀ q x r, q.line = [] → q.next = s.length → m (endT' s) (stepS q) ≠ .ok x r) (hj : j = false → ∀ t, P t → t.kind ≠ 3) :
    GoodK s i P o g c' B w V Q (fun t q => m t (stepS q)) (fun t q => m' t (stepS q)) where
  use hQ t q x r hg hn hfl ht hP hk := by
    rcases head_cases hfl hn with ⟨L, h3⟩ | ⟨h3, h4, h5⟩
    · rw [← ht] at h3
      have e1 := mu_stepL (s := s) h3
      have e2 := wt_step (s := s) h3
      obtain ⟨u1, u2⟩ := (h t hP).use hQ (stepS q) x r (by omega) (inv_step hn h3).1 hk
      exact ⟨by omega, u2⟩
    · rw [← ht] at h5
      rw [h5] at hP hk
      exact absurd hk (hE hP q x r h3 h4)
  mu t q x r hg hn hfl ht hP hk := by
    rcases head_cases hfl hn with ⟨L, h3⟩ | ⟨h3, h4, h5⟩
    · rw [← ht] at h3
      have e1 := mu_stepL (s := s) h3
      obtain ⟨i1, i2⟩ := inv_step hn h3
      obtain ⟨u1, u2, u3⟩ := (h t hP).mu (stepS q) x r (by omega) i1 hk
      refine ⟨by omega, u2, fun h9 _ => u3 h9 ?_⟩
      cases hjv : j with
      | true => exact Or.inl rfl
      | false => exact Or.inr (i2 (hj hjv t hP))
    · rw [← ht] at h5
      rw [h5] at hP hk
      exact absurd hk (hE hP q x r h3 h4)
  simI t L q q' x r hg hl hR hP hk := by
    obtain ⟨h1, h2⟩ := rel_step hR hl
    have e1 := mu_stepL (s := s) hl
    rw [hm]
    rcases h1 with h1 | ⟨h1, h3⟩
    · refine (h t hP).sim (stepS q) (stepS q') x r (by omega) ?_ h1 hk
      cases hjv : j with
      | true => exact Or.inl rfl
      | false => exact Or.inr (h2 (hj hjv t hP))
    · exact Or.inr (Or.inr ⟨h1, (h t hP).doom h1 _ h3⟩)
  simE q x r hg hl hn hi hP hk := absurd hk (hE hP q x r hl hn)
  doom hb t q' hd hP := (h t hP).doom hb _ (doom_step hd)
  nz t q' a e h2 hP := (h t hP).nz _ a e h2
  nzs t q' a e h2 hP := (h t hP).nzs _ a e h2
/-- the same where nothing is known of the token -/
theorem GoodK.stepU {o : Bool} {P : Tok → Prop} {g c B : Nat} {w : α → Nat} {V : α → Prop} {Q : Prop} (m m' : Tok → PS → ReR α) (h : ∀ t, Good s true o g c B w V Q (m t) (m' t)) (hm : ∀ t, m' (shiftT 2 t) = m' t) :
    GoodK s false P o g c B w V Q (fun t q => m t (stepS q)) (fun t q => m' t (stepS q)) where
  use hQ t q x r hg hn hfl ht hP hk := by
    have e1 := mu_step0 (s := s) (p := q)
    have e2 := wt_step0 (s := s) q
    obtain ⟨u1, u2⟩ := (h t).use hQ (stepS q) x r (by omega) (inv_step0 hn) hk
    exact ⟨by omega, u2⟩
  mu t q x r hg hn hfl ht hP hk := by
    have e1 := mu_step0 (s := s) (p := q)
    obtain ⟨u1, u2, u3⟩ := (h t).mu (stepS q) x r (by omega) (inv_step0 hn) hk
    exact ⟨by omega, u2, fun h9 _ => u3 h9 (Or.inl rfl)⟩
  simI t L q q' x r hg hl hR hP hk := by
    obtain ⟨h1, h2⟩ := rel_step hR hl
    have e1 := mu_stepL (s := s) hl
    rw [hm]
    rcases h1 with h1 | ⟨h1, h3⟩
    · exact (h t).sim (stepS q) (stepS q') x r (by omega) (Or.inl rfl) h1 hk
    · exact Or.inr (Or.inr ⟨h1, (h t).doom h1 _ h3⟩)
  simE q x r hg hl hn hi hP hk := by
    have hb := hi.resolve_left (by simp)
    exact Or.inr (Or.inr ⟨hb, (h _).doom hb _ doom_end⟩)
  doom hb t q' hd hP := (h t).doom hb _ (doom_step hd)
  nz t q' a e h2 hP := (h t).nz _ a e h2
  nzs t q' a e h2 hP := (h t).nzs _ a e h2
theorem GoodK.ite {i o : Bool} {P : Tok → Prop} {g c B : Nat} {w : α → Nat} {V : α → Prop} {Q : Prop} (b : Tok → Prop) [DecidablePred b] {k1 k1' k2 k2' : Tok → PS → ReR α} (hb : ∀ t, b (shiftT 2 t) ↔ b t) (hE : P (endT' s) → (b (endT' s) ↔ b (brT s)))
    (h1 : GoodK s i (fun t => P t ∧ b t) o g c B w V Q k1 k1') (h2 : GoodK s i (fun t => P t ∧ ¬ b t) o g c B w V Q k2 k2') :
    GoodK s i P o g c B w V Q (fun t q => if b t then k1 t q else k2 t q) (fun t q => if b t then k1' t q else k2' t q) where
  use hQ t q x r hg hn hfl ht hP hk := by
    split at hk
    · rename_i h; exact h1.use hQ t q x r hg hn hfl ht ⟨hP, h⟩ hk
    · rename_i h; exact h2.use hQ t q x r hg hn hfl ht ⟨hP, h⟩ hk
  mu t q x r hg hn hfl ht hP hk := by
    split at hk
    · rename_i h; exact h1.mu t q x r hg hn hfl ht ⟨hP, h⟩ hk
    · rename_i h; exact h2.mu t q x r hg hn hfl ht ⟨hP, h⟩ hk
  simI t L q q' x r hg hl hR hP hk := by
    split at hk
    · rename_i h; rw [if_pos ((hb t).2 h)]; exact h1.simI t L q q' x r hg hl hR ⟨hP, h⟩ hk
    · rename_i h; rw [if_neg (fun h9 => h ((hb t).1 h9))]; exact h2.simI t L q q' x r hg hl hR ⟨hP, h⟩ hk
  simE q x r hg hl hn hi hP hk := by
    split at hk
    · rename_i h; rw [if_pos ((hE hP).1 h)]; exact h1.simE q x r hg hl hn hi ⟨hP, h⟩ hk
    · rename_i h; rw [if_neg (fun h9 => h ((hE hP).2 h9))]; exact h2.simE q x r hg hl hn hi ⟨hP, h⟩ hk
  doom hb2 t q' hd hP := by
    split
    · rename_i h; exact h1.doom hb2 t q' hd ⟨hP, h⟩
    · rename_i h; exact h2.doom hb2 t q' hd ⟨hP, h⟩
  nz t q' a e hk hP := by
    split at hk
    · rename_i h; exact h1.nz t q' a e hk ⟨hP, h⟩
    · rename_i h; exact h2.nz t q' a e hk ⟨hP, h⟩
  nzs t q' a e hk hP := by
    split at hk
    · rename_i h; exact h1.nzs t q' a e hk ⟨hP, h⟩
    · rename_i h; exact h2.nzs t q' a e hk ⟨hP, h⟩
/-- what the brace is taken for, and the text's end is not -/
theorem GoodK.iteW {i o : Bool} {P : Tok → Prop} {g c B : Nat} {w : α → Nat} {V : α → Prop} {Q : Prop} (b : Tok → Prop) [DecidablePred b] {k1 k1' k2 k2' : Tok → PS → ReR α} (hb : ∀ t, b (shiftT 2 t) ↔ b t) (hE : ¬ b (endT' s)) (hB : b (brT s))
    (h1 : GoodK s i (fun t => P t ∧ b t) o g c B w V Q k1 k1') (h2 : GoodK s i (fun t => P t ∧ ¬ b t) o g c B w V Q k2 k2')
    (hF : i = true → ∀ q x r, q.line = [] → q.next = s.length → k2 (endT' s) q ≠ .ok x r) (hD : i = false → ¬ NoBs s → DoomR s (k1' (brT s) (endE s))) :
    GoodK s i P o g c B w V Q (fun t q => if b t then k1 t q else k2 t q) (fun t q => if b t then k1' t q else k2' t q) where
  use hQ t q x r hg hn hfl ht hP hk := by
    split at hk
    · rename_i h; exact h1.use hQ t q x r hg hn hfl ht ⟨hP, h⟩ hk
    · rename_i h; exact h2.use hQ t q x r hg hn hfl ht ⟨hP, h⟩ hk
  mu t q x r hg hn hfl ht hP hk := by
    split at hk
    · rename_i h; exact h1.mu t q x r hg hn hfl ht ⟨hP, h⟩ hk
    · rename_i h; exact h2.mu t q x r hg hn hfl ht ⟨hP, h⟩ hk
  simI t L q q' x r hg hl hR hP hk := by
    split at hk
    · rename_i h; rw [if_pos ((hb t).2 h)]; exact h1.simI t L q q' x r hg hl hR ⟨hP, h⟩ hk
    · rename_i h; rw [if_neg (fun h9 => h ((hb t).1 h9))]; exact h2.simI t L q q' x r hg hl hR ⟨hP, h⟩ hk
  simE q x r hg hl hn hi hP hk := by
    rw [if_neg hE] at hk
    rw [if_pos hB]
    cases hiv : i with
    | true => exact absurd hk (hF hiv q x r hl hn)
    | false =>
      have hbs := hi.resolve_left (by rw [hiv]; simp)
      exact Or.inr (Or.inr ⟨hbs, hD hiv hbs⟩)
  doom hb2 t q' hd hP := by
    split
    · rename_i h; exact h1.doom hb2 t q' hd ⟨hP, h⟩
    · rename_i h; exact h2.doom hb2 t q' hd ⟨hP, h⟩
  nz t q' a e hk hP := by
    split at hk
    · rename_i h; exact h1.nz t q' a e hk ⟨hP, h⟩
    · rename_i h; exact h2.nz t q' a e hk ⟨hP, h⟩
  nzs t q' a e hk hP := by
    split at hk
    · rename_i h; exact h1.nzs t q' a e hk ⟨hP, h⟩
    · rename_i h; exact h2.nzs t q' a e hk ⟨hP, h⟩
theorem GoodK.stay {i o j : Bool} {P : Tok → Prop} {g c B : Nat} {w : α → Nat} {V : α → Prop} {Q : Prop} {m m' : PS → ReR α} (h : Good s j o g c B w V Q m m') (hj : j = false → i = true → P (endT' s) → ∀ q x r, q.line = [] → q.next = s.length → m q ≠ .ok x r) :
    GoodK s i P o g c B w V Q (fun _ q => m q) (fun _ q => m' q) where
  use hQ t q x r hg hn hfl ht hP hk := h.use hQ q x r hg hn hk
  mu t q x r hg hn hfl ht hP hk := by
    obtain ⟨u1, u2, u3⟩ := h.mu q x r hg hn hk
    refine ⟨u1, u2, fun h9 hi => u3 h9 ?_⟩
    cases hjv : j with
    | true => exact Or.inl rfl
    | false =>
      rcases hi with h8 | h8
      · rcases head_cases hfl hn with ⟨L, h3⟩ | ⟨h3, h4, h5⟩
        · exact Or.inr (Or.inl (by rw [h3]; simp))
        · rw [← ht] at h5
          rw [h5] at hP
          exact absurd hk (hj hjv h8 hP q x r h3 h4)
      · exact Or.inr h8
  simI t L q q' x r hg hl hR hP hk := h.sim q q' x r hg (Or.inr (Or.inl (by rw [hl]; simp))) hR hk
  simE q x r hg hl hn hi hP hk := by
    have hsv := hk
    obtain ⟨ql, qn⟩ := q
    cases hl; cases hn
    refine h.sim _ _ x r hg ?_ rel_end hk
    cases hjv : j with
    | true => exact Or.inl rfl
    | false =>
      rcases hi with h9 | h9
      · exact absurd hsv (hj hjv h9 hP _ x r rfl rfl)
      · exact Or.inr (Or.inr h9)
  doom hb t q' hd hP := h.doom hb q' hd
  nz t q' a e hk hP := h.nz q' a e hk
  nzs t q' a e hk hP := h.nzs q' a e hk
theorem GoodK.lc {i o : Bool} {P : Tok → Prop} {g c c' B : Nat} {w : α → Nat} {V : α → Prop} {Q : Prop} {k k' : Tok → PS → ReR α} (h : GoodK s i P o g c B w V Q k k') (hc : c' ≤ c) : GoodK s i P o g c' B w V Q k k' where
  use := h.use
  mu t q x r hg hn hfl ht hP hk := by
    obtain ⟨u1, u2, u3⟩ := h.mu t q x r hg hn hfl ht hP hk
    exact ⟨by omega, u2, u3⟩
  simI := h.simI
  simE := h.simE
  doom := h.doom
  nz := h.nz
  nzs := h.nzs
theorem Good.bnd {i a o : Bool} {g g2 c c1 c2 B : Nat} {w1 : β → Nat} {V1 : β → Prop} {w : α → Nat} {V : α → Prop} {Q : Prop} {m m' : PS → ReR β} {k k' : β → PS → ReR α} (h1 : Good s i a g c1 B w1 V1 Q m m') (h2 : ∀ x, Good s (!a) o g2 c2 (w1 x) w V (Q ∧ V1 x) (k x) (k' x)) (hg : g ≤ g2 + c1) (hc : c ≤ c1 + c2) :
    Good s i o g c B w V Q (bnd m k) (bnd m' k') where
  use hQ p x r hp hn h := by
    rw [bnd_v] at h
    cases hm : m p with
    | bad a e => rw [hm] at h; cases h
    | ok y q =>
      rw [hm] at h
      obtain ⟨m1, m2, m3⟩ := h1.mu p y q hp hn hm
      obtain ⟨u1, u2⟩ := h1.use hQ p y q hp hn hm
      obtain ⟨v1, v2⟩ := (h2 y).use ⟨hQ, u2⟩ q x r (by omega) m2 h
      exact ⟨by omega, v2⟩
  mu p x r hp hn h := by
    rw [bnd_v] at h
    cases hm : m p with
    | bad a e => rw [hm] at h; cases h
    | ok y q =>
      rw [hm] at h
      obtain ⟨m1, m2, m3⟩ := h1.mu p y q hp hn hm
      obtain ⟨v1, v2, v3⟩ := (h2 y).mu q x r (by omega) m2 h
      refine ⟨by omega, v2, fun h9 hi => v3 h9 ?_⟩
      cases ha : a with
      | true => exact Or.inr (m3 ha hi)
      | false => exact Or.inl rfl
  sim p p' x r hp hi hR h := by
    rw [bnd_v] at h
    cases hm : m p with
    | bad a e => rw [hm] at h; cases h
    | ok y q =>
      rw [hm] at h
      obtain ⟨m1, m2, m3⟩ := h1.mu p y q hp hR.inv hm
      rcases h1.sim p p' y q hp hi hR hm with ⟨q', e1, hR2⟩ | ⟨b, e1⟩ | ⟨hb, e1⟩
      · rw [bnd_ok e1]
        refine (h2 y).sim q q' x r (by omega) ?_ hR2 h
        cases ha : a with
        | true => exact Or.inr (m3 ha hi)
        | false => exact Or.inl rfl
      · exact Or.inr (Or.inl ⟨b, bnd_bad e1⟩)
      · refine Or.inr (Or.inr ⟨hb, ?_⟩)
        cases hm2 : m' p' with
        | bad a e => rw [bnd_bad hm2]; trivial
        | ok z q' =>
          rw [hm2] at e1
          rw [bnd_ok hm2]
          exact (h2 z).doom hb q' e1
  doom hb p' hd := by
    have h3 := h1.doom hb p' hd
    cases hm : m' p' with
    | bad a e => rw [bnd_bad hm]; trivial
    | ok y q =>
      rw [hm] at h3
      rw [bnd_ok hm]
      exact (h2 y).doom hb q h3
  nz p' a e h := by
    rw [bnd_v] at h
    cases hm : m' p' with
    | bad a' e' =>
      rw [hm] at h
      cases h
      exact h1.nz p' a e hm
    | ok y q =>
      rw [hm] at h
      exact (h2 y).nz q a e h
  nzs p a e h := by
    rw [bnd_v] at h
    cases hm : m p with
    | bad a' e' =>
      rw [hm] at h
      cases h
      exact h1.nzs p a e hm
    | ok y q =>
      rw [hm] at h
      exact (h2 y).nzs q a e h
theorem Good.le {i i' o o' : Bool} {g g' c c' B B' : Nat} {w w' : α → Nat} {V V' : α → Prop} {Q Q' : Prop} {m m' : PS → ReR α} (h : Good s i o g c B w V Q m m') (hi : i' = true → i = true) (ho : o' = true → o = true) (hg : g' ≤ g) (hc : c' ≤ c) (hw : Q' → ∀ x, V x → w' x + B ≤ w x + B') (hV : ∀ x, V x → V' x) (hQ : Q' → Q) :
    Good s i' o' g' c' B' w' V' Q' m m' where
  use hq p x q hp hn hm := by
    obtain ⟨u1, u2⟩ := h.use (hQ hq) p x q (by omega) hn hm
    have := hw hq x u2
    exact ⟨by omega, hV x u2⟩
  mu p x q hp hn hm := by
    obtain ⟨u1, u2, u3⟩ := h.mu p x q (by omega) hn hm
    refine ⟨by omega, u2, fun h1 h2 => u3 (ho h1) ?_⟩
    rcases h2 with h2 | h2
    · exact Or.inl (hi h2)
    · exact Or.inr h2
  sim p p' x q hp h1 hR hm := h.sim p p' x q (by omega) (h1.elim (fun h9 => Or.inl (hi h9)) Or.inr) hR hm
  doom := h.doom
  nz := h.nz
  nzs := h.nzs
/-- what is in hand stays -/
theorem Good.frame {i o : Bool} {g c B : Nat} {w : α → Nat} {V : α → Prop} {Q : Prop} {m m' : PS → ReR α} (h : Good s i o g c B w V Q m m') (D : Nat) : Good s i o g c (D + B) (fun x => D + w x) V Q m m' :=
  h.le (fun h => h) (fun h => h) (Nat.le_refl _) (Nat.le_refl _) (fun _ x _ => by omega) (fun x h => h) (fun h => h)
theorem Good.zero {i o : Bool} {c B : Nat} {w : α → Nat} {V : α → Prop} {Q : Prop} {m m' : PS → ReR α} (h : ¬ NoBs s → ∀ p', Doom s p' → DoomR s (m' p')) (hz : ∀ p' a e, m' p' = .bad a e → e ≠ 0) (hz2 : ∀ p a e, m p = .bad a e → e ≠ 0) : Good s i o 0 c B w V Q m m' where
  use hq p x q hp := absurd hp (Nat.not_lt_zero _)
  mu p x q hp := absurd hp (Nat.not_lt_zero _)
  sim p p' x q hp := absurd hp (Nat.not_lt_zero _)
  doom := h
  nz := hz
  nzs := hz2
theorem Good.loop {ι : Type} {o : Bool} {c : Nat} {w : α → Nat} {V : α → Prop} (L L' : Nat → ι → PS → ReR α) (i : ι → Bool) (B : ι → Nat) (Q : ι → Prop) (h0 : ∀ a p', Doom s p' → DoomR s (L' 0 a p')) (hz : ∀ a p' x e, L' 0 a p' = .bad x e → e ≠ 0) (hz2 : ∀ a p x e, L 0 a p = .bad x e → e ≠ 0)
    (hS : ∀ f f', (∀ a, Good s (i a) o f c (B a) w V (Q a) (L f a) (L' f' a)) → ∀ a, Good s (i a) o (f + 1) c (B a) w V (Q a) (L (f + 1) a) (L' (f' + 1) a)) :
    ∀ f' f, f ≤ f' → ∀ a, Good s (i a) o f c (B a) w V (Q a) (L f a) (L' f' a)
  | 0, 0, _, a => Good.zero (fun _ => h0 a) (hz a) (hz2 a)
  | 0, f + 1, h, _ => absurd h (by omega)
  | f' + 1, 0, h, a => Good.zero (hS 0 f' (Good.loop L L' i B Q h0 hz hz2 hS f' 0 (Nat.zero_le _)) a).doom (hS 0 f' (Good.loop L L' i B Q h0 hz hz2 hS f' 0 (Nat.zero_le _)) a).nz (hz2 a)
  | f' + 1, f + 1, h, a => hS f f' (Good.loop L L' i B Q h0 hz hz2 hS f' f (by omega)) a
theorem Good.loopC {ι : Type} {o : Bool} {w : α → Nat} {V : α → Prop} (L L' : Nat → ι → PS → ReR α) (i : ι → Bool) (c B : ι → Nat) (Q : ι → Prop) (h0 : ∀ a p', Doom s p' → DoomR s (L' 0 a p')) (hz : ∀ a p' x e, L' 0 a p' = .bad x e → e ≠ 0) (hz2 : ∀ a p x e, L 0 a p = .bad x e → e ≠ 0)
    (hS : ∀ f f', (∀ a, Good s (i a) o f (c a) (B a) w V (Q a) (L f a) (L' f' a)) → ∀ a, Good s (i a) o (f + 1) (c a) (B a) w V (Q a) (L (f + 1) a) (L' (f' + 1) a)) :
    ∀ f' f, f ≤ f' → ∀ a, Good s (i a) o f (c a) (B a) w V (Q a) (L f a) (L' f' a)
  | 0, 0, _, a => Good.zero (fun _ => h0 a) (hz a) (hz2 a)
  | 0, f + 1, h, _ => absurd h (by omega)
  | f' + 1, 0, h, a => Good.zero (hS 0 f' (Good.loopC L L' i c B Q h0 hz hz2 hS f' 0 (Nat.zero_le _)) a).doom (hS 0 f' (Good.loopC L L' i c B Q h0 hz hz2 hS f' 0 (Nat.zero_le _)) a).nz (hz2 a)
  | f' + 1, f + 1, h, a => hS f f' (Good.loopC L L' i c B Q h0 hz hz2 hS f' f (by omega)) a
theorem GoodK.void {i o : Bool} {P : Tok → Prop} {g c B : Nat} {w : α → Nat} {V : α → Prop} {Q : Prop} {k k' : Tok → PS → ReR α} (h : ∀ t, ¬ P t) : GoodK s i P o g c B w V Q k k' where
  use _ t _ _ _ _ _ _ _ hP := absurd hP (h t)
  mu t _ _ _ _ _ _ _ hP := absurd hP (h t)
  simI t _ _ _ _ _ _ _ _ hP := absurd hP (h t)
  simE _ _ _ _ _ _ _ hP := absurd hP (h _)
  doom _ t _ _ hP := absurd hP (h t)
  nz t _ _ _ _ hP := absurd hP (h t)
  nzs t _ _ _ _ hP := absurd hP (h t)
theorem Good.fuel {i o : Bool} {g c B : Nat} {w : α → Nat} {V : α → Prop} {Q : Prop} {L L' : Nat → PS → ReR α} (h : ∀ f f', f ≤ f' → Good s i o f c B w V Q (L f) (L' f')) : Good s i o g c B w V Q (fun p => L (muP s p + 1) p) (fun p => L' (muP (grS s) p + 1) p) where
  use hq p x q hp hn hm := (h _ _ (Nat.le_refl _)).use hq p x q (Nat.lt_succ_self _) hn hm
  mu p x q hp hn hm := (h _ _ (Nat.le_refl _)).mu p x q (Nat.lt_succ_self _) hn hm
  sim p p' x q hp h1 hR hm := (h _ _ (Nat.succ_le_succ (rel_mu hR))).sim p p' x q (Nat.lt_succ_self _) h1 hR hm
  doom hb p' hd := (h 0 _ (Nat.zero_le _)).doom hb p' hd
  nz p' a e hm := (h 0 _ (Nat.zero_le _)).nz p' a e hm
  nzs p a e hm := (h _ _ (Nat.le_refl (muP s p + 1))).nzs p a e hm
end
end Go.Tri
