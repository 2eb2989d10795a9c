/-
  The lexeme at the beginning of a text.
-/
import Derived.Test.YtjdcefhllbfacaaDoorAA2
import Derived.Test.YtjdcefhllbfacaaDoorASh
import Derived.Shelf.Strings.SlTrimAscii
namespace Go.Tri
open Go.Proofs Go.RowKit
/-- what the package variables hold -/
def EnvI (I : Look) : Prop := ∃ m, CellI I 2 0 (.int .i64 m)
theorem EnvI.mono {I J : Look} (h : EnvI I) (k : Le I J) : EnvI J := let ⟨m, hm⟩ := h; ⟨m, hm.mono k⟩
theorem EnvI.cell {w : World} (h : EnvI (look w)) : ∃ m, w.cell? ⟨2, 0, none⟩ = some (.int .i64 m) := by
  obtain ⟨m, cur, U, fr, h1, h2⟩ := h
  refine ⟨m, ?_⟩
  unfold World.cell?
  have h1' : w.heap[2]? = some (.cells cur U fr) := h1
  simp [h1', h2]
theorem contains_pure (s sub : List UInt8) (w : World) (hs : s.length ≤ 1000000000) (hG : EnvI (look w)) : Pure Tryd.prog 35 [str s, str sub] w (.bool (Lib.contains s sub)) := by
  obtain ⟨m, hm⟩ := hG.cell
  have hsz := size_str s
  refine (Tryd.strings_Contains ⟨s.toArray⟩ ⟨sub.toArray⟩ m w (by omega) hm).mono fun e w' ⟨h1, h2⟩ => ?_
  subst h2
  exact ⟨h1, Below.refl _ _⟩
theorem ascii_of {l : List UInt8} (h : l.all (fun b => decide (b.toNat < 128)) = true) : ∀ (j : Nat) b, l[j]? = some b → b.toNat < 128 := fun j b hb => by
  have := List.all_eq_true.1 h b (List.mem_of_getElem? hb)
  simpa using this
theorem trimL_pure (s cs : List UInt8) (w : World) (hc : cs.length ≤ 1000) (ha : cs.all (fun b => decide (b.toNat < 128)) = true) : Pure Tryd.prog 33 [str s, str cs] w (str (Lib.trimLeftS s cs)) := by
  have h2 := size_str cs
  exact (Any.strings_TrimLeft_laid Tryd.lays161 (by kernel_rfl) ⟨s.toArray⟩ ⟨cs.toArray⟩ w (by omega) (ascii_of (l := cs) ha)).mono fun e w' ⟨h3, h4⟩ => ⟨h3, h4⟩
theorem trimB_pure (s cs : List UInt8) (w : World) (hs : s.length ≤ 1000000000) (hc : cs.length ≤ 1000) (ha : cs.all (fun b => decide (b.toNat < 128)) = true) : Pure Tryd.prog 14 [str s, str cs] w (str (Lib.trimS s cs)) := by
  have h1 := size_str s
  have h2 := size_str cs
  exact (Any.strings_Trim_laid Tryd.lays160 (by kernel_rfl) ⟨s.toArray⟩ ⟨cs.toArray⟩ w (by omega) (by omega) (ascii_of (l := cs) ha)).mono fun e w' ⟨h3, h4⟩ => ⟨h3, h4⟩
theorem trimSuffix_pure (s p : List UInt8) (w : World) (hs : s.length ≤ 1000000000) : Pure Tryd.prog 41 [str s, str p] w (str (Lib.trimSuffix s p)) := by
  have h1 := size_str s
  refine (Tryd.strings_TrimSuffix ⟨s.toArray⟩ ⟨p.toArray⟩ w (by omega)).mono fun e w' ⟨h1, h2⟩ => ?_
  subst h2
  exact ⟨h1, Below.refl _ _⟩
theorem contains1_pure (s : List UInt8) (c : UInt8) (w : World) : Pure Tryd.prog 35 [str s, str [c]] w (.bool (Lib.contains s [c])) := by
  refine (Tryd.strings_Contains_one ⟨s.toArray⟩ c w).mono fun e w' ⟨h1, h2⟩ => ?_
  subst h2
  refine ⟨?_, Below.refl _ _⟩
  rw [h1]
  unfold Lib.contains
  rw [index_one]
set_option maxRecDepth 10000 in
theorem first_pure (s : List UInt8) (w : World) (hs : s.length ≤ 1000000000) (hG : EnvI (look w)) : Pure Tryd.prog 34 [str s] w (.tuple #[.agg (lxC (firstP s).1).toArray, .int .i64 ((firstP s).2 : Int)]) := by
  refine enter Tryd.func34 rfl Tryd.ntmps34 rfl (St.start w (look w) (Le.refl _)) ?_
  refine t_seq ?_
  refine t_region ?_
  refine l_e rfl rfl rfl (e_alloc rfl ti57 rfl) ?_
  rintro _ _ _ ⟨b2, rfl, rfl, rfl⟩
  refine l_heap (H' := row b2 57 (lxC lx0) :: _) ?_ (fun _ h => h)
  refine l_q rfl rfl rfl (q_assign rfl rfl) ?_
  refine l_nil ?_
  refine n_then ?_
  refine t_seq ?_
  refine t_block ?_
  refine t_seq ?_
  refine t_region ?_
  refine l_q rfl rfl rfl (q_move rfl rfl) ?_
  refine l_q rfl rfl rfl (q_eql_str rfl rfl rfl) ?_
  refine l_q rfl rfl rfl (q_assign rfl rfl) ?_
  refine l_nil ?_
  refine n_then ?_
  refine t_cond rfl (fun hc0 => ?_) (fun hc0 => ?_)
  · skip
    try simp at hc0
    have hF : firstP s = (lx0, 0) := by unfold firstP; rw [if_pos hc0]
    refine t_seq ?_
    refine t_region ?_
    refine l_q rfl rfl rfl (q_build (pl := [(_, _), (_, _), (_, _)]) (cs := (lxC lx0).toArray) rfl Tryd.underlying57 ti57 ⟨rfl, ⟨_, _, ti9⟩, rfl, ⟨_, _, ti2⟩, rfl, ⟨_, _, ti3⟩, trivial⟩ rfl rfl) ?_
    refine l_e0 rfl rfl ((by first | exact e_store_all rfl ti57 rfl rfl rfl (by first | exact chC_ones _ | exact pcC_ones _ | exact lxC_ones _ | simp [Value.oneCell', str, u8]) rfl | exact e_store_agg rfl ti57 rfl rfl rfl (by first | exact chC_ones _ | exact pcC_ones _ | exact lxC_ones _ | simp [Value.oneCell', str, u8]) rfl)) ?_
    rintro _ _ _ ⟨rfl, rfl⟩
    refine l_q rfl rfl rfl (q_assign rfl rfl) ?_
    refine l_nil ?_
    refine n_then ?_
    refine t_ret ?_
    refine n_ret_block ?_
    refine n_ret_then ?_
    refine n_retGG (.inl rfl) rfl (by exact rg_row rfl Tryd.underlying57 ti57 rfl rfl (rg_tmp rfl (rg_nil))) (fun w' hw => ?_)
    -- leaf 0
    refine ⟨?_, hw.below⟩
    rw [hF]; rfl
  · skip
    try simp at hc0
    have hne : s ≠ [] := hc0
    have hs0 := List.length_pos_iff.2 hne
    refine t_seq ?_
    refine t_qreg ?_
    refine s_q rfl rfl rfl (q_move rfl rfl) ?_
    refine s_q rfl rfl rfl ((by first | exact q_index_strN rfl Tryd.underlying9 rfl rfl (by omega) | exact q_index_str rfl Tryd.underlying9 rfl rfl (by omega))) ?_
    refine s_q rfl rfl rfl (q_leq rfl rfl rfl) ?_
    refine s_q rfl rfl rfl (q_move rfl rfl) ?_
    refine s_and2 3 3 17 21 20 _ _ rfl rfl rfl rfl rfl rfl (fun h21 => by
        try simp at h21
        refine s_g rfl rfl rfl rfl rfl rfl (q_move rfl rfl) ?_
        refine s_g rfl rfl rfl rfl rfl rfl ((by first | exact q_index_strN rfl Tryd.underlying9 rfl rfl (by omega) | exact q_index_str rfl Tryd.underlying9 rfl rfl (by omega))) ?_
        refine s_g rfl rfl rfl rfl rfl rfl (q_leq rfl rfl rfl) ?_
        exact s_val rfl
      ) (wanted_n rfl) rfl rfl rfl ?_
    refine s_q rfl rfl rfl (q_assign rfl rfl) ?_
    refine s_done ?_
    refine n_then ?_
    refine t_cond rfl (fun hc1 => ?_) (fun hc1 => ?_)
    · skip
      have hF := first_dig hne hc1
      refine t_seq ?_
      refine t_region ?_
      refine l_q rfl rfl rfl (q_move rfl rfl) ?_
      refine l_q rfl rfl rfl (quiet_call rfl rfl rfl Tryd.func40 (by kernel_rfl) rfl ((fun w _ => literal_pure s w (by omega) hne))) ?_
      refine l_q rfl rfl rfl (q_move rfl rfl) ?_
      refine l_q rfl rfl rfl (q_extract rfl rfl rfl) ?_
      refine l_q rfl rfl rfl (q_extract rfl rfl rfl) ?_
      refine l_q rfl rfl rfl (q_extract rfl rfl rfl) ?_
      refine l_q rfl rfl rfl (q_assign rfl rfl) ?_
      refine l_q rfl rfl rfl (q_assign rfl rfl) ?_
      refine l_q rfl rfl rfl (q_assign rfl rfl) ?_
      refine l_nil ?_
      refine n_then ?_
      refine t_seq ?_
      refine t_seq ?_
      refine t_region ?_
      refine l_q rfl rfl rfl (q_move rfl rfl) ?_
      refine l_q rfl rfl rfl (q_not rfl rfl) ?_
      refine l_nil ?_
      refine n_then ?_
      refine t_cond rfl (fun hc2 => ?_) (fun hc2 => ?_)
      · skip
        try simp at hc2
        rw [show numLit s = none from hc2] at hF
        refine t_seq ?_
        refine t_region ?_
        refine l_q rfl rfl rfl (q_build (pl := [(_, _), (_, _), (_, _)]) (cs := (lxC oddL).toArray) rfl Tryd.underlying57 ti57 ⟨rfl, ⟨_, _, ti9⟩, rfl, ⟨_, _, ti2⟩, rfl, ⟨_, _, ti3⟩, trivial⟩ rfl rfl) ?_
        refine l_e0 rfl rfl ((by first | exact e_store_all rfl ti57 rfl rfl rfl (by first | exact chC_ones _ | exact pcC_ones _ | exact lxC_ones _ | simp [Value.oneCell', str, u8]) rfl | exact e_store_agg rfl ti57 rfl rfl rfl (by first | exact chC_ones _ | exact pcC_ones _ | exact lxC_ones _ | simp [Value.oneCell', str, u8]) rfl)) ?_
        rintro _ _ _ ⟨rfl, rfl⟩
        refine l_q rfl rfl rfl (q_assign rfl rfl) ?_
        refine l_nil ?_
        refine n_then ?_
        refine t_ret ?_
        refine n_ret_then ?_
        refine n_ret_block ?_
        refine n_ret_then ?_
        refine n_retGG (.inl rfl) rfl (by exact rg_row rfl Tryd.underlying57 ti57 rfl rfl (rg_tmp rfl (rg_nil))) (fun w' hw => ?_)
        -- leaf 1
        refine ⟨?_, hw.below⟩
        rw [hF]; rfl
      · skip
        try simp at hc2
        obtain ⟨r, hr⟩ : ∃ r, numLit s = some r := Option.isSome_iff_exists.1 (by simpa using hc2)
        have hrl := numLit_le hne hr
        have hv : litV s = r := by rw [litV, hr]; rfl
        have hvl : (litV s).2 ≤ s.length := by rw [hv]; exact hrl.2
        rw [hr] at hF
        rw [← hv] at hF
        refine t_skip ?_
        refine n_then ?_
        refine t_seq ?_
        refine t_region ?_
        refine l_q rfl rfl rfl (q_move rfl rfl) ?_
        refine l_q rfl rfl rfl (q_move rfl rfl) ?_
        refine l_q rfl rfl rfl (q_slice_str_to rfl Tryd.underlying9 rfl rfl (by omega)) ?_
        refine l_q rfl rfl rfl (q_move rfl rfl) ?_
        refine l_q rfl rfl rfl (q_build (pl := [(_, _), (_, _), (_, _)]) (cs := (lxC ⟨s.take (litV s).2, (litV s).1, 1⟩).toArray) rfl Tryd.underlying57 ti57 ⟨rfl, ⟨_, _, ti9⟩, rfl, ⟨_, _, ti2⟩, rfl, ⟨_, _, ti3⟩, trivial⟩ rfl rfl) ?_
        refine l_q rfl rfl rfl (q_move rfl rfl) ?_
        refine l_e0 rfl rfl ((by first | exact e_store_all rfl ti57 rfl rfl rfl (by first | exact chC_ones _ | exact pcC_ones _ | exact lxC_ones _ | simp [Value.oneCell', str, u8]) rfl | exact e_store_agg rfl ti57 rfl rfl rfl (by first | exact chC_ones _ | exact pcC_ones _ | exact lxC_ones _ | simp [Value.oneCell', str, u8]) rfl)) ?_
        rintro _ _ _ ⟨rfl, rfl⟩
        refine l_q rfl rfl rfl (q_assign rfl rfl) ?_
        refine l_nil ?_
        refine n_then ?_
        refine t_ret ?_
        refine n_ret_block ?_
        refine n_ret_then ?_
        refine n_retGG (.inl rfl) rfl (by exact rg_row rfl Tryd.underlying57 ti57 rfl rfl (rg_tmp rfl (rg_nil))) (fun w' hw => ?_)
        -- leaf 2
        refine ⟨?_, hw.below⟩
        rw [hF]; rfl
    · skip
      have hF := first_not hne hc1
      refine t_seq ?_
      refine t_region ?_
      refine l_q rfl rfl rfl (q_move rfl rfl) ?_
      refine l_q rfl rfl rfl (q_slice_str_to rfl Tryd.underlying9 rfl rfl (by omega)) ?_
      refine l_q rfl rfl rfl (quiet_call rfl rfl rfl Tryd.func46 (by kernel_rfl) rfl ((fun w _ => name_pure _ w (by rw [List.length_take]; omega)))) ?_
      refine l_q rfl rfl rfl (q_assign rfl rfl) ?_
      refine l_nil ?_
      refine n_then ?_
      refine t_cond rfl (fun hc3 => ?_) (fun hc3 => ?_)
      · skip
        rw [if_pos (show nameB (s.take 1) = true from hc3)] at hF
        refine t_seq ?_
        refine t_region ?_
        refine l_q rfl rfl rfl (q_assign rfl rfl) ?_
        refine l_nil ?_
        refine n_then ?_
        refine t_cutE (ι := Nat) (fun zz => zz = (nameN s.length 1 s) ∧ zz ≤ s.length) (fun zz => [(7, .int .i64 (zz : Int))]) [(0, _), (2, _), (3, _), (9, _), (13, _), (37, _)] (fun zz => look w) (fun zz => (row b2 57 (lxC lx0) :: [])) (sub_cons rfl (sub_cons rfl (sub_cons rfl (sub_cons rfl (sub_cons rfl (sub_cons rfl sub_nil)))))) ?_ ?_
        · skip
          refine t_block ?_
          refine t_loopE (ι := Nat × Nat) (fun zz => zz.1 ≤ s.length ∧ (nameN s.length 1 s) = nameN zz.2 zz.1 s ∧ s.length - zz.1 ≤ zz.2) (fun zz => s.length - zz.1) (fun zz => [(7, .int .i64 (zz.1 : Int))]) [(0, _), (2, _), (3, _), (9, _), (13, _), (37, _)] (fun zz => look w) (fun zz => (row b2 57 (lxC lx0) :: [])) (1, s.length) ?_ (sub_cons rfl sub_nil) (sub_cons rfl (sub_cons rfl (sub_cons rfl (sub_cons rfl (sub_cons rfl (sub_cons rfl sub_nil)))))) (fun _ h => subC_st h) ?_
          · try dsimp only
            exact ⟨by omega, rfl, by omega⟩
          rintro ⟨n, g⟩ ⟨hn, hx, hg⟩
          try dsimp only at *
          refine t_seq ?_
          refine t_seq ?_
          refine t_qreg ?_
          refine s_q rfl rfl rfl (q_move rfl rfl) ?_
          refine s_q rfl rfl rfl (q_move rfl rfl) ?_
          refine s_q rfl rfl rfl (q_len_str rfl Tryd.underlying9 rfl) ?_
          refine s_q rfl rfl rfl (q_lss rfl rfl rfl) ?_
          refine s_q rfl rfl rfl (q_move rfl rfl) ?_
          refine s_and2 5 4 45 51 50 _ _ rfl rfl rfl rfl rfl rfl (fun h51 => by
              try simp at h51
              refine s_g rfl rfl rfl rfl rfl rfl (q_move rfl rfl) ?_
              refine s_g rfl rfl rfl rfl rfl rfl (q_move rfl rfl) ?_
              refine s_g rfl rfl rfl rfl rfl rfl (q_add64 rfl rfl rfl (by omega)) ?_
              refine s_g rfl rfl rfl rfl rfl rfl (q_slice_str_to rfl Tryd.underlying9 rfl rfl (by omega)) ?_
              refine s_g rfl rfl rfl rfl rfl rfl (quiet_call rfl rfl rfl Tryd.func46 (by kernel_rfl) rfl ((fun w _ => name_pure _ w (by rw [List.length_take]; omega)))) ?_
              exact s_val rfl
            ) (wanted_n rfl) rfl rfl rfl ?_
          refine s_done ?_
          refine n_then ?_
          refine t_cond rfl (fun hc4 => ?_) (fun hc4 => ?_)
          · skip
            have h3 : n < s.length ∧ nameB (s.take (n + 1)) = true := by
              have h := hc4
              rw [Bool.and_eq_true, decide_eq_true_eq] at h
              exact ⟨by omega, h.2⟩
            refine t_skip ?_
            refine n_then ?_
            refine t_block ?_
            refine t_region ?_
            refine l_q rfl rfl rfl (q_move rfl rfl) ?_
            refine l_q rfl rfl rfl (q_add64 rfl rfl rfl (by omega)) ?_
            refine l_q rfl rfl rfl (q_assign rfl rfl) ?_
            refine l_nil ?_
            refine n_block ?_
            refine n_roundE ((n + 1, g - 1)) ?_ ?_ (sub_cons rfl sub_nil) (sub_cons rfl (sub_cons rfl (sub_cons rfl (sub_cons rfl (sub_cons rfl (sub_cons rfl sub_nil)))))) (fun _ h => by try dsimp only; exact subC_st h)
            · try dsimp only
              exact ⟨by omega, hx.trans (nameN_step hg h3.1 h3.2), by omega⟩
            · try dsimp only
              show s.length - (n + 1) < s.length - n
              omega
          · skip
            have h3 : ¬ (n < s.length ∧ nameB (s.take (n + 1)) = true) := fun ⟨h1, h2⟩ => by
              have h : (decide ((n : Int) < (s.length : Int)) && nameB (s.take (n + 1))) = false := hc4
              rw [h2, decide_eq_true (by omega)] at h
              cases h
            refine t_exit ?_
            refine n_exit_then ?_
            refine n_exit_then ?_
            refine n_exit_block ?_
            refine n_cut (n) ?_ (sub_cons rfl sub_nil) (sub_cons rfl (sub_cons rfl (sub_cons rfl (sub_cons rfl (sub_cons rfl (sub_cons rfl sub_nil)))))) (fun _ h => by try dsimp only; exact subC_st h)
            · try dsimp only
              exact ⟨by rw [hx, nameN_end h3], hn⟩
        rintro n ⟨hn, hnl⟩
        try dsimp only at *
        refine t_seq ?_
        refine t_region ?_
        refine l_q rfl rfl rfl (q_move rfl rfl) ?_
        refine l_q rfl rfl rfl (q_move rfl rfl) ?_
        refine l_q rfl rfl rfl (q_slice_str_to rfl Tryd.underlying9 rfl rfl (by omega)) ?_
        refine l_q rfl rfl rfl (q_build (pl := [(_, _), (_, _), (_, _)]) (cs := (lxC ⟨s.take n, 0, 2⟩).toArray) rfl Tryd.underlying57 ti57 ⟨rfl, ⟨_, _, ti9⟩, rfl, ⟨_, _, ti2⟩, rfl, ⟨_, _, ti3⟩, trivial⟩ rfl rfl) ?_
        refine l_q rfl rfl rfl (q_move rfl rfl) ?_
        refine l_e0 rfl rfl ((by first | exact e_store_all rfl ti57 rfl rfl rfl (by first | exact chC_ones _ | exact pcC_ones _ | exact lxC_ones _ | simp [Value.oneCell', str, u8]) rfl | exact e_store_agg rfl ti57 rfl rfl rfl (by first | exact chC_ones _ | exact pcC_ones _ | exact lxC_ones _ | simp [Value.oneCell', str, u8]) rfl)) ?_
        rintro _ _ _ ⟨rfl, rfl⟩
        refine l_q rfl rfl rfl (q_assign rfl rfl) ?_
        refine l_nil ?_
        refine n_then ?_
        refine t_ret ?_
        refine n_ret_block ?_
        refine n_ret_then ?_
        refine n_retGG (.inl rfl) rfl (by exact rg_row rfl Tryd.underlying57 ti57 rfl rfl (rg_tmp rfl (rg_nil))) (fun w' hw => ?_)
        -- leaf 3
        refine ⟨?_, hw.below⟩
        rw [hF, ← hn]; rfl
      · skip
        rw [if_neg (show ¬ nameB (s.take 1) = true from by rw [show nameB (s.take 1) = false from hc3]; simp)] at hF
        refine t_skip ?_
        refine n_block ?_
        refine n_then ?_
        refine t_cutE (ι := Unit) (fun _ => sgnN s (min 3 s.length) = 0) (fun _ => []) [(0, _), (2, _), (9, _), (13, _), (37, _)] (fun _ => look w) (fun _ => (row b2 57 (lxC lx0) :: [])) (sub_cons rfl (sub_cons rfl (sub_cons rfl (sub_cons rfl (sub_cons rfl sub_nil))))) ?_ ?_
        · skip
          refine t_seq ?_
          refine t_region ?_
          refine l_q rfl rfl rfl (q_move rfl rfl) ?_
          refine l_q rfl rfl rfl (q_len_str rfl Tryd.underlying9 rfl) ?_
          refine l_q rfl rfl rfl (q_min rfl rfl rfl) ?_
          refine l_q rfl rfl rfl (q_assign rfl rfl) ?_
          refine l_nil ?_
          refine n_then ?_
          refine t_block ?_
          refine t_loopE (ι := Nat) (fun zz => zz ≤ s.length ∧ sgnN s (min 3 s.length) = sgnN s zz) (fun zz => zz) (fun zz => [(8, .int .i64 (zz : Int))]) [(0, _), (2, _), (9, _), (13, _), (37, _)] (fun zz => look w) (fun zz => (row b2 57 (lxC lx0) :: [])) (min 3 s.length) ?_ (sub_cons' rfl (congrArg (Value.int IntKind.i64) (by omega)) (sub_nil)) (sub_cons rfl (sub_cons rfl (sub_cons rfl (sub_cons rfl (sub_cons rfl sub_nil))))) (fun _ h => subC_st h) ?_
          · try dsimp only
            exact ⟨by omega, rfl⟩
          rintro n ⟨hn, hx⟩
          try dsimp only at *
          refine t_seq ?_
          refine t_seq ?_
          refine t_region ?_
          refine l_q rfl rfl rfl (q_move rfl rfl) ?_
          refine l_q rfl rfl rfl (q_gtr rfl rfl rfl) ?_
          refine l_nil ?_
          refine n_then ?_
          refine t_cond rfl (fun hc5 => ?_) (fun hc5 => ?_)
          · skip
            try simp at hc5
            have hn0 : 0 < n := by omega
            refine t_skip ?_
            refine n_then ?_
            refine t_seq ?_
            refine t_block ?_
            refine t_seq ?_
            refine t_qreg ?_
            refine s_q rfl rfl rfl (q_move rfl rfl) ?_
            refine s_q rfl rfl rfl (q_move rfl rfl) ?_
            refine s_q rfl rfl rfl (q_slice_str_to rfl Tryd.underlying9 rfl rfl (by omega)) ?_
            refine s_q rfl rfl rfl (q_cat rfl rfl rfl (by first | omega | (simp only [List.length_append, List.length_cons, List.length_nil, List.length_take, List.length_drop]; omega))) ?_
            refine s_q rfl rfl rfl (q_cat rfl rfl rfl (by first | omega | (simp only [List.length_append, List.length_cons, List.length_nil, List.length_take, List.length_drop]; omega))) ?_
            refine s_q rfl rfl rfl (quiet_call rfl rfl rfl Tryd.func35 (by kernel_rfl) rfl ((fun w hw => contains_pure sgnS ([32] ++ s.take n ++ [32]) w (by decide) (hG.mono hw.le)))) ?_
            refine s_q rfl rfl rfl (q_move rfl rfl) ?_
            refine s_and2 5 6 72 78 77 _ _ rfl rfl rfl rfl rfl rfl (fun h78 => by
                try simp at h78
                refine s_g rfl rfl rfl rfl rfl rfl (q_move rfl rfl) ?_
                refine s_g rfl rfl rfl rfl rfl rfl (q_move rfl rfl) ?_
                refine s_g rfl rfl rfl rfl rfl rfl (q_slice_str_to rfl Tryd.underlying9 rfl rfl (by omega)) ?_
                refine s_g rfl rfl rfl rfl rfl rfl (quiet_call rfl rfl rfl Tryd.func35 (by kernel_rfl) rfl ((fun w _ => contains1_pure (s.take n) 32 w))) ?_
                refine s_g rfl rfl rfl rfl rfl rfl (q_not rfl rfl) ?_
                exact s_val rfl
              ) (wanted_n rfl) rfl rfl rfl ?_
            refine s_done ?_
            refine n_then ?_
            refine t_cond rfl (fun hc6 => ?_) (fun hc6 => ?_)
            · skip
              have h6 : sgnB (s.take n) = true := hc6
              rw [hx, sgnN_hit hn0 h6, if_neg (by omega)] at hF
              refine t_seq ?_
              refine t_region ?_
              refine l_q rfl rfl rfl (q_move rfl rfl) ?_
              refine l_q rfl rfl rfl (q_move rfl rfl) ?_
              refine l_q rfl rfl rfl (q_slice_str_to rfl Tryd.underlying9 rfl rfl (by omega)) ?_
              refine l_q rfl rfl rfl (q_build (pl := [(_, _), (_, _), (_, _)]) (cs := (lxC ⟨s.take n, 0, 3⟩).toArray) rfl Tryd.underlying57 ti57 ⟨rfl, ⟨_, _, ti9⟩, rfl, ⟨_, _, ti2⟩, rfl, ⟨_, _, ti3⟩, trivial⟩ rfl rfl) ?_
              refine l_q rfl rfl rfl (q_move rfl rfl) ?_
              refine l_e0 rfl rfl ((by first | exact e_store_all rfl ti57 rfl rfl rfl (by first | exact chC_ones _ | exact pcC_ones _ | exact lxC_ones _ | simp [Value.oneCell', str, u8]) rfl | exact e_store_agg rfl ti57 rfl rfl rfl (by first | exact chC_ones _ | exact pcC_ones _ | exact lxC_ones _ | simp [Value.oneCell', str, u8]) rfl)) ?_
              rintro _ _ _ ⟨rfl, rfl⟩
              refine l_q rfl rfl rfl (q_assign rfl rfl) ?_
              refine l_nil ?_
              refine n_then ?_
              refine t_ret ?_
              refine n_ret_block ?_
              refine n_ret_then ?_
              refine n_ret_then ?_
              refine n_ret_block ?_
              refine n_ret_then ?_
              refine n_retGG (.inl rfl) rfl (by exact rg_row rfl Tryd.underlying57 ti57 rfl rfl (rg_tmp rfl (rg_nil))) (fun w' hw => ?_)
              -- leaf 4
              refine ⟨?_, hw.below⟩
              rw [hF]; rfl
            · skip
              have h6 : sgnB (s.take n) = false := hc6
              refine t_skip ?_
              refine n_block ?_
              refine n_then ?_
              refine t_region ?_
              refine l_q rfl rfl rfl (q_move rfl rfl) ?_
              refine l_q rfl rfl rfl (q_sub64 rfl rfl rfl (by omega)) ?_
              refine l_q rfl rfl rfl (q_assign rfl rfl) ?_
              refine l_nil ?_
              refine n_roundE (n - 1) ?_ ?_ (sub_cons' rfl (congrArg (Value.int IntKind.i64) (by omega)) (sub_nil)) (sub_cons rfl (sub_cons rfl (sub_cons rfl (sub_cons rfl (sub_cons rfl sub_nil))))) (fun _ h => by try dsimp only; exact subC_st h)
              · try dsimp only
                exact ⟨by omega, hx.trans (sgnN_step hn0 h6)⟩
              · try dsimp only
                omega
          · skip
            try simp at hc5
            have hn0 : n = 0 := by omega
            refine t_exit ?_
            refine n_exit_then ?_
            refine n_exit_then ?_
            refine n_exit_block ?_
            refine n_cut (()) ?_ (sub_nil) (sub_cons rfl (sub_cons rfl (sub_cons rfl (sub_cons rfl (sub_cons rfl sub_nil))))) (fun _ h => by try dsimp only; exact subC_st h)
            · try dsimp only
              rw [hx, hn0]; rfl
        rintro _ hz
        refine t_seq ?_
        refine t_region ?_
        refine l_q rfl rfl rfl (q_build (pl := [(_, _), (_, _), (_, _)]) (cs := (lxC oddL).toArray) rfl Tryd.underlying57 ti57 ⟨rfl, ⟨_, _, ti9⟩, rfl, ⟨_, _, ti2⟩, rfl, ⟨_, _, ti3⟩, trivial⟩ rfl rfl) ?_
        refine l_e0 rfl rfl ((by first | exact e_store_all rfl ti57 rfl rfl rfl (by first | exact chC_ones _ | exact pcC_ones _ | exact lxC_ones _ | simp [Value.oneCell', str, u8]) rfl | exact e_store_agg rfl ti57 rfl rfl rfl (by first | exact chC_ones _ | exact pcC_ones _ | exact lxC_ones _ | simp [Value.oneCell', str, u8]) rfl)) ?_
        rintro _ _ _ ⟨rfl, rfl⟩
        refine l_q rfl rfl rfl (q_assign rfl rfl) ?_
        refine l_nil ?_
        refine n_then ?_
        refine t_ret ?_
        refine n_retGG (.inl rfl) rfl (by exact rg_row rfl Tryd.underlying57 ti57 rfl rfl (rg_tmp rfl (rg_nil))) (fun w' hw => ?_)
        -- leaf 5
        refine ⟨?_, hw.below⟩
        rw [hF, if_pos hz]; rfl
end Go.Tri
