/-
  The statement walked: commands.
-/
import Derived.Test.YtbogmbdfjgnfaaaGreatDoorEM9
namespace Go.Tri
open Go.Proofs Go.RowKit
theorem trimNl_snoc (s : List UInt8) (c : UInt8) : trimNl (s ++ [c]) = if c = 10 then trimNl s else s ++ [c] := by
  unfold trimNl Lib.trimRightS
  rw [List.reverse_append]
  show (List.dropWhile _ (c :: s.reverse)).reverse = _
  rw [List.dropWhile_cons]
  by_cases h : c = 10
  · subst h; simp
  · rw [if_neg h, if_neg (by simp [h])]; simp
theorem trimNl_step {s : List UInt8} (h : s ≠ []) (hl : nth s (s.length - 1) 0 = 10) : trimNl (s.take (s.length - 1)) = trimNl s := by
  obtain ⟨l, c, rfl⟩ : ∃ l c, s = l ++ [c] := by
    rcases List.eq_nil_or_concat s with h0 | ⟨l, c, h0⟩
    · exact absurd h0 h
    · exact ⟨l, c, by rw [h0, List.concat_eq_append]⟩
  have hlen : (l ++ [c]).length - 1 = l.length := by simp
  rw [hlen] at hl ⊢
  have hc : nth (l ++ [c]) l.length 0 = c := by rw [nth_eq (by simp)]; simp
  rw [hc] at hl
  rw [trimNl_snoc, if_pos hl, List.take_left]
theorem trimNl_end {s : List UInt8} (h : s ≠ [] → nth s (s.length - 1) 0 ≠ 10) : trimNl s = s := by
  rcases List.eq_nil_or_concat s with h0 | ⟨l, c, h0⟩
  · subst h0; rfl
  · rw [List.concat_eq_append] at h0
    subst h0
    have hl := h (by simp)
    have hlen : (l ++ [c]).length - 1 = l.length := by simp
    have hc : nth (l ++ [c]) l.length 0 = c := by rw [nth_eq (by simp)]; simp
    rw [hlen, hc] at hl
    rw [trimNl_snoc, if_neg hl]
theorem cmd_ok {tx says : List UInt8} (ht : tx.length ≤ 500) (hs : says.length ≤ 500) (p : HP) : ExpOk p ⟨[], [], [says], []⟩ ([60, 36, 40] ++ cmdT tx ++ [41, 62]) 0 ∧ Small (expX ⟨[], [], [says], []⟩ ([60, 36, 40] ++ cmdT tx ++ [41, 62]) 0) := by
  refine expOk_of p ⟨fun v hv => (by cases hv), fun a ha => (by cases ha), fun o ho => ?_, fun sep _ => Nat.zero_le _, Nat.zero_le _, Nat.zero_le _⟩ (Nat.zero_le _) (fun l hl => ?_)
  · rw [List.mem_singleton.1 ho]; omega
  · rw [cmd_parts ht] at hl
    cases hl
    have hc : (cmdT tx).length ≤ 2007 := by have := quoteB_len tx; unfold cmdT; simp only [List.length_append, List.length_cons, List.length_nil]; omega
    refine ⟨by simp [cntL, PT.cnt], ?_⟩
    simp only [oksT, okT]
    exact ⟨⟨by decide, by decide, trivial⟩, ⟨by decide, by omega, trivial⟩, ⟨by decide, by decide, trivial⟩, trivial⟩
set_option maxRecDepth 10000 in
set_option maxHeartbeats 1000000 in
theorem expandCommands_pure (tx says : List UInt8) (w : World) (ht9 : tx.length ≤ 1048576) (hs9 : says.length ≤ 1048576) (hG : EnvI (look w)) : Pure Tryz.prog 4 [str tx, str says] w (.bool true) := by
  have hq1 := quoteB_len tx
  refine enter Tryz.func4 rfl Tryz.ntmps4 rfl (St.start w (look w) (Le.refl _)) ?_
  refine t_seq ?_
  refine t_region ?_
  refine l_q rfl rfl rfl (q_assign rfl rfl) ?_
  refine l_nil ?_
  refine n_then ?_
  refine t_seq ?_
  refine t_seq ?_
  refine t_region ?_
  refine l_q rfl rfl rfl (quiet_call rfl rfl rfl Tryz.func7 (by kernel_rfl) rfl ((fun w hw => awake_pure w (hG.mono hw.le)))) ?_
  refine l_q rfl rfl rfl (q_not rfl rfl) ?_
  refine l_nil ?_
  refine n_then ?_
  refine t_cond rfl (fun hc0 => ?_) (fun hc0 => ?_)
  · skip
    cases hc0
  · skip
    refine t_skip ?_
    refine n_then ?_
    refine t_seq ?_
    refine t_seq ?_
    refine t_region ?_
    refine l_q rfl rfl rfl (q_move rfl rfl) ?_
    refine l_q rfl rfl rfl (q_len_str rfl Tryz.underlying9 rfl) ?_
    refine l_q rfl rfl rfl (q_move rfl rfl) ?_
    refine l_q rfl rfl rfl (q_len_str rfl Tryz.underlying9 rfl) ?_
    refine l_q rfl rfl rfl (q_add64 rfl rfl rfl (by omega)) ?_
    refine l_q rfl rfl rfl (q_gtr rfl rfl rfl) ?_
    refine l_nil ?_
    refine n_then ?_
    refine t_cond rfl (fun hc1 => ?_) (fun hc1 => ?_)
    · skip
      try simp at hc1
      refine t_seq ?_
      refine t_region ?_
      refine l_q rfl rfl rfl (q_assign rfl rfl) ?_
      refine l_nil ?_
      refine n_then ?_
      refine t_ret ?_
      refine n_ret_then ?_
      refine n_ret1 rfl rfl (fun w' hw => ?_)
      -- leaf 0
      exact ⟨rfl, hw.below⟩
    · skip
      try simp at hc1
      have hlen : tx.length + says.length ≤ 500 := by omega
      refine t_skip ?_
      refine n_then ?_
      refine t_seq ?_
      refine t_region ?_
      refine l_q rfl rfl rfl (q_move rfl rfl) ?_
      refine l_q rfl rfl rfl (quiet_call rfl rfl rfl Tryz.func8 (by kernel_rfl) rfl ((fun w hw => quote_pure tx w (by omega) (hG.mono hw.le)))) ?_
      refine l_q rfl rfl rfl (q_cat rfl rfl rfl (by first | omega | (simp only [List.length_append, List.length_cons, List.length_nil, List.length_take, List.length_drop]; omega))) ?_
      refine l_q rfl rfl rfl (q_assign rfl rfl) ?_
      refine l_nil ?_
      refine n_then ?_
      refine t_seq ?_
      refine t_region ?_
      refine l_q rfl rfl rfl (q_move rfl rfl) ?_
      refine l_e rfl rfl rfl (e_buildSlice1 rfl Tryz.underlying24 ti9 rfl rfl rfl (by first | exact One.cells (by assumption) | rfl) rfl) ?_
      rintro _ _ _ ⟨b22, rfl, rfl, rfl⟩
      refine l_freezeRow b22 (fun J22 hJ22 hk22 => ?_)
      have hv22 := sl_row (f := svC) (sz := 1) [says] hk22 rfl rfl (fun _ => rfl)
      refine l_q rfl rfl rfl (q_build (pl := [(_, _), (_, _), (_, _), (_, _)]) (cs := #[_, _, _, _]) rfl Tryz.underlying26 ti26 ⟨rfl, ⟨_, _, ti23⟩, rfl, ⟨_, _, ti24⟩, rfl, ⟨_, _, ti24⟩, rfl, ⟨_, _, ti24⟩, trivial⟩ rfl rfl) ?_
      refine l_e rfl rfl rfl (eff_call rfl rfl rfl Tryz.func11 (by kernel_rfl) rfl (fun w hw => set_calls [] [] [says] nilV nilV (.slice (some ⟨b22, 0, none⟩) 1 1) (by decide) (fun v hv => by cases hv) (by simp) _ sl_nilT sl_nilT hv22 _ _ w hw)) ?_
      rintro _ J24 _ ⟨hJ24, p, lv, rfl, rfl, hi24⟩
      refine l_q rfl rfl rfl (q_assign rfl rfl) ?_
      refine l_nil ?_
      refine n_then ?_
      refine t_seq ?_
      refine t_region ?_
      refine l_q rfl rfl rfl (q_move rfl rfl) ?_
      refine l_q rfl rfl rfl (q_build (pl := [(_, _)]) (cs := (([.pointer (some ⟨p.eb, 0, none⟩)] : List Value)).toArray) rfl Tryz.underlying37 ti37 ⟨rfl, ⟨_, _, ti34⟩, trivial⟩ rfl rfl) ?_
      refine l_e rfl rfl rfl (e_box rfl rfl rfl) ?_
      rintro _ _ _ ⟨b28, rfl, rfl, rfl⟩
      refine l_heap (H' := hostH { p with hb := b28 } lv nilV ⟨[], [], [says], []⟩ []) ?_ (fun _ h => host_start h)
      refine l_q rfl rfl rfl (q_makeIface rfl Tryz.underlying33 rfl rfl) ?_
      refine l_q rfl rfl rfl (q_move rfl rfl) ?_
      refine l_q rfl rfl rfl (q_cat rfl rfl rfl (by first | omega | (simp only [List.length_append, List.length_cons, List.length_nil, List.length_take, List.length_drop]; omega))) ?_
      refine l_q rfl rfl rfl (q_cat rfl rfl rfl (by first | omega | (simp only [List.length_append, List.length_cons, List.length_nil, List.length_take, List.length_drop]; omega))) ?_
      refine l_e rfl rfl rfl (eff_call rfl rfl rfl Tryz.func10 (by kernel_rfl) rfl (fun w hw => onex_calls { p with hb := b28 } ([60, 36, 40] ++ cmdT tx ++ [41, 62]) 0 (by unfold cmdT; simp only [List.length_append, List.length_cons, List.length_nil]; omega) ⟨[], [], [says], []⟩ (cmd_ok (by omega) (by omega) _).1 (cmd_ok (by omega) (by omega) { p with hb := b28 }).2 lv nilV J24 [] _ w (hG.mono (hJ22.trans hJ24)) (hi24.hb b28) hw)) ?_
      rintro _ J33 _ ⟨hJ33, rfl, lv2, av2, rfl, hi33⟩
      rw [one_cmd (by omega) (by omega)] at hi33 ⊢
      refine l_q rfl rfl rfl (q_move rfl rfl) ?_
      refine l_q rfl rfl rfl (q_extract rfl rfl rfl) ?_
      refine l_q rfl rfl rfl (q_extract rfl rfl rfl) ?_
      refine l_q rfl rfl rfl (q_extract rfl rfl rfl) ?_
      refine l_q rfl rfl rfl (q_assign rfl rfl) ?_
      refine l_q rfl rfl rfl (q_assign rfl rfl) ?_
      refine l_q rfl rfl rfl (q_assign rfl rfl) ?_
      refine l_nil ?_
      refine n_then ?_
      refine t_seq ?_
      refine t_block ?_
      refine t_loopE (ι := List UInt8) (fun zz => zz.length ≤ 500 ∧ trimNl zz = trimNl says) (fun zz => zz.length) (fun zz => [(1, str zz)]) [(0, _), (4, _), (11, _), (17, _), (5, _), (6, _), (7, _), (9, _)] (fun zz => J33) (fun zz => (hostH { p with hb := b28 } lv2 av2 ⟨[], [], [says], [cmdT tx]⟩ [])) says ?_ (sub_cons rfl sub_nil) (sub_cons rfl (sub_cons rfl (sub_cons rfl (sub_cons rfl (sub_cons rfl (sub_cons rfl (sub_cons rfl (sub_cons rfl sub_nil)))))))) (fun _ h => subC_st h) ?_
      · try dsimp only
        exact ⟨by omega, rfl⟩
      rintro s ⟨hsl, hst⟩
      try dsimp only at *
      refine t_seq ?_
      refine t_seq ?_
      refine t_qreg ?_
      refine s_q rfl rfl rfl (q_move rfl rfl) ?_
      refine s_q rfl rfl rfl (q_neq_str rfl rfl rfl) ?_
      refine s_q rfl rfl rfl (q_move rfl rfl) ?_
      refine s_and2 6 2 39 46 45 _ _ rfl rfl rfl rfl rfl rfl (fun h46 => by
          try simp at h46
          have hs00 : 0 < s.length := List.length_pos_iff.2 h46
          refine s_g rfl rfl rfl rfl rfl rfl (q_move rfl rfl) ?_
          refine s_g rfl rfl rfl rfl rfl rfl (q_move rfl rfl) ?_
          refine s_g rfl rfl rfl rfl rfl rfl (q_len_str rfl Tryz.underlying9 rfl) ?_
          refine s_g rfl rfl rfl rfl rfl rfl (q_sub64 rfl rfl rfl (by omega)) ?_
          refine s_g rfl rfl rfl rfl rfl rfl ((by first | exact q_index_strN rfl Tryz.underlying9 rfl rfl (by omega) | exact q_index_str rfl Tryz.underlying9 rfl rfl (by omega))) ?_
          refine s_g rfl rfl rfl rfl rfl rfl (q_eql_u8c rfl rfl rfl rfl) ?_
          exact s_val rfl
        ) (wanted_n rfl) rfl rfl rfl ?_
      refine s_done ?_
      refine n_then ?_
      refine t_cond rfl (fun hc2 => ?_) (fun hc2 => ?_)
      · skip
        rw [Bool.and_eq_true, decide_eq_true_eq] at hc2
        have hs0 := hc2.1
        have hs1 : 0 < s.length := List.length_pos_iff.2 hs0
        have hs10 : nth s (s.length - 1) 0 = 10 := by have h9 := of_decide_eq_true hc2.2; rw [show ((s.length : Int) - 1).toNat = s.length - 1 by omega] at h9; exact h9
        refine t_skip ?_
        refine n_then ?_
        refine t_block ?_
        refine t_region ?_
        refine l_q rfl rfl rfl (q_move rfl rfl) ?_
        refine l_q rfl rfl rfl (q_move rfl rfl) ?_
        refine l_q rfl rfl rfl (q_len_str rfl Tryz.underlying9 rfl) ?_
        refine l_q rfl rfl rfl (q_sub64 rfl rfl rfl (by omega)) ?_
        refine l_q rfl rfl rfl (q_slice_str_to rfl Tryz.underlying9 rfl rfl (by omega)) ?_
        refine l_q rfl rfl rfl (q_assign rfl rfl) ?_
        refine l_nil ?_
        refine n_block ?_
        refine n_roundE (s.take (s.length - 1)) ?_ ?_ (sub_cons' rfl (by rw [show ((s.length : Int) - 1).toNat = s.length - 1 by omega]) (sub_nil)) (sub_cons rfl (sub_cons rfl (sub_cons rfl (sub_cons rfl (sub_cons rfl (sub_cons rfl (sub_cons rfl (sub_cons rfl sub_nil)))))))) (fun _ h => by try dsimp only; exact subC_st h)
        · try dsimp only
          exact ⟨by rw [List.length_take]; omega, by rw [trimNl_step hs0 hs10]; exact hst⟩
        · try dsimp only
          show (s.take (s.length - 1)).length < s.length
          rw [List.length_take]; omega
      · skip
        have hse : trimNl s = s := trimNl_end (fun h9 h8 => by
          have h7 := hc2
          have hs1 : 0 < s.length := List.length_pos_iff.2 h9
          rw [decide_eq_true h9, Bool.true_and, show ((s.length : Int) - 1).toNat = s.length - 1 by omega] at h7
          exact absurd h8 (of_decide_eq_false h7))
        rw [hse] at hst
        refine t_exit ?_
        refine n_exit_then ?_
        refine n_exit_then ?_
        refine n_exit_block ?_
        refine n_then ?_
        refine t_seq ?_
        refine t_freezeT (f := svC) (l := [cmdT tx]) av2 (fun _ => rfl) (fun Jf hJf hasl => ?_)
        refine t_qreg ?_
        refine s_q rfl rfl rfl (q_move rfl rfl) ?_
        refine s_q rfl rfl rfl (q_eql rfl rfl rfl) ?_
        refine s_q rfl rfl rfl (q_move rfl rfl) ?_
        refine s_and2 5 2 54 60 59 _ _ rfl rfl rfl rfl rfl rfl (fun h60 => by
            try simp at h60
            refine s_g rfl rfl rfl rfl rfl rfl (q_move rfl rfl) ?_
            refine s_g rfl rfl rfl rfl rfl rfl (q_move rfl rfl) ?_
            refine s_g rfl rfl rfl rfl rfl rfl (q_cat rfl rfl rfl (by first | omega | (simp only [List.length_append, List.length_cons, List.length_nil, List.length_take, List.length_drop]; omega))) ?_
            refine s_g rfl rfl rfl rfl rfl rfl (q_cat rfl rfl rfl (by first | omega | (simp only [List.length_append, List.length_cons, List.length_nil, List.length_take, List.length_drop]; omega))) ?_
            refine s_g rfl rfl rfl rfl rfl rfl (q_eql_str rfl rfl rfl) ?_
            exact s_val rfl
          ) (wanted_n rfl) rfl rfl rfl ?_
        refine s_q rfl rfl rfl (q_move rfl rfl) ?_
        refine s_and2 6 9 61 68 67 _ _ rfl rfl rfl rfl rfl rfl (fun h68 => by
            try simp at h68
            refine s_g rfl rfl rfl rfl rfl rfl (q_move rfl rfl) ?_
            refine s_g rfl rfl rfl rfl rfl rfl (q_nilCheck rfl rfl) ?_
            refine s_g rfl rfl rfl rfl rfl rfl (q_fieldAddr rfl Tryz.underlying43 rfl rfl ti24 rfl rfl) ?_
            refine s_g rfl rfl rfl rfl rfl rfl ((by first | exact q_load_row rfl Tryz.underlying24 rfl rfl (by rfl) | exact q_load rfl Tryz.underlying24 rfl rfl (rd_sv (i := 0) hasl (by simp)))) ?_
            refine s_g rfl rfl rfl rfl rfl rfl ((by first | exact q_lenV rfl Tryz.underlying24 rfl | exact q_len rfl Tryz.underlying24 rfl (Sl.lenOf (n := 1) hasl rfl))) ?_
            refine s_g rfl rfl rfl rfl rfl rfl (q_eql rfl rfl rfl) ?_
            exact s_val rfl
          ) (wanted_n rfl) rfl rfl rfl ?_
        refine s_q rfl rfl rfl (q_move rfl rfl) ?_
        refine s_and2 8 17 69 78 77 _ _ rfl rfl rfl rfl rfl rfl (fun h78 => by
            try simp at h78
            refine s_g rfl rfl rfl rfl rfl rfl (q_move rfl rfl) ?_
            refine s_g rfl rfl rfl rfl rfl rfl (q_nilCheck rfl rfl) ?_
            refine s_g rfl rfl rfl rfl rfl rfl (q_fieldAddr rfl Tryz.underlying43 rfl rfl ti24 rfl rfl) ?_
            refine s_g rfl rfl rfl rfl rfl rfl ((by first | exact q_load_row rfl Tryz.underlying24 rfl rfl (by rfl) | exact q_load rfl Tryz.underlying24 rfl rfl (rd_sv (i := 0) hasl (by simp)))) ?_
            refine s_g rfl rfl rfl rfl rfl rfl ((by first | exact q_indexAddrVN rfl Tryz.underlying24 ti9 rfl rfl (by omega) | exact q_indexAddrN rfl Tryz.underlying24 ti9 rfl rfl (Sl.shape (n := 1) hasl rfl) (by omega) | exact q_indexAddrV rfl Tryz.underlying24 ti9 rfl rfl (by omega) | exact q_indexAddr rfl Tryz.underlying24 ti9 rfl rfl (Sl.shape (n := 1) hasl rfl) (by omega))) ?_
            refine s_g rfl rfl rfl rfl rfl rfl ((by first | exact q_load_row rfl Tryz.underlying9 rfl rfl (by rfl) | exact q_load rfl Tryz.underlying9 rfl rfl (rd_sv (i := 0) hasl (by simp)))) ?_
            refine s_g rfl rfl rfl rfl rfl rfl (q_move rfl rfl) ?_
            refine s_g rfl rfl rfl rfl rfl rfl (q_eql_str rfl rfl rfl) ?_
            exact s_val rfl
          ) (wanted_n rfl) rfl rfl rfl ?_
        refine s_q rfl rfl rfl (q_assign rfl rfl) ?_
        refine s_done ?_
        refine n_then ?_
        refine t_ret ?_
        refine n_ret1 rfl rfl (fun w' hw => ?_)
        -- leaf 1
        refine ⟨?_, (hw.less (hJ22.trans (hJ24.trans (hJ33.trans hJf)))).below⟩
        simp [hst, nth, cmdT]
end Go.Tri
