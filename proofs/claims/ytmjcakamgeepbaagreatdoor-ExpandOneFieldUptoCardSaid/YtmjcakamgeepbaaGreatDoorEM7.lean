/-
 What stands between breaks.
-/
import Derived.Test.YtmjcakamgeepbaaGreatDoorED4
import Derived.Test.YtmjcakamgeepbaaGreatDoorPExV
namespace Go.Tri
open Go.Proofs Go.RowKit
set_option maxRecDepth 10000
def HdG (L : List Px) (k : Nat) (J : Look) (vs : List Value) : Prop := k < (groupsX L).length ∧ ∃ v, vs = [v] ∧ Sl J 3 v ((nth (groupsX L) k []).map pcC)
theorem groups_calls (vl : Value) (h1 : One vl) (I : Look) (F : List HA) (w0 w : World) (hw0 : St w0 I F w) : Calls Tryz.prog 10 [vl].toArray w (fun e w' => ∃ v, e = .returned v ∧ ∃ I' H', (Le I I' ∧ F = H' ∧ ∃ b, v = .func (.func 23) #[] #[.pointer (some ⟨b, 0, none⟩)] ∧ CellI I' b 0 vl) ∧ St w I' H' w') := by
 refine enter Tryz.func10 rfl Tryz.ntmps10 rfl (hw0.self) (tr (le rfl (e_box rfl rfl (by exact One.cells (by assumption))) ?_)); rintro _ _ _ ⟨b1, rfl, rfl, rfl⟩; refine lrun rfl (t_seq (t_freezeRow b1 (fun J hJ hb1 => ?_))); refine t_region (lq rfl (q_makeFunc rfl rfl rfl) (lrun rfl (t_ret (n_ret1 rfl rfl (fun w' hw => ?_))))); exact ⟨_, rfl, J, _, ⟨hJ, rfl, b1, rfl, hb1 0 _ rfl⟩, hw⟩
theorem groups_iter (L : List Px) (vl : Value) (b1 : Nat) (hL : L.length ≤ 1000000000) : IteratesV Tryz.prog 23 [.pointer (some ⟨b1, 0, none⟩)] (groupsX L).length (HdG L) (fun I => CellI I b1 0 vl ∧ PxR I vl L) := by
 intro γ Cd Cx G II lid hY w0 g00 F w hcd0 hpre hw0; obtain ⟨hb1, hpx0⟩ := hpre
 have hJ := Le.refl (II g00)
 have hpx := hpx0
 refine enter Tryz.func23 rfl Tryz.ntmps23 rfl (hw0.self) (trun rfl (t_seq (tr (lq rfl ((by exact q_ldr rfl rfl (rd_imm (hb1.mono hJ)))) ?_)))); refine lq rfl ((by exact q_len rfl un43 rfl (Sl.lenOf hpx (List.length_map _)))) ?_; refine lrun rfl (t_block (t_loopE (ι := Nat × Nat × Value × List Pc × γ) (fun zz => zz.1 ≤ L.length ∧ Cd zz.2.1 zz.2.2.2.2 ∧ Le (II g00) (II zz.2.2.2.2) ∧ (groupsX L).drop zz.2.1 = grpG zz.2.2.2.1 (L.drop zz.1) ∧ zz.2.2.2.1.length ≤ zz.1) (fun zz => L.length - zz.1) (fun zz => [(8, .int .i64 (zz.1 : Int)), (3, zz.2.2.1)]) [(0, _), (1, _), (6, _), (7, _)] (fun zz => (II zz.2.2.2.2)) (fun zz => (tvec 82 3 pcC zz.2.2.1 zz.2.2.2.1 :: (F ++ G zz.2.2.2.2))) (0, 0, .slice none 0 0, [], g00) ?_ (sub_rfl rfl) (sub_rfl rfl) (fun _ h => by dsimp only; exact st_nilT 82 3 pcC (subC_st h)) ?_))
 ·dsimp only; exact ⟨Nat.zero_le _, hcd0, Le.refl _, rfl, Nat.zero_le _⟩
 rintro ⟨i, n, vo, cur, g⟩ ⟨hi, hcd, hJ, hdr, hcl⟩; dsimp only at *
 have hpx := hpx0.mono hJ
 refine trun rfl (t_seq (t_cond rfl (fun hc0 => ?_) (fun hc0 => ?_)))
 ·simp at hc0
  have hiL : i < L.length := by omega
  refine tskip (t_seq (t_block (tr ?_))); refine lq rfl ((by exact q_indexAddrN rfl un43 ti84 rfl rfl (Sl.shape hpx (List.length_map _)) (by omega))) ?_; refine lq rfl ((by exact q_load_agg rfl un84 ti84 rfl rfl (rds_px (i := i) hpx (by omega)))) ?_; refine le rfl (e_alloc rfl ti84 rfl) ?_; rintro _ _ _ ⟨b5, rfl, rfl, rfl⟩; refine l_e0 rfl rfl ((by exact e_store_all rfl ti84 rfl rfl rfl (by exact pxC_ones _) rfl)) ?_; rintro _ _ _ ⟨rfl, rfl⟩; refine l_heap (H' := row b5 84 (pxC (nth L i px0)) :: _) ?_ (fun _ h => h); refine lnr (l_run 1 rfl (lq rfl ((by exact q_ld rfl rfl (by rfl))) ?_)); refine lrun rfl (t_cond rfl (fun hc1 => ?_) (fun hc1 => ?_))
  ·have hst : (nth L i px0).st = false := by rw [Bool.not_eq_true'] at hc1; exact hc1
   refine tr (l_run 2 rfl (lq rfl ((by exact q_load_rowA rfl un82 ti82 rfl rfl rfl)) ?_)); refine le rfl (e_buildSlice1 rfl un51 ti82 rfl rfl rfl (by rfl) rfl) ?_; rintro _ _ _ ⟨b18, rfl, rfl, rfl⟩; refine le rfl (e_appendT (f := pcC) (c := (nth L i px0).p) rfl un51 ti82 rfl rfl rfl rfl rfl rfl rfl (pcC_ones _) (by simp only [maxLen]; omega) (by omega)) ?_; rintro v19 _ _ ⟨rfl, rfl⟩; refine lrun rfl (t_exit (n_exit_then (n_exit_block (n_then (t_region (lq rfl (q_add64 rfl rfl rfl (by omega)) ?_)))))); refine l_runA rfl (n_roundE ((i + 1, n, v19, cur ++ [(nth L i px0).p], g)) ?_ ?_ (sub_rfl rfl) (sub_rfl rfl) (fun _ h => by dsimp only; exact subC_st h))
   ·dsimp only; refine ⟨(show i + 1 ≤ _ by omega), hcd, hJ, ?_, by simp; omega⟩
    rw [grp_drop hiL, if_neg (by rw [hst]; simp)] at hdr; exact hdr
   ·dsimp only
    show L.length - (i + 1) < L.length - i
    omega
  ·have hst : (nth L i px0).st = true := by rw [Bool.not_eq_false'] at hc1; exact hc1
   rw [grp_drop hiL, if_pos hst] at hdr
   have hq := drop_nth_eq (d := []) hdr
   refine tskip (t_seq (t_seq (t_freezeT (f := pcC) (l := cur) vo (fun _ => rfl) (fun Jf hJf hvo => ?_)))); refine t_region (l_run 2 rfl (l_yieldV (i := n) g (wanted_n rfl) rfl rfl rfl rfl rfl hY (⟨hq.1, vo, rfl, by rw [hq.2.1]; exact hvo⟩) hcd hJf (fun g hcd hle => ?_) (fun g hcx hle => ?_)))
   ·refine lrun rfl (t_cond rfl (fun hc2 => ?_) (fun hc2 => ?_))
    ·simp at hc2
    ·simp at hc2
     refine tskip (t_region (l_runA rfl (n_block (n_then (t_region (lq rfl (q_add64 rfl rfl rfl (by omega)) ?_)))))); refine l_runA rfl (n_roundE ((i + 1, n + 1, .slice none 0 0, [], g)) ?_ ?_ (sub_rfl rfl) (sub_rfl rfl) (fun _ h => by dsimp only; exact st_nilT 82 3 pcC (subC_st h)))
     ·dsimp only; exact ⟨(show i + 1 ≤ _ by omega), hcd, hJ.trans (hJf.trans hle), hq.2.2, Nat.zero_le _⟩
     ·dsimp only
      show L.length - (i + 1) < L.length - i
      omega
   ·refine lrun rfl (t_cond rfl (fun hc3 => ?_) (fun hc3 => ?_))
    ·simp at hc3
     refine tret (n_ret0 rfl (fun w' hw => ?_)); exact ⟨_, rfl, g, _, .inr ⟨n + 1, hq.1, hcx⟩, hJ.trans (hJf.trans hle), Le.refl _, hw0.rebase (subC_st hw)⟩
    ·simp at hc3
 ·simp at hc0
  have hiL : i = L.length := by omega
  rw [hiL, List.drop_length, grpG] at hdr
  have hq := drop_nth_eq (d := []) hdr
  refine t_exit (n_exit_then (n_exit_then (n_exit_block (n_then (t_freezeT (f := pcC) (l := cur) vo (fun _ => rfl) (fun Jf hJf hvo => ?_)))))); refine t_region (l_run 2 rfl (l_yieldV (i := n) g (wanted_n rfl) rfl rfl rfl rfl rfl hY (⟨hq.1, vo, rfl, by rw [hq.2.1]; exact hvo⟩) hcd hJf (fun g hcd hle => ?_) (fun g hcx hle => ?_)))
  ·refine l_nil (n_end0 rfl (fun w' hw => ?_))
   have hn1 : n + 1 = (groupsX L).length := by have h9 := congrArg List.length hq.2.2; rw [List.length_drop] at h9; have := hq.1; simp at h9; omega
   exact ⟨_, rfl, g, _, .inl (by rw [← hn1]; exact hcd), hJ.trans (hJf.trans hle), Le.refl _, hw0.rebase (subC_st hw)⟩
  ·refine l_nil (n_end0 rfl (fun w' hw => ?_)); exact ⟨_, rfl, g, _, .inr ⟨n + 1, hq.1, hcx⟩, hJ.trans (hJf.trans hle), Le.refl _, hw0.rebase (subC_st hw)⟩
end Go.Tri

/-
 Fields of a word.
-/
namespace Go.Tri
open Go.Proofs Go.RowKit
set_option maxRecDepth 10000
/-- what the host's Paths tells -/
def PathOk (p : HP) (h : Hx) (f : List Ch) (r : List (List UInt8)) : Prop := ∀ (I : Look) (lv av fv : Value) (F : List HA) (w0 w : World), EnvI I → HostI I p lv h → Sl I 2 fv (f.map chC) → St w0 I (hostH p lv av h F) w →
 Calls Tryz.prog 194 [.pointer (some ⟨p.hb, 0, none⟩), fv].toArray w (fun e w' => ∃ v, e = .returned v ∧ ∃ I' H', (Le I I' ∧ H' = hostH p lv av h F ∧ Sl I' 1 v (r.map svC)) ∧ St w I' H' w')
/-- wild fields are asked of the host's paths -/
def PathsAre (p : HP) (pf : Hx → List Ch → List (List UInt8)) (h : Hx) (s : List UInt8) : Prop := ∀ L h', expX h s 0 = .ok L h' → ∀ g ∈ groupsX L, ∀ f ∈ fieldsAll g (ifsX h'), wildP f = true → PathOk p h' f (pf h' f)
set_option maxHeartbeats 1000000 in
theorem fieldsx_calls (p : HP) (s : List UInt8) (hs : s.length ≤ 1000000000) (h : Hx) (hok : ExpOk p h s 0) (hS : Small (expX h s 0)) (pf : Hx → List Ch → List (List UInt8)) (hpf : ∀ h f, (pf h f).length ≤ 1000) (hP : PathsAre p pf h s) (lv av : Value) (I : Look) (F : List HA) (w0 w : World) (hG : EnvI I) (hi : HostI I p lv h) (hw0 : St w0 I (hostH p lv av h F) w) : Calls Tryz.prog 6 [.iface 31 (.pointer (some ⟨p.hb, 0, none⟩)), str s].toArray w (fun e1 w' => ∃ v, e1 = .returned v ∧ ∃ I' H', (Le I I' ∧ ∃ lv av v1, v = .tuple #[v1, str (fldsX pf h s).2.1, .int .i64 ((fldsX pf h s).2.2.1 : Int)] ∧ H' = hostH p lv av (fldsX pf h s).2.2.2 F ∧ HostI I' p lv (fldsX pf h s).2.2.2 ∧ Sl I' 1 v1 ((fldsX pf h s).1.map svC)) ∧ St w I' H' w') := by
 refine enterMN Tryz.func6 rfl Tryz.ntmps6 rfl (hw0.self) (tr (le rfl (e_box rfl rfl (by rfl)) ?_)); rintro _ _ _ ⟨b2, rfl, rfl, rfl⟩; refine le rfl (e_alloc rfl ti23 rfl) ?_; rintro _ _ _ ⟨b4, rfl, rfl, rfl⟩; refine le rfl (e_alloc rfl ti9 rfl) ?_; rintro _ _ _ ⟨b5, rfl, rfl, rfl⟩; refine le rfl (e_alloc rfl ti28 rfl) ?_; rintro _ _ _ ⟨b6, rfl, rfl, rfl⟩; refine lnr1 (lq rfl ((by exact q_ld rfl rfl (by rfl))) ?_); refine l_run 1 rfl (lec rfl rfl rfl rfl (fun w hw => expandx_calls p s 0 hs h hok lv av I _ _ w hG hi (pick_host hw)) ?_); rintro _ J22 _ ⟨hJ22, e, m, L, h2, lv2, av2, v22, rfl, rfl, hi2, hpx, hr⟩; refine lrun rfl (t_seq (trun rfl (t_cond rfl (fun hc0 => ?_) (fun hc0 => ?_))))
 ·simp at hc0
  have he : e ≠ 0 := by omega
  obtain ⟨rfl, hre⟩ := hr.bad he
  have hfx := fldsX_bad (pf := pf) hre
  refine tr (l_run 2 rfl ?_); refine l_e0 rfl rfl (e_storeS rfl ti23 rfl rfl (by exact ⟨rfl, rfl⟩) rfl (by (simp only [List.set_cons_succ, List.set_cons_zero]; rfl))) ?_; rintro _ _ _ ⟨rfl, rfl⟩; refine l_heap (H' := row b4 23 [.slice none 0 0] :: _) ?_ (fun _ h => h); refine l_e0 rfl rfl (e_storeS rfl ti9 rfl rfl (by exact ⟨rfl, rfl⟩) rfl (by (simp only [List.set_cons_succ, List.set_cons_zero]; rfl))) ?_; rintro _ _ _ ⟨rfl, rfl⟩; refine l_heap (H' := row b5 9 [str m] :: _) ?_ (fun _ h => h); refine l_e0 rfl rfl (e_storeS rfl ti28 rfl rfl (by exact ⟨rfl, rfl⟩) rfl (by (simp only [List.set_cons_succ, List.set_cons_zero]; rfl))) ?_; rintro _ _ _ ⟨rfl, rfl⟩; refine l_heap (H' := row b6 28 [.int .i64 (e : Int)] :: _) ?_ (fun _ h => h); refine ln (t_ret (n_ret_then (n_np_ret (n_retGM (bs := []) (.inl rfl) rfl (by exact res_cell rfl un23 rfl (by exact rd_rowI rfl) (res_cell rfl un9 rfl (by exact rd_rowI rfl) (res_cell rfl un28 rfl (by exact rd_rowI rfl) (res_nil)))) (fun w' hw => ?_))))); rw [hfx]; exact ⟨_, rfl, J22, hostH p lv2 av2 h2 F, ⟨hJ22, lv2, av2, nilV, rfl, rfl, hi2, sl_nilT⟩, subC_st hw⟩
 ·simp at hc0
  have he : e = 0 := by omega
  subst he; obtain ⟨rfl, hre⟩ := hr.ok rfl; obtain ⟨hS1, hS2⟩ := hS L h2 hre
  have hfx := fldsX_ok (pf := pf) hre
  refine tskip (tr (lq rfl ((by exact q_ld rfl rfl (by rfl))) ?_)); refine lq rfl (quiet_inv rfl rfl rfl meth_Param Tryz.func193 (by kernel_rfl) rfl ((fun w hw => hostParam_pure p lv2 av2 h2 [73, 70, 83] w (by decide) (hostW_of hi2 hw)))) ?_; refine l_run 3 rfl (le rfl (e_alloc rfl ti9 rfl) ?_); rintro _ _ _ ⟨b10, rfl, rfl, rfl⟩; refine l_e0 rfl rfl (e_storeS rfl ti9 rfl rfl (by exact ⟨rfl, rfl⟩) rfl (by (simp only [List.set_cons_succ, List.set_cons_zero]; rfl))) ?_; rintro _ _ _ ⟨rfl, rfl⟩; refine l_heap (H' := row b10 9 [str (parX h2 ifsN).1] :: _) ?_ (fun _ h => h); refine lrun rfl (t_cutE (ι := Unit) (fun _ => True) (fun _ => []) [(0, _), (1, _), (2, _), (4, _), (5, _), (6, _), (7, _), (8, _), (9, _), (27, _), (10, _)] (fun _ => J22) (fun _ => (hostH p lv2 av2 h2 (row b10 9 [str (ifsX h2)] :: row b2 42 [.iface 31 (.pointer (some ⟨p.hb, 0, none⟩))] :: row b4 23 [.slice none 0 0] :: row b5 9 [str []] :: row b6 28 [.int .i64 (0 : Int)] :: F))) (sub_rfl rfl) ?_ ?_)
  ·refine trun rfl (t_cond rfl (fun hc1 => ?_) (fun hc1 => ?_))
   ·refine t_region ?_; refine l_e0 rfl rfl (e_storeS rfl ti9 rfl rfl (by exact ⟨rfl, rfl⟩) rfl (by (simp only [List.set_cons_succ, List.set_cons_zero]; rfl))) ?_; rintro _ _ _ ⟨rfl, rfl⟩; refine l_heap (H' := row b10 9 [str ifsS] :: _) ?_ (fun _ h => h); refine l_nil (n_cut (()) ?_ (sub_nil) (sub_rfl rfl) (fun _ h => by rw [show ifsX h2 = ifsS from if_neg (by rw [Bool.not_eq_true'] at hc1; show ¬ (parX h2 [73, 70, 83]).2 = true; rw [hc1]; simp)]; exact subC_st h))
    ·trivial
   ·refine t_skip (n_cut (()) ?_ (sub_nil) (sub_rfl rfl) (fun _ h => by rw [show ifsX h2 = (parX h2 ifsN).1 from if_pos (by rw [Bool.not_eq_false'] at hc1; exact hc1)]; exact subC_st h))
    ·trivial
  rintro _ _; refine tr (le rfl (e_alloc rfl ti23 rfl) ?_); rintro _ _ _ ⟨b12, rfl, rfl, rfl⟩; refine lnr (l_run 1 rfl (lec rfl rfl rfl rfl (fun w hw => groups_calls v22 hpx.one _ _ _ w hw) ?_)); rintro _ J38 _ ⟨hJ38, rfl, b38, rfl, hb38⟩; refine ln (t_block (t_rangeV (γ := Value × List (List UInt8) × Look × Nat) (groups_iter L v22 b38 (by omega)) rfl rfl Tryz.func23 (by kernel_rfl) rfl (fun nn zz => zz.2.2.2 = 0 ∧ Le J38 zz.2.2.1 ∧ fldG (pf h2) (ifsX h2) [] (groupsX L) = fldG (pf h2) (ifsX h2) zz.2.1 ((groupsX L).drop nn) ∧ zz.2.1.length ≤ 200000 * nn) (fun cc zz => (cc = .ret ∧ zz.2.2.2 = 66 ∧ Le J38 zz.2.2.1 ∧ fldG (pf h2) (ifsX h2) [] (groupsX L) = ([], 66))) F (fun zz TT => (hostH p lv2 av2 h2 (row b12 23 [zz.1] :: tvec 9 1 svC zz.1 zz.2.1 :: row b10 9 [str (ifsX h2)] :: row b2 42 [.iface 31 (.pointer (some ⟨p.hb, 0, none⟩))] :: row b4 23 [.slice none 0 0] :: row b5 9 [str []] :: row b6 28 [.int .i64 (zz.2.2.2 : Int)] :: TT))) (fun _ _ => rfl) (fun zz => zz.2.2.1) [(0, _), (1, _), (2, _), (4, _), (5, _), (6, _), (7, _), (8, _), (9, _), (27, _), (10, _), (12, _), (38, _)] (sub_rfl rfl) (.slice none 0 0, [], J38, 0) ?_ ?_ ?_ ?_ rfl ?_ ?_ ?_ ?_))
  ·exact ⟨rfl, Le.refl _, rfl, Nat.zero_le _⟩
  ·exact ⟨hb38, hpx.mono hJ38⟩
  ·exact Le.refl _
  ·exact fun _ h => subC_st (st_nilT 9 1 svC h)
  ·rintro i J vs ⟨_, v, rfl, _⟩; rfl
  ·intro bl ready busy done dfr nn vs gg JV w0r FF hi hinv hJV hrs hbz; obtain ⟨vo, o, J, er⟩ := gg; obtain ⟨her, hJl, hfl, hol⟩ := hinv; dsimp only at *; obtain ⟨hnn, vg, rfl, hvg⟩ := hi; subst her; rw [fldG_step hnn] at hfl
   have hgm := nth_mem (d := []) hnn
   have htt := tot_text L [] _ hgm
   have hgc := grp_count L [] _ hgm
   have htn : tot ([] : List Pc) = 0 := rfl
   have hgl0 : ([] : List Pc).length = 0 := rfl
   have hgn : (groupsX L).length ≤ L.length + 1 := grpG_len L []
   refine t_region (l_runA rfl (n_begin (by rfl) hrs ?_)); refine t_block (tr (l_run 1 rfl (lq rfl ((by exact q_ld rfl rfl (by rfl))) ?_))); refine lec rfl rfl rfl rfl (fun w hw => fields_calls vg (nth (groupsX L) nn []) (ifsX h2) _ _ _ w (by omega) (fun x hx => by have := tot_mem hx; omega) (by omega) hvg hw) ?_; rintro _ J43 _ ⟨hJ43, rfl, fv, err, rfl, hfok⟩; refine lrun rfl (t_seq (trun rfl (t_cond rfl (fun hc2 => ?_) (fun hc2 => ?_))))
   ·have hfo : okFields (fieldsAll (nth (groupsX L) nn []) (ifsX h2)) = false := by
     cases ho : okFields (fieldsAll (nth (groupsX L) nn []) (ifsX h2)) with
     | false => rfl
     | true => rw [if_pos ho] at hfok; exact absurd hfok.1 (of_decide_eq_true hc2)
    rw [if_neg (by rw [hfo]; simp)] at hfok; obtain ⟨rfl, rfl⟩ := hfok; rw [if_neg (by rw [hfo]; simp)] at hfl; refine tr (l_run 1 rfl ?_); refine l_e0 rfl rfl (e_storeS rfl ti23 rfl rfl (by exact ⟨rfl, rfl⟩) rfl (by (simp only [List.set_cons_succ, List.set_cons_zero]; rfl))) ?_; rintro _ _ _ ⟨rfl, rfl⟩; refine l_heap (H' := row b4 23 [.slice none 0 0] :: _) ?_ (fun _ h => h); refine l_e0 rfl rfl (e_storeS rfl ti9 rfl rfl (by exact ⟨rfl, rfl⟩) rfl (by (simp only [List.set_cons_succ, List.set_cons_zero]; rfl))) ?_; rintro _ _ _ ⟨rfl, rfl⟩; refine l_heap (H' := row b5 9 [str []] :: _) ?_ (fun _ h => h); refine l_e0 rfl rfl (e_storeS rfl ti28 rfl rfl (by exact ⟨rfl, rfl⟩) rfl (by (simp only [List.set_cons_succ, List.set_cons_zero]; rfl))) ?_; rintro _ _ _ ⟨rfl, rfl⟩; refine l_heap (H' := row b6 28 [.int .i64 ((66 : Nat) : Int)] :: _) ?_ (fun _ h => h); refine ln (t_ret (n_ret_then (n_ret_block (n_rret (fun w' hw' => .inr ⟨rfl, .ret, ((vo, o, J43, 66)), ?_, ?_, ?_⟩)))))
    ·dsimp only; exact ⟨rfl, rfl, hJl.trans (hJV.trans hJ43), hfl⟩
    ·exact hJ43
    ·dsimp only; exact subC_st hw'
   ·have hfo : okFields (fieldsAll (nth (groupsX L) nn []) (ifsX h2)) = true := by
     cases ho : okFields (fieldsAll (nth (groupsX L) nn []) (ifsX h2)) with
     | true => rfl
     | false => rw [if_neg (by rw [ho]; simp)] at hfok; exact absurd (show err ≠ 0 by rw [hfok.1]; decide) (of_decide_eq_false hc2)
    rw [if_pos hfo] at hfok hfl; obtain ⟨rfl, us, hfv, hus⟩ := hfok
    have hul := hus.1
    obtain ⟨hfo1, hfo2⟩ := okFields_iff.1 hfo; refine tskip (tr (l_run 1 rfl ?_)); refine lq rfl ((by exact q_len rfl un52 rfl (Sl.lenOf hfv ((List.length_map _).trans hul)))) ?_; refine lrun rfl (t_block (t_loopE (ι := Nat × Value × Look) (fun zz => zz.1 ≤ (fieldsAll (nth (groupsX L) nn []) (ifsX h2)).length ∧ Le J43 zz.2.2) (fun zz => (fieldsAll (nth (groupsX L) nn []) (ifsX h2)).length - zz.1) (fun zz => [(51, .int .i64 (zz.1 : Int))]) [(39, _), (0, _), (1, _), (2, _), (4, _), (5, _), (6, _), (7, _), (8, _), (9, _), (27, _), (10, _), (12, _), (38, _), (13, _), (14, _), (15, _), (47, _), (49, _), (50, _)] (fun zz => zz.2.2) (fun zz => (hostH p lv2 av2 h2 (row b12 23 [zz.2.1] :: tvec 9 1 svC zz.2.1 (o ++ ((fieldsAll (nth (groupsX L) nn []) (ifsX h2)).take zz.1).flatMap (pathsX (pf h2))) :: row b10 9 [str (ifsX h2)] :: row b2 42 [.iface 31 (.pointer (some ⟨p.hb, 0, none⟩))] :: row b4 23 [.slice none 0 0] :: row b5 9 [str []] :: row b6 28 [.int .i64 (0 : Int)] :: obj bl (.loop { ready with state := .busy }) :: dfr :: FF))) (0, vo, J43) ?_ (sub_rfl rfl) (sub_rfl rfl) (fun _ h => by dsimp only; rw [List.take_zero, List.flatMap_nil, List.append_nil]; exact subC_st h) ?_))
    ·dsimp only; exact ⟨Nat.zero_le _, Le.refl _⟩
    rintro ⟨i, vo, Ji⟩ ⟨hi1, hJi⟩; dsimp only at *
    have hle38 : Le J22 Ji := hJ38.trans (hJl.trans (hJV.trans (hJ43.trans hJi)))
    have hfl2 := flat_le (pf := pf h2) (hpf h2) ((fieldsAll (nth (groupsX L) nn []) (ifsX h2)).take i)
    rw [List.length_take] at hfl2
    have hp1 := pathsX_le (hpf h2) (nth (fieldsAll (nth (groupsX L) nn []) (ifsX h2)) i [])
    refine trun rfl (t_seq (t_cond rfl (fun hc3 => ?_) (fun hc3 => ?_)))
    ·simp at hc3
     have hiL : i < (fieldsAll (nth (groupsX L) nn []) (ifsX h2)).length := by omega
     refine tskip (t_seq (t_block (tr ?_))); refine lq rfl ((by exact q_indexAddrN rfl un52 ti55 rfl rfl (Sl.shape (hfv.mono hJi) ((List.length_map _).trans hul)) (by omega))) ?_; refine lq rfl ((by exact q_ldr rfl rfl (rd_row1 (i := i) (hfv.mono hJi) (by omega)))) ?_; refine lrun rfl (trun rfl (t_cutE (ι := Value × Look) (fun zz => Le Ji zz.2 ∧ Sl zz.2 1 zz.1 ((psX (pf h2) (nth (fieldsAll (nth (groupsX L) nn []) (ifsX h2)) i [])).map svC)) (fun zz => [(18, zz.1)]) [(51, _), (39, _), (0, _), (1, _), (2, _), (4, _), (5, _), (6, _), (7, _), (8, _), (9, _), (27, _), (10, _), (12, _), (38, _), (13, _), (14, _), (15, _), (47, _), (49, _), (50, _), (52, _), (17, _)] (fun zz => zz.2) (fun zz => (hostH p lv2 av2 h2 (row b12 23 [vo] :: tvec 9 1 svC vo (o ++ ((fieldsAll (nth (groupsX L) nn []) (ifsX h2)).take i).flatMap (pathsX (pf h2))) :: row b10 9 [str (ifsX h2)] :: row b2 42 [.iface 31 (.pointer (some ⟨p.hb, 0, none⟩))] :: row b4 23 [.slice none 0 0] :: row b5 9 [str []] :: row b6 28 [.int .i64 (0 : Int)] :: obj bl (.loop { ready with state := .busy }) :: dfr :: FF))) (sub_rfl rfl) ?_ ?_))
     ·refine tr (l_run 1 rfl (lq rfl (qc rfl rfl rfl ((fun w hw => wild_pure _ (nth (fieldsAll (nth (groupsX L) nn []) (ifsX h2)) i []) w (by have := hfo1 i (by omega); omega) ((hus.at_ (i := i) (by omega)).mono (hJi.trans hw.le))))) ?_)); refine ln (t_cond rfl (fun hc4 => ?_) (fun hc4 => ?_))
      ·have hc7 : wildP (nth (fieldsAll (nth (groupsX L) nn []) (ifsX h2)) i []) = true := hc4
       refine t_region (lq rfl ((by exact q_ld rfl rfl (by rfl))) ?_); refine l_run 1 rfl (le rfl (eff_inv rfl rfl rfl meth_Paths Tryz.func194 (by kernel_rfl) rfl (fun w hw => hP L h2 hre (nth (groupsX L) nn []) (nth_mem hnn) (nth (fieldsAll (nth (groupsX L) nn []) (ifsX h2)) i []) (nth_mem hiL) hc7 _ lv2 av2 _ _ _ w (hG.mono (hJ22.trans hle38)) (hi2.mono hle38) ((hus.at_ (i := i) (by omega)).mono hJi) (pick_host hw))) ?_); rintro v59 J59 _ ⟨hJ59, rfl, hsl59⟩; refine l_runA rfl (n_cut ((v59, J59)) ?_ (sub_rfl rfl) (sub_rfl rfl) (fun _ h => by dsimp only; exact subC_st h))
       ·dsimp only; exact ⟨hJ59, by unfold psX; rw [if_pos hc7]; exact hsl59⟩
      ·have hc7 : wildP (nth (fieldsAll (nth (groupsX L) nn []) (ifsX h2)) i []) = false := hc4
       refine t_skip (n_cut ((.slice none 0 0, Ji)) ?_ (sub_rfl rfl) (sub_rfl rfl) (fun _ h => by dsimp only; exact subC_st h))
       ·dsimp only; exact ⟨Le.refl _, by unfold psX; rw [if_neg (by rw [hc7]; simp)]; exact sl_nilT⟩
     rintro ⟨pv, J4⟩ ⟨hJ4, hpv⟩; dsimp only at *; refine t_cutE (ι := Value × Look) (fun zz => Le Ji zz.2 ∧ Sl zz.2 1 zz.1 ((pathsX (pf h2) (nth (fieldsAll (nth (groupsX L) nn []) (ifsX h2)) i [])).map svC)) (fun zz => [(18, zz.1)]) [(51, _), (39, _), (0, _), (1, _), (2, _), (4, _), (5, _), (6, _), (7, _), (8, _), (9, _), (27, _), (10, _), (12, _), (38, _), (13, _), (14, _), (15, _), (47, _), (49, _), (50, _), (52, _), (17, _)] (fun zz => zz.2) (fun zz => (hostH p lv2 av2 h2 (row b12 23 [vo] :: tvec 9 1 svC vo (o ++ ((fieldsAll (nth (groupsX L) nn []) (ifsX h2)).take i).flatMap (pathsX (pf h2))) :: row b10 9 [str (ifsX h2)] :: row b2 42 [.iface 31 (.pointer (some ⟨p.hb, 0, none⟩))] :: row b4 23 [.slice none 0 0] :: row b5 9 [str []] :: row b6 28 [.int .i64 (0 : Int)] :: obj bl (.loop { ready with state := .busy }) :: dfr :: FF))) (sub_rfl rfl) ?_ ?_
     ·refine tr (l_run 1 rfl ?_); refine lq rfl ((by exact q_len rfl un23 rfl (Sl.lenOf hpv (List.length_map _)))) ?_; refine lrun rfl (t_cond rfl (fun hc5 => ?_) (fun hc5 => ?_))
      ·have hps0 : psX (pf h2) (nth (fieldsAll (nth (groupsX L) nn []) (ifsX h2)) i []) = [] := List.eq_nil_of_length_eq_zero (by have := of_decide_eq_true hc5; omega)
       refine t_region (l_run 1 rfl (lq rfl (qc rfl rfl rfl ((fun w hw => text_pure _ (nth (fieldsAll (nth (groupsX L) nn []) (ifsX h2)) i []) w (by have := hfo1 i (by omega); omega) ((hus.at_ (i := i) (by omega)).mono (hJi.trans (hJ4.trans hw.le)))))) ?_)); refine le rfl (e_buildSlice1 rfl un23 ti9 rfl rfl rfl (by rfl) rfl) ?_; rintro _ _ _ ⟨b65, rfl, rfl, rfl⟩; refine l_freezeRow b65 (fun J65 hJ65 hk65 => ?_)
       have hsl65 := sl_row (f := svC) (sz := 1) [chText (nth (fieldsAll (nth (groupsX L) nn []) (ifsX h2)) i [])] hk65 rfl rfl (fun _ => rfl)
       refine l_runA rfl (n_cut ((.slice (some ⟨b65, 0, none⟩) 1 1, J65)) ?_ (sub_rfl rfl) (sub_rfl rfl) (fun _ h => by dsimp only; exact subC_st h))
       ·dsimp only; exact ⟨hJ4.trans hJ65, by unfold pathsX; rw [if_pos hps0]; exact hsl65⟩
      ·have hps0 : psX (pf h2) (nth (fieldsAll (nth (groupsX L) nn []) (ifsX h2)) i []) ≠ [] := fun h9 => by have := of_decide_eq_false hc5; rw [h9] at this; exact this rfl
       refine t_skip (n_cut ((pv, J4)) ?_ (sub_rfl rfl) (sub_rfl rfl) (fun _ h => by dsimp only; exact subC_st h))
       ·dsimp only; exact ⟨hJ4, by unfold pathsX; rw [if_neg hps0]; exact hpv⟩
     rintro ⟨pw, J5⟩ ⟨hJ5, hpw⟩; dsimp only at *; refine t_region (lq rfl ((by exact q_ld rfl rfl (by rfl))) ?_); refine l_run 1 rfl ?_; refine le rfl (e_appendSl (f := svC) (l := (o ++ ((fieldsAll (nth (groupsX L) nn []) (ifsX h2)).take i).flatMap (pathsX (pf h2)))) (ls := pathsX (pf h2) (nth (fieldsAll (nth (groupsX L) nn []) (ifsX h2)) i [])) rfl un23 ti9 rfl rfl rfl rfl (hpw) rfl (fun _ => rfl) svC_ones (by rw [List.length_append]; simp only [maxLen]; omega) (by rw [List.length_append]; omega)) ?_; rintro v68 _ _ ⟨rfl, rfl⟩; refine l_one v68 (fun hone => ?_); refine l_e0 rfl rfl (e_storeS rfl ti23 rfl rfl (by assumption) rfl (by (simp only [List.set_cons_succ, List.set_cons_zero]; rfl))) ?_; rintro _ _ _ ⟨rfl, rfl⟩; refine l_heap (H' := row b12 23 [v68] :: _) ?_ (fun _ h => h); refine l_nil (n_block (n_then (t_region (lq rfl (q_add64 rfl rfl rfl (by omega)) ?_)))); refine l_runA rfl (n_roundE ((i + 1, v68, J5)) ?_ ?_ (sub_rfl rfl) (sub_rfl rfl) (fun _ h => by dsimp only; rw [flat_snoc hiL, ← List.append_assoc]; exact subC_st h))
     ·dsimp only; exact ⟨(show i + 1 ≤ _ by omega), hJi.trans hJ5⟩
     ·dsimp only
      show _ - (i + 1) < _ - i
      omega
    ·simp at hc3
     have hil : i = (fieldsAll (nth (groupsX L) nn []) (ifsX h2)).length := by omega
     refine t_exit (n_exit_then (n_exit_then (n_exit_block (n_block (n_rnext (fun w' hw' => .inl ⟨rfl, ((vo, (o ++ ((fieldsAll (nth (groupsX L) nn []) (ifsX h2)).take i).flatMap (pathsX (pf h2))), Ji, 0)), ?_, ?_, ?_⟩))))))
     ·dsimp only; rw [hil, List.take_length]; exact ⟨rfl, hJl.trans (hJV.trans (hJ43.trans hJi)), hfl, by rw [List.length_append]; have := flat_le (pf := pf h2) (hpf h2) (fieldsAll (nth (groupsX L) nn []) (ifsX h2)); omega⟩
     ·exact hJ43.trans hJi
     ·dsimp only; exact subC_st hw'
  ·intro bd gg JV hinv hle hJV; obtain ⟨vo, o, J, er⟩ := gg; obtain ⟨her, hJl, hfl, hol⟩ := hinv; dsimp only at *; subst her; rw [List.drop_length, fldG] at hfl
   have hgn : (groupsX L).length ≤ L.length + 1 := grpG_len L []
   refine n_block (n_then (t_seq (t_seq (t_len vo (fun hsho => ?_))))); refine t_region (lq rfl ((by exact q_ld rfl rfl (by rfl))) ?_); refine lq rfl ((by exact q_lenV rfl un23 rfl)) ?_; refine lrun rfl (t_cond rfl (fun hc6 => ?_) (fun hc6 => ?_))
   ·simp at hc6
    have ho200 : 200 < o.length := by omega
    refine tr ?_; refine l_e0 rfl rfl (e_storeS rfl ti23 rfl rfl (by exact ⟨rfl, rfl⟩) rfl (by (simp only [List.set_cons_succ, List.set_cons_zero]; rfl))) ?_; rintro _ _ _ ⟨rfl, rfl⟩; refine l_heap (H' := row b4 23 [.slice none 0 0] :: _) ?_ (fun _ h => h); refine l_e0 rfl rfl (e_storeS rfl ti9 rfl rfl (by exact ⟨rfl, rfl⟩) rfl (by (simp only [List.set_cons_succ, List.set_cons_zero]; rfl))) ?_; rintro _ _ _ ⟨rfl, rfl⟩; refine l_heap (H' := row b5 9 [str []] :: _) ?_ (fun _ h => h); refine l_e0 rfl rfl (e_storeS rfl ti28 rfl rfl (by exact ⟨rfl, rfl⟩) rfl (by (simp only [List.set_cons_succ, List.set_cons_zero]; rfl))) ?_; rintro _ _ _ ⟨rfl, rfl⟩; refine l_heap (H' := row b6 28 [.int .i64 ((66 : Nat) : Int)] :: _) ?_ (fun _ h => h); refine ln (t_ret (n_ret_then (n_np_ret (n_retGM (bs := [bd]) (.inl rfl) rfl (by exact res_cell rfl un23 rfl (by exact rd_rowI rfl) (res_cell rfl un9 rfl (by exact rd_rowI rfl) (res_cell rfl un28 rfl (by exact rd_rowI rfl) (res_nil)))) (fun w' hw => ?_))))); rw [hfx, fieldsL_many hfl ho200]; exact ⟨_, rfl, JV, hostH p lv2 av2 h2 F, ⟨hJ22.trans (hJ38.trans (hJl.trans hJV)), lv2, av2, nilV, rfl, rfl, hi2.mono (hJ38.trans (hJl.trans hJV)), sl_nilT⟩, subC_st hw⟩
   ·simp at hc6
    have ho200 : ¬ 200 < o.length := by omega
    refine tskip (t_seq (t_freezeT (f := svC) (l := o) vo (fun _ => rfl) (fun Jf hJf hvo => ?_))); refine t_region (lq rfl ((by exact q_ld rfl rfl (by rfl))) ?_); refine l_e0 rfl rfl (e_storeS rfl ti23 rfl rfl (by exact hvo.one) rfl (by (simp only [List.set_cons_succ, List.set_cons_zero]; rfl))) ?_; rintro _ _ _ ⟨rfl, rfl⟩; refine l_heap (H' := row b4 23 [vo] :: _) ?_ (fun _ h => h); refine l_e0 rfl rfl (e_storeS rfl ti9 rfl rfl (by exact ⟨rfl, rfl⟩) rfl (by (simp only [List.set_cons_succ, List.set_cons_zero]; rfl))) ?_; rintro _ _ _ ⟨rfl, rfl⟩; refine l_heap (H' := row b5 9 [str []] :: _) ?_ (fun _ h => h); refine l_e0 rfl rfl (e_storeS rfl ti28 rfl rfl (by exact ⟨rfl, rfl⟩) rfl (by (simp only [List.set_cons_succ, List.set_cons_zero]; rfl))) ?_; rintro _ _ _ ⟨rfl, rfl⟩; refine l_heap (H' := row b6 28 [.int .i64 ((0 : Nat) : Int)] :: _) ?_ (fun _ h => h); refine ln (t_ret (n_np_ret (n_retGM (bs := [bd]) (.inl rfl) rfl (by exact res_cell rfl un23 rfl (by exact rd_rowI rfl) (res_cell rfl un9 rfl (by exact rd_rowI rfl) (res_cell rfl un28 rfl (by exact rd_rowI rfl) (res_nil)))) (fun w' hw => ?_)))); rw [hfx, fieldsL_ok hfl ho200]; exact ⟨_, rfl, Jf, hostH p lv2 av2 h2 F, ⟨hJ22.trans (hJ38.trans (hJl.trans (hJV.trans hJf))), lv2, av2, vo, rfl, rfl, hi2.mono (hJ38.trans (hJl.trans (hJV.trans hJf))), hvo⟩, subC_st hw⟩
  ·intro bd cc gg JV hex hle hJV; obtain ⟨vo, o, J, er⟩ := gg; obtain ⟨rfl, ⟨her, hJl, hfl⟩⟩ := hex; dsimp only at *; refine t_ret (n_ret_block (n_ret_then (n_np_ret (n_retGM (bs := [bd]) (.inl rfl) rfl (by exact res_cell rfl un23 rfl (by exact rd_rowI rfl) (res_cell rfl un9 rfl (by exact rd_rowI rfl) (res_cell rfl un28 rfl (by exact rd_rowI rfl) (res_nil)))) (fun w' hw => ?_))))); rw [hfx, fieldsL_bad hfl]; subst her; exact ⟨_, rfl, JV, hostH p lv2 av2 h2 F, ⟨hJ22.trans (hJ38.trans (hJl.trans hJV)), lv2, av2, nilV, rfl, rfl, hi2.mono (hJ38.trans (hJl.trans hJV)), sl_nilT⟩, subC_st hw⟩
end Go.Tri
