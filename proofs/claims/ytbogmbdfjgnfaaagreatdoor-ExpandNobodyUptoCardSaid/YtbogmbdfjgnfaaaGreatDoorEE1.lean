/-
  A text of a kind; what stands between breaks.
-/
import Derived.Test.YtbogmbdfjgnfaaaGreatDoorED2
import Derived.Test.YtbogmbdfjgnfaaaGreatDoorED3
import Derived.Test.YtbogmbdfjgnfaaaGreatDoorED4
namespace Go.Tri
open Go.Proofs Go.RowKit
def HdG (L : List Px) (i : Nat) (J : Look) (vs : List Value) : Prop := i = 0 ∧ ∃ v, vs = [v] ∧ Sl J 3 v ((L.map Px.p).map pcC)
set_option maxRecDepth 10000 in
theorem groups_calls (vl : Value) (h1 : One vl) (I : Look) (F : List HA) (w0 w : World) (hw0 : St w0 I F w) : Calls Tryz.prog 31 [vl].toArray w (fun e w' => ∃ v, e = .returned v ∧ ∃ I' H', (Le I I' ∧ F = H' ∧ ∃ b, v = .func (.func 51) #[] #[.pointer (some ⟨b, 0, none⟩)] ∧ CellI I' b 0 vl) ∧ St w I' H' w') := by
  refine enter Tryz.func31 rfl Tryz.ntmps31 rfl (hw0.self) ?_
  refine t_seq ?_
  refine t_region ?_
  refine l_e rfl rfl rfl (e_box rfl rfl (by first | exact One.cells (by assumption) | exact One.cells h1 | rfl)) ?_
  rintro _ _ _ ⟨b1, rfl, rfl, rfl⟩
  refine l_q rfl rfl rfl (q_assign rfl rfl) ?_
  refine l_nil ?_
  refine n_then ?_
  refine t_seq ?_
  refine t_freezeRow b1 (fun J hJ hb1 => ?_)
  refine t_region ?_
  refine l_q rfl rfl rfl (q_makeFunc rfl rfl rfl) ?_
  refine l_q rfl rfl rfl (q_assign rfl rfl) ?_
  refine l_nil ?_
  refine n_then ?_
  refine t_ret ?_
  refine n_ret1 rfl rfl (fun w' hw => ?_)
  -- leaf 0
  exact ⟨_, rfl, J, _, ⟨hJ, rfl, b1, rfl, hb1 0 _ rfl⟩, hw⟩
set_option maxRecDepth 10000 in
theorem groups_iter (L : List Px) (vl : Value) (b1 : Nat) (hst : ∀ x ∈ L, x.st = false) (hL : L.length ≤ 1000000000) : IteratesV Tryz.prog 51 [.pointer (some ⟨b1, 0, none⟩)] 1 (HdG L) (fun I => CellI I b1 0 vl ∧ PxR I vl L) := by
  intro γ Cd Cx G II lid hY w0 g00 F w hcd0 hpre hw0
  obtain ⟨hb1, hpx⟩ := hpre
  refine enter Tryz.func51 rfl Tryz.ntmps51 rfl (hw0.self) ?_
  refine t_seq ?_
  refine t_region ?_
  refine l_q rfl rfl rfl (q_assign rfl rfl) ?_
  refine l_nil ?_
  refine n_then ?_
  refine t_seq ?_
  refine t_seq ?_
  refine t_region ?_
  refine l_q rfl rfl rfl ((by first | exact q_load_row rfl Tryz.underlying60 rfl rfl (by rfl) | exact q_load rfl Tryz.underlying60 rfl rfl (rd_imm hb1))) ?_
  refine l_q rfl rfl rfl ((by first | exact q_lenV rfl Tryz.underlying60 rfl | exact q_len rfl Tryz.underlying60 rfl (Sl.lenOf hpx (List.length_map _)))) ?_
  refine l_q rfl rfl rfl (q_move rfl rfl) ?_
  refine l_nil ?_
  refine n_then ?_
  refine t_block ?_
  refine t_loopE (ι := Nat × Value) (fun zz => zz.1 ≤ L.length) (fun zz => L.length - zz.1) (fun zz => [(8, .int .i64 (zz.1 : Int)), (3, zz.2)]) [(0, _), (1, _), (6, _), (7, _)] (fun zz => (II g00)) (fun zz => (tvec 108 3 pcC zz.2 ((L.take zz.1).map Px.p) :: (F ++ G g00))) (0, .slice none 0 0) ?_ (sub_cons rfl (sub_cons rfl sub_nil)) (sub_cons rfl (sub_cons rfl (sub_cons rfl (sub_cons rfl sub_nil)))) (fun _ h => by dsimp only; rw [List.take_zero]; exact st_nilT 108 3 pcC (subC_st h)) ?_
  · try dsimp only
    exact Nat.zero_le _
  rintro ⟨i, vo⟩ hi
  try dsimp only at *
  have hil : ((L.take i).map Px.p).length = i := by rw [List.length_map, List.length_take]; omega
  refine t_seq ?_
  refine t_region ?_
  refine l_q rfl rfl rfl (q_lss rfl rfl rfl) ?_
  refine l_nil ?_
  refine n_then ?_
  refine t_seq ?_
  refine t_cond rfl (fun hc0 => ?_) (fun hc0 => ?_)
  · skip
    try simp at hc0
    have hiL : i < L.length := by omega
    refine t_skip ?_
    refine n_then ?_
    refine t_seq ?_
    refine t_block ?_
    refine t_seq ?_
    refine t_region ?_
    refine l_q rfl rfl rfl ((by first | exact q_indexAddrVN rfl Tryz.underlying60 ti110 rfl rfl (by omega) | exact q_indexAddrN rfl Tryz.underlying60 ti110 rfl rfl (Sl.shape hpx (List.length_map _)) (by omega) | exact q_indexAddrV rfl Tryz.underlying60 ti110 rfl rfl (by omega) | exact q_indexAddr rfl Tryz.underlying60 ti110 rfl rfl (Sl.shape hpx (List.length_map _)) (by omega))) ?_
    refine l_q rfl rfl rfl ((by first | exact q_load_rowA rfl Tryz.underlying110 ti110 rfl rfl rfl | exact q_load_agg rfl Tryz.underlying110 ti110 rfl rfl (rds_px (i := i) hpx (by omega)))) ?_
    refine l_e rfl rfl rfl (e_alloc rfl ti110 rfl) ?_
    rintro _ _ _ ⟨b5, rfl, rfl, rfl⟩
    refine l_e0 rfl rfl ((by first | exact e_store_all rfl ti110 rfl rfl rfl (by first | exact chC_ones _ | exact pcC_ones _ | exact pxC_ones _ | simp [Value.oneCell', str, u8]) rfl | exact e_store_agg rfl ti110 rfl rfl rfl (by first | exact chC_ones _ | exact pcC_ones _ | exact pxC_ones _ | simp [Value.oneCell', str, u8]) rfl)) ?_
    rintro _ _ _ ⟨rfl, rfl⟩
    refine l_nil ?_
    refine n_then ?_
    refine t_seq ?_
    refine t_seq ?_
    refine t_region ?_
    refine l_q rfl rfl rfl (q_fieldAddr rfl Tryz.underlying110 rfl rfl ti4 rfl rfl) ?_
    refine l_q rfl rfl rfl ((by first | exact q_load_row rfl Tryz.underlying4 rfl rfl (by rfl) | exact q_load rfl Tryz.underlying4 rfl rfl (rd_imm hb1))) ?_
    refine l_q rfl rfl rfl (q_not rfl rfl) ?_
    refine l_nil ?_
    refine n_then ?_
    refine t_cond rfl (fun hc1 => ?_) (fun hc1 => ?_)
    · skip
      refine t_seq ?_
      refine t_region ?_
      refine l_q rfl rfl rfl (q_move rfl rfl) ?_
      refine l_q rfl rfl rfl (q_fieldAddr rfl Tryz.underlying110 rfl rfl ti108 rfl rfl) ?_
      refine l_q rfl rfl rfl ((by first | exact q_load_rowA rfl Tryz.underlying108 ti108 rfl rfl rfl | exact q_load_agg rfl Tryz.underlying108 ti108 rfl rfl (rds_px (i := i) hpx (by omega)))) ?_
      refine l_e rfl rfl rfl (e_buildSlice1 rfl Tryz.underlying79 ti108 rfl rfl rfl (by first | exact One.cells (by assumption) | rfl) rfl) ?_
      rintro _ _ _ ⟨b18, rfl, rfl, rfl⟩
      refine l_e rfl rfl rfl (e_appendT (f := pcC) (c := (nth L i px0).p) rfl Tryz.underlying79 ti108 rfl rfl rfl rfl rfl rfl rfl (pcC_ones _) (by simp only [maxLen]; omega) (by omega)) ?_
      rintro v19 _ _ ⟨rfl, rfl⟩
      refine l_q rfl rfl rfl (q_assign rfl rfl) ?_
      refine l_nil ?_
      refine n_then ?_
      refine t_exit ?_
      refine n_exit_then ?_
      refine n_exit_block ?_
      refine n_then ?_
      refine t_region ?_
      refine l_q rfl rfl rfl (q_add64 rfl rfl rfl (by omega)) ?_
      refine l_q rfl rfl rfl (q_move rfl rfl) ?_
      refine l_nil ?_
      refine n_roundE ((i + 1, v19)) ?_ ?_ (sub_cons rfl (sub_cons rfl sub_nil)) (sub_cons rfl (sub_cons rfl (sub_cons rfl (sub_cons rfl sub_nil)))) (fun _ h => by dsimp only; rw [take_nth px0 hiL, List.map_append, List.map_singleton]; exact subC_st h)
      · try dsimp only
        show i + 1 ≤ _
        omega
      · try dsimp only
        show L.length - (i + 1) < L.length - i
        omega
    · skip
      have := hst _ (nth_mem (d := px0) hiL)
      rw [this] at hc1
      cases hc1
  · skip
    try simp at hc0
    have hiL : i = L.length := by omega
    rw [hiL, List.take_length]
    refine t_exit ?_
    refine n_exit_then ?_
    refine n_exit_then ?_
    refine n_exit_block ?_
    refine n_then ?_
    refine t_freezeT (f := pcC) (l := (L.map Px.p)) vo (fun _ => rfl) (fun Jf hJf hvo => ?_)
    refine t_region ?_
    refine l_q rfl rfl rfl (q_move rfl rfl) ?_
    refine l_q rfl rfl rfl (q_move rfl rfl) ?_
    refine l_yieldV (i := 0) g00 (wanted_n rfl) rfl rfl rfl rfl rfl hY (⟨rfl, vo, rfl, hvo⟩) hcd0 hJf (fun g hcd hle => ?_) (fun g hcx hle => ?_)
    · skip
      refine l_nil ?_
      refine n_end0 rfl (fun w' hw => ?_)
      -- leaf 0
      exact ⟨_, rfl, g, _, .inl hcd, hJf.trans hle, Le.refl _, hw0.rebase (subC_st hw)⟩
    · skip
      refine l_nil ?_
      refine n_end0 rfl (fun w' hw => ?_)
      -- leaf 1
      exact ⟨_, rfl, g, _, .inr ⟨1, Nat.le_refl _, hcx⟩, hJf.trans hle, Le.refl _, hw0.rebase (subC_st hw)⟩
set_option maxRecDepth 10000 in
theorem expand_calls (p : HP) (s : List UInt8) (kd : Int) (l : List PT) (hs : s.length ≤ 1000000000) (hpp : partsP s kd = .ok l) (h : Hx) (r : XR) (hok : ∀ (v : Value) (I0 : Look) (mb : Nat), PlR I0 v l → PartsOk (v, false) I0 mb p h r) (lv av : Value) (I : Look) (F : List HA) (w0 w : World) (hG : EnvI I) (hi : HostI I p lv h) (hw0 : St w0 I (hostH p lv av h F) w) : Calls Tryz.prog 22 [.iface 33 (.pointer (some ⟨p.hb, 0, none⟩)), str s, .int .i64 kd].toArray w (fun e1 w' => ∃ v, e1 = .returned v ∧ ∃ I' H', (Le I I' ∧ ∃ (e : Nat) (L : List Px) (h' : Hx) (lv av v1 : Value), v = .tuple #[v1, str [], .int .i64 (e : Int)] ∧ H' = hostH p lv av h' F ∧ HostI I' p lv h' ∧ PxR I' v1 L ∧ XR.is r e L h') ∧ St w I' H' w') := by
  have hei : ErrIs (.iface 33 (.pointer (some ⟨p.hb, 0, none⟩))) true := .inr ⟨rfl, _, _, rfl⟩
  refine enter Tryz.func22 rfl Tryz.ntmps22 rfl (hw0.self) ?_
  refine t_seq ?_
  refine t_region ?_
  refine l_q rfl rfl rfl (q_assign rfl rfl) ?_
  refine l_q rfl rfl rfl (q_assign rfl rfl) ?_
  refine l_q rfl rfl rfl (q_assign rfl rfl) ?_
  refine l_nil ?_
  refine n_then ?_
  refine t_seq ?_
  refine t_seq ?_
  refine t_region ?_
  refine l_q rfl rfl rfl (q_move rfl rfl) ?_
  refine l_q rfl rfl rfl (q_eql_inil rfl (by kernel_rfl) rfl (by assumption)) ?_
  refine l_nil ?_
  refine n_then ?_
  refine t_cond rfl (fun hc0 => ?_) (fun hc0 => ?_)
  · skip
    cases hc0
  · skip
    refine t_skip ?_
    refine n_then ?_
    refine t_seq ?_
    refine t_region ?_
    refine l_q rfl rfl rfl (q_move rfl rfl) ?_
    refine l_q rfl rfl rfl (q_move rfl rfl) ?_
    refine l_e rfl rfl rfl (eff_call rfl rfl rfl Tryz.func40 (by kernel_rfl) rfl (fun w hw => parts_calls s kd _ _ _ w hs hG hw)) ?_
    rintro _ J18 _ ⟨hJ18, rfl, vl, e1, rfl, hwr⟩
    rw [hpp] at hwr
    obtain ⟨rfl, hpl⟩ := hwr
    refine l_q rfl rfl rfl (q_move rfl rfl) ?_
    refine l_q rfl rfl rfl (q_extract rfl rfl rfl) ?_
    refine l_q rfl rfl rfl (q_extract rfl rfl rfl) ?_
    refine l_q rfl rfl rfl (q_assign rfl rfl) ?_
    refine l_q rfl rfl rfl (q_assign rfl rfl) ?_
    refine l_nil ?_
    refine n_then ?_
    refine t_seq ?_
    refine t_seq ?_
    refine t_region ?_
    refine l_q rfl rfl rfl (q_move rfl rfl) ?_
    refine l_q rfl rfl rfl (q_neq rfl rfl rfl) ?_
    refine l_nil ?_
    refine n_then ?_
    refine t_cond rfl (fun hc1 => ?_) (fun hc1 => ?_)
    · skip
      exact absurd hc1 (by decide)
    · skip
      refine t_skip ?_
      refine n_then ?_
      refine t_seq ?_
      refine t_region ?_
      refine l_q rfl rfl rfl (q_move rfl rfl) ?_
      refine l_q rfl rfl rfl (q_build (pl := [(_, _), (_, _), (_, _)]) (cs := #[_, _, _]) rfl Tryz.underlying101 ti101 ⟨rfl, ⟨_, _, ti59⟩, rfl, ⟨_, _, ti9⟩, rfl, ⟨_, _, ti30⟩, trivial⟩ rfl rfl) ?_
      refine l_e rfl rfl rfl (e_box rfl rfl rfl) ?_
      rintro _ _ _ ⟨b26, rfl, rfl, rfl⟩
      refine l_heap (H' := row b26 101 (mkC p 0) :: _) ?_ (fun _ h => h)
      refine l_q rfl rfl rfl (q_assign rfl rfl) ?_
      refine l_nil ?_
      refine n_then ?_
      refine t_seq ?_
      refine t_region ?_
      refine l_q rfl rfl rfl (q_move rfl rfl) ?_
      refine l_q rfl rfl rfl (q_move rfl rfl) ?_
      refine l_e rfl rfl rfl (eff_call rfl rfl rfl Tryz.func41 (by kernel_rfl) rfl (fun w hw => hok vl J18 b26 hpl J18 lv av F _ w (Le.refl _) (hi.mono hJ18) (pick_mak hw))) ?_
      rintro v29 J29 _ ⟨hJ29, e, L, h2, lv2, av2, rfl, hi2, hpx, hr⟩
      refine l_q rfl rfl rfl (q_assign rfl rfl) ?_
      refine l_nil ?_
      refine n_then ?_
      refine t_seq ?_
      refine t_qdraw mo (by kernel_rfl) (fun _ _ _ _ _ h => h) ?_
      refine s_q rfl rfl rfl (q_move rfl rfl) ?_
      refine s_q rfl rfl rfl (q_move rfl rfl) ?_
      refine s_q rfl rfl rfl (q_nilCheck rfl rfl) ?_
      refine s_q rfl rfl rfl (q_fieldAddr rfl Tryz.underlying101 rfl rfl ti9 rfl rfl) ?_
      refine s_q rfl rfl rfl (q_load_row rfl Tryz.underlying9 rfl rfl (by rfl)) ?_
      refine s_q rfl rfl rfl (q_move rfl rfl) ?_
      refine s_q rfl rfl rfl (q_nilCheck rfl rfl) ?_
      refine s_q rfl rfl rfl (q_fieldAddr rfl Tryz.underlying101 rfl rfl ti30 rfl rfl) ?_
      refine s_q rfl rfl rfl (q_load_row rfl Tryz.underlying30 rfl rfl (by rfl)) ?_
      refine s_q rfl rfl rfl (q_assign rfl rfl) ?_
      refine s_q rfl rfl rfl (q_assign rfl rfl) ?_
      refine s_q rfl rfl rfl (q_assign rfl rfl) ?_
      refine s_done ?_
      refine n_then ?_
      refine t_ret ?_
      refine n_ret3 rfl rfl rfl rfl (fun w' hw => ?_)
      -- leaf 0
      exact ⟨_, rfl, J29, hostH p lv2 av2 h2 F, ⟨hJ18.trans hJ29, e, L, h2, lv2, av2, v29, rfl, rfl, hi2, hpx, hr⟩, subC_st hw⟩
set_option maxRecDepth 10000 in
theorem expand_nil (s : List UInt8) (kd : Int) (w : World) : Pure Tryz.prog 22 [.nilIface, str s, .int .i64 kd] w (.tuple #[nilV, str [], .int .i64 22]) := by
  have hei : ErrIs .nilIface false := .inl ⟨rfl, rfl⟩
  refine enter Tryz.func22 rfl Tryz.ntmps22 rfl (St.start w (look w) (Le.refl _)) ?_
  refine t_seq ?_
  refine t_region ?_
  refine l_q rfl rfl rfl (q_assign rfl rfl) ?_
  refine l_q rfl rfl rfl (q_assign rfl rfl) ?_
  refine l_q rfl rfl rfl (q_assign rfl rfl) ?_
  refine l_nil ?_
  refine n_then ?_
  refine t_seq ?_
  refine t_seq ?_
  refine t_region ?_
  refine l_q rfl rfl rfl (q_move rfl rfl) ?_
  refine l_q rfl rfl rfl (q_eql_inil rfl (by kernel_rfl) rfl (by assumption)) ?_
  refine l_nil ?_
  refine n_then ?_
  refine t_cond rfl (fun hc0 => ?_) (fun hc0 => ?_)
  · skip
    refine t_seq ?_
    refine t_region ?_
    refine l_q rfl rfl rfl (q_assign rfl rfl) ?_
    refine l_q rfl rfl rfl (q_assign rfl rfl) ?_
    refine l_q rfl rfl rfl (q_assign rfl rfl) ?_
    refine l_nil ?_
    refine n_then ?_
    refine t_ret ?_
    refine n_ret_then ?_
    refine n_ret3 rfl rfl rfl rfl (fun w' hw => ?_)
    -- leaf 0
    exact ⟨rfl, hw.below⟩
  · skip
    cases hc0
end Go.Tri
