/-
  The statement walked: nobody.
-/
import Derived.Test.YtbogmbdfjgnfaaaGreatDoorEE2
namespace Go.Tri
open Go.Proofs Go.RowKit
theorem okParts (l : List PT) (hl : l.length ≤ 1000000) (b : Bool) (mb : Nat) (p : HP) (h : Hx) (HOk : Hx → Prop) (hh : HOk h) (hrec : ∀ (x : PE) (I0 : Look), x.pt ∈ l → PlR I0 x.wv x.word → ∀ h', HOk h' → PartOk (x, b) I0 mb p h' (partX b h' x.pt) ∧ ∀ m h'', partX b h' x.pt = .ok m h'' → HOk h'' ∧ m.length ≤ 1000) (v : Value) (I0 : Look) (hv : PlR I0 v l) : PartsOk (v, b) I0 mb p h (partsX b h [] l) := by
  obtain ⟨L, rfl, hsl, hW⟩ := hv.un
  exact parts_step L v b I0 hsl (fun x hx => (hW x hx).one) (by simpa using hl) mb p h HOk hh (fun i hi h' hh' => hrec _ I0 (List.mem_map.2 ⟨_, nth_mem hi, rfl⟩) (hW _ (nth_mem hi)) h' hh')
theorem plainX : PlainN [120] := ⟨by decide, by decide, by decide, by decide, by decide⟩
theorem parX_x (h : Hx) : parX h [120] = getX h.x [120] := by
  unfold parX getX
  rw [if_neg (by decide), if_neg (by decide), if_neg (by decide), if_neg (by decide), if_neg (by decide), if_pos rfl]
theorem pt_of {x : PE} {k : Nat} {t op : List UInt8} {w : List PT} {q : Bool} (h : x.pt = .mk k t op w q) : x.kind = k ∧ x.text = t ∧ x.op = op ∧ x.word = w ∧ x.q = q := by
  unfold PE.pt at h
  injection h with h1 h2 h3 h4 h5
  exact ⟨h1, h2, h3, h4, h5⟩
theorem partX_x0 {b : Bool} {h : Hx} {w : List PT} {q : Bool} : partX b h (.mk 2 [120] [] w q) = .ok (wholeX (getX h.x [120]).1 q) h := by
  rw [partX, if_pos rfl, if_pos rfl, parX_x]
theorem part_x0 {x : PE} {b : Bool} {h : Hx} {I0 : Look} {mb : Nat} {p : HP} {w : List PT} {q : Bool} (hx : x.pt = .mk 2 [120] [] w q) (hW : PlR I0 x.wv x.word) : PartOk (x, b) I0 mb p h (partX b h x.pt) := by
  obtain ⟨h1, h2, h3, h4, h5⟩ := pt_of hx
  rw [hx, partX_x0, ← h5, ← h2]
  exact part_param x hW.one b h1 I0 mb p h _ (param_plain x hW.one h3 (h2 ▸ plainX) (by rw [h2]; decide) I0 mb p h)
def l16 : List PT := [.mk 2 [120] [] [] false, .mk 2 [120] [] [] false]
theorem aw16_parts : partsP awS16 0 = .ok l16 := by kernel_rfl
def aw16L : List Px := wholeX [97, 32, 98] false ++ wholeX [97, 32, 98] false
theorem aw16_res : partsX false awH16 [] l16 = .ok aw16L awH16 := by
  rw [l16, partsX, partX_x0]
  show partsX false awH16 _ _ = _
  rw [partsX, partX_x0]
  show partsX false awH16 _ _ = _
  rw [partsX]; rfl
theorem aw16_ok (p : HP) (v : Value) (I0 : Look) (mb : Nat) (hv : PlR I0 v l16) : PartsOk (v, false) I0 mb p awH16 (.ok aw16L awH16) := by
  rw [← aw16_res]
  refine okParts l16 (by decide) false mb p awH16 (fun h => h = awH16) rfl (fun x I0 hx hW h' hh' => ?_) v I0 hv
  have hx : x.pt = .mk 2 [120] [] [] false := by
    simp only [l16, List.mem_cons, List.not_mem_nil, or_false, or_self] at hx
    exact hx
  refine ⟨part_x0 hx hW, fun m h'' e => ?_⟩
  rw [hx, partX_x0] at e
  injection e with e1 e2
  exact ⟨e2 ▸ hh', by rw [← e1]; show 1 ≤ 1000; decide⟩
theorem aw16_fields : fieldsAll (aw16L.map Px.p) ifsS = [[⟨97, false⟩], [⟨98, false⟩, ⟨97, false⟩], [⟨98, false⟩]] := by decide +kernel
/-- a host begins -/
theorem host_start {H : List HA} {I : Look} {w0 w : World} {F : List HA} {p : HP} {lv : Value} {x : Option (List UInt8)} {outs : List (List UInt8)} {b : Nat} [hq : Picks [row b 37 [.pointer (some ⟨p.eb, 0, none⟩)], row p.eb 43 (envC p nilV), row p.vb 65 [lv, p.gv]] F H] (hw : St w0 I H w) : St w0 I (hostH { p with hb := b } lv nilV ⟨x, outs, []⟩ F) w :=
  subC_st (H := tvec 9 1 svC nilV [] :: row b 37 [.pointer (some ⟨p.eb, 0, none⟩)] :: row p.eb 43 (envC p nilV) :: row p.vb 65 [lv, p.gv] :: F) (H' := row b 37 [.pointer (some ⟨p.eb, 0, none⟩)] :: row p.eb 43 (envC p nilV) :: row p.vb 65 [lv, p.gv] :: tvec 9 1 svC nilV [] :: F) (st_nilT 9 1 svC (hw.perm hq.perm))
theorem HostI.hb {I : Look} {p : HP} {lv : Value} {h : Hx} (k : HostI I p lv h) (b : Nat) : HostI I { p with hb := b } lv h := ⟨k.sp, k.ou, k.li, k.nl, k.on, k.gv⟩
set_option maxRecDepth 10000 in
theorem fieldsx_nil (s : List UInt8) (w : World) : Pure Tryz.prog 13 [.nilIface, str s] w (.tuple #[nilV, str [], .int .i64 22]) := by
  refine enterMN Tryz.func13 rfl Tryz.ntmps13 rfl (St.start w (look w) (Le.refl _)) ?_
  refine t_seq ?_
  refine t_region ?_
  refine l_e rfl rfl rfl (e_box rfl rfl (by first | exact One.cells (by assumption) | rfl)) ?_
  rintro _ _ _ ⟨b2, rfl, rfl, rfl⟩
  refine l_e rfl rfl rfl (e_alloc rfl ti24 rfl) ?_
  rintro _ _ _ ⟨b4, rfl, rfl, rfl⟩
  refine l_e rfl rfl rfl (e_alloc rfl ti9 rfl) ?_
  rintro _ _ _ ⟨b5, rfl, rfl, rfl⟩
  refine l_e rfl rfl rfl (e_alloc rfl ti30 rfl) ?_
  rintro _ _ _ ⟨b6, rfl, rfl, rfl⟩
  refine l_nil ?_
  refine n_then ?_
  refine t_seq ?_
  refine t_region ?_
  refine l_q rfl rfl rfl (q_load_row rfl Tryz.underlying59 rfl rfl (by rfl)) ?_
  refine l_q rfl rfl rfl (q_move rfl rfl) ?_
  refine l_q rfl rfl rfl (quiet_call rfl rfl rfl Tryz.func22 (by kernel_rfl) rfl ((fun w _ => expand_nil s 0 w))) ?_
  refine l_q rfl rfl rfl (q_move rfl rfl) ?_
  refine l_q rfl rfl rfl (q_extract rfl rfl rfl) ?_
  refine l_q rfl rfl rfl (q_extract rfl rfl rfl) ?_
  refine l_q rfl rfl rfl (q_extract rfl rfl rfl) ?_
  refine l_q rfl rfl rfl (q_assign rfl rfl) ?_
  refine l_q rfl rfl rfl (q_assign rfl rfl) ?_
  refine l_q rfl rfl rfl (q_assign rfl rfl) ?_
  refine l_nil ?_
  refine n_then ?_
  refine t_seq ?_
  refine t_seq ?_
  refine t_region ?_
  refine l_q rfl rfl rfl (q_move rfl rfl) ?_
  refine l_q rfl rfl rfl (q_neq rfl rfl rfl) ?_
  refine l_nil ?_
  refine n_then ?_
  refine t_cond rfl (fun hc0 => ?_) (fun hc0 => ?_)
  · skip
    refine t_seq ?_
    refine t_region ?_
    refine l_q rfl rfl rfl (q_move rfl rfl) ?_
    refine l_q rfl rfl rfl (q_move rfl rfl) ?_
    refine l_e0 rfl rfl (e_storeS rfl ti24 rfl rfl (by first | exact ⟨rfl, rfl⟩ | assumption) rfl (by first | (simp only [List.set_cons_succ, List.set_cons_zero]; rfl) | rfl)) ?_
    rintro _ _ _ ⟨rfl, rfl⟩
    refine l_e0 rfl rfl (e_storeS rfl ti9 rfl rfl (by first | exact ⟨rfl, rfl⟩ | assumption) rfl (by first | (simp only [List.set_cons_succ, List.set_cons_zero]; rfl) | rfl)) ?_
    rintro _ _ _ ⟨rfl, rfl⟩
    refine l_e0 rfl rfl (e_storeS rfl ti30 rfl rfl (by first | exact ⟨rfl, rfl⟩ | assumption) rfl (by first | (simp only [List.set_cons_succ, List.set_cons_zero]; rfl) | rfl)) ?_
    rintro _ _ _ ⟨rfl, rfl⟩
    refine l_nil ?_
    refine n_then ?_
    refine t_ret ?_
    refine n_ret_then ?_
    refine n_np_ret ?_
    refine n_retGM (bs := []) (.inl rfl) rfl (by exact res_cell rfl Tryz.underlying24 rfl (by first | exact rd_rowI rfl) (res_cell rfl Tryz.underlying9 rfl (by first | exact rd_rowI rfl) (res_cell rfl Tryz.underlying30 rfl (by first | exact rd_rowI rfl) (res_nil)))) (fun w' hw => ?_)
    -- leaf 0
    exact ⟨rfl, hw.below⟩
  · skip
    exact absurd hc0 (by decide)
set_option maxRecDepth 10000 in
theorem one_nil (s : List UInt8) (kd : Int) (w : World) : Pure Tryz.prog 10 [.nilIface, str s, .int .i64 kd] w (.tuple #[str [], str [], .int .i64 22]) := by
  refine enter Tryz.func10 rfl Tryz.ntmps10 rfl (St.start w (look w) (Le.refl _)) ?_
  refine t_seq ?_
  refine t_region ?_
  refine l_q rfl rfl rfl (q_assign rfl rfl) ?_
  refine l_q rfl rfl rfl (q_assign rfl rfl) ?_
  refine l_q rfl rfl rfl (q_assign rfl rfl) ?_
  refine l_nil ?_
  refine n_then ?_
  refine t_seq ?_
  refine t_region ?_
  refine l_q rfl rfl rfl (q_move rfl rfl) ?_
  refine l_q rfl rfl rfl (q_move rfl rfl) ?_
  refine l_q rfl rfl rfl (q_move rfl rfl) ?_
  refine l_q rfl rfl rfl (quiet_call rfl rfl rfl Tryz.func22 (by kernel_rfl) rfl ((fun w _ => expand_nil s kd w))) ?_
  refine l_q rfl rfl rfl (q_move rfl rfl) ?_
  refine l_q rfl rfl rfl (q_extract rfl rfl rfl) ?_
  refine l_q rfl rfl rfl (q_extract rfl rfl rfl) ?_
  refine l_q rfl rfl rfl (q_extract rfl rfl rfl) ?_
  refine l_q rfl rfl rfl (q_assign rfl rfl) ?_
  refine l_q rfl rfl rfl (q_assign rfl rfl) ?_
  refine l_q rfl rfl rfl (q_assign rfl rfl) ?_
  refine l_nil ?_
  refine n_then ?_
  refine t_seq ?_
  refine t_seq ?_
  refine t_region ?_
  refine l_q rfl rfl rfl (q_move rfl rfl) ?_
  refine l_q rfl rfl rfl (q_neq rfl rfl rfl) ?_
  refine l_nil ?_
  refine n_then ?_
  refine t_cond rfl (fun hc0 => ?_) (fun hc0 => ?_)
  · skip
    refine t_seq ?_
    refine t_region ?_
    refine l_q rfl rfl rfl (q_move rfl rfl) ?_
    refine l_q rfl rfl rfl (q_move rfl rfl) ?_
    refine l_q rfl rfl rfl (q_assign rfl rfl) ?_
    refine l_q rfl rfl rfl (q_assign rfl rfl) ?_
    refine l_q rfl rfl rfl (q_assign rfl rfl) ?_
    refine l_nil ?_
    refine n_then ?_
    refine t_ret ?_
    refine n_ret_then ?_
    refine n_ret3 rfl rfl rfl rfl (fun w' hw => ?_)
    -- leaf 0
    exact ⟨rfl, hw.below⟩
  · skip
    exact absurd hc0 (by decide)
set_option maxRecDepth 10000 in
theorem pattern_nil (s : List UInt8) (w : World) : Pure Tryz.prog 14 [.nilIface, str s] w (.tuple #[nilV, str [], .int .i64 22]) := by
  refine enter Tryz.func14 rfl Tryz.ntmps14 rfl (St.start w (look w) (Le.refl _)) ?_
  refine t_seq ?_
  refine t_region ?_
  refine l_q rfl rfl rfl (q_assign rfl rfl) ?_
  refine l_q rfl rfl rfl (q_assign rfl rfl) ?_
  refine l_q rfl rfl rfl (q_assign rfl rfl) ?_
  refine l_nil ?_
  refine n_then ?_
  refine t_seq ?_
  refine t_region ?_
  refine l_q rfl rfl rfl (q_move rfl rfl) ?_
  refine l_q rfl rfl rfl (q_move rfl rfl) ?_
  refine l_q rfl rfl rfl (quiet_call rfl rfl rfl Tryz.func22 (by kernel_rfl) rfl ((fun w _ => expand_nil s 0 w))) ?_
  refine l_q rfl rfl rfl (q_move rfl rfl) ?_
  refine l_q rfl rfl rfl (q_extract rfl rfl rfl) ?_
  refine l_q rfl rfl rfl (q_extract rfl rfl rfl) ?_
  refine l_q rfl rfl rfl (q_extract rfl rfl rfl) ?_
  refine l_q rfl rfl rfl (q_assign rfl rfl) ?_
  refine l_q rfl rfl rfl (q_assign rfl rfl) ?_
  refine l_q rfl rfl rfl (q_assign rfl rfl) ?_
  refine l_nil ?_
  refine n_then ?_
  refine t_seq ?_
  refine t_seq ?_
  refine t_region ?_
  refine l_q rfl rfl rfl (q_move rfl rfl) ?_
  refine l_q rfl rfl rfl (q_neq rfl rfl rfl) ?_
  refine l_nil ?_
  refine n_then ?_
  refine t_cond rfl (fun hc0 => ?_) (fun hc0 => ?_)
  · skip
    refine t_seq ?_
    refine t_region ?_
    refine l_q rfl rfl rfl (q_move rfl rfl) ?_
    refine l_q rfl rfl rfl (q_move rfl rfl) ?_
    refine l_q rfl rfl rfl (q_assign rfl rfl) ?_
    refine l_q rfl rfl rfl (q_assign rfl rfl) ?_
    refine l_q rfl rfl rfl (q_assign rfl rfl) ?_
    refine l_nil ?_
    refine n_then ?_
    refine t_ret ?_
    refine n_ret_then ?_
    refine n_ret3 rfl rfl rfl rfl (fun w' hw => ?_)
    -- leaf 0
    exact ⟨rfl, hw.below⟩
  · skip
    exact absurd hc0 (by decide)
set_option maxRecDepth 10000 in
theorem awake_pure (w : World) (hG : EnvI (look w)) : Pure Tryz.prog 7 [] w (.bool true) := by
  refine enter Tryz.func7 rfl Tryz.ntmps7 rfl (St.start w (look w) (Le.refl _)) ?_
  refine t_seq ?_
  refine t_region ?_
  refine l_q rfl rfl rfl (q_assign rfl rfl) ?_
  refine l_nil ?_
  refine n_then ?_
  refine t_seq ?_
  refine t_region ?_
  refine l_q rfl rfl rfl (q_build (pl := [(_, _), (_, _), (_, _), (_, _), (_, _)]) (cs := (vrC ⟨[120], [97, 32, 98], false, false, false⟩).toArray) rfl Tryz.underlying28 ti28 ⟨rfl, ⟨_, _, ti9⟩, rfl, ⟨_, _, ti9⟩, rfl, ⟨_, _, ti4⟩, rfl, ⟨_, _, ti4⟩, rfl, ⟨_, _, ti4⟩, trivial⟩ rfl rfl) ?_
  refine l_e rfl rfl rfl (e_buildSlice1 rfl Tryz.underlying23 ti28 rfl rfl rfl (by first | exact One.cells (by assumption) | rfl) rfl) ?_
  rintro _ _ _ ⟨b6, rfl, rfl, rfl⟩
  refine l_freezeRow b6 (fun J6 hJ6 hk6 => ?_)
  have hv6 := sl_row (f := vrC) (sz := 5) (varL (some [97, 32, 98])) hk6 rfl rfl (fun _ => rfl)
  refine l_q rfl rfl rfl (q_build (pl := [(_, _), (_, _), (_, _), (_, _)]) (cs := #[_, _, _, _]) rfl Tryz.underlying26 ti26 ⟨rfl, ⟨_, _, ti23⟩, rfl, ⟨_, _, ti24⟩, rfl, ⟨_, _, ti24⟩, rfl, ⟨_, _, ti24⟩, trivial⟩ rfl rfl) ?_
  refine l_e rfl rfl rfl (eff_call rfl rfl rfl Tryz.func11 (by kernel_rfl) rfl (fun w hw => set_calls (some [97, 32, 98]) [] (.slice (some ⟨b6, 0, none⟩) 1 1) nilV (fun v hv => by cases hv; decide) (by decide) J6 hv6 (sl_nil (fun _ h => by cases h)) _ _ w hw)) ?_
  rintro _ J8 _ ⟨hJ8, p, lv, rfl, rfl, hi8⟩
  refine l_q rfl rfl rfl (q_build (pl := [(_, _)]) (cs := (([.pointer (some ⟨p.eb, 0, none⟩)] : List Value)).toArray) rfl Tryz.underlying37 ti37 ⟨rfl, ⟨_, _, ti34⟩, trivial⟩ rfl rfl) ?_
  refine l_e rfl rfl rfl (e_box rfl rfl rfl) ?_
  rintro _ _ _ ⟨b10, rfl, rfl, rfl⟩
  refine l_heap (H' := hostH { p with hb := b10 } lv nilV awH16 []) ?_ (fun _ h => host_start h)
  refine l_q rfl rfl rfl (q_makeIface rfl Tryz.underlying33 rfl rfl) ?_
  refine l_e rfl rfl rfl (eff_call rfl rfl rfl Tryz.func13 (by kernel_rfl) rfl (fun w hw => fieldsx_calls { p with hb := b10 } awS16 l16 aw16L (by decide) aw16_parts awH16 awH16 (aw16_ok _) (by decide) (by decide) (by decide) (by decide) (by decide +kernel) (by decide +kernel) lv nilV J8 [] _ w (hG.mono (hJ6.trans hJ8)) (hi8.hb b10) hw)) ?_
  rintro _ J12 _ ⟨hJ12, lv2, av2, v1, rfl, rfl, hi12, hv1⟩
  rw [aw16_fields] at hv1
  refine l_q rfl rfl rfl (q_move rfl rfl) ?_
  refine l_q rfl rfl rfl (q_extract rfl rfl rfl) ?_
  refine l_q rfl rfl rfl (q_extract rfl rfl rfl) ?_
  refine l_q rfl rfl rfl (q_extract rfl rfl rfl) ?_
  refine l_q rfl rfl rfl (q_assign rfl rfl) ?_
  refine l_q rfl rfl rfl (q_assign rfl rfl) ?_
  refine l_q rfl rfl rfl (q_assign rfl rfl) ?_
  refine l_nil ?_
  refine n_then ?_
  refine t_seq ?_
  refine t_qreg ?_
  refine s_q rfl rfl rfl (q_move rfl rfl) ?_
  refine s_q rfl rfl rfl (q_eql rfl rfl rfl) ?_
  refine s_q rfl rfl rfl (q_move rfl rfl) ?_
  refine s_and2 3 2 18 22 21 _ _ rfl rfl rfl rfl rfl rfl (fun h22 => by
      try simp at h22
      refine s_g rfl rfl rfl rfl rfl rfl (q_move rfl rfl) ?_
      refine s_g rfl rfl rfl rfl rfl rfl ((by first | exact q_lenV rfl Tryz.underlying24 rfl | exact q_len rfl Tryz.underlying24 rfl (Sl.lenOf (n := 3) hv1 rfl))) ?_
      refine s_g rfl rfl rfl rfl rfl rfl (q_eql rfl rfl rfl) ?_
      exact s_val rfl
    ) (wanted_n rfl) rfl rfl rfl ?_
  refine s_q rfl rfl rfl (q_move rfl rfl) ?_
  refine s_and2 4 7 23 28 27 _ _ rfl rfl rfl rfl rfl rfl (fun h28 => by
      try simp at h28
      refine s_g rfl rfl rfl rfl rfl rfl (q_move rfl rfl) ?_
      refine s_g rfl rfl rfl rfl rfl rfl ((by first | exact q_indexAddrVN rfl Tryz.underlying24 ti9 rfl rfl (by omega) | exact q_indexAddrN rfl Tryz.underlying24 ti9 rfl rfl (Sl.shape (n := 3) hv1 rfl) (by omega) | exact q_indexAddrV rfl Tryz.underlying24 ti9 rfl rfl (by omega) | exact q_indexAddr rfl Tryz.underlying24 ti9 rfl rfl (Sl.shape (n := 3) hv1 rfl) (by omega))) ?_
      refine s_g rfl rfl rfl rfl rfl rfl ((by first | exact q_load_row rfl Tryz.underlying9 rfl rfl (by rfl) | exact q_load rfl Tryz.underlying9 rfl rfl (rd_sv (i := 1) hv1 (by decide)))) ?_
      refine s_g rfl rfl rfl rfl rfl rfl (q_eql_str rfl rfl rfl) ?_
      exact s_val rfl
    ) (wanted_n rfl) rfl rfl rfl ?_
  refine s_q rfl rfl rfl (q_move rfl rfl) ?_
  refine s_q rfl rfl rfl (q_pick_b rfl rfl) ?_
  refine s_q rfl rfl rfl (q_assign rfl rfl) ?_
  refine s_done ?_
  refine n_then ?_
  refine t_ret ?_
  refine n_ret1 rfl rfl (fun w' hw => ?_)
  -- leaf 0
  refine ⟨?_, (hw.less (hJ6.trans (hJ8.trans hJ12))).below⟩
  rfl
set_option maxRecDepth 10000 in
theorem expandNobody_pure (s : List UInt8) (kd : Int) (w : World) (hG : EnvI (look w)) : Pure Tryz.prog 5 [str s, .int .i64 kd] w (.bool true) := by
  refine enter Tryz.func5 rfl Tryz.ntmps5 rfl (St.start w (look w) (Le.refl _)) ?_
  refine t_seq ?_
  refine t_region ?_
  refine l_q rfl rfl rfl (q_assign rfl rfl) ?_
  refine l_nil ?_
  refine n_then ?_
  refine t_seq ?_
  refine t_seq ?_
  refine t_region ?_
  refine l_q rfl rfl rfl (quiet_call rfl rfl rfl Tryz.func7 (by kernel_rfl) rfl ((fun w hw => awake_pure w (hG.mono hw.le)))) ?_
  refine l_q rfl rfl rfl (q_not rfl rfl) ?_
  refine l_nil ?_
  refine n_then ?_
  refine t_cond rfl (fun hc0 => ?_) (fun hc0 => ?_)
  · skip
    cases hc0
  · skip
    refine t_skip ?_
    refine n_then ?_
    refine t_seq ?_
    refine t_region ?_
    refine l_q rfl rfl rfl (q_move rfl rfl) ?_
    refine l_q rfl rfl rfl (quiet_call rfl rfl rfl Tryz.func13 (by kernel_rfl) rfl ((fun w _ => fieldsx_nil s w))) ?_
    refine l_q rfl rfl rfl (q_move rfl rfl) ?_
    refine l_q rfl rfl rfl (q_extract rfl rfl rfl) ?_
    refine l_q rfl rfl rfl (q_extract rfl rfl rfl) ?_
    refine l_q rfl rfl rfl (q_extract rfl rfl rfl) ?_
    refine l_q rfl rfl rfl (q_assign rfl rfl) ?_
    refine l_q rfl rfl rfl (q_assign rfl rfl) ?_
    refine l_q rfl rfl rfl (q_assign rfl rfl) ?_
    refine l_nil ?_
    refine n_then ?_
    refine t_seq ?_
    refine t_region ?_
    refine l_q rfl rfl rfl (q_move rfl rfl) ?_
    refine l_q rfl rfl rfl (q_move rfl rfl) ?_
    refine l_q rfl rfl rfl (quiet_call rfl rfl rfl Tryz.func10 (by kernel_rfl) rfl ((fun w _ => one_nil s kd w))) ?_
    refine l_q rfl rfl rfl (q_move rfl rfl) ?_
    refine l_q rfl rfl rfl (q_extract rfl rfl rfl) ?_
    refine l_q rfl rfl rfl (q_extract rfl rfl rfl) ?_
    refine l_q rfl rfl rfl (q_extract rfl rfl rfl) ?_
    refine l_q rfl rfl rfl (q_assign rfl rfl) ?_
    refine l_q rfl rfl rfl (q_assign rfl rfl) ?_
    refine l_q rfl rfl rfl (q_assign rfl rfl) ?_
    refine l_nil ?_
    refine n_then ?_
    refine t_seq ?_
    refine t_region ?_
    refine l_q rfl rfl rfl (q_move rfl rfl) ?_
    refine l_q rfl rfl rfl (quiet_call rfl rfl rfl Tryz.func14 (by kernel_rfl) rfl ((fun w _ => pattern_nil s w))) ?_
    refine l_q rfl rfl rfl (q_move rfl rfl) ?_
    refine l_q rfl rfl rfl (q_extract rfl rfl rfl) ?_
    refine l_q rfl rfl rfl (q_extract rfl rfl rfl) ?_
    refine l_q rfl rfl rfl (q_extract rfl rfl rfl) ?_
    refine l_q rfl rfl rfl (q_assign rfl rfl) ?_
    refine l_q rfl rfl rfl (q_assign rfl rfl) ?_
    refine l_q rfl rfl rfl (q_assign rfl rfl) ?_
    refine l_nil ?_
    refine n_then ?_
    refine t_seq ?_
    refine t_qreg ?_
    refine s_q rfl rfl rfl (q_move rfl rfl) ?_
    refine s_q rfl rfl rfl ((by first | exact q_lenV rfl Tryz.underlying24 rfl | exact q_len rfl Tryz.underlying24 rfl (⟨none, 0, rfl⟩))) ?_
    refine s_q rfl rfl rfl (q_eql rfl rfl rfl) ?_
    refine s_q rfl rfl rfl (q_move rfl rfl) ?_
    refine s_and2 2 3 38 41 40 _ _ rfl rfl rfl rfl rfl rfl (fun h41 => by
        try simp at h41
        refine s_g rfl rfl rfl rfl rfl rfl (q_move rfl rfl) ?_
        refine s_g rfl rfl rfl rfl rfl rfl (q_eql_str rfl rfl rfl) ?_
        exact s_val rfl
      ) (wanted_n rfl) rfl rfl rfl ?_
    refine s_q rfl rfl rfl (q_move rfl rfl) ?_
    refine s_and2 3 7 42 46 45 _ _ rfl rfl rfl rfl rfl rfl (fun h46 => by
        try simp at h46
        refine s_g rfl rfl rfl rfl rfl rfl (q_move rfl rfl) ?_
        refine s_g rfl rfl rfl rfl rfl rfl ((by first | exact q_lenV rfl Tryz.underlying47 rfl | exact q_len rfl Tryz.underlying47 rfl (⟨none, 0, rfl⟩))) ?_
        refine s_g rfl rfl rfl rfl rfl rfl (q_eql rfl rfl rfl) ?_
        exact s_val rfl
      ) (wanted_n rfl) rfl rfl rfl ?_
    refine s_q rfl rfl rfl (q_move rfl rfl) ?_
    refine s_and2 6 12 47 54 53 _ _ rfl rfl rfl rfl rfl rfl (fun h54 => by
        try simp at h54
        refine s_g rfl rfl rfl rfl rfl rfl (q_move rfl rfl) ?_
        refine s_g rfl rfl rfl rfl rfl rfl (q_move rfl rfl) ?_
        refine s_g rfl rfl rfl rfl rfl rfl (q_cat rfl rfl rfl (by first | omega | (simp only [List.length_append, List.length_cons, List.length_nil, List.length_take, List.length_drop]; omega))) ?_
        refine s_g rfl rfl rfl rfl rfl rfl (q_move rfl rfl) ?_
        refine s_g rfl rfl rfl rfl rfl rfl (q_cat rfl rfl rfl (by first | omega | (simp only [List.length_append, List.length_cons, List.length_nil, List.length_take, List.length_drop]; omega))) ?_
        refine s_g rfl rfl rfl rfl rfl rfl (q_eql_str rfl rfl rfl) ?_
        exact s_val rfl
      ) (wanted_n rfl) rfl rfl rfl ?_
    refine s_q rfl rfl rfl (q_move rfl rfl) ?_
    refine s_and2 2 20 55 58 57 _ _ rfl rfl rfl rfl rfl rfl (fun h58 => by
        try simp at h58
        refine s_g rfl rfl rfl rfl rfl rfl (q_move rfl rfl) ?_
        refine s_g rfl rfl rfl rfl rfl rfl (q_eql rfl rfl rfl) ?_
        exact s_val rfl
      ) (wanted_n rfl) rfl rfl rfl ?_
    refine s_q rfl rfl rfl (q_move rfl rfl) ?_
    refine s_and2 2 24 59 62 61 _ _ rfl rfl rfl rfl rfl rfl (fun h62 => by
        try simp at h62
        refine s_g rfl rfl rfl rfl rfl rfl (q_move rfl rfl) ?_
        refine s_g rfl rfl rfl rfl rfl rfl (q_eql rfl rfl rfl) ?_
        exact s_val rfl
      ) (wanted_n rfl) rfl rfl rfl ?_
    refine s_q rfl rfl rfl (q_move rfl rfl) ?_
    refine s_and2 2 28 63 66 65 _ _ rfl rfl rfl rfl rfl rfl (fun h66 => by
        try simp at h66
        refine s_g rfl rfl rfl rfl rfl rfl (q_move rfl rfl) ?_
        refine s_g rfl rfl rfl rfl rfl rfl (q_eql rfl rfl rfl) ?_
        exact s_val rfl
      ) (wanted_n rfl) rfl rfl rfl ?_
    refine s_q rfl rfl rfl (q_assign rfl rfl) ?_
    refine s_done ?_
    refine n_then ?_
    refine t_ret ?_
    refine n_ret1 rfl rfl (fun w' hw => ?_)
    -- leaf 0
    refine ⟨?_, hw.below⟩
    rfl
end Go.Tri
