/-
 Awake.
-/
import Derived.Test.YtmjcakamgeepbaaGreatDoorEM7
import Derived.Test.YtmjcakamgeepbaaGreatDoorPExV
namespace Go.Tri
open Go.Proofs Go.RowKit
set_option maxRecDepth 10000
/-- a host begins -/
theorem host_start {H : List HA} {I : Look} {w0 w : World} {F : List HA} {p : HP} {lv : Value} {vs : List Vr} {al outs : List (List UInt8)} {b : Nat} [hq : Picks [row b 35 [.pointer (some ⟨p.eb, 0, none⟩)], row p.eb 65 (envC p nilV), row p.vb 61 [lv, p.gv]] F H] (hw : St w0 I H w) : St w0 I (hostH { p with hb := b } lv nilV ⟨vs, al, outs, []⟩ F) w :=
 subC_st (H := tvec 9 1 svC nilV [] :: row b 35 [.pointer (some ⟨p.eb, 0, none⟩)] :: row p.eb 65 (envC p nilV) :: row p.vb 61 [lv, p.gv] :: F) (H' := row b 35 [.pointer (some ⟨p.eb, 0, none⟩)] :: row p.eb 65 (envC p nilV) :: row p.vb 61 [lv, p.gv] :: tvec 9 1 svC nilV [] :: F) (st_nilT 9 1 svC (hw.perm hq.perm))
theorem HostI.hb {I : Look} {p : HP} {lv : Value} {h : Hx} (k : HostI I p lv h) (b : Nat) : HostI I { p with hb := b } lv h := ⟨k.sp, k.ou, k.li, k.ar, k.on, k.an, k.vn⟩
theorem pathsAre_no {p : HP} {h : Hx} {s : List UInt8} (hn : NoWild h s) (pf : Hx → List Ch → List (List UInt8)) : PathsAre p pf h s := fun L h' hx g hg f hf hw => by rw [hn L h' hx g hg f hf] at hw; cases hw
def noPf : Hx → List Ch → List (List UInt8) := fun _ _ => []
theorem noPf_le : ∀ h f, (noPf h f).length ≤ 1000 := fun _ _ => Nat.zero_le _
def l16 : List PT := [.mk 2 [120] [] [] false, .mk 2 [120] [] [] false]
theorem aw16_parts : partsP awS16 0 = .ok l16 := by kernel_rfl
def aw16L : List Px := wholeX [97, 32, 98] false ++ wholeX [97, 32, 98] false
theorem aw16_x : hxX (some [97, 32, 98]) = awH16 := rfl
theorem aw16_exp : expX awH16 awS16 0 = .ok aw16L awH16 := by
 unfold expX; rw [aw16_parts, ← aw16_x]
 show partsX false (hxX (some [97, 32, 98])) [] l16 = _
 rw [l16, partsX, part_pln]
 show partsX false (hxX (some [97, 32, 98])) _ _ = _
 rw [parts_one, part_pln]; rfl
theorem aw16_ifs : ifsX awH16 = ifsS := by decide +kernel
theorem aw16_grp : groupsX aw16L = [aw16L.map Px.p] := rfl
theorem aw16_fields : fieldsAll (aw16L.map Px.p) ifsS = [[⟨97, false⟩], [⟨98, false⟩, ⟨97, false⟩], [⟨98, false⟩]] := by decide +kernel
theorem aw16_wild : NoWild awH16 awS16 := by
 intro L h' hx g hg f hf; rw [aw16_exp] at hx
 injection hx with h1 h2
 subst h1 h2; rw [aw16_grp, List.mem_singleton] at hg; subst hg; rw [aw16_ifs, aw16_fields] at hf
 have key : ∀ f ∈ ([[⟨97, false⟩], [⟨98, false⟩, ⟨97, false⟩], [⟨98, false⟩]] : List (List Ch)), wildP f = false := by decide +kernel
 exact key f hf
theorem aw16_flds : fldsX noPf awH16 awS16 = ([[97], [98, 97], [98]], [], 0, awH16) := by
 rw [fldsX_ok aw16_exp]
 have h1 : fldG (noPf awH16) (ifsX awH16) [] (groupsX aw16L) = ([[97], [98, 97], [98]], 0) := by
  rw [aw16_grp, aw16_ifs, fldG, aw16_fields, if_pos (by decide +kernel), fldG]
  decide +kernel
 rw [fieldsL_ok h1 (by decide)]
theorem aw16_ok (p : HP) : ExpOk p awH16 awS16 0 ∧ Small (expX awH16 awS16 0) := expOk_of p (aw16_x ▸ hb_x (by decide)) (by decide) (fun l hl => by
 rw [aw16_parts] at hl
 cases hl
 exact ⟨by decide, by simp [oksT, okT, l16]⟩)
theorem awake_pure (w : World) (hG : EnvI (look w)) : Pure Tryz.prog 4 [] w (.bool true) := by
 refine enter Tryz.func4 rfl Tryz.ntmps4 rfl (St.start w (look w) (Le.refl _)) (trun rfl (tr (lq rfl (q_build (pl := [(_, _), (_, _), (_, _), (_, _), (_, _)]) (cs := (vrC ⟨[120], [97, 32, 98], false, false, false⟩).toArray) rfl un39 ti39 ⟨rfl, ⟨_, _, ti9⟩, rfl, ⟨_, _, ti9⟩, rfl, ⟨_, _, ti4⟩, rfl, ⟨_, _, ti4⟩, rfl, ⟨_, _, ti4⟩, trivial⟩ rfl rfl) (le rfl (e_buildSlice1 rfl un22 ti39 rfl rfl rfl (by rfl) rfl) ?_)))); rintro _ _ _ ⟨b6, rfl, rfl, rfl⟩; refine l_freezeRow b6 (fun J6 hJ6 hk6 => ?_)
 have hv6 := sl_row (f := vrC) (sz := 5) (varsOf (some [97, 32, 98])) hk6 rfl rfl (fun _ => rfl)
 refine lq rfl (q_build (pl := [(_, _), (_, _), (_, _), (_, _)]) (cs := #[_, _, _, _]) rfl un25 ti25 ⟨rfl, ⟨_, _, ti22⟩, rfl, ⟨_, _, ti23⟩, rfl, ⟨_, _, ti23⟩, rfl, ⟨_, _, ti23⟩, trivial⟩ rfl rfl) (lec rfl rfl rfl rfl (fun w hw => set_calls (varsOf (some [97, 32, 98])) [] [] (.slice (some ⟨b6, 0, none⟩) 1 1) nilV nilV (by decide) (fun v hv => by rw [show varsOf (some [97, 32, 98]) = [xV [97, 32, 98]] from rfl, List.mem_singleton] at hv; subst hv; decide) (by decide) J6 hv6 sl_nilT sl_nilT _ _ w hw) ?_); rintro _ J8 _ ⟨hJ8, p, lv, rfl, rfl, hi8⟩; rw [lay_x (x := some [97, 32, 98]) (by decide), aw16_x] at hi8; refine lq rfl (q_build (pl := [(_, _)]) (cs := (([.pointer (some ⟨p.eb, 0, none⟩)] : List Value)).toArray) rfl un35 ti35 ⟨rfl, ⟨_, _, ti32⟩, trivial⟩ rfl rfl) (le rfl (e_box rfl rfl rfl) ?_); rintro _ _ _ ⟨b10, rfl, rfl, rfl⟩; refine l_heap (H' := hostH { p with hb := b10 } lv nilV awH16 []) ?_ (fun _ h => host_start h); refine lq rfl (q_makeIface rfl un31 rfl rfl) (lec rfl rfl rfl rfl (fun w hw => fieldsx_calls { p with hb := b10 } awS16 (by decide) awH16 (aw16_ok _).1 (aw16_ok { p with hb := b10 }).2 noPf noPf_le (pathsAre_no aw16_wild noPf) lv nilV J8 [] _ w (hG.mono (hJ6.trans hJ8)) (hi8.hb b10) hw) ?_); rintro _ J12 _ ⟨hJ12, lv2, av2, v1, rfl, rfl, hi12, hv12⟩; rw [aw16_flds] at hv12 hi12 ⊢; refine lrun rfl (tq (s_run 3 rfl ?_))
 refine s_and2 3 2 18 22 21 _ _ rfl rfl rfl rfl rfl rfl (fun h22 => by
   simp at h22
   refine s_runG 1 rfl ?_; refine sg rfl ((by exact q_len rfl un23 rfl (Sl.lenOf (n := 3) hv12 rfl))) ?_; refine s_runG 1 rfl ?_; exact s_val rfl
  ) (wanted_n rfl) rfl rfl rfl ?_
 refine s_run 1 rfl ?_
 refine s_and2 4 7 23 28 27 _ _ rfl rfl rfl rfl rfl rfl (fun h28 => by
   simp at h28
   refine s_runG 1 rfl ?_; refine sg rfl ((by exact q_indexAddr rfl un23 ti9 rfl rfl (Sl.shape (n := 3) hv12 rfl) (by omega))) ?_; refine sg rfl ((by exact q_ldr rfl rfl (rd_sv (i := 1) hv12 (by decide)))) ?_; refine sg rfl (q_eql_str rfl rfl rfl) ?_; exact s_val rfl
  ) (wanted_n rfl) rfl rfl rfl ?_
 refine s_run 1 rfl (sq rfl (q_pick_b rfl rfl) (s_run 1 rfl (sdn (t_ret (n_ret1 rfl rfl (fun w' hw => ?_)))))); refine ⟨?_, (hw.less (hJ6.trans (hJ8.trans hJ12))).below⟩
 rfl
end Go.Tri
