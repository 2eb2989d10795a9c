/-
  A parameter without an operator.
-/
import Derived.Test.YtbogmbdfjgnfaaaGreatDoorEC5
namespace Go.Tri
open Go.Proofs Go.RowKit
theorem meth_Param : MethIs Tryz.prog 33 "Param" 209 := meth_is (by kernel_rfl) Tryz.underlying33
def XR.is (r : XR) (e : Nat) (L : List Px) (h : Hx) : Prop := match r with
  | .ok L' h' => e = 0 ∧ L = L' ∧ h = h'
  | .bad e' h' => e = e' ∧ e ≠ 0 ∧ L = [] ∧ h = h'
theorem XR.is.ok {r : XR} {e : Nat} {L : List Px} {h : Hx} (k : XR.is r e L h) (he : e = 0) : r = .ok L h := by
  cases r with
  | ok L' h' => obtain ⟨_, rfl, rfl⟩ := k; rfl
  | bad e' h' => exact absurd he k.2.1
theorem XR.is.bad {r : XR} {e : Nat} {L : List Px} {h : Hx} (k : XR.is r e L h) (he : e ≠ 0) : r = .bad e h := by
  cases r with
  | ok L' h' => exact absurd k.1 he
  | bad e' h' => obtain ⟨rfl, _, _, rfl⟩ := k; rfl
/-- what a step leaves behind -/
def XPost (mb : Nat) (p : HP) (F : List HA) (r : XR) (v0 : Value) (I' : Look) (H' : List HA) : Prop := ∃ (e : Nat) (L : List Px) (h' : Hx) (lv av : Value), H' = makH mb e p lv av h' F ∧ HostI I' p lv h' ∧ PxR I' v0 L ∧ XR.is r e L h'
/-- what the call does with the host's state -/
def ParamOk (x : PE) (I0 : Look) (mb : Nat) (p : HP) (h : Hx) (r : XR) : Prop := ∀ (I : Look) (lv av : Value) (F : List HA) (w0 w : World), Le I0 I → HostI I p lv h → St w0 I (makH mb 0 p lv av h F) w → Calls Tryz.prog 91 [.pointer (some ⟨mb, 0, none⟩), .agg (partC x).toArray].toArray w (fun e w' => ∃ v, e = .returned v ∧ ∃ I' H', (Le I I' ∧ XPost mb p F r v I' H') ∧ St w I' H' w')
/-- what the call does with the host's state -/
def PartOk (x : PE × Bool) (I0 : Look) (mb : Nat) (p : HP) (h : Hx) (r : XR) : Prop := ∀ (I : Look) (lv av : Value) (F : List HA) (w0 w : World), Le I0 I → HostI I p lv h → St w0 I (makH mb 0 p lv av h F) w → Calls Tryz.prog 68 [.pointer (some ⟨mb, 0, none⟩), .agg (partC x.1).toArray, .bool x.2].toArray w (fun e w' => ∃ v, e = .returned v ∧ ∃ I' H', (Le I I' ∧ XPost mb p F r v I' H') ∧ St w I' H' w')
/-- what the call does with the host's state -/
def PartsOk (x : Value × Bool) (I0 : Look) (mb : Nat) (p : HP) (h : Hx) (r : XR) : Prop := ∀ (I : Look) (lv av : Value) (F : List HA) (w0 w : World), Le I0 I → HostI I p lv h → St w0 I (makH mb 0 p lv av h F) w → Calls Tryz.prog 41 [.pointer (some ⟨mb, 0, none⟩), x.1, .bool x.2].toArray w (fun e w' => ∃ v, e = .returned v ∧ ∃ I' H', (Le I I' ∧ XPost mb p F r v I' H') ∧ St w I' H' w')
theorem pick_host {H : List HA} {I : Look} {w0 w : World} {F : List HA} {p : HP} {lv av : Value} {h : Hx} [hq : Picks [row p.hb 37 [.pointer (some ⟨p.eb, 0, none⟩)], row p.eb 43 (envC p av), row p.vb 65 [lv, p.gv], tvec 9 1 svC av h.asked] F H] (hw : St w0 I H w) : St w0 I (hostH p lv av h F) w := hw.perm hq.perm
theorem pick_mak {H : List HA} {I : Look} {w0 w : World} {F : List HA} {mb e : Nat} {p : HP} {lv av : Value} {h : Hx} [hq : Picks [row mb 101 (mkC p e), row p.hb 37 [.pointer (some ⟨p.eb, 0, none⟩)], row p.eb 43 (envC p av), row p.vb 65 [lv, p.gv], tvec 9 1 svC av h.asked] F H] (hw : St w0 I H w) : St w0 I (makH mb e p lv av h F) w := hw.perm hq.perm
set_option maxRecDepth 10000 in
theorem param_plain (x : PE) (hw1 : One x.wv) (hop : x.op = []) (hpn : PlainN x.text) (hm : (decide (x.text = [64]) || decide (x.text = [42])) = false) (I0 : Look) (mb : Nat) (p : HP) (h : Hx) : ParamOk x I0 mb p h (.ok (wholeX (getX h.x x.text).1 x.q) h) := by
  intro I lv av F w0 w hI0 hi hw0
  refine enter Tryz.func91 rfl Tryz.ntmps91 rfl (hw0.self) ?_
  refine t_seq ?_
  refine t_region ?_
  refine l_e rfl rfl rfl (e_box rfl rfl rfl) ?_
  rintro _ _ _ ⟨b3, rfl, rfl, rfl⟩
  refine l_q rfl rfl rfl (q_assign rfl rfl) ?_
  refine l_nil ?_
  refine n_then ?_
  refine t_seq ?_
  refine t_seq ?_
  refine t_qreg ?_
  refine s_q rfl rfl rfl (q_fieldAddr rfl Tryz.underlying148 rfl rfl ti9 rfl rfl) ?_
  refine s_q rfl rfl rfl (q_load_row rfl Tryz.underlying9 rfl rfl (by rfl)) ?_
  refine s_q rfl rfl rfl (quiet_call rfl rfl rfl Tryz.func115 (by kernel_rfl) rfl ((fun w _ => many_pure x.text w))) ?_
  refine s_q rfl rfl rfl (q_move rfl rfl) ?_
  refine s_and2 3 3 14 18 17 _ _ rfl rfl rfl rfl rfl rfl (fun h18 => by
      try simp at h18
      refine s_g rfl rfl rfl rfl rfl rfl (q_fieldAddr rfl Tryz.underlying148 rfl rfl ti9 rfl rfl) ?_
      refine s_g rfl rfl rfl rfl rfl rfl (q_load_row rfl Tryz.underlying9 rfl rfl (by rfl)) ?_
      refine s_g rfl rfl rfl rfl rfl rfl (q_eql_str rfl rfl rfl) ?_
      exact s_val rfl
    ) (wanted_n rfl) rfl rfl rfl ?_
  refine s_done ?_
  refine n_then ?_
  refine t_cond rfl (fun hc0 => ?_) (fun hc0 => ?_)
  · skip
    rw [hm] at hc0
    cases hc0
  · skip
    refine t_skip ?_
    refine n_then ?_
    refine t_seq ?_
    refine t_region ?_
    refine l_q rfl rfl rfl (q_assign rfl rfl) ?_
    refine l_q rfl rfl rfl (q_assign rfl rfl) ?_
    refine l_nil ?_
    refine n_then ?_
    refine t_seq ?_
    refine t_seq ?_
    refine t_region ?_
    refine l_q rfl rfl rfl (q_fieldAddr rfl Tryz.underlying148 rfl rfl ti9 rfl rfl) ?_
    refine l_q rfl rfl rfl (q_load_row rfl Tryz.underlying9 rfl rfl (by rfl)) ?_
    refine l_q rfl rfl rfl (quiet_call rfl rfl rfl Tryz.func115 (by kernel_rfl) rfl ((fun w _ => many_pure x.text w))) ?_
    refine l_nil ?_
    refine n_then ?_
    refine t_cond rfl (fun hc1 => ?_) (fun hc1 => ?_)
    · skip
      rw [hm] at hc1
      cases hc1
    · skip
      refine t_qdraw mo (by kernel_rfl) (fun _ _ _ _ _ h => h) ?_
      refine s_q rfl rfl rfl (q_move rfl rfl) ?_
      refine s_q rfl rfl rfl (q_nilCheck rfl rfl) ?_
      refine s_q rfl rfl rfl (q_fieldAddr rfl Tryz.underlying101 rfl rfl ti59 rfl rfl) ?_
      refine s_q rfl rfl rfl (q_load_row rfl Tryz.underlying59 rfl rfl (by rfl)) ?_
      refine s_q rfl rfl rfl (q_fieldAddr rfl Tryz.underlying148 rfl rfl ti9 rfl rfl) ?_
      refine s_q rfl rfl rfl (q_load_row rfl Tryz.underlying9 rfl rfl (by rfl)) ?_
      refine s_q rfl rfl rfl (quiet_inv rfl rfl rfl meth_Param Tryz.func209 (by kernel_rfl) rfl ((fun w hw => hostParam_pure p lv av h x.text w hpn (hostW_of hi hw)))) ?_
      refine s_q rfl rfl rfl (q_move rfl rfl) ?_
      refine s_q rfl rfl rfl (q_extract rfl rfl rfl) ?_
      refine s_q rfl rfl rfl (q_extract rfl rfl rfl) ?_
      refine s_q rfl rfl rfl (q_assign rfl rfl) ?_
      refine s_q rfl rfl rfl (q_assign rfl rfl) ?_
      refine s_done ?_
      refine n_then ?_
      refine t_seq ?_
      refine t_seq ?_
      refine t_region ?_
      refine l_q rfl rfl rfl (q_fieldAddr rfl Tryz.underlying148 rfl rfl ti9 rfl rfl) ?_
      refine l_q rfl rfl rfl (q_load_row rfl Tryz.underlying9 rfl rfl (by rfl)) ?_
      refine l_nil ?_
      refine n_then ?_
      refine t_block ?_
      refine t_seq ?_
      refine t_region ?_
      refine l_q rfl rfl rfl (q_eql_str rfl rfl rfl) ?_
      refine l_q rfl rfl rfl (q_assign rfl rfl) ?_
      refine l_nil ?_
      refine n_then ?_
      refine t_cond rfl (fun hc2 => ?_) (fun hc2 => ?_)
      · skip
        refine t_seq ?_
        refine t_region ?_
        refine l_q rfl rfl rfl (q_move rfl rfl) ?_
        refine l_q rfl rfl rfl (q_fieldAddr rfl Tryz.underlying148 rfl rfl ti4 rfl rfl) ?_
        refine l_q rfl rfl rfl (q_load_row rfl Tryz.underlying4 rfl rfl (by rfl)) ?_
        refine l_e rfl rfl rfl (eff_call rfl rfl rfl Tryz.func94 (by kernel_rfl) rfl (fun w hw => whole_calls (getX h.x x.text).1 x.q _ _ _ w hw)) ?_
        rintro _ J52 _ ⟨hJ52, rfl, hpx⟩
        refine l_q rfl rfl rfl (q_assign rfl rfl) ?_
        refine l_nil ?_
        refine n_then ?_
        refine t_ret ?_
        refine n_ret_block ?_
        refine n_ret_then ?_
        refine n_ret1 rfl rfl (fun w' hw => ?_)
        -- leaf 0
        exact ⟨_, rfl, J52, makH mb 0 p lv av h F, ⟨hJ52, 0, _, h, lv, av, rfl, hi.mono hJ52, hpx, rfl, rfl, rfl⟩, subC_st hw⟩
      · skip
        exact absurd hop (of_decide_eq_false hc2)
set_option maxRecDepth 10000 in
theorem part_param (x : PE) (hw1 : One x.wv) (b : Bool) (hk : x.kind = 2) (I0 : Look) (mb : Nat) (p : HP) (h : Hx) (r : XR) (hp : ParamOk x I0 mb p h r) : PartOk (x, b) I0 mb p h r := by
  intro I lv av F w0 w hI0 hi hw0
  refine enter Tryz.func68 rfl Tryz.ntmps68 rfl (hw0.self) ?_
  refine t_seq ?_
  refine t_region ?_
  refine l_e rfl rfl rfl (e_box rfl rfl rfl) ?_
  rintro _ _ _ ⟨b4, rfl, rfl, rfl⟩
  refine l_q rfl rfl rfl (q_assign rfl rfl) ?_
  refine l_nil ?_
  refine n_then ?_
  refine t_seq ?_
  refine t_seq ?_
  refine t_region ?_
  refine l_q rfl rfl rfl (q_fieldAddr rfl Tryz.underlying148 rfl rfl ti3 rfl rfl) ?_
  refine l_q rfl rfl rfl (q_load_row rfl Tryz.underlying3 rfl rfl (by rfl)) ?_
  refine l_nil ?_
  refine n_then ?_
  refine t_block ?_
  refine t_seq ?_
  refine t_region ?_
  refine l_q rfl rfl rfl (q_eql rfl rfl rfl) ?_
  refine l_q rfl rfl rfl (q_assign rfl rfl) ?_
  refine l_nil ?_
  refine n_then ?_
  refine t_cond rfl (fun hc0 => ?_) (fun hc0 => ?_)
  · skip
    refine t_seq ?_
    refine t_region ?_
    refine l_q rfl rfl rfl (q_move rfl rfl) ?_
    refine l_q rfl rfl rfl (q_load_rowA rfl Tryz.underlying148 ti148 rfl rfl rfl) ?_
    refine l_e rfl rfl rfl (eff_call rfl rfl rfl Tryz.func91 (by kernel_rfl) rfl (fun w hw => hp I lv av (row b4 148 (partC x) :: F) _ w hI0 hi (pick_mak hw))) ?_
    rintro v17 J17 _ ⟨hJ17, e, L, h', lv', av', rfl, hi', hpx, hr⟩
    refine l_q rfl rfl rfl (q_assign rfl rfl) ?_
    refine l_nil ?_
    refine n_then ?_
    refine t_ret ?_
    refine n_ret_block ?_
    refine n_ret_then ?_
    refine n_ret1 rfl rfl (fun w' hw => ?_)
    -- leaf 0
    exact ⟨_, rfl, J17, makH mb e p lv' av' h' F, ⟨hJ17, e, L, h', lv', av', rfl, hi', hpx, hr⟩, subC_st hw⟩
  · skip
    have := of_decide_eq_false hc0
    exact absurd (by rw [hk]; rfl) this
end Go.Tri
