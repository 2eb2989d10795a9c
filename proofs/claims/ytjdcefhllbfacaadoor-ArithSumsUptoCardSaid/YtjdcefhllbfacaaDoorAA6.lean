/-
  A reader: operands.
-/
import Derived.Test.YtjdcefhllbfacaaDoorAA5
namespace Go.Tri
open Go.Proofs Go.RowKit
def nameS : List UInt8 := [110, 97, 109, 101]
def unaS : List (List UInt8) := [[49, 43], [49, 45], [49, 33], [49, 126]]
/-- an expression in memory -/
def ExAt (J : Look) : Ex → Nat → Prop
  | .num n, q => RowI J q (exC [] [] n nilS)
  | .var nm, q => RowI J q (exC nameS nm 0 nilS)
  | .asg op nm k, q => (op ≠ [] ∧ op ≠ nameS ∧ nm ≠ [] ∧ op.length ≤ 1000000) ∧ ∃ kv a, RowI J q (exC op nm 0 kv) ∧ Sl J 1 kv ([pAt a].map fun x => [x]) ∧ ExAt J k a
  | .una op k, q => op ∈ unaS ∧ ∃ kv a, RowI J q (exC op [] 0 kv) ∧ Sl J 1 kv ([pAt a].map fun x => [x]) ∧ ExAt J k a
  | .bin op x y, q => (op ≠ [] ∧ op ≠ nameS ∧ op ∉ unaS ∧ op ≠ [63]) ∧ ∃ kv a b, RowI J q (exC op [] 0 kv) ∧ Sl J 1 kv ([pAt a, pAt b].map fun x => [x]) ∧ ExAt J x a ∧ ExAt J y b
  | .cho x y z, q => ∃ kv a b c, RowI J q (exC [63] [] 0 kv) ∧ Sl J 1 kv ([pAt a, pAt b, pAt c].map fun x => [x]) ∧ ExAt J x a ∧ ExAt J y b ∧ ExAt J z c
theorem ExAt.mono {J K : Look} (hle : Le J K) : ∀ {x : Ex} {q : Nat}, ExAt J x q → ExAt K x q
  | .num n, q, h => RowI.mono h hle
  | .var nm, q, h => RowI.mono h hle
  | .asg op nm k, q, ⟨h0, kv, a, h1, h2, h3⟩ => ⟨h0, kv, a, h1.mono hle, h2.mono hle, ExAt.mono hle h3⟩
  | .una op k, q, ⟨h0, kv, a, h1, h2, h3⟩ => ⟨h0, kv, a, h1.mono hle, h2.mono hle, ExAt.mono hle h3⟩
  | .bin op x y, q, ⟨h0, kv, a, b, h1, h2, h3, h4⟩ => ⟨h0, kv, a, b, h1.mono hle, h2.mono hle, ExAt.mono hle h3, ExAt.mono hle h4⟩
  | .cho x y z, q, ⟨kv, a, b, c, h1, h2, h3, h4, h5⟩ => ⟨kv, a, b, c, h1.mono hle, h2.mono hle, ExAt.mono hle h3, ExAt.mono hle h4, ExAt.mono hle h5⟩
/-- what a reader's step left behind -/
def PARes (J : Look) (r : PA) (q : Nat) (lv : Value) (nw th : Lx) (e1 : Nat) : Prop := match r with
  | .ok x L1 => e1 = 0 ∧ nw = nowL L1 ∧ th = thenL L1 ∧ Tk L1 ∧ ExAt J x q ∧ Sl J 3 lv ((L1.drop 2).map lxC)
  | .bad e => e1 = e ∧ e1 ≠ 0
theorem PARes.t {J : Look} {r : PA} {q : Nat} {lv : Value} {nw th : Lx} {e1 : Nat} (h : PARes J r q lv nw th e1) (he : e1 = 0) : ∃ x L1, r = .ok x L1 ∧ nw = nowL L1 ∧ th = thenL L1 ∧ Tk L1 ∧ ExAt J x q ∧ Sl J 3 lv ((L1.drop 2).map lxC) := by
  cases r with
  | ok x L1 => exact ⟨x, L1, rfl, h.2⟩
  | bad e => exact absurd he h.2
theorem PARes.f {J : Look} {r : PA} {q : Nat} {lv : Value} {nw th : Lx} {e1 : Nat} (h : PARes J r q lv nw th e1) (he : e1 ≠ 0) : r = .bad e1 := by
  cases r with
  | ok x L1 => exact absurd h.1 he
  | bad e => rw [h.1]
theorem pa_bad {J : Look} {r : PA} {q : Nat} {lv : Value} {nw th : Lx} {e1 : Nat} (hr : r = .bad e1) (he : e1 ≠ 0) : PARes J r q lv nw th e1 := by rw [hr]; exact ⟨rfl, he⟩
theorem pa_ok {J : Look} {r : PA} {q : Nat} {lv : Value} {x : Ex} {L1 : List Lx} (hr : r = .ok x L1) (hT : Tk L1) (hx : ExAt J x q) (hs : Sl J 3 lv ((L1.drop 2).map lxC)) : PARes J r q lv (nowL L1) (thenL L1) 0 := by rw [hr]; exact ⟨rfl, rfl, rfl, hT, hx, hs⟩
/-- a reader's function tells what rd tells -/
def ReadC (fid : Nat) (args : List Value) (rd : List Lx → PA) : Prop := ∀ (b : Nat) (lv : Value) (L : List Lx) (I : Look) (F : List HA) (w0 w : World), Tk L → EnvI I → Sl I 3 lv ((L.drop 2).map lxC) → St w0 I (row b 62 (rdrC lv (nowL L) (thenL L) 0) :: F) w →
  Calls Tryd.prog fid (pAt b :: args).toArray w (fun e w' => ∃ v, e = .returned v ∧ ∃ I' H', (Le I I' ∧ ∃ q lv' nw' th' e1, v = pAt q ∧ H' = row b 62 (rdrC lv' nw' th' e1) :: F ∧ PARes I' (rd L) q lv' nw' th' e1) ∧ St w I' H' w')
theorem step_L (b : Nat) (lv : Value) (L : List Lx) (e : Nat) (I : Look) (F : List HA) (w0 w : World) (hT : Tk L) (hsl : Sl I 3 lv ((L.drop 2).map lxC)) (hw0 : St w0 I (row b 62 (rdrC lv (nowL L) (thenL L) e) :: F) w) :
    Calls Tryd.prog 17 [pAt b].toArray w (fun e1 w' => ∃ v, e1 = .returned v ∧ ∃ I' H', (I = I' ∧ v = .tuple #[] ∧ ∃ lv', H' = row b 62 (rdrC lv' (nowL (stepL L)) (thenL (stepL L)) e) :: F ∧ Sl I 3 lv' (((stepL L).drop 2).map lxC)) ∧ St w I' H' w') := by
  rw [nowL_step hT.1, thenL_step hT.1, drop_step2 hT.1]
  exact step_calls b lv (nowL L) (thenL L) e (L.drop 2) I F w0 w hsl hw0
def LevOk (d : Int) (R : RdA) : Prop := ReadC 18 [.int .i64 d] R.asg ∧ ReadC 36 [.int .i64 d] R.cho ∧ ReadC 58 [.int .i64 d] R.opd
theorem una_op {L : List Lx} (h : unaB L = true) : [49] ++ (nowL L).text ∈ unaS := by
  unfold unaB isL at h
  simp only [Bool.or_eq_true, Bool.and_eq_true, decide_eq_true_eq] at h
  rcases h with ((h | h) | h) | h <;> rw [h.2] <;> decide
theorem una_res {R : RdA} {L : List Lx} {J K : Look} {q b41 b43 : Nat} {lv : Value} {nw th : Lx} {e : Nat} (hu : unaB L = true) (hr : PARes J (R.opd (stepL L)) q lv nw th e) (hle : Le J K) (hk : RowI K b41 [pAt q]) (hx : RowI K b43 (exC ([49] ++ (nowL L).text) [] 0 (.slice (some ⟨b41, 0, none⟩) 1 1))) :
    PARes K (opdP R L) b43 lv nw th e := by
  unfold opdP
  rw [if_pos hu]
  cases h : R.opd (stepL L) with
  | bad e2 => rw [h] at hr; exact hr
  | ok x L1 =>
    rw [h] at hr
    obtain ⟨h1, h2, h3, h4, h5, h6⟩ := hr
    exact ⟨h1, h2, h3, h4, ⟨una_op hu, _, q, hx, sl_row1 hk (Nat.le_refl _), h5.mono hle⟩, h6.mono hle⟩
theorem lvS_len (v : Nat) : (lvS v).length ≤ 100 := by
  unfold lvS; split <;> decide
/-- sides, while they are read -/
def SInv (m j : Nat) (I : Look) (TOT : PA) (q : Nat) (lv : Value) (nw th : Lx) (e1 : Nat) (J : Look) (x : Ex) (L : List Lx) (g : Nat) : Prop :=
  Le I J ∧ (e1 = 0 → nw = nowL L ∧ th = thenL L ∧ Tk L ∧ ExAt J x q ∧ Sl J 3 lv ((L.drop 2).map lxC) ∧ L.length ≤ g ∧ TOT = sidG (9 - j) (sidP (rdA m) j) g x L) ∧ (e1 ≠ 0 → TOT = .bad e1)
theorem sinv_start {m j : Nat} {I J : Look} {L0 : List Lx} {q : Nat} {lv : Value} {nw th : Lx} {e1 : Nat} (hle : Le I J) (hr : PARes J (sidP (rdA m) j L0) q lv nw th e1) : ∃ x L g, SInv m j I (sidP (rdA m) (j + 1) L0) q lv nw th e1 J x L g := by
  rw [sidP]
  cases h : sidP (rdA m) j L0 with
  | bad e => rw [h] at hr; exact ⟨.num 0, [], 0, hle, fun he => absurd he hr.2, fun _ => by rw [hr.1]⟩
  | ok x L1 => rw [h] at hr; exact ⟨x, L1, L1.length, hle, fun _ => ⟨hr.2.1, hr.2.2.1, hr.2.2.2.1, hr.2.2.2.2.1, hr.2.2.2.2.2, Nat.le_refl _, rfl⟩, fun he => absurd hr.1 he⟩
theorem bin_op {v : Nat} {L : List Lx} (h : binB v L = true) : (nowL L).text ≠ [] ∧ (nowL L).text ≠ nameS ∧ (nowL L).text ∉ unaS ∧ (nowL L).text ≠ [63] := by
  unfold binB at h
  rw [Bool.and_eq_true] at h
  have key : ∀ t : List UInt8, Lib.contains (lvS v) ([32] ++ t ++ [32]) = true → t ≠ [] ∧ t ≠ nameS ∧ t ∉ unaS ∧ t ≠ [63] := by
    intro t ht
    have no : ∀ t : List UInt8, (List.range 10).all (fun k => !Lib.contains (lvS k) ([32] ++ t ++ [32])) = true → Lib.contains (lvS v) ([32] ++ t ++ [32]) = false := by
      intro t h
      rcases Nat.lt_or_ge v 10 with hv | hv
      · simpa using List.all_eq_true.1 h v (List.mem_range.2 hv)
      · have h9 := List.all_eq_true.1 h 9 (List.mem_range.2 (by decide))
        have : lvS v = lvS 9 := by
          unfold lvS; split <;> first | omega | rfl
        rw [this]; simpa using h9
    have x : ∀ u : List UInt8, (List.range 10).all (fun k => !Lib.contains (lvS k) ([32] ++ u ++ [32])) = true → t ≠ u := fun u hu he => by
      subst he; rw [no _ hu] at ht; cases ht
    refine ⟨x _ (by decide), x _ (by decide), fun hm => ?_, x _ (by decide)⟩
    simp only [unaS, List.mem_cons, List.not_mem_nil, or_false] at hm
    rcases hm with h | h | h | h
    · exact x [49, 43] (by decide) h
    · exact x [49, 45] (by decide) h
    · exact x [49, 33] (by decide) h
    · exact x [49, 126] (by decide) h
  exact key _ h.2
theorem bin_stop {v : Nat} {L : List Lx} (h : binB v L = true) : stopL (nowL L) = false := by
  unfold binB at h
  rw [Bool.and_eq_true, decide_eq_true_eq] at h
  unfold stopL; rw [h.1]; rfl
theorem sinv_next {m j : Nat} {I J K K2 : Look} {TOT : PA} {q q2 b1 b2 : Nat} {lv lv2 : Value} {nw2 th2 : Lx} {e2 : Nat} {x : Ex} {L : List Lx} {g : Nat} (h : SInv m j I TOT q lv (nowL L) (thenL L) 0 J x L g) (hb : binB (9 - j) L = true) (hJK : Le J K)
    (hr : PARes K (sidP (rdA m) j (stepL L)) q2 lv2 nw2 th2 e2) (hle : Le K K2) (hk : RowI K2 b1 [pAt q, pAt q2]) (hx : RowI K2 b2 (exC (nowL L).text [] 0 (.slice (some ⟨b1, 0, none⟩) 2 2))) : ∃ x' L', SInv m j I TOT b2 lv2 nw2 th2 e2 K2 x' L' (g - 1) := by
  obtain ⟨hIJ, h0, _⟩ := h
  obtain ⟨_, _, hT, hxq, _, hg, htot⟩ := h0 rfl
  have h2 := stepL_lt hT (bin_stop hb)
  obtain ⟨f, rfl⟩ : ∃ f, g = f + 1 := ⟨g - 1, by have := hT.pos; omega⟩
  rw [sidG, if_pos hb] at htot
  have hI2 := hIJ.trans (hJK.trans hle)
  cases hs : sidP (rdA m) j (stepL L) with
  | bad e =>
    rw [hs] at hr htot
    exact ⟨.num 0, [], hI2, fun he => absurd he hr.2, fun _ => by rw [htot, hr.1]⟩
  | ok y L1 =>
    have hgd := good_sidP (good_rdA m) j _ hT.step y L1 hs
    rw [hs] at hr htot
    obtain ⟨h1, h3, h4, h5, h6, h7⟩ := hr
    exact ⟨.bin (nowL L).text x y, L1, hI2, fun _ => ⟨h3, h4, h5, ⟨bin_op hb, _, q, q2, hx, sl_row1 hk (Nat.le_refl _), hxq.mono (hJK.trans hle), h6.mono hle⟩, h7.mono hle, by show L1.length ≤ f; omega, htot⟩, fun he => absurd h1 he⟩
theorem sinv_end {m j : Nat} {I J : Look} {TOT : PA} {q : Nat} {lv : Value} {nw th : Lx} {e1 : Nat} {x : Ex} {L : List Lx} {g : Nat} (h : SInv m j I TOT q lv nw th e1 J x L g) (hb : e1 = 0 → binB (9 - j) L = false) : PARes J TOT q lv nw th e1 := by
  obtain ⟨_, h0, h1⟩ := h
  by_cases he : e1 = 0
  · obtain ⟨a1, a2, a3, a4, a5, a6, a7⟩ := h0 he
    subst he a1 a2
    have : TOT = .ok x L := by
      rw [a7]
      cases g with
      | zero => rfl
      | succ g => rw [sidG, if_neg (by rw [hb rfl]; simp)]
    exact pa_ok this a3 a4 a5
  · exact pa_bad (h1 he) he
theorem bin_on {e1 v : Nat} {nw : Lx} (h : ((decide ((e1 : Int) = 0) && decide ((nw.what : Int) = 3)) && Lib.contains (lvS v) ([32] ++ nw.text ++ [32])) = true) : e1 = 0 ∧ (∀ L, nw = nowL L → binB v L = true) := by
  simp only [Bool.and_eq_true, decide_eq_true_eq] at h
  refine ⟨by omega, fun L hL => ?_⟩
  unfold binB
  rw [← hL, h.2, decide_eq_true (show nw.what = 3 by omega)]; rfl
theorem bin_off {e1 v : Nat} {nw : Lx} (h : ((decide ((e1 : Int) = 0) && decide ((nw.what : Int) = 3)) && Lib.contains (lvS v) ([32] ++ nw.text ++ [32])) = false) : e1 = 0 → ∀ L, nw = nowL L → binB v L = false := fun he L hL => by
  subst he
  cases hb : binB v L with
  | false => rfl
  | true =>
    unfold binB at hb
    rw [Bool.and_eq_true, decide_eq_true_eq, ← hL] at hb
    rw [hb.2, decide_eq_true (show (nw.what : Int) = 3 by omega)] at h
    cases h
theorem asg_on {L : List Lx} {b : Bool} (h : ((decide (((nowL L).what : Int) = 2) && decide (((thenL L).what : Int) = 3)) && Lib.contains asgS ([32] ++ (thenL L).text ++ [32])) = b) : asgB L = b := by
  rw [← h]
  unfold asgB
  rw [show decide (((nowL L).what : Int) = 2) = decide ((nowL L).what = 2) by by_cases h : (nowL L).what = 2 <;> simp [h] <;> omega, show decide (((thenL L).what : Int) = 3) = decide ((thenL L).what = 3) by by_cases h : (thenL L).what = 3 <;> simp [h] <;> omega]
theorem asg_op {L : List Lx} (hT : Tk L) (h : asgB L = true) : (thenL L).text ≠ [] ∧ (thenL L).text ≠ nameS ∧ (nowL L).text ≠ [] ∧ (thenL L).text.length ≤ 1000000 := by
  unfold asgB at h
  rw [Bool.and_eq_true, Bool.and_eq_true, decide_eq_true_eq, decide_eq_true_eq] at h
  refine ⟨fun he => ?_, fun he => ?_, hT.now2.2 h.1.1, hT.then⟩
  · rw [he] at h; exact absurd h.2 (by decide +kernel)
  · rw [he] at h; exact absurd h.2 (by decide +kernel)
theorem cl_on {e1 : Nat} {b : Bool} (h : (decide ((e1 : Int) = 0) && !b) = true) : e1 = 0 ∧ b = false := by
  simp only [Bool.and_eq_true, decide_eq_true_eq, Bool.not_eq_true'] at h
  exact ⟨by omega, h.2⟩
theorem cl_off {e1 : Nat} {b : Bool} (h : (decide ((e1 : Int) = 0) && !b) = false) : e1 = 0 → b = true := fun he => by
  subst he
  cases b with
  | true => rfl
  | false => cases h
theorem opd_par {R : RdA} {L L1 : List Lx} {x : Ex} {r : PA} (hu : unaB L = false) (hp : isL L [40] = true) (hr : R.asg (stepL L) = .ok x L1) (h : (if isL L1 [41] = true then PA.ok x (stepL L1) else .bad 60) = r) : opdP R L = r := by
  unfold opdP
  rw [if_neg (by rw [hu]; simp), if_pos hp, hr, ← h]
theorem opd_parE {R : RdA} {L : List Lx} {e : Nat} (hu : unaB L = false) (hp : isL L [40] = true) (hr : R.asg (stepL L) = .bad e) : opdP R L = .bad e := by
  unfold opdP
  rw [if_neg (by rw [hu]; simp), if_pos hp, hr]
theorem opd_num {R : RdA} {L : List Lx} (hu : unaB L = false) (hp : isL L [40] = false) (h : (nowL L).what = 1) : opdP R L = .ok (.num (nowL L).worth) (stepL L) := by
  unfold opdP
  rw [if_neg (by rw [hu]; simp), if_neg (by rw [hp]; simp), if_pos h]
theorem opd_var {R : RdA} {L : List Lx} (hu : unaB L = false) (hp : isL L [40] = false) (h1 : ¬ (nowL L).what = 1) (h : (nowL L).what = 2) : opdP R L = .ok (.var (nowL L).text) (stepL L) := by
  unfold opdP
  rw [if_neg (by rw [hu]; simp), if_neg (by rw [hp]; simp), if_neg h1, if_pos h]
theorem opd_none {R : RdA} {L : List Lx} (hu : unaB L = false) (hp : isL L [40] = false) (h1 : ¬ (nowL L).what = 1) (h2 : ¬ (nowL L).what = 2) : opdP R L = .bad 60 := by
  unfold opdP
  rw [if_neg (by rw [hu]; simp), if_neg (by rw [hp]; simp), if_neg h1, if_neg h2]
set_option maxRecDepth 10000 in
theorem opd_calls (n d : Nat) (hn : 25 - d = n) (hd : d ≤ 25) (hR : ∀ m, n = m + 1 → LevOk ((d : Int) + 1) (rdA m)) (b : Nat) (lv : Value) (L : List Lx) (I : Look) (F : List HA) (w0 w : World) (hT : Tk L) (hG : EnvI I) (hsl : Sl I 3 lv ((L.drop 2).map lxC)) (hw0 : St w0 I (row b 62 (rdrC lv (nowL L) (thenL L) 0) :: F) w) : Calls Tryd.prog 58 [pAt b, .int .i64 (d : Int)].toArray w (fun e w' => ∃ v, e = .returned v ∧ ∃ I' H', (Le I I' ∧ ∃ q lv' nw' th' e1, v = pAt q ∧ H' = row b 62 (rdrC lv' nw' th' e1) :: F ∧ PARes I' ((rdA n).opd L) q lv' nw' th' e1) ∧ St w I' H' w') := by
  refine enter Tryd.func58 rfl Tryd.ntmps58 rfl (hw0.self) ?_
  refine t_seq ?_
  refine t_region ?_
  refine l_q rfl rfl rfl (q_assign rfl rfl) ?_
  refine l_nil ?_
  refine n_then ?_
  refine t_seq ?_
  refine t_seq ?_
  refine t_region ?_
  refine l_q rfl rfl rfl (q_move rfl rfl) ?_
  refine l_q rfl rfl rfl (q_gtr rfl rfl rfl) ?_
  refine l_nil ?_
  refine n_then ?_
  refine t_cond rfl (fun hc0 => ?_) (fun hc0 => ?_)
  · skip
    try simp at hc0
    have hn0 : n = 0 := by omega
    subst hn0
    refine t_seq ?_
    refine t_region ?_
    refine l_q rfl rfl rfl (q_move rfl rfl) ?_
    refine l_e rfl rfl rfl (eff_call rfl rfl rfl Tryd.func19 (by kernel_rfl) rfl (fun w hw => fail_calls b lv (nowL L) (thenL L) 52 _ _ _ w (picks_st1 (row b 62 (rdrC lv (nowL L) (thenL L) 0)) hw))) ?_
    rintro _ _ _ ⟨rfl, q12, rfl, rfl⟩
    refine l_q rfl rfl rfl (q_assign rfl rfl) ?_
    refine l_nil ?_
    refine n_then ?_
    refine t_ret ?_
    refine n_ret_then ?_
    refine n_ret1 rfl rfl (fun w' hw => ?_)
    -- leaf 0
    exact ⟨_, rfl, I, _, ⟨Le.refl _, _, lv, (nowL L), (thenL L), 52, rfl, rfl, pa_bad rfl (by decide)⟩, hw⟩
  · skip
    try simp at hc0
    obtain ⟨m, rfl⟩ : ∃ m, n = m + 1 := ⟨24 - d, by omega⟩
    obtain ⟨hA, hC, hO⟩ := hR m rfl
    refine t_skip ?_
    refine n_then ?_
    refine t_seq ?_
    refine t_block ?_
    refine t_seq ?_
    refine t_qreg ?_
    refine s_q rfl rfl rfl (q_move rfl rfl) ?_
    refine s_q rfl rfl rfl (quiet_call rfl rfl rfl Tryd.func49 (by kernel_rfl) rfl ((fun w hw => is_pure b lv (nowL L) (thenL L) 0 [43] w (rowI_of hw)))) ?_
    refine s_q rfl rfl rfl (q_move rfl rfl) ?_
    refine s_or2 2 2 16 19 18 _ _ rfl rfl rfl rfl rfl rfl (fun h19 => by
        try simp at h19
        refine s_g rfl rfl rfl rfl rfl rfl (q_move rfl rfl) ?_
        refine s_g rfl rfl rfl rfl rfl rfl (quiet_call rfl rfl rfl Tryd.func49 (by kernel_rfl) rfl ((fun w hw => is_pure b lv (nowL L) (thenL L) 0 [45] w (rowI_of hw)))) ?_
        exact s_val rfl
      ) (wanted_n rfl) rfl rfl rfl ?_
    refine s_q rfl rfl rfl (q_move rfl rfl) ?_
    refine s_or2 2 6 20 23 22 _ _ rfl rfl rfl rfl rfl rfl (fun h23 => by
        try simp at h23
        refine s_g rfl rfl rfl rfl rfl rfl (q_move rfl rfl) ?_
        refine s_g rfl rfl rfl rfl rfl rfl (quiet_call rfl rfl rfl Tryd.func49 (by kernel_rfl) rfl ((fun w hw => is_pure b lv (nowL L) (thenL L) 0 [33] w (rowI_of hw)))) ?_
        exact s_val rfl
      ) (wanted_n rfl) rfl rfl rfl ?_
    refine s_q rfl rfl rfl (q_move rfl rfl) ?_
    refine s_or2 2 10 24 27 26 _ _ rfl rfl rfl rfl rfl rfl (fun h27 => by
        try simp at h27
        refine s_g rfl rfl rfl rfl rfl rfl (q_move rfl rfl) ?_
        refine s_g rfl rfl rfl rfl rfl rfl (quiet_call rfl rfl rfl Tryd.func49 (by kernel_rfl) rfl ((fun w hw => is_pure b lv (nowL L) (thenL L) 0 [126] w (rowI_of hw)))) ?_
        exact s_val rfl
      ) (wanted_n rfl) rfl rfl rfl ?_
    refine s_q rfl rfl rfl (q_assign rfl rfl) ?_
    refine s_done ?_
    refine n_then ?_
    refine t_cond rfl (fun hc1 => ?_) (fun hc1 => ?_)
    · skip
      have hu : unaB L = true := hc1
      refine t_seq ?_
      have hbn := hT.now
      refine t_region ?_
      refine l_q rfl rfl rfl (q_move rfl rfl) ?_
      refine l_q rfl rfl rfl (q_nilCheck rfl rfl) ?_
      refine l_q rfl rfl rfl (q_fieldAddr rfl Tryd.underlying62 rfl rfl ti57 rfl rfl) ?_
      refine l_q rfl rfl rfl (q_fieldAddr rfl Tryd.underlying57 rfl rfl ti9 rfl rfl) ?_
      refine l_q rfl rfl rfl (q_load_row rfl Tryd.underlying9 rfl rfl (by rfl)) ?_
      refine l_q rfl rfl rfl (q_cat rfl rfl rfl (by first | omega | (simp only [List.length_append, List.length_cons, List.length_nil, List.length_take, List.length_drop]; omega))) ?_
      refine l_q rfl rfl rfl (q_assign rfl rfl) ?_
      refine l_nil ?_
      refine n_then ?_
      refine t_seq ?_
      refine t_region ?_
      refine l_q rfl rfl rfl (q_move rfl rfl) ?_
      refine l_e rfl rfl rfl (eff_call rfl rfl rfl Tryd.func17 (by kernel_rfl) rfl (fun w hw => step_L b lv L 0 _ _ _ w hT hsl (picks_st1 (row b 62 (rdrC lv (nowL L) (thenL L) 0)) hw))) ?_
      rintro _ _ _ ⟨rfl, rfl, lv35, rfl, hs35⟩
      refine l_nil ?_
      refine n_then ?_
      refine t_seq ?_
      refine t_region ?_
      refine l_q rfl rfl rfl (q_move rfl rfl) ?_
      refine l_q rfl rfl rfl (q_move rfl rfl) ?_
      refine l_q rfl rfl rfl (q_move rfl rfl) ?_
      refine l_q rfl rfl rfl (q_add64 rfl rfl rfl (by omega)) ?_
      refine l_e rfl rfl rfl (eff_call rfl rfl rfl Tryd.func58 (by kernel_rfl) rfl (fun w hw => hO b lv35 (stepL L) _ _ _ w hT.step hG hs35 (picks_st1 (row b 62 (rdrC lv35 (nowL (stepL L)) (thenL (stepL L)) 0)) hw))) ?_
      rintro _ J40 _ ⟨hJ40, q40, lv40, nw40, th40, e40, rfl, rfl, hr40⟩
      refine l_e rfl rfl rfl (e_buildSlice1 rfl Tryd.underlying50 ti40 rfl rfl rfl (by first | exact One.cells (by assumption) | rfl) rfl) ?_
      rintro _ _ _ ⟨b41, rfl, rfl, rfl⟩
      refine l_q rfl rfl rfl (q_build (pl := [(_, _), (_, _), (_, _), (_, _)]) (cs := (exC ([49] ++ (nowL L).text) [] 0 (.slice (some ⟨b41, 0, none⟩) 1 1)).toArray) rfl Tryd.underlying52 ti52 ⟨rfl, ⟨_, _, ti9⟩, rfl, ⟨_, _, ti9⟩, rfl, ⟨_, _, ti2⟩, rfl, ⟨_, _, ti50⟩, trivial⟩ rfl rfl) ?_
      refine l_e rfl rfl rfl (e_box rfl rfl rfl) ?_
      rintro _ _ _ ⟨b43, rfl, rfl, rfl⟩
      refine l_freezeRow b41 (fun Ja hJa hka => ?_)
      refine l_freezeRow b43 (fun Jb hJb hkb => ?_)
      refine l_q rfl rfl rfl (q_assign rfl rfl) ?_
      refine l_nil ?_
      refine n_then ?_
      refine t_ret ?_
      refine n_ret_block ?_
      refine n_ret_then ?_
      refine n_ret1 rfl rfl (fun w' hw => ?_)
      -- leaf 1
      exact ⟨_, rfl, Jb, _, ⟨(hJ40.trans hJa).trans hJb, b43, lv40, nw40, th40, e40, rfl, rfl, una_res hu hr40 (hJa.trans hJb) (RowI.mono hka hJb) hkb⟩, hw⟩
    · skip
      have hu : unaB L = false := hc1
      refine t_seq ?_
      refine t_region ?_
      refine l_q rfl rfl rfl (q_move rfl rfl) ?_
      refine l_q rfl rfl rfl (quiet_call rfl rfl rfl Tryd.func49 (by kernel_rfl) rfl ((fun w hw => is_pure b lv (nowL L) (thenL L) 0 [40] w (rowI_of hw)))) ?_
      refine l_q rfl rfl rfl (q_assign rfl rfl) ?_
      refine l_nil ?_
      refine n_then ?_
      refine t_cond rfl (fun hc2 => ?_) (fun hc2 => ?_)
      · skip
        have hp : isL L [40] = true := hc2
        refine t_seq ?_
        refine t_region ?_
        refine l_q rfl rfl rfl (q_move rfl rfl) ?_
        refine l_e rfl rfl rfl (eff_call rfl rfl rfl Tryd.func17 (by kernel_rfl) rfl (fun w hw => step_L b lv L 0 _ _ _ w hT hsl (picks_st1 (row b 62 (rdrC lv (nowL L) (thenL L) 0)) hw))) ?_
        rintro _ _ _ ⟨rfl, rfl, lv48, rfl, hs48⟩
        refine l_nil ?_
        refine n_then ?_
        refine t_seq ?_
        refine t_region ?_
        refine l_q rfl rfl rfl (q_move rfl rfl) ?_
        refine l_q rfl rfl rfl (q_move rfl rfl) ?_
        refine l_q rfl rfl rfl (q_add64 rfl rfl rfl (by omega)) ?_
        refine l_e rfl rfl rfl (eff_call rfl rfl rfl Tryd.func18 (by kernel_rfl) rfl (fun w hw => hA b lv48 (stepL L) _ _ _ w hT.step hG hs48 (picks_st1 (row b 62 (rdrC lv48 (nowL (stepL L)) (thenL (stepL L)) 0)) hw))) ?_
        rintro _ J52 _ ⟨hJ52, q52, lv52, nw52, th52, e52, rfl, rfl, hr52⟩
        refine l_q rfl rfl rfl (q_assign rfl rfl) ?_
        refine l_nil ?_
        refine n_then ?_
        refine t_seq ?_
        refine t_seq ?_
        refine t_qreg ?_
        refine s_q rfl rfl rfl (q_move rfl rfl) ?_
        refine s_q rfl rfl rfl (q_nilCheck rfl rfl) ?_
        refine s_q rfl rfl rfl (q_fieldAddr rfl Tryd.underlying62 rfl rfl ti25 rfl rfl) ?_
        refine s_q rfl rfl rfl (q_load_row rfl Tryd.underlying25 rfl rfl (by rfl)) ?_
        refine s_q rfl rfl rfl (q_eql rfl rfl rfl) ?_
        refine s_q rfl rfl rfl (q_move rfl rfl) ?_
        refine s_and2 3 5 58 62 61 _ _ rfl rfl rfl rfl rfl rfl (fun h62 => by
            try simp at h62
            refine s_g rfl rfl rfl rfl rfl rfl (q_move rfl rfl) ?_
            refine s_g rfl rfl rfl rfl rfl rfl (quiet_call rfl rfl rfl Tryd.func49 (by kernel_rfl) rfl ((fun w hw => is_pure b lv52 nw52 th52 e52 [41] w (rowI_of hw)))) ?_
            refine s_g rfl rfl rfl rfl rfl rfl (q_not rfl rfl) ?_
            exact s_val rfl
          ) (wanted_n rfl) rfl rfl rfl ?_
        refine s_done ?_
        refine n_then ?_
        refine t_cond rfl (fun hc3 => ?_) (fun hc3 => ?_)
        · skip
          obtain ⟨he, hcl⟩ := cl_on hc3
          subst he
          obtain ⟨x1, L1, hr1, rfl, rfl, hT1, hx1, hsl1⟩ := hr52.t rfl
          refine t_seq ?_
          refine t_region ?_
          refine l_q rfl rfl rfl (q_move rfl rfl) ?_
          refine l_e rfl rfl rfl (eff_call rfl rfl rfl Tryd.func19 (by kernel_rfl) rfl (fun w hw => fail_calls b lv52 (nowL L1) (thenL L1) 60 _ _ _ w (picks_st1 (row b 62 (rdrC lv52 (nowL L1) (thenL L1) 0)) hw))) ?_
          rintro _ _ _ ⟨rfl, q64, rfl, rfl⟩
          refine l_q rfl rfl rfl (q_assign rfl rfl) ?_
          refine l_nil ?_
          refine n_then ?_
          refine t_ret ?_
          refine n_ret_then ?_
          refine n_ret_block ?_
          refine n_ret_then ?_
          refine n_ret1 rfl rfl (fun w' hw => ?_)
          -- leaf 2
          exact ⟨_, rfl, J52, _, ⟨hJ52, _, lv52, (nowL L1), (thenL L1), 60, rfl, rfl, pa_bad (opd_par hu hp hr1 (by rw [show isL L1 [41] = false from hcl]; rfl)) (by decide)⟩, hw⟩
        · skip
          have h3 := cl_off hc3
          refine t_skip ?_
          refine n_then ?_
          refine t_seq ?_
          refine t_seq ?_
          refine t_region ?_
          refine l_q rfl rfl rfl (q_move rfl rfl) ?_
          refine l_q rfl rfl rfl (q_nilCheck rfl rfl) ?_
          refine l_q rfl rfl rfl (q_fieldAddr rfl Tryd.underlying62 rfl rfl ti25 rfl rfl) ?_
          refine l_q rfl rfl rfl (q_load_row rfl Tryd.underlying25 rfl rfl (by rfl)) ?_
          refine l_q rfl rfl rfl (q_eql rfl rfl rfl) ?_
          refine l_nil ?_
          refine n_then ?_
          refine t_cond rfl (fun hc4 => ?_) (fun hc4 => ?_)
          · skip
            have he : e52 = 0 := by have := of_decide_eq_true hc4; omega
            subst he
            obtain ⟨x1, L1, hr1, rfl, rfl, hT1, hx1, hsl1⟩ := hr52.t rfl
            refine t_region ?_
            refine l_q rfl rfl rfl (q_move rfl rfl) ?_
            refine l_e rfl rfl rfl (eff_call rfl rfl rfl Tryd.func17 (by kernel_rfl) rfl (fun w hw => step_L b lv52 L1 0 _ _ _ w hT1 hsl1 (picks_st1 (row b 62 (rdrC lv52 (nowL L1) (thenL L1) 0)) hw))) ?_
            rintro _ _ _ ⟨rfl, rfl, lv71, rfl, hs71⟩
            refine l_nil ?_
            refine n_then ?_
            refine t_seq ?_
            refine t_region ?_
            refine l_q rfl rfl rfl (q_move rfl rfl) ?_
            refine l_q rfl rfl rfl (q_assign rfl rfl) ?_
            refine l_nil ?_
            refine n_then ?_
            refine t_ret ?_
            refine n_ret_block ?_
            refine n_ret_then ?_
            refine n_ret1 rfl rfl (fun w' hw => ?_)
            -- leaf 3
            exact ⟨_, rfl, J52, _, ⟨hJ52, q52, lv71, _, _, 0, rfl, rfl, pa_ok (opd_par hu hp hr1 (by rw [if_pos (show isL L1 [41] = true from h3 rfl)])) hT1.step hx1 hs71⟩, hw⟩
          · skip
            have he : e52 ≠ 0 := by have := of_decide_eq_false hc4; omega
            refine t_skip ?_
            refine n_then ?_
            refine t_seq ?_
            refine t_region ?_
            refine l_q rfl rfl rfl (q_move rfl rfl) ?_
            refine l_q rfl rfl rfl (q_assign rfl rfl) ?_
            refine l_nil ?_
            refine n_then ?_
            refine t_ret ?_
            refine n_ret_block ?_
            refine n_ret_then ?_
            refine n_ret1 rfl rfl (fun w' hw => ?_)
            -- leaf 4
            exact ⟨_, rfl, J52, _, ⟨hJ52, _, lv52, nw52, th52, e52, rfl, rfl, pa_bad (opd_parE hu hp (hr52.f he)) he⟩, hw⟩
      · skip
        have hp : isL L [40] = false := hc2
        refine t_seq ?_
        refine t_region ?_
        refine l_q rfl rfl rfl (q_move rfl rfl) ?_
        refine l_q rfl rfl rfl (q_nilCheck rfl rfl) ?_
        refine l_q rfl rfl rfl (q_fieldAddr rfl Tryd.underlying62 rfl rfl ti57 rfl rfl) ?_
        refine l_q rfl rfl rfl (q_fieldAddr rfl Tryd.underlying57 rfl rfl ti3 rfl rfl) ?_
        refine l_q rfl rfl rfl (q_load_row rfl Tryd.underlying3 rfl rfl (by rfl)) ?_
        refine l_q rfl rfl rfl (q_eql rfl rfl rfl) ?_
        refine l_q rfl rfl rfl (q_assign rfl rfl) ?_
        refine l_nil ?_
        refine n_then ?_
        refine t_cond rfl (fun hc5 => ?_) (fun hc5 => ?_)
        · skip
          have hw1 : (nowL L).what = 1 := by have := of_decide_eq_true hc5; omega
          refine t_seq ?_
          refine t_region ?_
          refine l_q rfl rfl rfl (q_move rfl rfl) ?_
          refine l_q rfl rfl rfl (q_nilCheck rfl rfl) ?_
          refine l_q rfl rfl rfl (q_fieldAddr rfl Tryd.underlying62 rfl rfl ti57 rfl rfl) ?_
          refine l_q rfl rfl rfl (q_fieldAddr rfl Tryd.underlying57 rfl rfl ti2 rfl rfl) ?_
          refine l_q rfl rfl rfl (q_load_row rfl Tryd.underlying2 rfl rfl (by rfl)) ?_
          refine l_q rfl rfl rfl (q_build (pl := [(_, _), (_, _), (_, _), (_, _)]) (cs := (exC [] [] (nowL L).worth nilS).toArray) rfl Tryd.underlying52 ti52 ⟨rfl, ⟨_, _, ti9⟩, rfl, ⟨_, _, ti9⟩, rfl, ⟨_, _, ti2⟩, rfl, ⟨_, _, ti50⟩, trivial⟩ rfl rfl) ?_
          refine l_e rfl rfl rfl (e_box rfl rfl rfl) ?_
          rintro _ _ _ ⟨b86, rfl, rfl, rfl⟩
          refine l_q rfl rfl rfl (q_assign rfl rfl) ?_
          refine l_nil ?_
          refine n_then ?_
          refine t_seq ?_
          refine t_freezeRow b86 (fun J hJ hk => ?_)
          refine t_region ?_
          refine l_q rfl rfl rfl (q_move rfl rfl) ?_
          refine l_e rfl rfl rfl (eff_call rfl rfl rfl Tryd.func17 (by kernel_rfl) rfl (fun w hw => step_L b lv L 0 _ _ _ w hT (hsl.mono hJ) (picks_st1 (row b 62 (rdrC lv (nowL L) (thenL L) 0)) hw))) ?_
          rintro _ _ _ ⟨rfl, rfl, lv88, rfl, hs88⟩
          refine l_nil ?_
          refine n_then ?_
          refine t_seq ?_
          refine t_region ?_
          refine l_q rfl rfl rfl (q_move rfl rfl) ?_
          refine l_q rfl rfl rfl (q_assign rfl rfl) ?_
          refine l_nil ?_
          refine n_then ?_
          refine t_ret ?_
          refine n_ret_block ?_
          refine n_ret_then ?_
          refine n_ret1 rfl rfl (fun w' hw => ?_)
          -- leaf 5
          exact ⟨_, rfl, J, _, ⟨hJ, b86, lv88, _, _, 0, rfl, rfl, pa_ok (opd_num hu hp hw1) hT.step hk hs88⟩, hw⟩
        · skip
          have hw1 : ¬ (nowL L).what = 1 := by have := of_decide_eq_false hc5; omega
          refine t_seq ?_
          refine t_region ?_
          refine l_q rfl rfl rfl (q_move rfl rfl) ?_
          refine l_q rfl rfl rfl (q_nilCheck rfl rfl) ?_
          refine l_q rfl rfl rfl (q_fieldAddr rfl Tryd.underlying62 rfl rfl ti57 rfl rfl) ?_
          refine l_q rfl rfl rfl (q_fieldAddr rfl Tryd.underlying57 rfl rfl ti3 rfl rfl) ?_
          refine l_q rfl rfl rfl (q_load_row rfl Tryd.underlying3 rfl rfl (by rfl)) ?_
          refine l_q rfl rfl rfl (q_eql rfl rfl rfl) ?_
          refine l_q rfl rfl rfl (q_assign rfl rfl) ?_
          refine l_nil ?_
          refine n_then ?_
          refine t_cond rfl (fun hc6 => ?_) (fun hc6 => ?_)
          · skip
            have hw2 : (nowL L).what = 2 := by have := of_decide_eq_true hc6; omega
            refine t_seq ?_
            refine t_region ?_
            refine l_q rfl rfl rfl (q_move rfl rfl) ?_
            refine l_q rfl rfl rfl (q_nilCheck rfl rfl) ?_
            refine l_q rfl rfl rfl (q_fieldAddr rfl Tryd.underlying62 rfl rfl ti57 rfl rfl) ?_
            refine l_q rfl rfl rfl (q_fieldAddr rfl Tryd.underlying57 rfl rfl ti9 rfl rfl) ?_
            refine l_q rfl rfl rfl (q_load_row rfl Tryd.underlying9 rfl rfl (by rfl)) ?_
            refine l_q rfl rfl rfl (q_build (pl := [(_, _), (_, _), (_, _), (_, _)]) (cs := (exC nameS (nowL L).text 0 nilS).toArray) rfl Tryd.underlying52 ti52 ⟨rfl, ⟨_, _, ti9⟩, rfl, ⟨_, _, ti9⟩, rfl, ⟨_, _, ti2⟩, rfl, ⟨_, _, ti50⟩, trivial⟩ rfl rfl) ?_
            refine l_e rfl rfl rfl (e_box rfl rfl rfl) ?_
            rintro _ _ _ ⟨b103, rfl, rfl, rfl⟩
            refine l_q rfl rfl rfl (q_assign rfl rfl) ?_
            refine l_nil ?_
            refine n_then ?_
            refine t_seq ?_
            refine t_freezeRow b103 (fun J hJ hk => ?_)
            refine t_region ?_
            refine l_q rfl rfl rfl (q_move rfl rfl) ?_
            refine l_e rfl rfl rfl (eff_call rfl rfl rfl Tryd.func17 (by kernel_rfl) rfl (fun w hw => step_L b lv L 0 _ _ _ w hT (hsl.mono hJ) (picks_st1 (row b 62 (rdrC lv (nowL L) (thenL L) 0)) hw))) ?_
            rintro _ _ _ ⟨rfl, rfl, lv105, rfl, hs105⟩
            refine l_nil ?_
            refine n_then ?_
            refine t_seq ?_
            refine t_region ?_
            refine l_q rfl rfl rfl (q_move rfl rfl) ?_
            refine l_q rfl rfl rfl (q_assign rfl rfl) ?_
            refine l_nil ?_
            refine n_then ?_
            refine t_ret ?_
            refine n_ret_block ?_
            refine n_ret_then ?_
            refine n_ret1 rfl rfl (fun w' hw => ?_)
            -- leaf 6
            exact ⟨_, rfl, J, _, ⟨hJ, b103, lv105, _, _, 0, rfl, rfl, pa_ok (opd_var hu hp hw1 hw2) hT.step hk hs105⟩, hw⟩
          · skip
            have hw2 : ¬ (nowL L).what = 2 := by have := of_decide_eq_false hc6; omega
            refine t_skip ?_
            refine n_block ?_
            refine n_then ?_
            refine t_seq ?_
            refine t_region ?_
            refine l_q rfl rfl rfl (q_move rfl rfl) ?_
            refine l_e rfl rfl rfl (eff_call rfl rfl rfl Tryd.func19 (by kernel_rfl) rfl (fun w hw => fail_calls b lv (nowL L) (thenL L) 60 _ _ _ w (picks_st1 (row b 62 (rdrC lv (nowL L) (thenL L) 0)) hw))) ?_
            rintro _ _ _ ⟨rfl, q108, rfl, rfl⟩
            refine l_q rfl rfl rfl (q_assign rfl rfl) ?_
            refine l_nil ?_
            refine n_then ?_
            refine t_ret ?_
            refine n_ret1 rfl rfl (fun w' hw => ?_)
            -- leaf 7
            exact ⟨_, rfl, I, _, ⟨Le.refl _, _, lv, (nowL L), (thenL L), 60, rfl, rfl, pa_bad (opd_none hu hp hw1 hw2) (by decide)⟩, hw⟩
end Go.Tri
