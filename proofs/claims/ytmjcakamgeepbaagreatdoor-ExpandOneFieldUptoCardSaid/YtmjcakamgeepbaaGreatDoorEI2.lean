/-
 What a tree is worth.
-/
import Derived.Test.YtmjcakamgeepbaaGreatDoorEH9
namespace Go.Tri
open Go.Proofs Go.RowKit
set_option maxRecDepth 10000
theorem ExAt.row {J : Look} : ∀ {x : Ex} {q : Nat}, ExAt J x q → ∃ (kv : Value) (vs : List Value), RowI J q (exC (opE x) (nmE x) (nE x) kv) ∧ Sl J 1 kv (vs.map fun v => [v]) ∧ vs.length = (kidsE x).length ∧ ∀ (i : Nat) (y : Ex), (kidsE x)[i]? = some y → ∃ a, vs[i]? = some (pAt a) ∧ ExAt J y a
 | .num n, q, h => ⟨nilS, [], h, sl_nil (fun _ h => by cases h), rfl, fun _ _ h => by cases h⟩
 | .var nm, q, h => ⟨nilS, [], h, sl_nil (fun _ h => by cases h), rfl, fun _ _ h => by cases h⟩
 | .asg op nm k, q, ⟨_, kv, a, h1, h2, h3⟩ => ⟨kv, [pAt a], h1, h2, rfl, fun i y h => by
   match i, h with
   | 0, h => cases h; exact ⟨a, rfl, h3⟩
   | i + 1, h => cases h⟩
 | .una op k, q, ⟨_, kv, a, h1, h2, h3⟩ => ⟨kv, [pAt a], h1, h2, rfl, fun i y h => by
   match i, h with
   | 0, h => cases h; exact ⟨a, rfl, h3⟩
   | i + 1, h => cases h⟩
 | .bin op x y, q, ⟨_, kv, a, b, h1, h2, h3, h4⟩ => ⟨kv, [pAt a, pAt b], h1, h2, rfl, fun i y h => by
   match i, h with
   | 0, h => cases h; exact ⟨a, rfl, h3⟩
   | 1, h => cases h; exact ⟨b, rfl, h4⟩
   | i + 2, h => cases h⟩
 | .cho x y z, q, ⟨kv, a, b, c, h1, h2, h3, h4, h5⟩ => ⟨kv, [pAt a, pAt b, pAt c], h1, h2, rfl, fun i y h => by
   match i, h with
   | 0, h => cases h; exact ⟨a, rfl, h3⟩
   | 1, h => cases h; exact ⟨b, rfl, h4⟩
   | 2, h => cases h; exact ⟨c, rfl, h5⟩
   | i + 3, h => cases h⟩
theorem nil_una : [] ∉ unaS := by decide
theorem ex_num {J : Look} {x : Ex} {q : Nat} (h : ExAt J x q) (ho : opE x = []) : ∃ n, x = .num n := by
 cases x with
 | num n => exact ⟨n, rfl⟩
 | var nm => cases ho
 | asg op nm k => exact absurd ho h.1.1
 | una op k => exact absurd (ho ▸ h.1 : [] ∈ unaS) nil_una
 | bin op a b => exact absurd ho h.1.1
 | cho a b c => cases ho
theorem ex_var {J : Look} {x : Ex} {q : Nat} (h : ExAt J x q) (ho : opE x = nameS) : ∃ nm, x = .var nm := by
 cases x with
 | num n => cases ho
 | var nm => exact ⟨nm, rfl⟩
 | asg op nm k => exact absurd ho h.1.2.1
 | una op k => exact absurd (show nameS ∈ unaS from ho ▸ h.1) (by decide)
 | bin op a b => exact absurd ho h.1.2.1
 | cho a b c => cases ho
theorem ex_asg {x : Ex} (h1 : opE x ≠ nameS) (hn : nmE x ≠ []) : ∃ op nm k, x = .asg op nm k := by
 cases x with
 | num n => exact absurd rfl hn
 | var nm => exact absurd rfl h1
 | asg op nm k => exact ⟨op, nm, k, rfl⟩
 | una op k => exact absurd rfl hn
 | bin op a b => exact absurd rfl hn
 | cho a b c => exact absurd rfl hn
theorem ex_una {J : Look} {x : Ex} {q : Nat} (h : ExAt J x q) (hn : nmE x = []) {op : List UInt8} (ho : opE x = op) (hu : op ∈ unaS) : ∃ k, x = .una op k := by
 subst ho
 cases x with
 | num n => exact absurd hu nil_una
 | var nm => exact absurd (show nameS ∈ unaS from hu) (by decide)
 | asg op nm k => exact absurd hn h.1.2.2.1
 | una op k => exact ⟨k, rfl⟩
 | bin op a b => exact absurd hu h.1.2.2.1
 | cho a b c => exact absurd (show [63] ∈ unaS from hu) (by decide)
theorem ex_cho {J : Look} {x : Ex} {q : Nat} (h : ExAt J x q) (hn : nmE x = []) (ho : opE x = [63]) : ∃ a b c, x = .cho a b c := by
 cases x with
 | num n => cases ho
 | var nm => cases ho
 | asg op nm k => exact absurd hn h.1.2.2.1
 | una op k => exact absurd (show [63] ∈ unaS from ho ▸ h.1) (by decide)
 | bin op a b => exact absurd ho h.1.2.2.2
 | cho a b c => exact ⟨a, b, c, rfl⟩
theorem ex_bin {J : Look} {x : Ex} {q : Nat} (h : ExAt J x q) (hn : nmE x = []) (h0 : opE x ≠ []) (h1 : opE x ≠ nameS) (hu : opE x ∉ unaS) (hc : opE x ≠ [63]) : ∃ a b, x = .bin (opE x) a b := by
 cases x with
 | num n => exact absurd rfl h0
 | var nm => exact absurd rfl h1
 | asg op nm k => exact absurd hn h.1.2.2.1
 | una op k => exact absurd h.1 hu
 | bin op a b => exact ⟨a, b, rfl⟩
 | cho a b c => exact absurd rfl hc
theorem ex_kid {J : Look} {x : Ex} {q : Nat} (h : ExAt J x q) (h0 : opE x ≠ []) (h1 : opE x ≠ nameS) : ∃ y, (kidsE x)[0]? = some y := by
 cases x with
 | num n => exact absurd rfl h0
 | var nm => exact absurd rfl h1
 | asg op nm k => exact ⟨k, rfl⟩
 | una op k => exact ⟨k, rfl⟩
 | bin op a b => exact ⟨a, rfl⟩
 | cho a b c => exact ⟨a, rfl⟩
theorem kid_sz {x y : Ex} {i : Nat} (h : (kidsE x)[i]? = some y) : szE y + 1 ≤ szE x := by
 cases x with
 | num n => cases h
 | var nm => cases h
 | asg op nm k =>
  match i, h with
  | 0, h => cases h; simp only [szE]; omega
  | i + 1, h => cases h
 | una op k =>
  match i, h with
  | 0, h => cases h; simp only [szE]; omega
  | i + 1, h => cases h
 | bin op a b =>
  match i, h with
  | 0, h => cases h; simp only [szE]; omega
  | 1, h => cases h; simp only [szE]; omega
  | i + 2, h => cases h
 | cho a b c =>
  match i, h with
  | 0, h => cases h; simp only [szE]; omega
  | 1, h => cases h; simp only [szE]; omega
  | 2, h => cases h; simp only [szE]; omega
  | i + 3, h => cases h
/-- what working left behind -/
def WkRel (r : WR) (a : Int) (e : Nat) (S' : List Ass) : Prop := match r with
 | .ok a' S1 => e = 0 ∧ a = a' ∧ S' = S1
 | .bad e2 => e = e2 ∧ e ≠ 0
theorem WkRel.t {r : WR} {a : Int} {e : Nat} {S' : List Ass} (h : WkRel r a e S') (he : e = 0) : r = .ok a S' := by
 cases r with
 | ok a' S1 => rw [h.2.1, h.2.2]
 | bad e2 => exact absurd he h.2
theorem WkRel.f {r : WR} {a : Int} {e : Nat} {S' : List Ass} (h : WkRel r a e S') (he : e ≠ 0) : r = .bad e := by
 cases r with
 | ok a' S1 => exact absurd h.1 he
 | bad e2 => rw [h.1]
theorem wk_ok {r : WR} {a : Int} {S' : List Ass} (h : r = .ok a S') : WkRel r a 0 S' := by rw [h]; exact ⟨rfl, rfl, rfl⟩
theorem wk_bad {r : WR} {a : Int} {e : Nat} {S' : List Ass} (h : r = .bad e) (he : e ≠ 0) : WkRel r a e S' := by rw [h]; exact ⟨rfl, he⟩
/-- a function that works a tree at q -/
def WorkC (fid : Nat) (x : Ex) : Prop := ∀ (b : Nat) (vv sv : Value) (vars : List Vr) (S : List Ass) (q : Nat) (I : Look) (F : List HA) (w0 w : World), ExAt I x q → Sl I 5 vv (vars.map vrC) → VarsOk vars → S.length + szE x ≤ 1000000000 → St w0 I (row b 195 [vv, sv] :: tvec 166 2 asC sv S :: F) w →
 Calls Tryz.prog fid [pAt b, pAt q].toArray w (fun e w' => ∃ v, e = .returned v ∧ ∃ I' H', (I = I' ∧ ∃ (a : Int) (e1 : Nat) (sv' : Value) (S' : List Ass), v = .tuple #[.int .i64 a, .int .i64 (e1 : Int)] ∧ H' = row b 195 [vv, sv'] :: tvec 166 2 asC sv' S' :: F ∧ WkRel (workP (vars.map Vr.nv) x S) a e1 S') ∧ St w I' H' w')
theorem una_at {op : List UInt8} {k : Ex} {vs : List (List UInt8 × List UInt8)} {S S1 : List Ass} {a b : Int} (h : workP vs k S = .ok a S1) (hb : unaP op a = b) : workP vs (.una op k) S = .ok b S1 := by
 simp only [workP]; rw [h]; simp only; rw [hb]
theorem work_bad0 {J : Look} {q : Nat} {x y : Ex} {vs : List (List UInt8 × List UInt8)} {S : List Ass} {e : Nat} (h0 : ExAt J x q) (hn : nmE x = []) (hy : (kidsE x)[0]? = some y) (h : workP vs y S = .bad e) : workP vs x S = .bad e := by
 cases x with
 | num n => cases hy
 | var nm => cases hy
 | asg op nm k => exact absurd hn h0.1.2.2.1
 | una op k => cases hy; simp only [workP]; rw [h]
 | bin op a b => cases hy; simp only [workP]; rw [h]
 | cho a b c => cases hy; simp only [workP]; rw [h]
theorem bin_logic {op : List UInt8} {a b : Ex} {vs : List (List UInt8 × List UInt8)} {S S1 : List Ass} {v : Int} (h1 : workP vs a S = .ok v S1) (ho : op = [38, 38] ∨ op = [124, 124]) (h : (decide (v ≠ 0) == decide (op = [124, 124])) = true) : workP vs (.bin op a b) S = .ok (trI (decide (v ≠ 0))) S1 := by
 simp only [workP]; rw [h1]; simp only
 rw [if_pos ho, if_pos (by simpa using h)]
def logR (r : WR) : WR := match r with
 | .bad e => .bad e
 | .ok u S2 => .ok (trI (decide (u ≠ 0))) S2
def twoR (op : List UInt8) (v : Int) (r : WR) : WR := match r with
 | .bad e => .bad e
 | .ok u S2 => if (twoP op v u).2 = 0 then .ok (twoP op v u).1 S2 else .bad (twoP op v u).2
theorem bin_logic2 {op : List UInt8} {a b : Ex} {vs : List (List UInt8 × List UInt8)} {S S1 : List Ass} {v : Int} (h1 : workP vs a S = .ok v S1) (ho : op = [38, 38] ∨ op = [124, 124]) (h : (decide (v ≠ 0) == decide (op = [124, 124])) = false) : workP vs (.bin op a b) S = logR (workP vs b S1) := by
 simp only [workP]; rw [h1]; simp only
 rw [if_pos ho, if_neg (by intro h2; rw [h2] at h; simp at h)]; rfl
theorem bin_plain {op : List UInt8} {a b : Ex} {vs : List (List UInt8 × List UInt8)} {S S1 : List Ass} {v : Int} (h1 : workP vs a S = .ok v S1) (ho : ¬ (op = [38, 38] ∨ op = [124, 124])) : workP vs (.bin op a b) S = twoR op v (workP vs b S1) := by
 simp only [workP]; rw [h1]; simp only
 rw [if_neg ho]; rfl
theorem cho_t {a b c : Ex} {vs : List (List UInt8 × List UInt8)} {S S1 S' : List Ass} {v u : Int} {e : Nat} (h1 : workP vs a S = .ok v S1) (h : v ≠ 0) (hr : WkRel (workP vs b S1) u e S') : WkRel (workP vs (.cho a b c) S) u e S' := by
 simp only [workP]; rw [h1]; simp only
 rw [if_pos h]; exact hr
theorem cho_f {a b c : Ex} {vs : List (List UInt8 × List UInt8)} {S S1 S' : List Ass} {v u : Int} {e : Nat} (h1 : workP vs a S = .ok v S1) (h : ¬ v ≠ 0) (hr : WkRel (workP vs c S1) u e S') : WkRel (workP vs (.cho a b c) S) u e S' := by
 simp only [workP]; rw [h1]; simp only
 rw [if_neg h]; exact hr
theorem logic_rel {r : WR} {u : Int} {e : Nat} {S' : List Ass} (h : WkRel r u e S') : WkRel (logR r) (trI (decide (u ≠ 0))) e S' := by
 cases r with
 | ok a S1 => obtain ⟨h1, h2, h3⟩ := h; exact ⟨h1, by rw [h2], h3⟩
 | bad e2 => exact h
theorem two_rel {op : List UInt8} {v u : Int} {S' : List Ass} : WkRel (if (twoP op v u).2 = 0 then WR.ok (twoP op v u).1 S' else .bad (twoP op v u).2) (twoP op v u).1 (twoP op v u).2 S' := by
 by_cases h : (twoP op v u).2 = 0
 ·rw [if_pos h]; exact ⟨h, rfl, rfl⟩
 ·rw [if_neg h]; exact ⟨rfl, h⟩
/-- an assignment, while it is worked -/
theorem asg_eq {op nm : List UInt8} {k : Ex} {vs : List (List UInt8 × List UInt8)} {S S1 : List Ass} {b : Int} (ho : op = [61]) (h : workP vs k S = .ok b S1) : workP vs (.asg op nm k) S = .ok b (S1 ++ [(nm, b)]) := by
 simp only [workP]; rw [if_pos ho, h]
theorem asg_eqE {op nm : List UInt8} {k : Ex} {vs : List (List UInt8 × List UInt8)} {S : List Ass} {e : Nat} (hw : op ≠ [61] → (worthP vs S nm).2 = 0) (h : workP vs k S = .bad e) : workP vs (.asg op nm k) S = .bad e := by
 simp only [workP]
 by_cases ho : op = [61]
 ·rw [if_pos ho, h]
 ·rw [if_neg ho, if_pos (hw ho), h]
theorem asg_w {op nm : List UInt8} {k : Ex} {vs : List (List UInt8 × List UInt8)} {S : List Ass} (ho : op ≠ [61]) (h : (worthP vs S nm).2 ≠ 0) : workP vs (.asg op nm k) S = .bad (worthP vs S nm).2 := by
 simp only [workP]; rw [if_neg ho, if_neg h]
theorem asg_two {op nm : List UInt8} {k : Ex} {vs : List (List UInt8 × List UInt8)} {S S1 : List Ass} {b : Int} (ho : op ≠ [61]) (hw : (worthP vs S nm).2 = 0) (h : workP vs k S = .ok b S1) : workP vs (.asg op nm k) S = (if (twoP (Lib.trimSuffix op [61]) (worthP vs S nm).1 b).2 = 0 then .ok (twoP (Lib.trimSuffix op [61]) (worthP vs S nm).1 b).1 (S1 ++ [(nm, (twoP (Lib.trimSuffix op [61]) (worthP vs S nm).1 b).1)]) else .bad (twoP (Lib.trimSuffix op [61]) (worthP vs S nm).1 b).2) := by
 simp only [workP]; rw [if_neg ho, if_pos hw, h]
theorem as_on {e1 : Nat} {op : List UInt8} (h : (decide ((e1 : Int) = 0) && decide (op ≠ [61])) = true) : e1 = 0 ∧ op ≠ [61] := by
 rw [Bool.and_eq_true, decide_eq_true_eq, decide_eq_true_eq] at h; exact ⟨by omega, h.2⟩
theorem as_off {e1 : Nat} {op : List UInt8} (h : (decide ((e1 : Int) = 0) && decide (op ≠ [61])) = false) : e1 = 0 → op = [61] := fun he => by
 subst he
 by_cases ho : op = [61]
 ·exact ho
 ·rw [decide_eq_true ho] at h; cases h
theorem asg_fin {op nm : List UInt8} {k : Ex} {vs : List (List UInt8 × List UInt8)} {S S1 : List Ass} {a0 a1 a2 : Int} {e1 e2 : Nat} (hr : WkRel (workP vs k S) a1 e1 S1) (ha : op ≠ [61] → (worthP vs S nm).2 = 0 ∧ a0 = (worthP vs S nm).1)
  (h0 : e1 ≠ 0 → e2 = e1) (h1 : e1 = 0 → op = [61] → a2 = a1 ∧ e2 = 0) (h2 : e1 = 0 → op ≠ [61] → a2 = (twoP (Lib.trimSuffix op [61]) a0 a1).1 ∧ e2 = (twoP (Lib.trimSuffix op [61]) a0 a1).2) (he : e2 = 0) : workP vs k S = .ok a1 S1 ∧ workP vs (.asg op nm k) S = .ok a2 (S1 ++ [(nm, a2)]) := by
 have he1 : e1 = 0 := by
  rcases Nat.eq_zero_or_pos e1 with h | h
  ·exact h
  ·have := h0 (by omega); omega
 have hw := hr.t he1
 refine ⟨hw, ?_⟩
 by_cases ho : op = [61]
 ·rw [asg_eq ho hw, (h1 he1 ho).1]
 ·obtain ⟨h3, h4⟩ := h2 he1 ho; obtain ⟨h5, h6⟩ := ha ho; subst h6; rw [asg_two ho h5 hw, if_pos (by omega), ← h3]
theorem asg_fail {op nm : List UInt8} {k : Ex} {vs : List (List UInt8 × List UInt8)} {S S1 : List Ass} {a0 a1 a2 : Int} {e1 e2 : Nat} (hr : WkRel (workP vs k S) a1 e1 S1) (ha : op ≠ [61] → (worthP vs S nm).2 = 0 ∧ a0 = (worthP vs S nm).1)
  (h0 : e1 ≠ 0 → e2 = e1) (h1 : e1 = 0 → op = [61] → a2 = a1 ∧ e2 = 0) (h2 : e1 = 0 → op ≠ [61] → a2 = (twoP (Lib.trimSuffix op [61]) a0 a1).1 ∧ e2 = (twoP (Lib.trimSuffix op [61]) a0 a1).2) (he : e2 ≠ 0) {v : Int} {S' : List Ass} : WkRel (workP vs (.asg op nm k) S) v e2 S' := by
 by_cases he1 : e1 = 0
 ·have hw := hr.t he1
  have ho : op ≠ [61] := fun ho => he (h1 he1 ho).2
  obtain ⟨h3, h4⟩ := h2 he1 ho; obtain ⟨h5, h6⟩ := ha ho; subst h6; rw [asg_two ho h5 hw, ← h4, if_neg he]; exact ⟨rfl, he⟩
 ·rw [h0 he1]; exact wk_bad (asg_eqE (fun ho => (ha ho).1) (hr.f he1)) he1
theorem assign_calls (op nm : List UInt8) (k : Ex) (ih : WorkC 100 k) (b : Nat) (vv sv : Value) (vars : List Vr) (S : List Ass) (q : Nat) (I : Look) (F : List HA) (w0 w : World) (hx : ExAt I (.asg op nm k) q) (hv : Sl I 5 vv (vars.map vrC)) (hV : VarsOk vars) (hS : S.length + (szE k + 1) ≤ 1000000000) (hw0 : St w0 I (row b 195 [vv, sv] :: tvec 166 2 asC sv S :: F) w) : Calls Tryz.prog 123 [pAt b, pAt q].toArray w (fun e w' => ∃ v, e = .returned v ∧ ∃ I' H', (I = I' ∧ ∃ (a : Int) (e1 : Nat) (sv' : Value) (S' : List Ass), v = .tuple #[.int .i64 a, .int .i64 (e1 : Int)] ∧ H' = row b 195 [vv, sv'] :: tvec 166 2 asC sv' S' :: F ∧ WkRel (workP (vars.map Vr.nv) (.asg op nm k) S) a e1 S') ∧ St w I' H' w') := by
 obtain ⟨hop, kv, q0, hrow, hkv, hk0⟩ := hx
 have hl1 : [pAt q0].length = 1 := rfl
 refine enter Tryz.func123 rfl Tryz.ntmps123 rfl (hw0.self) (trun rfl (trun rfl (t_cutE (ι := Int) (fun zz => (op ≠ [61] → (worthP (vars.map Vr.nv) S nm).2 = 0 ∧ zz = (worthP (vars.map Vr.nv) S nm).1)) (fun zz => [(6, .int .i64 zz)]) [(0, _), (1, _)] (fun zz => I) (fun zz => (row b 195 [vv, sv] :: tvec 166 2 asC sv S :: F)) (sub_rfl rfl) ?_ ?_)))
 ·refine tr (l_run 3 rfl (lq rfl ((by exact q_ldr rfl rfl (rd_imm (hrow 0 _ rfl)))) ?_)); refine lq rfl (q_neq_str rfl rfl rfl) (ln (t_cond rfl (fun hc0 => ?_) (fun hc0 => ?_)))
  ·have hne : op ≠ [61] := of_decide_eq_true hc0
   refine tr (l_run 4 rfl (lq rfl ((by exact q_ldr rfl rfl (rd_imm (hrow 1 _ rfl)))) ?_)); refine lq rfl (qc rfl rfl rfl ((fun w hw => worth_pure b vv sv vars S nm w (rowI_of (b := b) hw) (hv.mono hw.le) (sl_vec (v := sv) (S := S) hw) hV (by omega)))) ?_; refine lrun rfl (t_seq (trun rfl (t_cond rfl (fun hc1 => ?_) (fun hc1 => ?_))))
   ·have hw2 : (worthP (vars.map Vr.nv) S nm).2 ≠ 0 := by have := of_decide_eq_true hc1; omega
    refine trun rfl (tret (n_ret2 rfl rfl rfl (fun w' hw => ?_))); exact ⟨_, rfl, I, row b 195 [vv, sv] :: tvec 166 2 asC sv S :: F, ⟨rfl, 0, (worthP (vars.map Vr.nv) S nm).2, sv, S, rfl, rfl, wk_bad (asg_w hne hw2) hw2⟩, subC_st hw⟩
   ·refine tskip (t_region (l_runA rfl (n_cut ((worthP (vars.map Vr.nv) S nm).1) ?_ (sub_rfl rfl) (sub_rfl rfl) (fun _ h => by dsimp only; exact subC_st h))))
    ·exact fun _ => ⟨by have := of_decide_eq_false hc1; omega, rfl⟩
  ·refine t_skip (n_cut (0) ?_ (sub_rfl rfl) (sub_rfl rfl) (fun _ h => by dsimp only; exact subC_st h))
   ·exact fun h => absurd h (by simpa using hc0)
 rintro a0 ha0; refine tr (l_run 4 rfl (lq rfl ((by exact q_ldr rfl rfl (rd_imm (hrow 3 _ rfl)))) ?_)); refine lq rfl ((by exact q_indexAddr rfl un210 ti190 rfl rfl (Sl.shape hkv (List.length_map _)) (by omega))) ?_; refine lq rfl ((by exact q_ldr rfl rfl (sl_row1_at (i := 0) hkv rfl))) ?_; refine lec rfl rfl rfl rfl (fun w hw => ih b vv sv vars S q0 _ _ _ w hk0 hv hV (by omega) (picks_st2 (row b 195 [vv, sv]) (tvec 166 2 asC sv S) hw)) ?_; rintro _ _ _ ⟨rfl, a37, e37, sv37, S37, rfl, rfl, hr37⟩; refine lrun rfl (t_cutE (ι := Int × Nat) (fun zz => (e37 ≠ 0 → zz.2 = e37) ∧ (e37 = 0 → op = [61] → zz.1 = a37 ∧ zz.2 = 0) ∧ (e37 = 0 → op ≠ [61] → zz.1 = (twoP (Lib.trimSuffix op [61]) a0 a37).1 ∧ zz.2 = (twoP (Lib.trimSuffix op [61]) a0 a37).2)) (fun zz => [(9, .int .i64 zz.1), (10, .int .i64 (zz.2 : Int))]) [(6, _), (0, _), (1, _)] (fun zz => I) (fun zz => (row b 195 [vv, sv37] :: tvec 166 2 asC sv37 S37 :: F)) (sub_rfl rfl) ?_ ?_)
 ·refine tq (s_run 3 rfl ?_)
  refine s_and2 5 2 42 48 47 _ _ rfl rfl rfl rfl rfl rfl (fun h48 => by
    simp at h48
    refine s_runG 3 rfl (sg rfl ((by exact q_ldr rfl rfl (rd_imm (hrow 0 _ rfl)))) ?_); refine sg rfl (q_neq_str rfl rfl rfl) ?_; exact s_val rfl
   ) (wanted_n rfl) rfl rfl rfl ?_
  refine sdn (t_cond rfl (fun hc2 => ?_) (fun hc2 => ?_))
  ·refine t_region (l_run 3 rfl (lq rfl ((by exact q_ldr rfl rfl (rd_imm (hrow 0 _ rfl)))) ?_)); refine lq rfl (qc rfl rfl rfl ((fun w _ => trimSuffix_pure op [61] w (by have := hop.2.2.2; omega)))) ?_; refine l_run 2 rfl (lq rfl (qc rfl rfl rfl ((fun w _ => two_pure (Lib.trimSuffix op [61]) a0 a37 w))) (l_runA rfl (n_cut (((twoP (Lib.trimSuffix op [61]) a0 a37).1, (twoP (Lib.trimSuffix op [61]) a0 a37).2)) ?_ (sub_rfl rfl) (sub_rfl rfl) (fun _ h => by dsimp only; exact subC_st h))))
   ·dsimp only; obtain ⟨h1, h2⟩ := as_on hc2; exact ⟨fun h => absurd h1 h, fun _ h => absurd h h2, fun _ _ => ⟨rfl, rfl⟩⟩
  ·refine t_skip (n_cut ((a37, e37)) ?_ (sub_rfl rfl) (sub_rfl rfl) (fun _ h => by dsimp only; exact subC_st h))
   ·dsimp only; exact ⟨fun _ => rfl, fun h _ => ⟨rfl, h⟩, fun h h2 => absurd (as_off hc2 h) h2⟩
 rintro ⟨a2, e2⟩ ⟨hz0, hz1, hz2⟩; dsimp only at *; refine t_seq (trun rfl (t_cond rfl (fun hc3 => ?_) (fun hc3 => ?_)))
 ·have he2 : e2 ≠ 0 := by have := of_decide_eq_true hc3; omega
  refine trun rfl (tret (n_ret2 rfl rfl rfl (fun w' hw => ?_))); exact ⟨_, rfl, I, row b 195 [vv, sv37] :: tvec 166 2 asC sv37 S37 :: F, ⟨rfl, 0, e2, sv37, S37, rfl, rfl, asg_fail hr37 ha0 hz0 hz1 hz2 he2⟩, subC_st hw⟩
 ·have he2 : e2 = 0 := by have := of_decide_eq_false hc3; omega
  have hfin := asg_fin hr37 ha0 hz0 hz1 hz2 he2
  have hlen := workP_len k S S37 a37 hfin.1
  refine tskip (t_seq (t_draw [11, 12, 15] [12, 15] [row b 195 [vv, sv37]] mo (by kernel_rfl) (fun _ _ _ _ _ h => h) (r_run [0, 1, 2, 3] (by kernel_rfl) rfl rfl rfl (rq0 4 (by kernel_rfl) rfl (Le.refl _) rfl (fun _ hI => (by exact q_ld rfl rfl (by rfl))) ?_)))); refine r_run [5, 6, 7] (by kernel_rfl) rfl rfl rfl (rq1 8 (by kernel_rfl) rfl rfl ((by exact q_ldr rfl rfl (rd_imm (hrow 1 _ rfl)))) ?_); refine r_run [9] (by kernel_rfl) rfl rfl rfl (rqf 10 (by kernel_rfl) rfl rfl (fun _ => q_build (pl := [(_, _), (_, _)]) (cs := (asC (nm, a2)).toArray) rfl un166 ti166 ⟨rfl, ⟨_, _, ti9⟩, rfl, ⟨_, _, ti2⟩, trivial⟩ rfl rfl) (re 11 (by kernel_rfl) rfl (Le.refl _) rfl (e_buildSlice1 rfl un161 ti166 rfl rfl rfl (by rfl) rfl) ?_)); rintro _ _ _ ⟨b74, rfl, rfl, rfl⟩; refine ⟨Le.refl _, .inr SubC.sub, ?_⟩; refine re 12 (by kernel_rfl) rfl (Le.refl _) rfl (e_appendT (f := asC) (c := (nm, a2)) rfl un161 ti166 rfl rfl rfl rfl rfl rfl rfl (by exact asC_ones _) (by simp only [maxLen]; omega) (by omega)) ?_; rintro v75 _ _ ⟨rfl, rfl⟩; refine ⟨Le.refl _, .inl rfl, ?_⟩; refine r_one v75 (fun hone => ?_); refine r_run [13, 14] (by kernel_rfl) rfl rfl rfl ?_; refine r_e0 15 (by kernel_rfl) (by kernel_rfl) rfl (Le.refl _) rfl rfl (e_storeS rfl ti161 rfl rfl (by assumption) rfl (by (simp only [List.set_cons_succ, List.set_cons_zero]; rfl))) ?_; rintro _ _ _ ⟨rfl, rfl⟩; refine ⟨Le.refl _, .inl rfl, ?_⟩; refine r_heap (H' := row b 195 [vv, v75] :: _) ?_ (fun _ h => h)
  refine r_end (by kernel_rfl) (n_then (trun rfl (t_ret (n_ret2 rfl rfl rfl (fun w' hw => ?_))))); exact ⟨_, rfl, I, row b 195 [vv, v75] :: tvec 166 2 asC v75 (S37 ++ [(nm, a2)]) :: F, ⟨rfl, a2, 0, v75, (S37 ++ [(nm, a2)]), rfl, rfl, wk_ok hfin.2⟩, subC_st hw⟩
theorem var_rel {vs : List (List UInt8 × List UInt8)} {S : List Ass} {nm : List UInt8} : WkRel (workP vs (.var nm) S) (worthP vs S nm).1 (worthP vs S nm).2 S := by
 simp only [workP]
 by_cases h : (worthP vs S nm).2 = 0
 ·rw [if_pos h]; exact ⟨h, rfl, rfl⟩
 ·rw [if_neg h]; exact ⟨rfl, h⟩
theorem una_out {op : List UInt8} (h1 : op ≠ [49, 43]) (h2 : op ≠ [49, 45]) (h3 : op ≠ [49, 126]) (h4 : op ≠ [49, 33]) : op ∉ unaS := fun h => by
 simp only [unaS, List.mem_cons, List.not_mem_nil, or_false] at h; rcases h with h | h | h | h
 ·exact h1 h
 ·exact h2 h
 ·exact h4 h
 ·exact h3 h
theorem work_calls (x : Ex) (ih : ∀ y : Ex, (∃ i : Nat, (kidsE x)[i]? = some y) → WorkC 100 y) (ihA : ∀ op nm k, x = .asg op nm k → WorkC 123 x) (b : Nat) (vv sv : Value) (vars : List Vr) (S : List Ass) (q : Nat) (I : Look) (F : List HA) (w0 w : World) (hx : ExAt I x q) (hv : Sl I 5 vv (vars.map vrC)) (hV : VarsOk vars) (hS : S.length + szE x ≤ 1000000000) (hw0 : St w0 I (row b 195 [vv, sv] :: tvec 166 2 asC sv S :: F) w) : Calls Tryz.prog 100 [pAt b, pAt q].toArray w (fun e w' => ∃ v, e = .returned v ∧ ∃ I' H', (I = I' ∧ ∃ (a : Int) (e1 : Nat) (sv' : Value) (S' : List Ass), v = .tuple #[.int .i64 a, .int .i64 (e1 : Int)] ∧ H' = row b 195 [vv, sv'] :: tvec 166 2 asC sv' S' :: F ∧ WkRel (workP (vars.map Vr.nv) x S) a e1 S') ∧ St w I' H' w') := by
 obtain ⟨kv, vs, hrow, hkv, hvl, hkids⟩ := hx.row; refine enter Tryz.func100 rfl Tryz.ntmps100 rfl (hw0.self) (trun rfl (t_seq (t_block (tr (l_run 3 rfl (lq rfl ((by exact q_ldr rfl rfl (rd_imm (hrow 0 _ rfl)))) ?_)))))); refine lq rfl (q_eql_str rfl rfl rfl) (lrun rfl (t_cond rfl (fun hc0 => ?_) (fun hc0 => ?_)))
 ·obtain ⟨n, rfl⟩ := ex_num hx (of_decide_eq_true hc0); refine tr (l_run 3 rfl (lq rfl ((by exact q_ldr rfl rfl (rd_imm (hrow 2 _ rfl)))) ?_)); refine lrun rfl (tret (n_ret2 rfl rfl rfl (fun w' hw => ?_))); exact ⟨_, rfl, I, row b 195 [vv, sv] :: tvec 166 2 asC sv S :: F, ⟨rfl, n, 0, sv, S, rfl, rfl, wk_ok rfl⟩, subC_st hw⟩
 ·have h0 : opE x ≠ [] := of_decide_eq_false hc0
  refine tr (l_run 3 rfl (lq rfl ((by exact q_ldr rfl rfl (rd_imm (hrow 0 _ rfl)))) ?_)); refine lq rfl (q_eql_str rfl rfl rfl) (lrun rfl (t_cond rfl (fun hc1 => ?_) (fun hc1 => ?_)))
  ·obtain ⟨nm, rfl⟩ := ex_var hx (of_decide_eq_true hc1); refine tr (l_run 4 rfl (lq rfl ((by exact q_ldr rfl rfl (rd_imm (hrow 1 _ rfl)))) ?_)); refine lq rfl (qc rfl rfl rfl ((fun w hw => worth_pure b vv sv vars S nm w (rowI_of (b := b) hw) (hv.mono hw.le) (sl_vec (v := sv) (S := S) hw) hV (by omega)))) ?_; refine lrun rfl (tret (n_ret2 rfl rfl rfl (fun w' hw => ?_))); exact ⟨_, rfl, I, row b 195 [vv, sv] :: tvec 166 2 asC sv S :: F, ⟨rfl, (worthP (vars.map Vr.nv) S nm).1, (worthP (vars.map Vr.nv) S nm).2, sv, S, rfl, rfl, var_rel⟩, subC_st hw⟩
  ·have h1 : opE x ≠ nameS := of_decide_eq_false hc1
   refine tr (l_run 3 rfl (lq rfl ((by exact q_ldr rfl rfl (rd_imm (hrow 1 _ rfl)))) ?_)); refine lq rfl (q_neq_str rfl rfl rfl) (lrun rfl (t_cond rfl (fun hc2 => ?_) (fun hc2 => ?_)))
   ·obtain ⟨op, nm, k, rfl⟩ := ex_asg h1 (of_decide_eq_true hc2); refine tr (l_run 2 rfl (lec rfl rfl rfl rfl (fun w hw => (ihA op nm k rfl) b vv sv vars S q _ _ _ w hx hv hV hS (picks_st2 (row b 195 [vv, sv]) (tvec 166 2 asC sv S) hw)) ?_)); rintro _ _ _ ⟨rfl, a43, e43, sv43, S43, rfl, rfl, hr43⟩; refine lrun rfl (tret (n_ret2 rfl rfl rfl (fun w' hw => ?_))); exact ⟨_, rfl, I, row b 195 [vv, sv43] :: tvec 166 2 asC sv43 S43 :: F, ⟨rfl, a43, e43, sv43, S43, rfl, rfl, hr43⟩, subC_st hw⟩
   ·have hnm : nmE x = [] := Decidable.not_not.1 (of_decide_eq_false hc2)
    refine t_skip (n_block (n_then (t_seq ?_))); obtain ⟨y0, hy0⟩ := ex_kid hx h0 h1; obtain ⟨a0, ha0, hx0⟩ := hkids 0 y0 hy0
    have hvl1 : 0 < vs.length := by have := (List.getElem?_eq_some_iff.1 ha0).1; omega
    refine t_region (l_run 4 rfl (lq rfl ((by exact q_ldr rfl rfl (rd_imm (hrow 3 _ rfl)))) ?_)); refine lq rfl ((by exact q_indexAddrN rfl un210 ti190 rfl rfl (Sl.shape hkv (List.length_map _)) (by omega))) ?_; refine lq rfl ((by exact q_ldr rfl rfl (sl_row1_at (i := 0) hkv ha0))) ?_; refine lec rfl rfl rfl rfl (fun w hw => (ih y0 ⟨0, hy0⟩) b vv sv vars S a0 _ _ _ w hx0 hv hV (by have := kid_sz hy0; omega) (picks_st2 (row b 195 [vv, sv]) (tvec 166 2 asC sv S) hw)) ?_; rintro _ _ _ ⟨rfl, a54, e54, sv54, S54, rfl, rfl, hr54⟩; refine lrun rfl (t_seq (trun rfl (t_cond rfl (fun hc3 => ?_) (fun hc3 => ?_))))
    ·have he : e54 ≠ 0 := by have := of_decide_eq_true hc3; omega
     refine trun rfl (tret (n_ret2 rfl rfl rfl (fun w' hw => ?_))); exact ⟨_, rfl, I, row b 195 [vv, sv54] :: tvec 166 2 asC sv54 S54 :: F, ⟨rfl, 0, e54, sv54, S54, rfl, rfl, wk_bad (work_bad0 hx hnm hy0 (hr54.f he)) he⟩, subC_st hw⟩
    ·have he : e54 = 0 := by have := of_decide_eq_false hc3; omega
     have hk := hr54.t he
     have hlen := workP_len y0 S S54 a54 hk
     refine tskip (t_seq (tr (l_run 3 rfl (lq rfl ((by exact q_ldr rfl rfl (rd_imm (hrow 0 _ rfl)))) ?_)))); refine ln (t_block (tr (lq rfl (q_eql_str rfl rfl rfl) (lrun rfl (t_cond rfl (fun hc4 => ?_) (fun hc4 => ?_))))))
     ·have ho : opE x = [49, 43] := of_decide_eq_true hc4
      obtain ⟨k1, rfl⟩ := ex_una hx hnm ho (by decide)
      cases hy0
      refine trun rfl (tret (n_ret2 rfl rfl rfl (fun w' hw => ?_))); exact ⟨_, rfl, I, row b 195 [vv, sv54] :: tvec 166 2 asC sv54 S54 :: F, ⟨rfl, a54, 0, sv54, S54, rfl, rfl, wk_ok (una_at hk (by rfl))⟩, subC_st hw⟩
     ·have ho4 : opE x ≠ [49, 43] := of_decide_eq_false hc4
      refine tr (lq rfl (q_eql_str rfl rfl rfl) (lrun rfl (t_cond rfl (fun hc5 => ?_) (fun hc5 => ?_))))
      ·have ho : opE x = [49, 45] := of_decide_eq_true hc5
       obtain ⟨k1, rfl⟩ := ex_una hx hnm ho (by decide)
       cases hy0
       refine tr (l_run 1 rfl (lq rfl (q_neg rfl rfl) (lrun rfl (tret (n_ret2 rfl rfl rfl (fun w' hw => ?_)))))); exact ⟨_, rfl, I, row b 195 [vv, sv54] :: tvec 166 2 asC sv54 S54 :: F, ⟨rfl, _, 0, sv54, S54, rfl, rfl, wk_ok (una_at hk (by rfl))⟩, subC_st hw⟩
      ·have ho5 : opE x ≠ [49, 45] := of_decide_eq_false hc5
       refine tr (lq rfl (q_eql_str rfl rfl rfl) (lrun rfl (t_cond rfl (fun hc6 => ?_) (fun hc6 => ?_))))
       ·have ho : opE x = [49, 126] := of_decide_eq_true hc6
        obtain ⟨k1, rfl⟩ := ex_una hx hnm ho (by decide)
        cases hy0
        refine tr (l_run 1 rfl (lq rfl (q_unxor rfl rfl) (lrun rfl (tret (n_ret2 rfl rfl rfl (fun w' hw => ?_)))))); exact ⟨_, rfl, I, row b 195 [vv, sv54] :: tvec 166 2 asC sv54 S54 :: F, ⟨rfl, _, 0, sv54, S54, rfl, rfl, wk_ok (una_at hk (by rfl))⟩, subC_st hw⟩
       ·have ho6 : opE x ≠ [49, 126] := of_decide_eq_false hc6
        refine tr (lq rfl (q_eql_str rfl rfl rfl) (lrun rfl (t_cond rfl (fun hc7 => ?_) (fun hc7 => ?_))))
        ·have ho : opE x = [49, 33] := of_decide_eq_true hc7
         obtain ⟨k1, rfl⟩ := ex_una hx hnm ho (by decide)
         cases hy0
         refine tr (l_run 2 rfl (lq rfl (qc rfl rfl rfl ((fun w _ => truth_pure _ w))) (lrun rfl (tret (n_ret2 rfl rfl rfl (fun w' hw => ?_)))))); exact ⟨_, rfl, I, row b 195 [vv, sv54] :: tvec 166 2 asC sv54 S54 :: F, ⟨rfl, _, 0, sv54, S54, rfl, rfl, wk_ok (una_at hk (by rfl))⟩, subC_st hw⟩
        ·have ho7 : opE x ≠ [49, 33] := of_decide_eq_false hc7
         refine tr (lq rfl (q_eql_str rfl rfl rfl) (lrun rfl (t_cond rfl (fun hc8 => ?_) (fun hc8 => ?_))))
         ·obtain ⟨y, y1, y2, rfl⟩ := ex_cho hx hnm (of_decide_eq_true hc8)
          cases hy0
          have hvl3 : vs.length = 3 := hvl
          refine t_seq (trun rfl (t_cond rfl (fun hc9 => ?_) (fun hc9 => ?_)))
          ·refine t_seq ?_; obtain ⟨a1, hva1, hxa1⟩ := hkids 1 y1 rfl; refine t_region (l_run 4 rfl (lq rfl ((by exact q_ldr rfl rfl (rd_imm (hrow 3 _ rfl)))) ?_)); refine lq rfl ((by exact q_indexAddr rfl un210 ti190 rfl rfl (Sl.shape hkv (List.length_map _)) (by omega))) ?_; refine lq rfl ((by exact q_ldr rfl rfl (sl_row1_at (i := 1) hkv hva1))) ?_; refine lec rfl rfl rfl rfl (fun w hw => (ih y1 ⟨1, rfl⟩) b vv sv54 vars S54 a1 _ _ _ w hxa1 hv hV (by simp only [szE] at hS; omega) (picks_st2 (row b 195 [vv, sv54]) (tvec 166 2 asC sv54 S54) hw)) ?_; rintro _ _ _ ⟨rfl, a91, e91, sv91, S91, rfl, rfl, hr91⟩; refine lrun rfl (tret (n_ret2 rfl rfl rfl (fun w' hw => ?_))); exact ⟨_, rfl, I, row b 195 [vv, sv91] :: tvec 166 2 asC sv91 S91 :: F, ⟨rfl, a91, e91, sv91, S91, rfl, rfl, cho_t hk (of_decide_eq_true hc9) hr91⟩, subC_st hw⟩
          ·refine tskip (t_seq ?_); obtain ⟨a2, hva2, hxa2⟩ := hkids 2 y2 rfl; refine t_region (l_run 4 rfl (lq rfl ((by exact q_ldr rfl rfl (rd_imm (hrow 3 _ rfl)))) ?_)); refine lq rfl ((by exact q_indexAddr rfl un210 ti190 rfl rfl (Sl.shape hkv (List.length_map _)) (by omega))) ?_; refine lq rfl ((by exact q_ldr rfl rfl (sl_row1_at (i := 2) hkv hva2))) ?_; refine lec rfl rfl rfl rfl (fun w hw => (ih y2 ⟨2, rfl⟩) b vv sv54 vars S54 a2 _ _ _ w hxa2 hv hV (by simp only [szE] at hS; omega) (picks_st2 (row b 195 [vv, sv54]) (tvec 166 2 asC sv54 S54) hw)) ?_; rintro _ _ _ ⟨rfl, a101, e101, sv101, S101, rfl, rfl, hr101⟩; refine lrun rfl (tret (n_ret2 rfl rfl rfl (fun w' hw => ?_))); exact ⟨_, rfl, I, row b 195 [vv, sv101] :: tvec 166 2 asC sv101 S101 :: F, ⟨rfl, a101, e101, sv101, S101, rfl, rfl, cho_f hk (of_decide_eq_false hc9) hr101⟩, subC_st hw⟩
         ·have ho8 : opE x ≠ [63] := of_decide_eq_false hc8
          obtain ⟨x1, y1, hxe⟩ := ex_bin hx hnm h0 h1 (una_out ho4 ho5 ho6 ho7) ho8
          have hy1 : (kidsE x)[1]? = some y1 := by rw [hxe]; rfl
          have hy00 : y0 = x1 := by rw [hxe] at hy0; cases hy0; rfl
          have hsz : szE x = szE y0 + szE y1 + 1 := by rw [hxe, hy00]; rfl
          refine t_cutE (ι := Unit) (fun _ => True) (fun _ => [(104, .bool (decide (opE x = [38, 38] ∨ opE x = [124, 124])))]) [(0, _), (1, _), (4, _), (5, _), (11, _), (21, _), (35, _), (6, _), (7, _), (58, _), (63, _), (64, _), (67, _), (71, _), (75, _), (80, _)] (fun _ => I) (fun _ => (row b 195 [vv, sv54] :: tvec 166 2 asC sv54 S54 :: F)) (sub_rfl rfl) ?_ ?_
          ·refine tr (lq rfl (q_eql_str rfl rfl rfl) (lrun rfl (t_cond rfl (fun hc10 => ?_) (fun hc10 => ?_))))
           ·refine t_skip (n_cut (()) ?_ (sub_cons' rfl (by rw [hc10, decide_eq_true (Or.inl (of_decide_eq_true hc10))]) (sub_nil)) (sub_rfl rfl) (fun _ h => by dsimp only; exact subC_st h))
            ·trivial
           ·refine t_region (lq rfl (q_eql_str rfl rfl rfl) (l_runA rfl (n_cut (()) ?_ (sub_cons' rfl (congrArg Value.bool (by rw [decide_eq_decide]; exact ⟨Or.inr, fun h => h.resolve_left (of_decide_eq_false hc10)⟩)) (sub_nil)) (sub_rfl rfl) (fun _ h => by dsimp only; exact subC_st h))))
            ·trivial
          rintro _ _; refine t_cond rfl (fun hc11 => ?_) (fun hc11 => ?_)
          ·have hlo := of_decide_eq_true hc11
           refine t_seq (tr (l_run 5 rfl (lq rfl ((by exact q_ldr rfl rfl (rd_imm (hrow 0 _ rfl)))) ?_))); refine lq rfl (q_eql_str rfl rfl rfl) (lq rfl (q_eql_bool rfl un4 rfl rfl) (ln (t_cond rfl (fun hc12 => ?_) (fun hc12 => ?_))))
           ·refine tr (l_run 2 rfl (lq rfl (qc rfl rfl rfl ((fun w _ => truth_pure _ w))) (lrun rfl (tret (n_ret2 rfl rfl rfl (fun w' hw => ?_)))))); exact ⟨_, rfl, I, row b 195 [vv, sv54] :: tvec 166 2 asC sv54 S54 :: F, ⟨rfl, _, 0, sv54, S54, rfl, rfl, by rw [hxe]; exact wk_ok (bin_logic (hy00 ▸ hk) hlo hc12)⟩, subC_st hw⟩
           ·refine tskip (t_seq ?_); obtain ⟨a1, hva1, hxa1⟩ := hkids 1 y1 hy1
            have hvl2 : 1 < vs.length := (List.getElem?_eq_some_iff.1 hva1).1
            refine t_region (l_run 4 rfl (lq rfl ((by exact q_ldr rfl rfl (rd_imm (hrow 3 _ rfl)))) ?_)); refine lq rfl ((by exact q_indexAddrN rfl un210 ti190 rfl rfl (Sl.shape hkv (List.length_map _)) (by omega))) ?_; refine lq rfl ((by exact q_ldr rfl rfl (sl_row1_at (i := 1) hkv hva1))) ?_; refine lec rfl rfl rfl rfl (fun w hw => (ih y1 ⟨1, hy1⟩) b vv sv54 vars S54 a1 _ _ _ w hxa1 hv hV (by have := kid_sz hy0; omega) (picks_st2 (row b 195 [vv, sv54]) (tvec 166 2 asC sv54 S54) hw)) ?_; rintro _ _ _ ⟨rfl, a126, e126, sv126, S126, rfl, rfl, hr126⟩; refine lrun rfl (tr (l_run 2 rfl (lq rfl (qc rfl rfl rfl ((fun w _ => truth_pure _ w))) (lrun rfl (tret (n_ret2 rfl rfl rfl (fun w' hw => ?_))))))); exact ⟨_, rfl, I, row b 195 [vv, sv126] :: tvec 166 2 asC sv126 S126 :: F, ⟨rfl, _, e126, sv126, S126, rfl, rfl, by rw [hxe, bin_logic2 (hy00 ▸ hk) hlo hc12]; exact logic_rel hr126⟩, subC_st hw⟩
          ·have hlo := of_decide_eq_false hc11
           refine t_skip (n_block (n_then (t_seq ?_))); obtain ⟨a1, hva1, hxa1⟩ := hkids 1 y1 hy1
           have hvl2 : 1 < vs.length := (List.getElem?_eq_some_iff.1 hva1).1
           refine t_region (l_run 4 rfl (lq rfl ((by exact q_ldr rfl rfl (rd_imm (hrow 3 _ rfl)))) ?_)); refine lq rfl ((by exact q_indexAddrN rfl un210 ti190 rfl rfl (Sl.shape hkv (List.length_map _)) (by omega))) ?_; refine lq rfl ((by exact q_ldr rfl rfl (sl_row1_at (i := 1) hkv hva1))) ?_; refine lec rfl rfl rfl rfl (fun w hw => (ih y1 ⟨1, hy1⟩) b vv sv54 vars S54 a1 _ _ _ w hxa1 hv hV (by have := kid_sz hy0; omega) (picks_st2 (row b 195 [vv, sv54]) (tvec 166 2 asC sv54 S54) hw)) ?_; rintro _ _ _ ⟨rfl, a141, e141, sv141, S141, rfl, rfl, hr141⟩; refine lrun rfl (t_seq (trun rfl (t_cond rfl (fun hc13 => ?_) (fun hc13 => ?_))))
           ·have he2 : e141 ≠ 0 := by have := of_decide_eq_true hc13; omega
            refine trun rfl (tret (n_ret2 rfl rfl rfl (fun w' hw => ?_))); exact ⟨_, rfl, I, row b 195 [vv, sv141] :: tvec 166 2 asC sv141 S141 :: F, ⟨rfl, 0, e141, sv141, S141, rfl, rfl, wk_bad (by rw [hxe, bin_plain (hy00 ▸ hk) hlo, hr141.f he2]; rfl) he2⟩, subC_st hw⟩
           ·have he2 : e141 = 0 := by have := of_decide_eq_false hc13; omega
            refine tskip (tr (l_run 3 rfl (lq rfl ((by exact q_ldr rfl rfl (rd_imm (hrow 0 _ rfl)))) ?_))); refine l_run 2 rfl (lq rfl (qc rfl rfl rfl ((fun w _ => two_pure (opE x) a54 a141 w))) (lrun rfl (t_ret (n_ret2 rfl rfl rfl (fun w' hw => ?_))))); exact ⟨_, rfl, I, row b 195 [vv, sv141] :: tvec 166 2 asC sv141 S141 :: F, ⟨rfl, _, _, sv141, S141, rfl, rfl, by rw [hxe, bin_plain (hy00 ▸ hk) hlo, hr141.t he2]; exact two_rel⟩, subC_st hw⟩
theorem work_all : ∀ x, WorkC 100 x
 | .num n => fun b vv sv vars S q I F w0 w hx hv hV hS hw0 => work_calls (.num n) (fun y ⟨i, h⟩ => by cases h) (fun _ _ _ h => by cases h) b vv sv vars S q I F w0 w hx hv hV hS hw0
 | .var nm => fun b vv sv vars S q I F w0 w hx hv hV hS hw0 => work_calls (.var nm) (fun y ⟨i, h⟩ => by cases h) (fun _ _ _ h => by cases h) b vv sv vars S q I F w0 w hx hv hV hS hw0
 | .asg op nm k =>
  have hk := work_all k
  fun b vv sv vars S q I F w0 w hx hv hV hS hw0 => work_calls (.asg op nm k) (fun y ⟨i, h⟩ => by
   match i, h with
   | 0, h => cases h; exact hk
   | i + 1, h => cases h) (fun _ _ _ h => by
    cases h
    exact fun b vv sv vars S q I F w0 w hx hv hV hS hw0 => assign_calls op nm k hk b vv sv vars S q I F w0 w hx hv hV hS hw0) b vv sv vars S q I F w0 w hx hv hV hS hw0
 | .una op k =>
  have hk := work_all k
  fun b vv sv vars S q I F w0 w hx hv hV hS hw0 => work_calls (.una op k) (fun y ⟨i, h⟩ => by
   match i, h with
   | 0, h => cases h; exact hk
   | i + 1, h => cases h) (fun _ _ _ h => by cases h) b vv sv vars S q I F w0 w hx hv hV hS hw0
 | .bin op x y =>
  have hk := work_all x
  have hk2 := work_all y
  fun b vv sv vars S q I F w0 w hx hv hV hS hw0 => work_calls (.bin op x y) (fun y ⟨i, h⟩ => by
   match i, h with
   | 0, h => cases h; exact hk
   | 1, h => cases h; exact hk2
   | i + 2, h => cases h) (fun _ _ _ h => by cases h) b vv sv vars S q I F w0 w hx hv hV hS hw0
 | .cho x y z =>
  have hk := work_all x
  have hk2 := work_all y
  have hk3 := work_all z
  fun b vv sv vars S q I F w0 w hx hv hV hS hw0 => work_calls (.cho x y z) (fun y ⟨i, h⟩ => by
   match i, h with
   | 0, h => cases h; exact hk
   | 1, h => cases h; exact hk2
   | 2, h => cases h; exact hk3
   | i + 3, h => cases h) (fun _ _ _ h => by cases h) b vv sv vars S q I F w0 w hx hv hV hS hw0
end Go.Tri

/-
 An expression as it is worked.
-/
namespace Go.Tri
open Go.Proofs Go.RowKit
set_option maxRecDepth 10000
theorem ev_read {s : List UInt8} {vs : List (List UInt8 × List UInt8)} {e : Nat} (h : readA s = .bad e) : evalP s vs = (0, [], e) := by
 unfold evalP; rw [h]
theorem ev_bad {s : List UInt8} {vs : List (List UInt8 × List UInt8)} {x : Ex} {e : Nat} (h : readA s = .ok x) (hw : workP vs x [] = .bad e) : evalP s vs = (0, [], e) := by
 unfold evalP; rw [h]; simp only; rw [hw]
theorem ev_ok {s : List UInt8} {vs : List (List UInt8 × List UInt8)} {x : Ex} {v : Int} {S : List Ass} (h : readA s = .ok x) (hw : workP vs x [] = .ok v S) : evalP s vs = (v, S, 0) := by
 unfold evalP; rw [h]; simp only; rw [hw]
theorem eval_calls (s : List UInt8) (vv : Value) (vars : List Vr) (I : Look) (F : List HA) (w0 w : World) (hs : s.length ≤ 900000000) (hv : Sl I 5 vv (vars.map vrC)) (hV : VarsOk vars) (hG : EnvI I) (hw0 : St w0 I F w) : Calls Tryz.prog 78 [str s, vv].toArray w (fun e w' => ∃ v, e = .returned v ∧ ∃ I' H', (Le I I' ∧ F = H' ∧ ∃ sl, v = .tuple #[.int .i64 (evalP s (vars.map Vr.nv)).1, sl, .int .i64 ((evalP s (vars.map Vr.nv)).2.2 : Int)] ∧ Sl I' 2 sl ((evalP s (vars.map Vr.nv)).2.1.map asC)) ∧ St w I' H' w') := by
 refine enter Tryz.func78 rfl Tryz.ntmps78 rfl (hw0.self) (trun rfl (tr (l_run 1 rfl (lec rfl rfl rfl rfl (fun w hw => aread_calls s _ _ _ w hs hG hw) ?_)))); rintro _ J13 _ ⟨hJ13, rfl, q13, e13, rfl, hr13⟩; refine lrun rfl (t_seq (trun rfl (t_cond rfl (fun hc0 => ?_) (fun hc0 => ?_))))
 ·have he : e13 ≠ 0 := by have := of_decide_eq_true hc0; omega
  have hE := ev_read (vs := (vars.map Vr.nv)) (hr13.f he)
  refine trun rfl (tret (n_ret3 rfl rfl rfl rfl (fun w' hw => ?_))); refine ⟨_, rfl, J13, _, ⟨hJ13, rfl, nilS, ?_, ?_⟩, hw⟩
  ·rw [hE]; rfl
  ·rw [hE]; exact sl_nil (fun _ h => by cases h)
 ·have he : e13 = 0 := by have := of_decide_eq_false hc0; omega
  obtain ⟨x13, hx, hxa⟩ := hr13.t he; refine tskip (tr (l_run 1 rfl (lq rfl (q_build (pl := [(_, _), (_, _)]) (cs := ([vv, .slice none 0 0]).toArray) rfl un195 ti195 ⟨rfl, ⟨_, _, ti22⟩, rfl, ⟨_, _, ti161⟩, trivial⟩ rfl (by obtain ⟨A, c, h⟩ := Sl.lenOf hv rfl; rw [h]; rfl)) ?_))); refine le rfl (e_box rfl rfl rfl) ?_; rintro _ _ _ ⟨b21, rfl, rfl, rfl⟩; refine l_heap (H' := row b21 195 [vv, (.slice none 0 0)] :: tvec 166 2 asC (.slice none 0 0) [] :: F) ?_ (fun _ h => subC_st (st_nilT 166 2 asC h)); refine lrun rfl (tr (l_run 2 rfl (lec rfl rfl rfl rfl (fun w hw => work_all x13 b21 vv (.slice none 0 0) vars [] q13 _ _ _ w hxa (hv.mono hJ13) hV (by have := readA_sz hs hx; simp only [List.length_nil]; omega) (picks_st2 (row b21 195 [vv, (.slice none 0 0)]) (tvec 166 2 asC (.slice none 0 0) []) hw)) ?_))); rintro _ _ _ ⟨rfl, a25, e25, sv25, S25, rfl, rfl, hr25⟩; refine lrun rfl (t_seq (trun rfl (t_cond rfl (fun hc1 => ?_) (fun hc1 => ?_))))
  ·have he2 : e25 ≠ 0 := by have := of_decide_eq_true hc1; omega
   have hE := ev_bad hx (hr25.f he2)
   refine trun rfl (tret (n_ret3 rfl rfl rfl rfl (fun w' hw => ?_))); refine ⟨_, rfl, J13, F, ⟨hJ13, rfl, nilS, ?_, ?_⟩, subC_st hw⟩
   ·rw [hE]; rfl
   ·rw [hE]; exact sl_nil (fun _ h => by cases h)
  ·have he2 : e25 = 0 := by have := of_decide_eq_false hc1; omega
   have hE := ev_ok hx (hr25.t he2)
   refine tskip (t_seq (t_freezeT (f := asC) (l := S25) sv25 (fun _ => rfl) (fun J8 hJ8 hsl => ?_))); refine t_qdraw mo (by kernel_rfl) (fun _ _ _ _ _ h => h) (s_run 4 rfl (sq rfl (q_ld rfl rfl (by rfl)) ?_)); refine s_run 3 rfl (sdn (t_ret (n_ret3 rfl rfl rfl rfl (fun w' hw => ?_)))); refine ⟨_, rfl, J8, F, ⟨hJ13.trans hJ8, rfl, sv25, ?_, ?_⟩, subC_st hw⟩
   ·rw [hE]; rfl
   ·rw [hE]; exact hsl
end Go.Tri
