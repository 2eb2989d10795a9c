/-
  What a tree is worth.
-/
import Derived.Test.YtjdcefhllbfacaaDoorAB1
namespace Go.Tri
open Go.Proofs Go.RowKit
theorem ExAt.row {J : Look} : ∀ {x : Ex} {q : Nat}, ExAt J x q → ∃ (kv : Value) (vs : List Value), RowI J q (exC (opE x) (nmE x) (nE x) kv) ∧ Sl J 1 kv (vs.map fun v => [v]) ∧ vs.length = (kidsE x).length ∧ ∀ (i : Nat) (y : Ex), (kidsE x)[i]? = some y → ∃ a, vs[i]? = some (pAt a) ∧ ExAt J y a
  | .num n, q, h => ⟨nilS, [], h, sl_nil (fun _ h => by cases h), rfl, fun _ _ h => by cases h⟩
  | .var nm, q, h => ⟨nilS, [], h, sl_nil (fun _ h => by cases h), rfl, fun _ _ h => by cases h⟩
  | .asg op nm k, q, ⟨_, kv, a, h1, h2, h3⟩ => ⟨kv, [pAt a], h1, h2, rfl, fun i y h => by
      match i, h with
      | 0, h => cases h; exact ⟨a, rfl, h3⟩
      | i + 1, h => cases h⟩
  | .una op k, q, ⟨_, kv, a, h1, h2, h3⟩ => ⟨kv, [pAt a], h1, h2, rfl, fun i y h => by
      match i, h with
      | 0, h => cases h; exact ⟨a, rfl, h3⟩
      | i + 1, h => cases h⟩
  | .bin op x y, q, ⟨_, kv, a, b, h1, h2, h3, h4⟩ => ⟨kv, [pAt a, pAt b], h1, h2, rfl, fun i y h => by
      match i, h with
      | 0, h => cases h; exact ⟨a, rfl, h3⟩
      | 1, h => cases h; exact ⟨b, rfl, h4⟩
      | i + 2, h => cases h⟩
  | .cho x y z, q, ⟨kv, a, b, c, h1, h2, h3, h4, h5⟩ => ⟨kv, [pAt a, pAt b, pAt c], h1, h2, rfl, fun i y h => by
      match i, h with
      | 0, h => cases h; exact ⟨a, rfl, h3⟩
      | 1, h => cases h; exact ⟨b, rfl, h4⟩
      | 2, h => cases h; exact ⟨c, rfl, h5⟩
      | i + 3, h => cases h⟩
theorem nil_una : [] ∉ unaS := by decide
theorem ex_num {J : Look} {x : Ex} {q : Nat} (h : ExAt J x q) (ho : opE x = []) : ∃ n, x = .num n := by
  cases x with
  | num n => exact ⟨n, rfl⟩
  | var nm => cases ho
  | asg op nm k => exact absurd ho h.1.1
  | una op k => exact absurd (ho ▸ h.1 : [] ∈ unaS) nil_una
  | bin op a b => exact absurd ho h.1.1
  | cho a b c => cases ho
theorem ex_var {J : Look} {x : Ex} {q : Nat} (h : ExAt J x q) (ho : opE x = nameS) : ∃ nm, x = .var nm := by
  cases x with
  | num n => cases ho
  | var nm => exact ⟨nm, rfl⟩
  | asg op nm k => exact absurd ho h.1.2.1
  | una op k => exact absurd (show nameS ∈ unaS from ho ▸ h.1) (by decide)
  | bin op a b => exact absurd ho h.1.2.1
  | cho a b c => cases ho
theorem ex_asg {x : Ex} (h1 : opE x ≠ nameS) (hn : nmE x ≠ []) : ∃ op nm k, x = .asg op nm k := by
  cases x with
  | num n => exact absurd rfl hn
  | var nm => exact absurd rfl h1
  | asg op nm k => exact ⟨op, nm, k, rfl⟩
  | una op k => exact absurd rfl hn
  | bin op a b => exact absurd rfl hn
  | cho a b c => exact absurd rfl hn
theorem ex_una {J : Look} {x : Ex} {q : Nat} (h : ExAt J x q) (hn : nmE x = []) {op : List UInt8} (ho : opE x = op) (hu : op ∈ unaS) : ∃ k, x = .una op k := by
  subst ho
  cases x with
  | num n => exact absurd hu nil_una
  | var nm => exact absurd (show nameS ∈ unaS from hu) (by decide)
  | asg op nm k => exact absurd hn h.1.2.2.1
  | una op k => exact ⟨k, rfl⟩
  | bin op a b => exact absurd hu h.1.2.2.1
  | cho a b c => exact absurd (show [63] ∈ unaS from hu) (by decide)
theorem ex_cho {J : Look} {x : Ex} {q : Nat} (h : ExAt J x q) (hn : nmE x = []) (ho : opE x = [63]) : ∃ a b c, x = .cho a b c := by
  cases x with
  | num n => cases ho
  | var nm => cases ho
  | asg op nm k => exact absurd hn h.1.2.2.1
  | una op k => exact absurd (show [63] ∈ unaS from ho ▸ h.1) (by decide)
  | bin op a b => exact absurd ho h.1.2.2.2
  | cho a b c => exact ⟨a, b, c, rfl⟩
theorem ex_bin {J : Look} {x : Ex} {q : Nat} (h : ExAt J x q) (hn : nmE x = []) (h0 : opE x ≠ []) (h1 : opE x ≠ nameS) (hu : opE x ∉ unaS) (hc : opE x ≠ [63]) : ∃ a b, x = .bin (opE x) a b := by
  cases x with
  | num n => exact absurd rfl h0
  | var nm => exact absurd rfl h1
  | asg op nm k => exact absurd hn h.1.2.2.1
  | una op k => exact absurd h.1 hu
  | bin op a b => exact ⟨a, b, rfl⟩
  | cho a b c => exact absurd rfl hc
theorem ex_kid {J : Look} {x : Ex} {q : Nat} (h : ExAt J x q) (h0 : opE x ≠ []) (h1 : opE x ≠ nameS) : ∃ y, (kidsE x)[0]? = some y := by
  cases x with
  | num n => exact absurd rfl h0
  | var nm => exact absurd rfl h1
  | asg op nm k => exact ⟨k, rfl⟩
  | una op k => exact ⟨k, rfl⟩
  | bin op a b => exact ⟨a, rfl⟩
  | cho a b c => exact ⟨a, rfl⟩
theorem kid_sz {x y : Ex} {i : Nat} (h : (kidsE x)[i]? = some y) : szE y + 1 ≤ szE x := by
  cases x with
  | num n => cases h
  | var nm => cases h
  | asg op nm k =>
    match i, h with
    | 0, h => cases h; simp only [szE]; omega
    | i + 1, h => cases h
  | una op k =>
    match i, h with
    | 0, h => cases h; simp only [szE]; omega
    | i + 1, h => cases h
  | bin op a b =>
    match i, h with
    | 0, h => cases h; simp only [szE]; omega
    | 1, h => cases h; simp only [szE]; omega
    | i + 2, h => cases h
  | cho a b c =>
    match i, h with
    | 0, h => cases h; simp only [szE]; omega
    | 1, h => cases h; simp only [szE]; omega
    | 2, h => cases h; simp only [szE]; omega
    | i + 3, h => cases h
/-- what working left behind -/
def WkRel (r : WR) (a : Int) (e : Nat) (S' : List Ass) : Prop := match r with
  | .ok a' S1 => e = 0 ∧ a = a' ∧ S' = S1
  | .bad e2 => e = e2 ∧ e ≠ 0
theorem WkRel.t {r : WR} {a : Int} {e : Nat} {S' : List Ass} (h : WkRel r a e S') (he : e = 0) : r = .ok a S' := by
  cases r with
  | ok a' S1 => rw [h.2.1, h.2.2]
  | bad e2 => exact absurd he h.2
theorem WkRel.f {r : WR} {a : Int} {e : Nat} {S' : List Ass} (h : WkRel r a e S') (he : e ≠ 0) : r = .bad e := by
  cases r with
  | ok a' S1 => exact absurd h.1 he
  | bad e2 => rw [h.1]
theorem wk_ok {r : WR} {a : Int} {S' : List Ass} (h : r = .ok a S') : WkRel r a 0 S' := by rw [h]; exact ⟨rfl, rfl, rfl⟩
theorem wk_bad {r : WR} {a : Int} {e : Nat} {S' : List Ass} (h : r = .bad e) (he : e ≠ 0) : WkRel r a e S' := by rw [h]; exact ⟨rfl, he⟩
/-- a function that works a tree at q -/
def WorkC (fid : Nat) (x : Ex) : Prop := ∀ (b : Nat) (vv sv : Value) (vars : List Vr) (S : List Ass) (q : Nat) (I : Look) (F : List HA) (w0 w : World), ExAt I x q → Sl I 5 vv (vars.map vrC) → VarsOk vars → S.length + szE x ≤ 1000000000 → St w0 I (row b 45 [vv, sv] :: tvec 37 2 asC sv S :: F) w →
  Calls Tryd.prog fid [pAt b, pAt q].toArray w (fun e w' => ∃ v, e = .returned v ∧ ∃ I' H', (I = I' ∧ ∃ (a : Int) (e1 : Nat) (sv' : Value) (S' : List Ass), v = .tuple #[.int .i64 a, .int .i64 (e1 : Int)] ∧ H' = row b 45 [vv, sv'] :: tvec 37 2 asC sv' S' :: F ∧ WkRel (workP (vars.map Vr.nv) x S) a e1 S') ∧ St w I' H' w')
theorem una_at {op : List UInt8} {k : Ex} {vs : List (List UInt8 × List UInt8)} {S S1 : List Ass} {a b : Int} (h : workP vs k S = .ok a S1) (hb : unaP op a = b) : workP vs (.una op k) S = .ok b S1 := by
  simp only [workP]; rw [h]; simp only; rw [hb]
theorem work_bad0 {J : Look} {q : Nat} {x y : Ex} {vs : List (List UInt8 × List UInt8)} {S : List Ass} {e : Nat} (h0 : ExAt J x q) (hn : nmE x = []) (hy : (kidsE x)[0]? = some y) (h : workP vs y S = .bad e) : workP vs x S = .bad e := by
  cases x with
  | num n => cases hy
  | var nm => cases hy
  | asg op nm k => exact absurd hn h0.1.2.2.1
  | una op k => cases hy; simp only [workP]; rw [h]
  | bin op a b => cases hy; simp only [workP]; rw [h]
  | cho a b c => cases hy; simp only [workP]; rw [h]
theorem bin_logic {op : List UInt8} {a b : Ex} {vs : List (List UInt8 × List UInt8)} {S S1 : List Ass} {v : Int} (h1 : workP vs a S = .ok v S1) (ho : op = [38, 38] ∨ op = [124, 124]) (h : (decide (v ≠ 0) == decide (op = [124, 124])) = true) : workP vs (.bin op a b) S = .ok (trI (decide (v ≠ 0))) S1 := by
  simp only [workP]; rw [h1]; simp only
  rw [if_pos ho, if_pos (by simpa using h)]
def logR (r : WR) : WR := match r with
  | .bad e => .bad e
  | .ok u S2 => .ok (trI (decide (u ≠ 0))) S2
def twoR (op : List UInt8) (v : Int) (r : WR) : WR := match r with
  | .bad e => .bad e
  | .ok u S2 => if (twoP op v u).2 = 0 then .ok (twoP op v u).1 S2 else .bad (twoP op v u).2
theorem bin_logic2 {op : List UInt8} {a b : Ex} {vs : List (List UInt8 × List UInt8)} {S S1 : List Ass} {v : Int} (h1 : workP vs a S = .ok v S1) (ho : op = [38, 38] ∨ op = [124, 124]) (h : (decide (v ≠ 0) == decide (op = [124, 124])) = false) : workP vs (.bin op a b) S = logR (workP vs b S1) := by
  simp only [workP]; rw [h1]; simp only
  rw [if_pos ho, if_neg (by intro h2; rw [h2] at h; simp at h)]; rfl
theorem bin_plain {op : List UInt8} {a b : Ex} {vs : List (List UInt8 × List UInt8)} {S S1 : List Ass} {v : Int} (h1 : workP vs a S = .ok v S1) (ho : ¬ (op = [38, 38] ∨ op = [124, 124])) : workP vs (.bin op a b) S = twoR op v (workP vs b S1) := by
  simp only [workP]; rw [h1]; simp only
  rw [if_neg ho]; rfl
theorem cho_t {a b c : Ex} {vs : List (List UInt8 × List UInt8)} {S S1 S' : List Ass} {v u : Int} {e : Nat} (h1 : workP vs a S = .ok v S1) (h : v ≠ 0) (hr : WkRel (workP vs b S1) u e S') : WkRel (workP vs (.cho a b c) S) u e S' := by
  simp only [workP]; rw [h1]; simp only
  rw [if_pos h]; exact hr
theorem cho_f {a b c : Ex} {vs : List (List UInt8 × List UInt8)} {S S1 S' : List Ass} {v u : Int} {e : Nat} (h1 : workP vs a S = .ok v S1) (h : ¬ v ≠ 0) (hr : WkRel (workP vs c S1) u e S') : WkRel (workP vs (.cho a b c) S) u e S' := by
  simp only [workP]; rw [h1]; simp only
  rw [if_neg h]; exact hr
theorem logic_rel {r : WR} {u : Int} {e : Nat} {S' : List Ass} (h : WkRel r u e S') : WkRel (logR r) (trI (decide (u ≠ 0))) e S' := by
  cases r with
  | ok a S1 => obtain ⟨h1, h2, h3⟩ := h; exact ⟨h1, by rw [h2], h3⟩
  | bad e2 => exact h
theorem two_rel {op : List UInt8} {v u : Int} {S' : List Ass} : WkRel (if (twoP op v u).2 = 0 then WR.ok (twoP op v u).1 S' else .bad (twoP op v u).2) (twoP op v u).1 (twoP op v u).2 S' := by
  by_cases h : (twoP op v u).2 = 0
  · rw [if_pos h]; exact ⟨h, rfl, rfl⟩
  · rw [if_neg h]; exact ⟨rfl, h⟩
/-- an assignment, while it is worked -/
theorem asg_eq {op nm : List UInt8} {k : Ex} {vs : List (List UInt8 × List UInt8)} {S S1 : List Ass} {b : Int} (ho : op = [61]) (h : workP vs k S = .ok b S1) : workP vs (.asg op nm k) S = .ok b (S1 ++ [(nm, b)]) := by
  simp only [workP]; rw [if_pos ho, h]
theorem asg_eqE {op nm : List UInt8} {k : Ex} {vs : List (List UInt8 × List UInt8)} {S : List Ass} {e : Nat} (hw : op ≠ [61] → (worthP vs S nm).2 = 0) (h : workP vs k S = .bad e) : workP vs (.asg op nm k) S = .bad e := by
  simp only [workP]
  by_cases ho : op = [61]
  · rw [if_pos ho, h]
  · rw [if_neg ho, if_pos (hw ho), h]
theorem asg_w {op nm : List UInt8} {k : Ex} {vs : List (List UInt8 × List UInt8)} {S : List Ass} (ho : op ≠ [61]) (h : (worthP vs S nm).2 ≠ 0) : workP vs (.asg op nm k) S = .bad (worthP vs S nm).2 := by
  simp only [workP]; rw [if_neg ho, if_neg h]
theorem asg_two {op nm : List UInt8} {k : Ex} {vs : List (List UInt8 × List UInt8)} {S S1 : List Ass} {b : Int} (ho : op ≠ [61]) (hw : (worthP vs S nm).2 = 0) (h : workP vs k S = .ok b S1) : workP vs (.asg op nm k) S = (if (twoP (Lib.trimSuffix op [61]) (worthP vs S nm).1 b).2 = 0 then .ok (twoP (Lib.trimSuffix op [61]) (worthP vs S nm).1 b).1 (S1 ++ [(nm, (twoP (Lib.trimSuffix op [61]) (worthP vs S nm).1 b).1)]) else .bad (twoP (Lib.trimSuffix op [61]) (worthP vs S nm).1 b).2) := by
  simp only [workP]; rw [if_neg ho, if_pos hw, h]
theorem as_on {e1 : Nat} {op : List UInt8} (h : (decide ((e1 : Int) = 0) && decide (op ≠ [61])) = true) : e1 = 0 ∧ op ≠ [61] := by
  rw [Bool.and_eq_true, decide_eq_true_eq, decide_eq_true_eq] at h
  exact ⟨by omega, h.2⟩
theorem as_off {e1 : Nat} {op : List UInt8} (h : (decide ((e1 : Int) = 0) && decide (op ≠ [61])) = false) : e1 = 0 → op = [61] := fun he => by
  subst he
  by_cases ho : op = [61]
  · exact ho
  · rw [decide_eq_true ho] at h; cases h
theorem asg_fin {op nm : List UInt8} {k : Ex} {vs : List (List UInt8 × List UInt8)} {S S1 : List Ass} {a0 a1 a2 : Int} {e1 e2 : Nat} (hr : WkRel (workP vs k S) a1 e1 S1) (ha : op ≠ [61] → (worthP vs S nm).2 = 0 ∧ a0 = (worthP vs S nm).1)
    (h0 : e1 ≠ 0 → e2 = e1) (h1 : e1 = 0 → op = [61] → a2 = a1 ∧ e2 = 0) (h2 : e1 = 0 → op ≠ [61] → a2 = (twoP (Lib.trimSuffix op [61]) a0 a1).1 ∧ e2 = (twoP (Lib.trimSuffix op [61]) a0 a1).2) (he : e2 = 0) : workP vs k S = .ok a1 S1 ∧ workP vs (.asg op nm k) S = .ok a2 (S1 ++ [(nm, a2)]) := by
  have he1 : e1 = 0 := by
    rcases Nat.eq_zero_or_pos e1 with h | h
    · exact h
    · have := h0 (by omega); omega
  have hw := hr.t he1
  refine ⟨hw, ?_⟩
  by_cases ho : op = [61]
  · rw [asg_eq ho hw, (h1 he1 ho).1]
  · obtain ⟨h3, h4⟩ := h2 he1 ho
    obtain ⟨h5, h6⟩ := ha ho
    subst h6
    rw [asg_two ho h5 hw, if_pos (by omega), ← h3]
theorem asg_fail {op nm : List UInt8} {k : Ex} {vs : List (List UInt8 × List UInt8)} {S S1 : List Ass} {a0 a1 a2 : Int} {e1 e2 : Nat} (hr : WkRel (workP vs k S) a1 e1 S1) (ha : op ≠ [61] → (worthP vs S nm).2 = 0 ∧ a0 = (worthP vs S nm).1)
    (h0 : e1 ≠ 0 → e2 = e1) (h1 : e1 = 0 → op = [61] → a2 = a1 ∧ e2 = 0) (h2 : e1 = 0 → op ≠ [61] → a2 = (twoP (Lib.trimSuffix op [61]) a0 a1).1 ∧ e2 = (twoP (Lib.trimSuffix op [61]) a0 a1).2) (he : e2 ≠ 0) {v : Int} {S' : List Ass} : WkRel (workP vs (.asg op nm k) S) v e2 S' := by
  by_cases he1 : e1 = 0
  · have hw := hr.t he1
    have ho : op ≠ [61] := fun ho => he (h1 he1 ho).2
    obtain ⟨h3, h4⟩ := h2 he1 ho
    obtain ⟨h5, h6⟩ := ha ho
    subst h6
    rw [asg_two ho h5 hw, ← h4, if_neg he]
    exact ⟨rfl, he⟩
  · rw [h0 he1]
    exact wk_bad (asg_eqE (fun ho => (ha ho).1) (hr.f he1)) he1
set_option maxRecDepth 10000 in
theorem assign_calls (op nm : List UInt8) (k : Ex) (ih : WorkC 13 k) (b : Nat) (vv sv : Value) (vars : List Vr) (S : List Ass) (q : Nat) (I : Look) (F : List HA) (w0 w : World) (hx : ExAt I (.asg op nm k) q) (hv : Sl I 5 vv (vars.map vrC)) (hV : VarsOk vars) (hS : S.length + (szE k + 1) ≤ 1000000000) (hw0 : St w0 I (row b 45 [vv, sv] :: tvec 37 2 asC sv S :: F) w) : Calls Tryd.prog 21 [pAt b, pAt q].toArray w (fun e w' => ∃ v, e = .returned v ∧ ∃ I' H', (I = I' ∧ ∃ (a : Int) (e1 : Nat) (sv' : Value) (S' : List Ass), v = .tuple #[.int .i64 a, .int .i64 (e1 : Int)] ∧ H' = row b 45 [vv, sv'] :: tvec 37 2 asC sv' S' :: F ∧ WkRel (workP (vars.map Vr.nv) (.asg op nm k) S) a e1 S') ∧ St w I' H' w') := by
  obtain ⟨hop, kv, q0, hrow, hkv, hk0⟩ := hx
  have hl1 : [pAt q0].length = 1 := rfl
  refine enter Tryd.func21 rfl Tryd.ntmps21 rfl (hw0.self) ?_
  refine t_seq ?_
  refine t_region ?_
  refine l_q rfl rfl rfl (q_assign rfl rfl) ?_
  refine l_q rfl rfl rfl (q_assign rfl rfl) ?_
  refine l_nil ?_
  refine n_then ?_
  refine t_seq ?_
  refine t_region ?_
  refine l_q rfl rfl rfl (q_assign rfl rfl) ?_
  refine l_nil ?_
  refine n_then ?_
  refine t_cutE (ι := Int) (fun zz => (op ≠ [61] → (worthP (vars.map Vr.nv) S nm).2 = 0 ∧ zz = (worthP (vars.map Vr.nv) S nm).1)) (fun zz => [(6, .int .i64 zz)]) [(0, _), (1, _)] (fun zz => I) (fun zz => (row b 45 [vv, sv] :: tvec 37 2 asC sv S :: F)) (sub_cons rfl (sub_cons rfl sub_nil)) ?_ ?_
  · skip
    refine t_seq ?_
    refine t_region ?_
    refine l_q rfl rfl rfl (q_move rfl rfl) ?_
    refine l_q rfl rfl rfl (q_nilCheck rfl rfl) ?_
    refine l_q rfl rfl rfl (q_fieldAddr rfl Tryd.underlying52 rfl rfl ti9 rfl rfl) ?_
    refine l_q rfl rfl rfl ((by first | exact q_load_row rfl Tryd.underlying9 rfl rfl (by rfl) | exact q_load rfl Tryd.underlying9 rfl rfl (rd_imm (hrow 0 _ rfl)) | exact q_load rfl Tryd.underlying9 rfl rfl (rd_imm (hrow 1 _ rfl)) | exact q_load rfl Tryd.underlying9 rfl rfl (rd_imm (hrow 3 _ rfl)) | exact q_load rfl Tryd.underlying9 rfl rfl (sl_row1_at (i := 0) hkv rfl))) ?_
    refine l_q rfl rfl rfl (q_neq_str rfl rfl rfl) ?_
    refine l_nil ?_
    refine n_then ?_
    refine t_cond rfl (fun hc0 => ?_) (fun hc0 => ?_)
    · skip
      have hne : op ≠ [61] := of_decide_eq_true hc0
      refine t_seq ?_
      refine t_region ?_
      refine l_q rfl rfl rfl (q_move rfl rfl) ?_
      refine l_q rfl rfl rfl (q_move rfl rfl) ?_
      refine l_q rfl rfl rfl (q_nilCheck rfl rfl) ?_
      refine l_q rfl rfl rfl (q_fieldAddr rfl Tryd.underlying52 rfl rfl ti9 rfl rfl) ?_
      refine l_q rfl rfl rfl ((by first | exact q_load_row rfl Tryd.underlying9 rfl rfl (by rfl) | exact q_load rfl Tryd.underlying9 rfl rfl (rd_imm (hrow 0 _ rfl)) | exact q_load rfl Tryd.underlying9 rfl rfl (rd_imm (hrow 1 _ rfl)) | exact q_load rfl Tryd.underlying9 rfl rfl (rd_imm (hrow 3 _ rfl)) | exact q_load rfl Tryd.underlying9 rfl rfl (sl_row1_at (i := 0) hkv rfl))) ?_
      refine l_q rfl rfl rfl (quiet_call rfl rfl rfl Tryd.func20 (by kernel_rfl) rfl ((fun w hw => worth_pure b vv sv vars S nm w (rowI_of (b := b) hw) (hv.mono hw.le) (sl_vec (v := sv) (S := S) hw) hV (by omega)))) ?_
      refine l_q rfl rfl rfl (q_move rfl rfl) ?_
      refine l_q rfl rfl rfl (q_extract rfl rfl rfl) ?_
      refine l_q rfl rfl rfl (q_extract rfl rfl rfl) ?_
      refine l_q rfl rfl rfl (q_assign rfl rfl) ?_
      refine l_q rfl rfl rfl (q_assign rfl rfl) ?_
      refine l_nil ?_
      refine n_then ?_
      refine t_seq ?_
      refine t_seq ?_
      refine t_region ?_
      refine l_q rfl rfl rfl (q_move rfl rfl) ?_
      refine l_q rfl rfl rfl (q_neq rfl rfl rfl) ?_
      refine l_nil ?_
      refine n_then ?_
      refine t_cond rfl (fun hc1 => ?_) (fun hc1 => ?_)
      · skip
        have hw2 : (worthP (vars.map Vr.nv) S nm).2 ≠ 0 := by have := of_decide_eq_true hc1; omega
        refine t_seq ?_
        refine t_region ?_
        refine l_q rfl rfl rfl (q_move rfl rfl) ?_
        refine l_q rfl rfl rfl (q_assign rfl rfl) ?_
        refine l_q rfl rfl rfl (q_assign rfl rfl) ?_
        refine l_nil ?_
        refine n_then ?_
        refine t_ret ?_
        refine n_ret_then ?_
        refine n_ret_then ?_
        refine n_ret2 rfl rfl rfl (fun w' hw => ?_)
        -- leaf 0
        exact ⟨_, rfl, I, row b 45 [vv, sv] :: tvec 37 2 asC sv S :: F, ⟨rfl, 0, (worthP (vars.map Vr.nv) S nm).2, sv, S, rfl, rfl, wk_bad (asg_w hne hw2) hw2⟩, subC_st hw⟩
      · skip
        refine t_skip ?_
        refine n_then ?_
        refine t_region ?_
        refine l_q rfl rfl rfl (q_move rfl rfl) ?_
        refine l_q rfl rfl rfl (q_assign rfl rfl) ?_
        refine l_nil ?_
        refine n_cut ((worthP (vars.map Vr.nv) S nm).1) ?_ (sub_cons rfl sub_nil) (sub_cons rfl (sub_cons rfl sub_nil)) (fun _ h => by try dsimp only; exact subC_st h)
        · try dsimp only
          exact fun _ => ⟨by have := of_decide_eq_false hc1; omega, rfl⟩
    · skip
      refine t_skip ?_
      refine n_cut (0) ?_ (sub_cons rfl sub_nil) (sub_cons rfl (sub_cons rfl sub_nil)) (fun _ h => by try dsimp only; exact subC_st h)
      · try dsimp only
        exact fun h => absurd h (by simpa using hc0)
  rintro a0 ha0
  try dsimp only at *
  refine t_seq ?_
  refine t_region ?_
  refine l_q rfl rfl rfl (q_move rfl rfl) ?_
  refine l_q rfl rfl rfl (q_move rfl rfl) ?_
  refine l_q rfl rfl rfl (q_nilCheck rfl rfl) ?_
  refine l_q rfl rfl rfl (q_fieldAddr rfl Tryd.underlying52 rfl rfl ti50 rfl rfl) ?_
  refine l_q rfl rfl rfl ((by first | exact q_load_row rfl Tryd.underlying50 rfl rfl (by rfl) | exact q_load rfl Tryd.underlying50 rfl rfl (rd_imm (hrow 0 _ rfl)) | exact q_load rfl Tryd.underlying50 rfl rfl (rd_imm (hrow 1 _ rfl)) | exact q_load rfl Tryd.underlying50 rfl rfl (rd_imm (hrow 3 _ rfl)) | exact q_load rfl Tryd.underlying50 rfl rfl (sl_row1_at (i := 0) hkv rfl))) ?_
  refine l_q rfl rfl rfl ((by first | exact q_indexAddrVN rfl Tryd.underlying50 ti40 rfl rfl (by omega) | exact q_indexAddrN rfl Tryd.underlying50 ti40 rfl rfl (Sl.shape hkv (List.length_map _)) (by omega) | exact q_indexAddrV rfl Tryd.underlying50 ti40 rfl rfl (by omega) | exact q_indexAddr rfl Tryd.underlying50 ti40 rfl rfl (Sl.shape hkv (List.length_map _)) (by omega))) ?_
  refine l_q rfl rfl rfl ((by first | exact q_load_row rfl Tryd.underlying40 rfl rfl (by rfl) | exact q_load rfl Tryd.underlying40 rfl rfl (rd_imm (hrow 0 _ rfl)) | exact q_load rfl Tryd.underlying40 rfl rfl (rd_imm (hrow 1 _ rfl)) | exact q_load rfl Tryd.underlying40 rfl rfl (rd_imm (hrow 3 _ rfl)) | exact q_load rfl Tryd.underlying40 rfl rfl (sl_row1_at (i := 0) hkv rfl))) ?_
  refine l_e rfl rfl rfl (eff_call rfl rfl rfl Tryd.func13 (by kernel_rfl) rfl (fun w hw => ih b vv sv vars S q0 _ _ _ w hk0 hv hV (by omega) (picks_st2 (row b 45 [vv, sv]) (tvec 37 2 asC sv S) hw))) ?_
  rintro _ _ _ ⟨rfl, a37, e37, sv37, S37, rfl, rfl, hr37⟩
  refine l_q rfl rfl rfl (q_move rfl rfl) ?_
  refine l_q rfl rfl rfl (q_extract rfl rfl rfl) ?_
  refine l_q rfl rfl rfl (q_extract rfl rfl rfl) ?_
  refine l_q rfl rfl rfl (q_assign rfl rfl) ?_
  refine l_q rfl rfl rfl (q_assign rfl rfl) ?_
  refine l_nil ?_
  refine n_then ?_
  refine t_cutE (ι := Int × Nat) (fun zz => (e37 ≠ 0 → zz.2 = e37) ∧ (e37 = 0 → op = [61] → zz.1 = a37 ∧ zz.2 = 0) ∧ (e37 = 0 → op ≠ [61] → zz.1 = (twoP (Lib.trimSuffix op [61]) a0 a37).1 ∧ zz.2 = (twoP (Lib.trimSuffix op [61]) a0 a37).2)) (fun zz => [(9, .int .i64 zz.1), (10, .int .i64 (zz.2 : Int))]) [(6, _), (0, _), (1, _)] (fun zz => I) (fun zz => (row b 45 [vv, sv37] :: tvec 37 2 asC sv37 S37 :: F)) (sub_cons rfl (sub_cons rfl (sub_cons rfl sub_nil))) ?_ ?_
  · skip
    refine t_seq ?_
    refine t_qreg ?_
    refine s_q rfl rfl rfl (q_move rfl rfl) ?_
    refine s_q rfl rfl rfl (q_eql rfl rfl rfl) ?_
    refine s_q rfl rfl rfl (q_move rfl rfl) ?_
    refine s_and2 5 2 42 48 47 _ _ rfl rfl rfl rfl rfl rfl (fun h48 => by
        try simp at h48
        refine s_g rfl rfl rfl rfl rfl rfl (q_move rfl rfl) ?_
        refine s_g rfl rfl rfl rfl rfl rfl (q_nilCheck rfl rfl) ?_
        refine s_g rfl rfl rfl rfl rfl rfl (q_fieldAddr rfl Tryd.underlying52 rfl rfl ti9 rfl rfl) ?_
        refine s_g rfl rfl rfl rfl rfl rfl ((by first | exact q_load_row rfl Tryd.underlying9 rfl rfl (by rfl) | exact q_load rfl Tryd.underlying9 rfl rfl (rd_imm (hrow 0 _ rfl)) | exact q_load rfl Tryd.underlying9 rfl rfl (rd_imm (hrow 1 _ rfl)) | exact q_load rfl Tryd.underlying9 rfl rfl (rd_imm (hrow 3 _ rfl)) | exact q_load rfl Tryd.underlying9 rfl rfl (sl_row1_at (i := 0) hkv rfl))) ?_
        refine s_g rfl rfl rfl rfl rfl rfl (q_neq_str rfl rfl rfl) ?_
        exact s_val rfl
      ) (wanted_n rfl) rfl rfl rfl ?_
    refine s_done ?_
    refine n_then ?_
    refine t_cond rfl (fun hc2 => ?_) (fun hc2 => ?_)
    · skip
      refine t_region ?_
      refine l_q rfl rfl rfl (q_move rfl rfl) ?_
      refine l_q rfl rfl rfl (q_nilCheck rfl rfl) ?_
      refine l_q rfl rfl rfl (q_fieldAddr rfl Tryd.underlying52 rfl rfl ti9 rfl rfl) ?_
      refine l_q rfl rfl rfl ((by first | exact q_load_row rfl Tryd.underlying9 rfl rfl (by rfl) | exact q_load rfl Tryd.underlying9 rfl rfl (rd_imm (hrow 0 _ rfl)) | exact q_load rfl Tryd.underlying9 rfl rfl (rd_imm (hrow 1 _ rfl)) | exact q_load rfl Tryd.underlying9 rfl rfl (rd_imm (hrow 3 _ rfl)) | exact q_load rfl Tryd.underlying9 rfl rfl (sl_row1_at (i := 0) hkv rfl))) ?_
      refine l_q rfl rfl rfl (quiet_call rfl rfl rfl Tryd.func41 (by kernel_rfl) rfl ((fun w _ => trimSuffix_pure op [61] w (by have := hop.2.2.2; omega)))) ?_
      refine l_q rfl rfl rfl (q_move rfl rfl) ?_
      refine l_q rfl rfl rfl (q_move rfl rfl) ?_
      refine l_q rfl rfl rfl (quiet_call rfl rfl rfl Tryd.func23 (by kernel_rfl) rfl ((fun w _ => two_pure (Lib.trimSuffix op [61]) a0 a37 w))) ?_
      refine l_q rfl rfl rfl (q_move rfl rfl) ?_
      refine l_q rfl rfl rfl (q_extract rfl rfl rfl) ?_
      refine l_q rfl rfl rfl (q_extract rfl rfl rfl) ?_
      refine l_q rfl rfl rfl (q_assign rfl rfl) ?_
      refine l_q rfl rfl rfl (q_assign rfl rfl) ?_
      refine l_nil ?_
      refine n_cut (((twoP (Lib.trimSuffix op [61]) a0 a37).1, (twoP (Lib.trimSuffix op [61]) a0 a37).2)) ?_ (sub_cons rfl (sub_cons rfl sub_nil)) (sub_cons rfl (sub_cons rfl (sub_cons rfl sub_nil))) (fun _ h => by try dsimp only; exact subC_st h)
      · try dsimp only
        obtain ⟨h1, h2⟩ := as_on hc2
        exact ⟨fun h => absurd h1 h, fun _ h => absurd h h2, fun _ _ => ⟨rfl, rfl⟩⟩
    · skip
      refine t_skip ?_
      refine n_cut ((a37, e37)) ?_ (sub_cons rfl (sub_cons rfl sub_nil)) (sub_cons rfl (sub_cons rfl (sub_cons rfl sub_nil))) (fun _ h => by try dsimp only; exact subC_st h)
      · try dsimp only
        exact ⟨fun _ => rfl, fun h _ => ⟨rfl, h⟩, fun h h2 => absurd (as_off hc2 h) h2⟩
  rintro ⟨a2, e2⟩ ⟨hz0, hz1, hz2⟩
  try dsimp only at *
  refine t_seq ?_
  refine t_seq ?_
  refine t_region ?_
  refine l_q rfl rfl rfl (q_move rfl rfl) ?_
  refine l_q rfl rfl rfl (q_neq rfl rfl rfl) ?_
  refine l_nil ?_
  refine n_then ?_
  refine t_cond rfl (fun hc3 => ?_) (fun hc3 => ?_)
  · skip
    have he2 : e2 ≠ 0 := by have := of_decide_eq_true hc3; omega
    refine t_seq ?_
    refine t_region ?_
    refine l_q rfl rfl rfl (q_move rfl rfl) ?_
    refine l_q rfl rfl rfl (q_assign rfl rfl) ?_
    refine l_q rfl rfl rfl (q_assign rfl rfl) ?_
    refine l_nil ?_
    refine n_then ?_
    refine t_ret ?_
    refine n_ret_then ?_
    refine n_ret2 rfl rfl rfl (fun w' hw => ?_)
    -- leaf 1
    exact ⟨_, rfl, I, row b 45 [vv, sv37] :: tvec 37 2 asC sv37 S37 :: F, ⟨rfl, 0, e2, sv37, S37, rfl, rfl, asg_fail hr37 ha0 hz0 hz1 hz2 he2⟩, subC_st hw⟩
  · skip
    have he2 : e2 = 0 := by have := of_decide_eq_false hc3; omega
    have hfin := asg_fin hr37 ha0 hz0 hz1 hz2 he2
    have hlen := workP_len k S S37 a37 hfin.1
    refine t_skip ?_
    refine n_then ?_
    refine t_seq ?_
    refine t_draw [11, 12, 15] [12, 15] [row b 45 [vv, sv37]] mo (by kernel_rfl) (fun _ _ _ _ _ h => h) ?_
    refine r_qf 0 (by kernel_rfl) rfl rfl rfl rfl (fun _ => q_move rfl rfl) ?_
    refine r_qf 1 (by kernel_rfl) rfl rfl rfl rfl (fun _ => q_move rfl rfl) ?_
    refine r_qf 2 (by kernel_rfl) rfl rfl rfl rfl (fun _ => q_nilCheck rfl rfl) ?_
    refine r_qf 3 (by kernel_rfl) rfl rfl rfl rfl (fun _ => q_fieldAddr rfl Tryd.underlying45 rfl rfl ti24 rfl rfl) ?_
    refine r_q0 4 (by kernel_rfl) rfl (Le.refl _) rfl rfl rfl (fun _ hI => (by first | exact q_load_row rfl Tryd.underlying24 rfl rfl (by rfl) | exact q_load rfl Tryd.underlying24 rfl rfl (rd_imm (hrow 0 _ rfl)) | exact q_load rfl Tryd.underlying24 rfl rfl (rd_imm (hrow 1 _ rfl)) | exact q_load rfl Tryd.underlying24 rfl rfl (rd_imm (hrow 3 _ rfl)) | exact q_load rfl Tryd.underlying24 rfl rfl (sl_row1_at (i := 0) hkv rfl))) ?_
    refine r_qf 5 (by kernel_rfl) rfl rfl rfl rfl (fun _ => q_move rfl rfl) ?_
    refine r_qf 6 (by kernel_rfl) rfl rfl rfl rfl (fun _ => q_nilCheck rfl rfl) ?_
    refine r_qf 7 (by kernel_rfl) rfl rfl rfl rfl (fun _ => q_fieldAddr rfl Tryd.underlying52 rfl rfl ti9 rfl rfl) ?_
    refine r_q1 8 (by kernel_rfl) rfl (Le.refl _) rfl rfl rfl ((by first | exact q_load_row rfl Tryd.underlying9 rfl rfl (by rfl) | exact q_load rfl Tryd.underlying9 rfl rfl (rd_imm (hrow 0 _ rfl)) | exact q_load rfl Tryd.underlying9 rfl rfl (rd_imm (hrow 1 _ rfl)) | exact q_load rfl Tryd.underlying9 rfl rfl (rd_imm (hrow 3 _ rfl)) | exact q_load rfl Tryd.underlying9 rfl rfl (sl_row1_at (i := 0) hkv rfl))) ?_
    refine r_qf 9 (by kernel_rfl) rfl rfl rfl rfl (fun _ => q_move rfl rfl) ?_
    refine r_qf 10 (by kernel_rfl) rfl rfl rfl rfl (fun _ => q_build (pl := [(_, _), (_, _)]) (cs := (asC (nm, a2)).toArray) rfl Tryd.underlying37 ti37 ⟨rfl, ⟨_, _, ti9⟩, rfl, ⟨_, _, ti2⟩, trivial⟩ rfl rfl) ?_
    refine r_e 11 (by kernel_rfl) (by kernel_rfl) rfl (Le.refl _) rfl rfl rfl (e_buildSlice1 rfl Tryd.underlying24 ti37 rfl rfl rfl (by first | exact One.cells (by assumption) | exact One.cells hone | rfl) rfl) ?_
    rintro _ _ _ ⟨b74, rfl, rfl, rfl⟩
    refine ⟨Le.refl _, .inr SubC.sub, ?_⟩
    refine r_e 12 (by kernel_rfl) (by kernel_rfl) rfl (Le.refl _) rfl rfl rfl (e_appendT (f := asC) (c := (nm, a2)) rfl Tryd.underlying24 ti37 rfl rfl rfl rfl rfl rfl rfl (by first | exact asC_ones _ | exact byC_ones _ | exact chC_ones _ | exact pcC_ones _ | simp [Value.oneCell', str, u8] | exact ones1 (by assumption)) (by simp only [maxLen]; omega) (by omega)) ?_
    rintro v75 _ _ ⟨rfl, rfl⟩
    refine ⟨Le.refl _, .inl rfl, ?_⟩
    refine r_one v75 (fun hone => ?_)
    refine r_qf 13 (by kernel_rfl) rfl rfl rfl rfl (fun _ => q_nilCheck rfl rfl) ?_
    refine r_qf 14 (by kernel_rfl) rfl rfl rfl rfl (fun _ => q_fieldAddr rfl Tryd.underlying45 rfl rfl ti24 rfl rfl) ?_
    refine r_e0 15 (by kernel_rfl) (by kernel_rfl) rfl (Le.refl _) rfl rfl (e_storeS rfl ti24 rfl rfl (by first | exact ⟨rfl, rfl⟩ | assumption | exact hone) rfl (by first | (simp only [List.set_cons_succ, List.set_cons_zero]; rfl) | rfl)) ?_
    rintro _ _ _ ⟨rfl, rfl⟩
    refine ⟨Le.refl _, .inl rfl, ?_⟩
    refine r_heap (H' := row b 45 [vv, v75] :: _) ?_ (fun _ h => h)
    refine r_end (by kernel_rfl) ?_
    refine n_then ?_
    refine t_seq ?_
    refine t_region ?_
    refine l_q rfl rfl rfl (q_move rfl rfl) ?_
    refine l_q rfl rfl rfl (q_assign rfl rfl) ?_
    refine l_q rfl rfl rfl (q_assign rfl rfl) ?_
    refine l_nil ?_
    refine n_then ?_
    refine t_ret ?_
    refine n_ret2 rfl rfl rfl (fun w' hw => ?_)
    -- leaf 2
    exact ⟨_, rfl, I, row b 45 [vv, v75] :: tvec 37 2 asC v75 (S37 ++ [(nm, a2)]) :: F, ⟨rfl, a2, 0, v75, (S37 ++ [(nm, a2)]), rfl, rfl, wk_ok hfin.2⟩, subC_st hw⟩
theorem var_rel {vs : List (List UInt8 × List UInt8)} {S : List Ass} {nm : List UInt8} : WkRel (workP vs (.var nm) S) (worthP vs S nm).1 (worthP vs S nm).2 S := by
  simp only [workP]
  by_cases h : (worthP vs S nm).2 = 0
  · rw [if_pos h]; exact ⟨h, rfl, rfl⟩
  · rw [if_neg h]; exact ⟨rfl, h⟩
theorem una_out {op : List UInt8} (h1 : op ≠ [49, 43]) (h2 : op ≠ [49, 45]) (h3 : op ≠ [49, 126]) (h4 : op ≠ [49, 33]) : op ∉ unaS := fun h => by
  simp only [unaS, List.mem_cons, List.not_mem_nil, or_false] at h
  rcases h with h | h | h | h
  · exact h1 h
  · exact h2 h
  · exact h4 h
  · exact h3 h
set_option maxRecDepth 10000 in
theorem work_calls (x : Ex) (ih : ∀ y : Ex, (∃ i : Nat, (kidsE x)[i]? = some y) → WorkC 13 y) (ihA : ∀ op nm k, x = .asg op nm k → WorkC 21 x) (b : Nat) (vv sv : Value) (vars : List Vr) (S : List Ass) (q : Nat) (I : Look) (F : List HA) (w0 w : World) (hx : ExAt I x q) (hv : Sl I 5 vv (vars.map vrC)) (hV : VarsOk vars) (hS : S.length + szE x ≤ 1000000000) (hw0 : St w0 I (row b 45 [vv, sv] :: tvec 37 2 asC sv S :: F) w) : Calls Tryd.prog 13 [pAt b, pAt q].toArray w (fun e w' => ∃ v, e = .returned v ∧ ∃ I' H', (I = I' ∧ ∃ (a : Int) (e1 : Nat) (sv' : Value) (S' : List Ass), v = .tuple #[.int .i64 a, .int .i64 (e1 : Int)] ∧ H' = row b 45 [vv, sv'] :: tvec 37 2 asC sv' S' :: F ∧ WkRel (workP (vars.map Vr.nv) x S) a e1 S') ∧ St w I' H' w') := by
  obtain ⟨kv, vs, hrow, hkv, hvl, hkids⟩ := hx.row
  refine enter Tryd.func13 rfl Tryd.ntmps13 rfl (hw0.self) ?_
  refine t_seq ?_
  refine t_region ?_
  refine l_q rfl rfl rfl (q_assign rfl rfl) ?_
  refine l_q rfl rfl rfl (q_assign rfl rfl) ?_
  refine l_nil ?_
  refine n_then ?_
  refine t_seq ?_
  refine t_block ?_
  refine t_seq ?_
  refine t_region ?_
  refine l_q rfl rfl rfl (q_move rfl rfl) ?_
  refine l_q rfl rfl rfl (q_nilCheck rfl rfl) ?_
  refine l_q rfl rfl rfl (q_fieldAddr rfl Tryd.underlying52 rfl rfl ti9 rfl rfl) ?_
  refine l_q rfl rfl rfl ((by first | exact q_load_row rfl Tryd.underlying9 rfl rfl (by rfl) | exact q_load rfl Tryd.underlying9 rfl rfl (rd_imm (hrow 0 _ rfl)) | exact q_load rfl Tryd.underlying9 rfl rfl (rd_imm (hrow 1 _ rfl)) | exact q_load rfl Tryd.underlying9 rfl rfl (rd_imm (hrow 2 _ rfl)) | exact q_load rfl Tryd.underlying9 rfl rfl (rd_imm (hrow 3 _ rfl)) | exact q_load rfl Tryd.underlying9 rfl rfl (sl_row1_at (i := 0) hkv ha0) | exact q_load rfl Tryd.underlying9 rfl rfl (sl_row1_at (i := 1) hkv hva1) | exact q_load rfl Tryd.underlying9 rfl rfl (sl_row1_at (i := 2) hkv hva2))) ?_
  refine l_q rfl rfl rfl (q_eql_str rfl rfl rfl) ?_
  refine l_q rfl rfl rfl (q_assign rfl rfl) ?_
  refine l_nil ?_
  refine n_then ?_
  refine t_cond rfl (fun hc0 => ?_) (fun hc0 => ?_)
  · skip
    obtain ⟨n, rfl⟩ := ex_num hx (of_decide_eq_true hc0)
    refine t_seq ?_
    refine t_region ?_
    refine l_q rfl rfl rfl (q_move rfl rfl) ?_
    refine l_q rfl rfl rfl (q_nilCheck rfl rfl) ?_
    refine l_q rfl rfl rfl (q_fieldAddr rfl Tryd.underlying52 rfl rfl ti2 rfl rfl) ?_
    refine l_q rfl rfl rfl ((by first | exact q_load_row rfl Tryd.underlying2 rfl rfl (by rfl) | exact q_load rfl Tryd.underlying2 rfl rfl (rd_imm (hrow 0 _ rfl)) | exact q_load rfl Tryd.underlying2 rfl rfl (rd_imm (hrow 1 _ rfl)) | exact q_load rfl Tryd.underlying2 rfl rfl (rd_imm (hrow 2 _ rfl)) | exact q_load rfl Tryd.underlying2 rfl rfl (rd_imm (hrow 3 _ rfl)) | exact q_load rfl Tryd.underlying2 rfl rfl (sl_row1_at (i := 0) hkv ha0) | exact q_load rfl Tryd.underlying2 rfl rfl (sl_row1_at (i := 1) hkv hva1) | exact q_load rfl Tryd.underlying2 rfl rfl (sl_row1_at (i := 2) hkv hva2))) ?_
    refine l_q rfl rfl rfl (q_assign rfl rfl) ?_
    refine l_q rfl rfl rfl (q_assign rfl rfl) ?_
    refine l_nil ?_
    refine n_then ?_
    refine t_ret ?_
    refine n_ret_block ?_
    refine n_ret_then ?_
    refine n_ret2 rfl rfl rfl (fun w' hw => ?_)
    -- leaf 0
    exact ⟨_, rfl, I, row b 45 [vv, sv] :: tvec 37 2 asC sv S :: F, ⟨rfl, n, 0, sv, S, rfl, rfl, wk_ok rfl⟩, subC_st hw⟩
  · skip
    have h0 : opE x ≠ [] := of_decide_eq_false hc0
    refine t_seq ?_
    refine t_region ?_
    refine l_q rfl rfl rfl (q_move rfl rfl) ?_
    refine l_q rfl rfl rfl (q_nilCheck rfl rfl) ?_
    refine l_q rfl rfl rfl (q_fieldAddr rfl Tryd.underlying52 rfl rfl ti9 rfl rfl) ?_
    refine l_q rfl rfl rfl ((by first | exact q_load_row rfl Tryd.underlying9 rfl rfl (by rfl) | exact q_load rfl Tryd.underlying9 rfl rfl (rd_imm (hrow 0 _ rfl)) | exact q_load rfl Tryd.underlying9 rfl rfl (rd_imm (hrow 1 _ rfl)) | exact q_load rfl Tryd.underlying9 rfl rfl (rd_imm (hrow 2 _ rfl)) | exact q_load rfl Tryd.underlying9 rfl rfl (rd_imm (hrow 3 _ rfl)) | exact q_load rfl Tryd.underlying9 rfl rfl (sl_row1_at (i := 0) hkv ha0) | exact q_load rfl Tryd.underlying9 rfl rfl (sl_row1_at (i := 1) hkv hva1) | exact q_load rfl Tryd.underlying9 rfl rfl (sl_row1_at (i := 2) hkv hva2))) ?_
    refine l_q rfl rfl rfl (q_eql_str rfl rfl rfl) ?_
    refine l_q rfl rfl rfl (q_assign rfl rfl) ?_
    refine l_nil ?_
    refine n_then ?_
    refine t_cond rfl (fun hc1 => ?_) (fun hc1 => ?_)
    · skip
      obtain ⟨nm, rfl⟩ := ex_var hx (of_decide_eq_true hc1)
      refine t_seq ?_
      refine t_region ?_
      refine l_q rfl rfl rfl (q_move rfl rfl) ?_
      refine l_q rfl rfl rfl (q_move rfl rfl) ?_
      refine l_q rfl rfl rfl (q_nilCheck rfl rfl) ?_
      refine l_q rfl rfl rfl (q_fieldAddr rfl Tryd.underlying52 rfl rfl ti9 rfl rfl) ?_
      refine l_q rfl rfl rfl ((by first | exact q_load_row rfl Tryd.underlying9 rfl rfl (by rfl) | exact q_load rfl Tryd.underlying9 rfl rfl (rd_imm (hrow 0 _ rfl)) | exact q_load rfl Tryd.underlying9 rfl rfl (rd_imm (hrow 1 _ rfl)) | exact q_load rfl Tryd.underlying9 rfl rfl (rd_imm (hrow 2 _ rfl)) | exact q_load rfl Tryd.underlying9 rfl rfl (rd_imm (hrow 3 _ rfl)) | exact q_load rfl Tryd.underlying9 rfl rfl (sl_row1_at (i := 0) hkv ha0) | exact q_load rfl Tryd.underlying9 rfl rfl (sl_row1_at (i := 1) hkv hva1) | exact q_load rfl Tryd.underlying9 rfl rfl (sl_row1_at (i := 2) hkv hva2))) ?_
      refine l_q rfl rfl rfl (quiet_call rfl rfl rfl Tryd.func20 (by kernel_rfl) rfl ((fun w hw => worth_pure b vv sv vars S nm w (rowI_of (b := b) hw) (hv.mono hw.le) (sl_vec (v := sv) (S := S) hw) hV (by omega)))) ?_
      refine l_q rfl rfl rfl (q_extract rfl rfl rfl) ?_
      refine l_q rfl rfl rfl (q_extract rfl rfl rfl) ?_
      refine l_q rfl rfl rfl (q_assign rfl rfl) ?_
      refine l_q rfl rfl rfl (q_assign rfl rfl) ?_
      refine l_nil ?_
      refine n_then ?_
      refine t_ret ?_
      refine n_ret_block ?_
      refine n_ret_then ?_
      refine n_ret2 rfl rfl rfl (fun w' hw => ?_)
      -- leaf 1
      exact ⟨_, rfl, I, row b 45 [vv, sv] :: tvec 37 2 asC sv S :: F, ⟨rfl, (worthP (vars.map Vr.nv) S nm).1, (worthP (vars.map Vr.nv) S nm).2, sv, S, rfl, rfl, var_rel⟩, subC_st hw⟩
    · skip
      have h1 : opE x ≠ nameS := of_decide_eq_false hc1
      refine t_seq ?_
      refine t_region ?_
      refine l_q rfl rfl rfl (q_move rfl rfl) ?_
      refine l_q rfl rfl rfl (q_nilCheck rfl rfl) ?_
      refine l_q rfl rfl rfl (q_fieldAddr rfl Tryd.underlying52 rfl rfl ti9 rfl rfl) ?_
      refine l_q rfl rfl rfl ((by first | exact q_load_row rfl Tryd.underlying9 rfl rfl (by rfl) | exact q_load rfl Tryd.underlying9 rfl rfl (rd_imm (hrow 0 _ rfl)) | exact q_load rfl Tryd.underlying9 rfl rfl (rd_imm (hrow 1 _ rfl)) | exact q_load rfl Tryd.underlying9 rfl rfl (rd_imm (hrow 2 _ rfl)) | exact q_load rfl Tryd.underlying9 rfl rfl (rd_imm (hrow 3 _ rfl)) | exact q_load rfl Tryd.underlying9 rfl rfl (sl_row1_at (i := 0) hkv ha0) | exact q_load rfl Tryd.underlying9 rfl rfl (sl_row1_at (i := 1) hkv hva1) | exact q_load rfl Tryd.underlying9 rfl rfl (sl_row1_at (i := 2) hkv hva2))) ?_
      refine l_q rfl rfl rfl (q_neq_str rfl rfl rfl) ?_
      refine l_q rfl rfl rfl (q_assign rfl rfl) ?_
      refine l_nil ?_
      refine n_then ?_
      refine t_cond rfl (fun hc2 => ?_) (fun hc2 => ?_)
      · skip
        obtain ⟨op, nm, k, rfl⟩ := ex_asg h1 (of_decide_eq_true hc2)
        refine t_seq ?_
        refine t_region ?_
        refine l_q rfl rfl rfl (q_move rfl rfl) ?_
        refine l_q rfl rfl rfl (q_move rfl rfl) ?_
        refine l_e rfl rfl rfl (eff_call rfl rfl rfl Tryd.func21 (by kernel_rfl) rfl (fun w hw => (ihA op nm k rfl) b vv sv vars S q _ _ _ w hx hv hV hS (picks_st2 (row b 45 [vv, sv]) (tvec 37 2 asC sv S) hw))) ?_
        rintro _ _ _ ⟨rfl, a43, e43, sv43, S43, rfl, rfl, hr43⟩
        refine l_q rfl rfl rfl (q_extract rfl rfl rfl) ?_
        refine l_q rfl rfl rfl (q_extract rfl rfl rfl) ?_
        refine l_q rfl rfl rfl (q_assign rfl rfl) ?_
        refine l_q rfl rfl rfl (q_assign rfl rfl) ?_
        refine l_nil ?_
        refine n_then ?_
        refine t_ret ?_
        refine n_ret_block ?_
        refine n_ret_then ?_
        refine n_ret2 rfl rfl rfl (fun w' hw => ?_)
        -- leaf 2
        exact ⟨_, rfl, I, row b 45 [vv, sv43] :: tvec 37 2 asC sv43 S43 :: F, ⟨rfl, a43, e43, sv43, S43, rfl, rfl, hr43⟩, subC_st hw⟩
      · skip
        have hnm : nmE x = [] := Decidable.not_not.1 (of_decide_eq_false hc2)
        refine t_skip ?_
        refine n_block ?_
        refine n_then ?_
        refine t_seq ?_
        obtain ⟨y0, hy0⟩ := ex_kid hx h0 h1
        obtain ⟨a0, ha0, hx0⟩ := hkids 0 y0 hy0
        have hvl1 : 0 < vs.length := by have := (List.getElem?_eq_some_iff.1 ha0).1; omega
        refine t_region ?_
        refine l_q rfl rfl rfl (q_move rfl rfl) ?_
        refine l_q rfl rfl rfl (q_move rfl rfl) ?_
        refine l_q rfl rfl rfl (q_nilCheck rfl rfl) ?_
        refine l_q rfl rfl rfl (q_fieldAddr rfl Tryd.underlying52 rfl rfl ti50 rfl rfl) ?_
        refine l_q rfl rfl rfl ((by first | exact q_load_row rfl Tryd.underlying50 rfl rfl (by rfl) | exact q_load rfl Tryd.underlying50 rfl rfl (rd_imm (hrow 0 _ rfl)) | exact q_load rfl Tryd.underlying50 rfl rfl (rd_imm (hrow 1 _ rfl)) | exact q_load rfl Tryd.underlying50 rfl rfl (rd_imm (hrow 2 _ rfl)) | exact q_load rfl Tryd.underlying50 rfl rfl (rd_imm (hrow 3 _ rfl)) | exact q_load rfl Tryd.underlying50 rfl rfl (sl_row1_at (i := 0) hkv ha0) | exact q_load rfl Tryd.underlying50 rfl rfl (sl_row1_at (i := 1) hkv hva1) | exact q_load rfl Tryd.underlying50 rfl rfl (sl_row1_at (i := 2) hkv hva2))) ?_
        refine l_q rfl rfl rfl ((by first | exact q_indexAddrVN rfl Tryd.underlying50 ti40 rfl rfl (by omega) | exact q_indexAddrN rfl Tryd.underlying50 ti40 rfl rfl (Sl.shape hkv (List.length_map _)) (by omega) | exact q_indexAddrV rfl Tryd.underlying50 ti40 rfl rfl (by omega) | exact q_indexAddr rfl Tryd.underlying50 ti40 rfl rfl (Sl.shape hkv (List.length_map _)) (by omega))) ?_
        refine l_q rfl rfl rfl ((by first | exact q_load_row rfl Tryd.underlying40 rfl rfl (by rfl) | exact q_load rfl Tryd.underlying40 rfl rfl (rd_imm (hrow 0 _ rfl)) | exact q_load rfl Tryd.underlying40 rfl rfl (rd_imm (hrow 1 _ rfl)) | exact q_load rfl Tryd.underlying40 rfl rfl (rd_imm (hrow 2 _ rfl)) | exact q_load rfl Tryd.underlying40 rfl rfl (rd_imm (hrow 3 _ rfl)) | exact q_load rfl Tryd.underlying40 rfl rfl (sl_row1_at (i := 0) hkv ha0) | exact q_load rfl Tryd.underlying40 rfl rfl (sl_row1_at (i := 1) hkv hva1) | exact q_load rfl Tryd.underlying40 rfl rfl (sl_row1_at (i := 2) hkv hva2))) ?_
        refine l_e rfl rfl rfl (eff_call rfl rfl rfl Tryd.func13 (by kernel_rfl) rfl (fun w hw => (ih y0 ⟨0, hy0⟩) b vv sv vars S a0 _ _ _ w hx0 hv hV (by have := kid_sz hy0; omega) (picks_st2 (row b 45 [vv, sv]) (tvec 37 2 asC sv S) hw))) ?_
        rintro _ _ _ ⟨rfl, a54, e54, sv54, S54, rfl, rfl, hr54⟩
        refine l_q rfl rfl rfl (q_move rfl rfl) ?_
        refine l_q rfl rfl rfl (q_extract rfl rfl rfl) ?_
        refine l_q rfl rfl rfl (q_extract rfl rfl rfl) ?_
        refine l_q rfl rfl rfl (q_assign rfl rfl) ?_
        refine l_q rfl rfl rfl (q_assign rfl rfl) ?_
        refine l_nil ?_
        refine n_then ?_
        refine t_seq ?_
        refine t_seq ?_
        refine t_region ?_
        refine l_q rfl rfl rfl (q_move rfl rfl) ?_
        refine l_q rfl rfl rfl (q_neq rfl rfl rfl) ?_
        refine l_nil ?_
        refine n_then ?_
        refine t_cond rfl (fun hc3 => ?_) (fun hc3 => ?_)
        · skip
          have he : e54 ≠ 0 := by have := of_decide_eq_true hc3; omega
          refine t_seq ?_
          refine t_region ?_
          refine l_q rfl rfl rfl (q_move rfl rfl) ?_
          refine l_q rfl rfl rfl (q_assign rfl rfl) ?_
          refine l_q rfl rfl rfl (q_assign rfl rfl) ?_
          refine l_nil ?_
          refine n_then ?_
          refine t_ret ?_
          refine n_ret_then ?_
          refine n_ret2 rfl rfl rfl (fun w' hw => ?_)
          -- leaf 3
          exact ⟨_, rfl, I, row b 45 [vv, sv54] :: tvec 37 2 asC sv54 S54 :: F, ⟨rfl, 0, e54, sv54, S54, rfl, rfl, wk_bad (work_bad0 hx hnm hy0 (hr54.f he)) he⟩, subC_st hw⟩
        · skip
          have he : e54 = 0 := by have := of_decide_eq_false hc3; omega
          have hk := hr54.t he
          have hlen := workP_len y0 S S54 a54 hk
          refine t_skip ?_
          refine n_then ?_
          refine t_seq ?_
          refine t_seq ?_
          refine t_region ?_
          refine l_q rfl rfl rfl (q_move rfl rfl) ?_
          refine l_q rfl rfl rfl (q_nilCheck rfl rfl) ?_
          refine l_q rfl rfl rfl (q_fieldAddr rfl Tryd.underlying52 rfl rfl ti9 rfl rfl) ?_
          refine l_q rfl rfl rfl ((by first | exact q_load_row rfl Tryd.underlying9 rfl rfl (by rfl) | exact q_load rfl Tryd.underlying9 rfl rfl (rd_imm (hrow 0 _ rfl)) | exact q_load rfl Tryd.underlying9 rfl rfl (rd_imm (hrow 1 _ rfl)) | exact q_load rfl Tryd.underlying9 rfl rfl (rd_imm (hrow 2 _ rfl)) | exact q_load rfl Tryd.underlying9 rfl rfl (rd_imm (hrow 3 _ rfl)) | exact q_load rfl Tryd.underlying9 rfl rfl (sl_row1_at (i := 0) hkv ha0) | exact q_load rfl Tryd.underlying9 rfl rfl (sl_row1_at (i := 1) hkv hva1) | exact q_load rfl Tryd.underlying9 rfl rfl (sl_row1_at (i := 2) hkv hva2))) ?_
          refine l_nil ?_
          refine n_then ?_
          refine t_block ?_
          refine t_seq ?_
          refine t_region ?_
          refine l_q rfl rfl rfl (q_eql_str rfl rfl rfl) ?_
          refine l_q rfl rfl rfl (q_assign rfl rfl) ?_
          refine l_nil ?_
          refine n_then ?_
          refine t_cond rfl (fun hc4 => ?_) (fun hc4 => ?_)
          · skip
            have ho : opE x = [49, 43] := of_decide_eq_true hc4
            obtain ⟨k1, rfl⟩ := ex_una hx hnm ho (by decide)
            cases hy0
            refine t_seq ?_
            refine t_region ?_
            refine l_q rfl rfl rfl (q_move rfl rfl) ?_
            refine l_q rfl rfl rfl (q_assign rfl rfl) ?_
            refine l_q rfl rfl rfl (q_assign rfl rfl) ?_
            refine l_nil ?_
            refine n_then ?_
            refine t_ret ?_
            refine n_ret_block ?_
            refine n_ret_then ?_
            refine n_ret2 rfl rfl rfl (fun w' hw => ?_)
            -- leaf 4
            exact ⟨_, rfl, I, row b 45 [vv, sv54] :: tvec 37 2 asC sv54 S54 :: F, ⟨rfl, a54, 0, sv54, S54, rfl, rfl, wk_ok (una_at hk (by rfl))⟩, subC_st hw⟩
          · skip
            have ho4 : opE x ≠ [49, 43] := of_decide_eq_false hc4
            refine t_seq ?_
            refine t_region ?_
            refine l_q rfl rfl rfl (q_eql_str rfl rfl rfl) ?_
            refine l_q rfl rfl rfl (q_assign rfl rfl) ?_
            refine l_nil ?_
            refine n_then ?_
            refine t_cond rfl (fun hc5 => ?_) (fun hc5 => ?_)
            · skip
              have ho : opE x = [49, 45] := of_decide_eq_true hc5
              obtain ⟨k1, rfl⟩ := ex_una hx hnm ho (by decide)
              cases hy0
              refine t_seq ?_
              refine t_region ?_
              refine l_q rfl rfl rfl (q_move rfl rfl) ?_
              refine l_q rfl rfl rfl (q_neg rfl rfl) ?_
              refine l_q rfl rfl rfl (q_assign rfl rfl) ?_
              refine l_q rfl rfl rfl (q_assign rfl rfl) ?_
              refine l_nil ?_
              refine n_then ?_
              refine t_ret ?_
              refine n_ret_block ?_
              refine n_ret_then ?_
              refine n_ret2 rfl rfl rfl (fun w' hw => ?_)
              -- leaf 5
              exact ⟨_, rfl, I, row b 45 [vv, sv54] :: tvec 37 2 asC sv54 S54 :: F, ⟨rfl, _, 0, sv54, S54, rfl, rfl, wk_ok (una_at hk (by rfl))⟩, subC_st hw⟩
            · skip
              have ho5 : opE x ≠ [49, 45] := of_decide_eq_false hc5
              refine t_seq ?_
              refine t_region ?_
              refine l_q rfl rfl rfl (q_eql_str rfl rfl rfl) ?_
              refine l_q rfl rfl rfl (q_assign rfl rfl) ?_
              refine l_nil ?_
              refine n_then ?_
              refine t_cond rfl (fun hc6 => ?_) (fun hc6 => ?_)
              · skip
                have ho : opE x = [49, 126] := of_decide_eq_true hc6
                obtain ⟨k1, rfl⟩ := ex_una hx hnm ho (by decide)
                cases hy0
                refine t_seq ?_
                refine t_region ?_
                refine l_q rfl rfl rfl (q_move rfl rfl) ?_
                refine l_q rfl rfl rfl (q_unxor rfl rfl) ?_
                refine l_q rfl rfl rfl (q_assign rfl rfl) ?_
                refine l_q rfl rfl rfl (q_assign rfl rfl) ?_
                refine l_nil ?_
                refine n_then ?_
                refine t_ret ?_
                refine n_ret_block ?_
                refine n_ret_then ?_
                refine n_ret2 rfl rfl rfl (fun w' hw => ?_)
                -- leaf 6
                exact ⟨_, rfl, I, row b 45 [vv, sv54] :: tvec 37 2 asC sv54 S54 :: F, ⟨rfl, _, 0, sv54, S54, rfl, rfl, wk_ok (una_at hk (by rfl))⟩, subC_st hw⟩
              · skip
                have ho6 : opE x ≠ [49, 126] := of_decide_eq_false hc6
                refine t_seq ?_
                refine t_region ?_
                refine l_q rfl rfl rfl (q_eql_str rfl rfl rfl) ?_
                refine l_q rfl rfl rfl (q_assign rfl rfl) ?_
                refine l_nil ?_
                refine n_then ?_
                refine t_cond rfl (fun hc7 => ?_) (fun hc7 => ?_)
                · skip
                  have ho : opE x = [49, 33] := of_decide_eq_true hc7
                  obtain ⟨k1, rfl⟩ := ex_una hx hnm ho (by decide)
                  cases hy0
                  refine t_seq ?_
                  refine t_region ?_
                  refine l_q rfl rfl rfl (q_move rfl rfl) ?_
                  refine l_q rfl rfl rfl (q_eql rfl rfl rfl) ?_
                  refine l_q rfl rfl rfl (quiet_call rfl rfl rfl Tryd.func22 (by kernel_rfl) rfl ((fun w _ => truth_pure _ w))) ?_
                  refine l_q rfl rfl rfl (q_assign rfl rfl) ?_
                  refine l_q rfl rfl rfl (q_assign rfl rfl) ?_
                  refine l_nil ?_
                  refine n_then ?_
                  refine t_ret ?_
                  refine n_ret_block ?_
                  refine n_ret_then ?_
                  refine n_ret2 rfl rfl rfl (fun w' hw => ?_)
                  -- leaf 7
                  exact ⟨_, rfl, I, row b 45 [vv, sv54] :: tvec 37 2 asC sv54 S54 :: F, ⟨rfl, _, 0, sv54, S54, rfl, rfl, wk_ok (una_at hk (by rfl))⟩, subC_st hw⟩
                · skip
                  have ho7 : opE x ≠ [49, 33] := of_decide_eq_false hc7
                  refine t_seq ?_
                  refine t_region ?_
                  refine l_q rfl rfl rfl (q_eql_str rfl rfl rfl) ?_
                  refine l_q rfl rfl rfl (q_assign rfl rfl) ?_
                  refine l_nil ?_
                  refine n_then ?_
                  refine t_cond rfl (fun hc8 => ?_) (fun hc8 => ?_)
                  · skip
                    obtain ⟨y, y1, y2, rfl⟩ := ex_cho hx hnm (of_decide_eq_true hc8)
                    cases hy0
                    have hvl3 : vs.length = 3 := hvl
                    refine t_seq ?_
                    refine t_seq ?_
                    refine t_region ?_
                    refine l_q rfl rfl rfl (q_move rfl rfl) ?_
                    refine l_q rfl rfl rfl (q_neq rfl rfl rfl) ?_
                    refine l_nil ?_
                    refine n_then ?_
                    refine t_cond rfl (fun hc9 => ?_) (fun hc9 => ?_)
                    · skip
                      refine t_seq ?_
                      obtain ⟨a1, hva1, hxa1⟩ := hkids 1 y1 rfl
                      refine t_region ?_
                      refine l_q rfl rfl rfl (q_move rfl rfl) ?_
                      refine l_q rfl rfl rfl (q_move rfl rfl) ?_
                      refine l_q rfl rfl rfl (q_nilCheck rfl rfl) ?_
                      refine l_q rfl rfl rfl (q_fieldAddr rfl Tryd.underlying52 rfl rfl ti50 rfl rfl) ?_
                      refine l_q rfl rfl rfl ((by first | exact q_load_row rfl Tryd.underlying50 rfl rfl (by rfl) | exact q_load rfl Tryd.underlying50 rfl rfl (rd_imm (hrow 0 _ rfl)) | exact q_load rfl Tryd.underlying50 rfl rfl (rd_imm (hrow 1 _ rfl)) | exact q_load rfl Tryd.underlying50 rfl rfl (rd_imm (hrow 2 _ rfl)) | exact q_load rfl Tryd.underlying50 rfl rfl (rd_imm (hrow 3 _ rfl)) | exact q_load rfl Tryd.underlying50 rfl rfl (sl_row1_at (i := 0) hkv ha0) | exact q_load rfl Tryd.underlying50 rfl rfl (sl_row1_at (i := 1) hkv hva1) | exact q_load rfl Tryd.underlying50 rfl rfl (sl_row1_at (i := 2) hkv hva2))) ?_
                      refine l_q rfl rfl rfl ((by first | exact q_indexAddrVN rfl Tryd.underlying50 ti40 rfl rfl (by omega) | exact q_indexAddrN rfl Tryd.underlying50 ti40 rfl rfl (Sl.shape hkv (List.length_map _)) (by omega) | exact q_indexAddrV rfl Tryd.underlying50 ti40 rfl rfl (by omega) | exact q_indexAddr rfl Tryd.underlying50 ti40 rfl rfl (Sl.shape hkv (List.length_map _)) (by omega))) ?_
                      refine l_q rfl rfl rfl ((by first | exact q_load_row rfl Tryd.underlying40 rfl rfl (by rfl) | exact q_load rfl Tryd.underlying40 rfl rfl (rd_imm (hrow 0 _ rfl)) | exact q_load rfl Tryd.underlying40 rfl rfl (rd_imm (hrow 1 _ rfl)) | exact q_load rfl Tryd.underlying40 rfl rfl (rd_imm (hrow 2 _ rfl)) | exact q_load rfl Tryd.underlying40 rfl rfl (rd_imm (hrow 3 _ rfl)) | exact q_load rfl Tryd.underlying40 rfl rfl (sl_row1_at (i := 0) hkv ha0) | exact q_load rfl Tryd.underlying40 rfl rfl (sl_row1_at (i := 1) hkv hva1) | exact q_load rfl Tryd.underlying40 rfl rfl (sl_row1_at (i := 2) hkv hva2))) ?_
                      refine l_e rfl rfl rfl (eff_call rfl rfl rfl Tryd.func13 (by kernel_rfl) rfl (fun w hw => (ih y1 ⟨1, rfl⟩) b vv sv54 vars S54 a1 _ _ _ w hxa1 hv hV (by simp only [szE] at hS; omega) (picks_st2 (row b 45 [vv, sv54]) (tvec 37 2 asC sv54 S54) hw))) ?_
                      rintro _ _ _ ⟨rfl, a91, e91, sv91, S91, rfl, rfl, hr91⟩
                      refine l_q rfl rfl rfl (q_extract rfl rfl rfl) ?_
                      refine l_q rfl rfl rfl (q_extract rfl rfl rfl) ?_
                      refine l_q rfl rfl rfl (q_assign rfl rfl) ?_
                      refine l_q rfl rfl rfl (q_assign rfl rfl) ?_
                      refine l_nil ?_
                      refine n_then ?_
                      refine t_ret ?_
                      refine n_ret_then ?_
                      refine n_ret_block ?_
                      refine n_ret_then ?_
                      refine n_ret2 rfl rfl rfl (fun w' hw => ?_)
                      -- leaf 8
                      exact ⟨_, rfl, I, row b 45 [vv, sv91] :: tvec 37 2 asC sv91 S91 :: F, ⟨rfl, a91, e91, sv91, S91, rfl, rfl, cho_t hk (of_decide_eq_true hc9) hr91⟩, subC_st hw⟩
                    · skip
                      refine t_skip ?_
                      refine n_then ?_
                      refine t_seq ?_
                      obtain ⟨a2, hva2, hxa2⟩ := hkids 2 y2 rfl
                      refine t_region ?_
                      refine l_q rfl rfl rfl (q_move rfl rfl) ?_
                      refine l_q rfl rfl rfl (q_move rfl rfl) ?_
                      refine l_q rfl rfl rfl (q_nilCheck rfl rfl) ?_
                      refine l_q rfl rfl rfl (q_fieldAddr rfl Tryd.underlying52 rfl rfl ti50 rfl rfl) ?_
                      refine l_q rfl rfl rfl ((by first | exact q_load_row rfl Tryd.underlying50 rfl rfl (by rfl) | exact q_load rfl Tryd.underlying50 rfl rfl (rd_imm (hrow 0 _ rfl)) | exact q_load rfl Tryd.underlying50 rfl rfl (rd_imm (hrow 1 _ rfl)) | exact q_load rfl Tryd.underlying50 rfl rfl (rd_imm (hrow 2 _ rfl)) | exact q_load rfl Tryd.underlying50 rfl rfl (rd_imm (hrow 3 _ rfl)) | exact q_load rfl Tryd.underlying50 rfl rfl (sl_row1_at (i := 0) hkv ha0) | exact q_load rfl Tryd.underlying50 rfl rfl (sl_row1_at (i := 1) hkv hva1) | exact q_load rfl Tryd.underlying50 rfl rfl (sl_row1_at (i := 2) hkv hva2))) ?_
                      refine l_q rfl rfl rfl ((by first | exact q_indexAddrVN rfl Tryd.underlying50 ti40 rfl rfl (by omega) | exact q_indexAddrN rfl Tryd.underlying50 ti40 rfl rfl (Sl.shape hkv (List.length_map _)) (by omega) | exact q_indexAddrV rfl Tryd.underlying50 ti40 rfl rfl (by omega) | exact q_indexAddr rfl Tryd.underlying50 ti40 rfl rfl (Sl.shape hkv (List.length_map _)) (by omega))) ?_
                      refine l_q rfl rfl rfl ((by first | exact q_load_row rfl Tryd.underlying40 rfl rfl (by rfl) | exact q_load rfl Tryd.underlying40 rfl rfl (rd_imm (hrow 0 _ rfl)) | exact q_load rfl Tryd.underlying40 rfl rfl (rd_imm (hrow 1 _ rfl)) | exact q_load rfl Tryd.underlying40 rfl rfl (rd_imm (hrow 2 _ rfl)) | exact q_load rfl Tryd.underlying40 rfl rfl (rd_imm (hrow 3 _ rfl)) | exact q_load rfl Tryd.underlying40 rfl rfl (sl_row1_at (i := 0) hkv ha0) | exact q_load rfl Tryd.underlying40 rfl rfl (sl_row1_at (i := 1) hkv hva1) | exact q_load rfl Tryd.underlying40 rfl rfl (sl_row1_at (i := 2) hkv hva2))) ?_
                      refine l_e rfl rfl rfl (eff_call rfl rfl rfl Tryd.func13 (by kernel_rfl) rfl (fun w hw => (ih y2 ⟨2, rfl⟩) b vv sv54 vars S54 a2 _ _ _ w hxa2 hv hV (by simp only [szE] at hS; omega) (picks_st2 (row b 45 [vv, sv54]) (tvec 37 2 asC sv54 S54) hw))) ?_
                      rintro _ _ _ ⟨rfl, a101, e101, sv101, S101, rfl, rfl, hr101⟩
                      refine l_q rfl rfl rfl (q_extract rfl rfl rfl) ?_
                      refine l_q rfl rfl rfl (q_extract rfl rfl rfl) ?_
                      refine l_q rfl rfl rfl (q_assign rfl rfl) ?_
                      refine l_q rfl rfl rfl (q_assign rfl rfl) ?_
                      refine l_nil ?_
                      refine n_then ?_
                      refine t_ret ?_
                      refine n_ret_block ?_
                      refine n_ret_then ?_
                      refine n_ret2 rfl rfl rfl (fun w' hw => ?_)
                      -- leaf 9
                      exact ⟨_, rfl, I, row b 45 [vv, sv101] :: tvec 37 2 asC sv101 S101 :: F, ⟨rfl, a101, e101, sv101, S101, rfl, rfl, cho_f hk (of_decide_eq_false hc9) hr101⟩, subC_st hw⟩
                  · skip
                    have ho8 : opE x ≠ [63] := of_decide_eq_false hc8
                    obtain ⟨x1, y1, hxe⟩ := ex_bin hx hnm h0 h1 (una_out ho4 ho5 ho6 ho7) ho8
                    have hy1 : (kidsE x)[1]? = some y1 := by rw [hxe]; rfl
                    have hy00 : y0 = x1 := by rw [hxe] at hy0; cases hy0; rfl
                    have hsz : szE x = szE y0 + szE y1 + 1 := by rw [hxe, hy00]; rfl
                    refine t_cutE (ι := Unit) (fun _ => True) (fun _ => [(104, .bool (decide (opE x = [38, 38] ∨ opE x = [124, 124])))]) [(0, _), (1, _), (4, _), (5, _), (11, _), (21, _), (35, _), (6, _), (7, _), (58, _), (63, _), (64, _), (67, _), (71, _), (75, _), (80, _)] (fun _ => I) (fun _ => (row b 45 [vv, sv54] :: tvec 37 2 asC sv54 S54 :: F)) (sub_cons rfl (sub_cons rfl (sub_cons rfl (sub_cons rfl (sub_cons rfl (sub_cons rfl (sub_cons rfl (sub_cons rfl (sub_cons rfl (sub_cons rfl (sub_cons rfl (sub_cons rfl (sub_cons rfl (sub_cons rfl (sub_cons rfl (sub_cons rfl sub_nil)))))))))))))))) ?_ ?_
                    · skip
                      refine t_seq ?_
                      refine t_region ?_
                      refine l_q rfl rfl rfl (q_eql_str rfl rfl rfl) ?_
                      refine l_q rfl rfl rfl (q_assign rfl rfl) ?_
                      refine l_nil ?_
                      refine n_then ?_
                      refine t_cond rfl (fun hc10 => ?_) (fun hc10 => ?_)
                      · skip
                        refine t_skip ?_
                        refine n_cut (()) ?_ (sub_cons' rfl (by rw [hc10, decide_eq_true (Or.inl (of_decide_eq_true hc10))]) (sub_nil)) (sub_cons rfl (sub_cons rfl (sub_cons rfl (sub_cons rfl (sub_cons rfl (sub_cons rfl (sub_cons rfl (sub_cons rfl (sub_cons rfl (sub_cons rfl (sub_cons rfl (sub_cons rfl (sub_cons rfl (sub_cons rfl (sub_cons rfl (sub_cons rfl sub_nil)))))))))))))))) (fun _ h => by try dsimp only; exact subC_st h)
                        · trivial
                      · skip
                        refine t_region ?_
                        refine l_q rfl rfl rfl (q_eql_str rfl rfl rfl) ?_
                        refine l_q rfl rfl rfl (q_assign rfl rfl) ?_
                        refine l_nil ?_
                        refine n_cut (()) ?_ (sub_cons' rfl (congrArg Value.bool (by rw [decide_eq_decide]; exact ⟨Or.inr, fun h => h.resolve_left (of_decide_eq_false hc10)⟩)) (sub_nil)) (sub_cons rfl (sub_cons rfl (sub_cons rfl (sub_cons rfl (sub_cons rfl (sub_cons rfl (sub_cons rfl (sub_cons rfl (sub_cons rfl (sub_cons rfl (sub_cons rfl (sub_cons rfl (sub_cons rfl (sub_cons rfl (sub_cons rfl (sub_cons rfl sub_nil)))))))))))))))) (fun _ h => by try dsimp only; exact subC_st h)
                        · trivial
                    rintro _ _
                    refine t_cond rfl (fun hc11 => ?_) (fun hc11 => ?_)
                    · skip
                      have hlo := of_decide_eq_true hc11
                      refine t_seq ?_
                      refine t_seq ?_
                      refine t_region ?_
                      refine l_q rfl rfl rfl (q_move rfl rfl) ?_
                      refine l_q rfl rfl rfl (q_neq rfl rfl rfl) ?_
                      refine l_q rfl rfl rfl (q_move rfl rfl) ?_
                      refine l_q rfl rfl rfl (q_nilCheck rfl rfl) ?_
                      refine l_q rfl rfl rfl (q_fieldAddr rfl Tryd.underlying52 rfl rfl ti9 rfl rfl) ?_
                      refine l_q rfl rfl rfl ((by first | exact q_load_row rfl Tryd.underlying9 rfl rfl (by rfl) | exact q_load rfl Tryd.underlying9 rfl rfl (rd_imm (hrow 0 _ rfl)) | exact q_load rfl Tryd.underlying9 rfl rfl (rd_imm (hrow 1 _ rfl)) | exact q_load rfl Tryd.underlying9 rfl rfl (rd_imm (hrow 2 _ rfl)) | exact q_load rfl Tryd.underlying9 rfl rfl (rd_imm (hrow 3 _ rfl)) | exact q_load rfl Tryd.underlying9 rfl rfl (sl_row1_at (i := 0) hkv ha0) | exact q_load rfl Tryd.underlying9 rfl rfl (sl_row1_at (i := 1) hkv hva1) | exact q_load rfl Tryd.underlying9 rfl rfl (sl_row1_at (i := 2) hkv hva2))) ?_
                      refine l_q rfl rfl rfl (q_eql_str rfl rfl rfl) ?_
                      refine l_q rfl rfl rfl (q_eql_bool rfl Tryd.underlying4 rfl rfl) ?_
                      refine l_nil ?_
                      refine n_then ?_
                      refine t_cond rfl (fun hc12 => ?_) (fun hc12 => ?_)
                      · skip
                        refine t_seq ?_
                        refine t_region ?_
                        refine l_q rfl rfl rfl (q_move rfl rfl) ?_
                        refine l_q rfl rfl rfl (q_neq rfl rfl rfl) ?_
                        refine l_q rfl rfl rfl (quiet_call rfl rfl rfl Tryd.func22 (by kernel_rfl) rfl ((fun w _ => truth_pure _ w))) ?_
                        refine l_q rfl rfl rfl (q_assign rfl rfl) ?_
                        refine l_q rfl rfl rfl (q_assign rfl rfl) ?_
                        refine l_nil ?_
                        refine n_then ?_
                        refine t_ret ?_
                        refine n_ret_then ?_
                        refine n_ret_block ?_
                        refine n_ret_then ?_
                        refine n_ret2 rfl rfl rfl (fun w' hw => ?_)
                        -- leaf 10
                        exact ⟨_, rfl, I, row b 45 [vv, sv54] :: tvec 37 2 asC sv54 S54 :: F, ⟨rfl, _, 0, sv54, S54, rfl, rfl, by rw [hxe]; exact wk_ok (bin_logic (hy00 ▸ hk) hlo hc12)⟩, subC_st hw⟩
                      · skip
                        refine t_skip ?_
                        refine n_then ?_
                        refine t_seq ?_
                        obtain ⟨a1, hva1, hxa1⟩ := hkids 1 y1 hy1
                        have hvl2 : 1 < vs.length := (List.getElem?_eq_some_iff.1 hva1).1
                        refine t_region ?_
                        refine l_q rfl rfl rfl (q_move rfl rfl) ?_
                        refine l_q rfl rfl rfl (q_move rfl rfl) ?_
                        refine l_q rfl rfl rfl (q_nilCheck rfl rfl) ?_
                        refine l_q rfl rfl rfl (q_fieldAddr rfl Tryd.underlying52 rfl rfl ti50 rfl rfl) ?_
                        refine l_q rfl rfl rfl ((by first | exact q_load_row rfl Tryd.underlying50 rfl rfl (by rfl) | exact q_load rfl Tryd.underlying50 rfl rfl (rd_imm (hrow 0 _ rfl)) | exact q_load rfl Tryd.underlying50 rfl rfl (rd_imm (hrow 1 _ rfl)) | exact q_load rfl Tryd.underlying50 rfl rfl (rd_imm (hrow 2 _ rfl)) | exact q_load rfl Tryd.underlying50 rfl rfl (rd_imm (hrow 3 _ rfl)) | exact q_load rfl Tryd.underlying50 rfl rfl (sl_row1_at (i := 0) hkv ha0) | exact q_load rfl Tryd.underlying50 rfl rfl (sl_row1_at (i := 1) hkv hva1) | exact q_load rfl Tryd.underlying50 rfl rfl (sl_row1_at (i := 2) hkv hva2))) ?_
                        refine l_q rfl rfl rfl ((by first | exact q_indexAddrVN rfl Tryd.underlying50 ti40 rfl rfl (by omega) | exact q_indexAddrN rfl Tryd.underlying50 ti40 rfl rfl (Sl.shape hkv (List.length_map _)) (by omega) | exact q_indexAddrV rfl Tryd.underlying50 ti40 rfl rfl (by omega) | exact q_indexAddr rfl Tryd.underlying50 ti40 rfl rfl (Sl.shape hkv (List.length_map _)) (by omega))) ?_
                        refine l_q rfl rfl rfl ((by first | exact q_load_row rfl Tryd.underlying40 rfl rfl (by rfl) | exact q_load rfl Tryd.underlying40 rfl rfl (rd_imm (hrow 0 _ rfl)) | exact q_load rfl Tryd.underlying40 rfl rfl (rd_imm (hrow 1 _ rfl)) | exact q_load rfl Tryd.underlying40 rfl rfl (rd_imm (hrow 2 _ rfl)) | exact q_load rfl Tryd.underlying40 rfl rfl (rd_imm (hrow 3 _ rfl)) | exact q_load rfl Tryd.underlying40 rfl rfl (sl_row1_at (i := 0) hkv ha0) | exact q_load rfl Tryd.underlying40 rfl rfl (sl_row1_at (i := 1) hkv hva1) | exact q_load rfl Tryd.underlying40 rfl rfl (sl_row1_at (i := 2) hkv hva2))) ?_
                        refine l_e rfl rfl rfl (eff_call rfl rfl rfl Tryd.func13 (by kernel_rfl) rfl (fun w hw => (ih y1 ⟨1, hy1⟩) b vv sv54 vars S54 a1 _ _ _ w hxa1 hv hV (by have := kid_sz hy0; omega) (picks_st2 (row b 45 [vv, sv54]) (tvec 37 2 asC sv54 S54) hw))) ?_
                        rintro _ _ _ ⟨rfl, a126, e126, sv126, S126, rfl, rfl, hr126⟩
                        refine l_q rfl rfl rfl (q_move rfl rfl) ?_
                        refine l_q rfl rfl rfl (q_extract rfl rfl rfl) ?_
                        refine l_q rfl rfl rfl (q_extract rfl rfl rfl) ?_
                        refine l_q rfl rfl rfl (q_assign rfl rfl) ?_
                        refine l_q rfl rfl rfl (q_assign rfl rfl) ?_
                        refine l_nil ?_
                        refine n_then ?_
                        refine t_seq ?_
                        refine t_region ?_
                        refine l_q rfl rfl rfl (q_move rfl rfl) ?_
                        refine l_q rfl rfl rfl (q_neq rfl rfl rfl) ?_
                        refine l_q rfl rfl rfl (quiet_call rfl rfl rfl Tryd.func22 (by kernel_rfl) rfl ((fun w _ => truth_pure _ w))) ?_
                        refine l_q rfl rfl rfl (q_move rfl rfl) ?_
                        refine l_q rfl rfl rfl (q_assign rfl rfl) ?_
                        refine l_q rfl rfl rfl (q_assign rfl rfl) ?_
                        refine l_nil ?_
                        refine n_then ?_
                        refine t_ret ?_
                        refine n_ret_block ?_
                        refine n_ret_then ?_
                        refine n_ret2 rfl rfl rfl (fun w' hw => ?_)
                        -- leaf 11
                        exact ⟨_, rfl, I, row b 45 [vv, sv126] :: tvec 37 2 asC sv126 S126 :: F, ⟨rfl, _, e126, sv126, S126, rfl, rfl, by rw [hxe, bin_logic2 (hy00 ▸ hk) hlo hc12]; exact logic_rel hr126⟩, subC_st hw⟩
                    · skip
                      have hlo := of_decide_eq_false hc11
                      refine t_skip ?_
                      refine n_block ?_
                      refine n_then ?_
                      refine t_seq ?_
                      obtain ⟨a1, hva1, hxa1⟩ := hkids 1 y1 hy1
                      have hvl2 : 1 < vs.length := (List.getElem?_eq_some_iff.1 hva1).1
                      refine t_region ?_
                      refine l_q rfl rfl rfl (q_move rfl rfl) ?_
                      refine l_q rfl rfl rfl (q_move rfl rfl) ?_
                      refine l_q rfl rfl rfl (q_nilCheck rfl rfl) ?_
                      refine l_q rfl rfl rfl (q_fieldAddr rfl Tryd.underlying52 rfl rfl ti50 rfl rfl) ?_
                      refine l_q rfl rfl rfl ((by first | exact q_load_row rfl Tryd.underlying50 rfl rfl (by rfl) | exact q_load rfl Tryd.underlying50 rfl rfl (rd_imm (hrow 0 _ rfl)) | exact q_load rfl Tryd.underlying50 rfl rfl (rd_imm (hrow 1 _ rfl)) | exact q_load rfl Tryd.underlying50 rfl rfl (rd_imm (hrow 2 _ rfl)) | exact q_load rfl Tryd.underlying50 rfl rfl (rd_imm (hrow 3 _ rfl)) | exact q_load rfl Tryd.underlying50 rfl rfl (sl_row1_at (i := 0) hkv ha0) | exact q_load rfl Tryd.underlying50 rfl rfl (sl_row1_at (i := 1) hkv hva1) | exact q_load rfl Tryd.underlying50 rfl rfl (sl_row1_at (i := 2) hkv hva2))) ?_
                      refine l_q rfl rfl rfl ((by first | exact q_indexAddrVN rfl Tryd.underlying50 ti40 rfl rfl (by omega) | exact q_indexAddrN rfl Tryd.underlying50 ti40 rfl rfl (Sl.shape hkv (List.length_map _)) (by omega) | exact q_indexAddrV rfl Tryd.underlying50 ti40 rfl rfl (by omega) | exact q_indexAddr rfl Tryd.underlying50 ti40 rfl rfl (Sl.shape hkv (List.length_map _)) (by omega))) ?_
                      refine l_q rfl rfl rfl ((by first | exact q_load_row rfl Tryd.underlying40 rfl rfl (by rfl) | exact q_load rfl Tryd.underlying40 rfl rfl (rd_imm (hrow 0 _ rfl)) | exact q_load rfl Tryd.underlying40 rfl rfl (rd_imm (hrow 1 _ rfl)) | exact q_load rfl Tryd.underlying40 rfl rfl (rd_imm (hrow 2 _ rfl)) | exact q_load rfl Tryd.underlying40 rfl rfl (rd_imm (hrow 3 _ rfl)) | exact q_load rfl Tryd.underlying40 rfl rfl (sl_row1_at (i := 0) hkv ha0) | exact q_load rfl Tryd.underlying40 rfl rfl (sl_row1_at (i := 1) hkv hva1) | exact q_load rfl Tryd.underlying40 rfl rfl (sl_row1_at (i := 2) hkv hva2))) ?_
                      refine l_e rfl rfl rfl (eff_call rfl rfl rfl Tryd.func13 (by kernel_rfl) rfl (fun w hw => (ih y1 ⟨1, hy1⟩) b vv sv54 vars S54 a1 _ _ _ w hxa1 hv hV (by have := kid_sz hy0; omega) (picks_st2 (row b 45 [vv, sv54]) (tvec 37 2 asC sv54 S54) hw))) ?_
                      rintro _ _ _ ⟨rfl, a141, e141, sv141, S141, rfl, rfl, hr141⟩
                      refine l_q rfl rfl rfl (q_move rfl rfl) ?_
                      refine l_q rfl rfl rfl (q_extract rfl rfl rfl) ?_
                      refine l_q rfl rfl rfl (q_extract rfl rfl rfl) ?_
                      refine l_q rfl rfl rfl (q_assign rfl rfl) ?_
                      refine l_q rfl rfl rfl (q_assign rfl rfl) ?_
                      refine l_nil ?_
                      refine n_then ?_
                      refine t_seq ?_
                      refine t_seq ?_
                      refine t_region ?_
                      refine l_q rfl rfl rfl (q_move rfl rfl) ?_
                      refine l_q rfl rfl rfl (q_neq rfl rfl rfl) ?_
                      refine l_nil ?_
                      refine n_then ?_
                      refine t_cond rfl (fun hc13 => ?_) (fun hc13 => ?_)
                      · skip
                        have he2 : e141 ≠ 0 := by have := of_decide_eq_true hc13; omega
                        refine t_seq ?_
                        refine t_region ?_
                        refine l_q rfl rfl rfl (q_move rfl rfl) ?_
                        refine l_q rfl rfl rfl (q_assign rfl rfl) ?_
                        refine l_q rfl rfl rfl (q_assign rfl rfl) ?_
                        refine l_nil ?_
                        refine n_then ?_
                        refine t_ret ?_
                        refine n_ret_then ?_
                        refine n_ret2 rfl rfl rfl (fun w' hw => ?_)
                        -- leaf 12
                        exact ⟨_, rfl, I, row b 45 [vv, sv141] :: tvec 37 2 asC sv141 S141 :: F, ⟨rfl, 0, e141, sv141, S141, rfl, rfl, wk_bad (by rw [hxe, bin_plain (hy00 ▸ hk) hlo, hr141.f he2]; rfl) he2⟩, subC_st hw⟩
                      · skip
                        have he2 : e141 = 0 := by have := of_decide_eq_false hc13; omega
                        refine t_skip ?_
                        refine n_then ?_
                        refine t_seq ?_
                        refine t_region ?_
                        refine l_q rfl rfl rfl (q_move rfl rfl) ?_
                        refine l_q rfl rfl rfl (q_nilCheck rfl rfl) ?_
                        refine l_q rfl rfl rfl (q_fieldAddr rfl Tryd.underlying52 rfl rfl ti9 rfl rfl) ?_
                        refine l_q rfl rfl rfl ((by first | exact q_load_row rfl Tryd.underlying9 rfl rfl (by rfl) | exact q_load rfl Tryd.underlying9 rfl rfl (rd_imm (hrow 0 _ rfl)) | exact q_load rfl Tryd.underlying9 rfl rfl (rd_imm (hrow 1 _ rfl)) | exact q_load rfl Tryd.underlying9 rfl rfl (rd_imm (hrow 2 _ rfl)) | exact q_load rfl Tryd.underlying9 rfl rfl (rd_imm (hrow 3 _ rfl)) | exact q_load rfl Tryd.underlying9 rfl rfl (sl_row1_at (i := 0) hkv ha0) | exact q_load rfl Tryd.underlying9 rfl rfl (sl_row1_at (i := 1) hkv hva1) | exact q_load rfl Tryd.underlying9 rfl rfl (sl_row1_at (i := 2) hkv hva2))) ?_
                        refine l_q rfl rfl rfl (q_move rfl rfl) ?_
                        refine l_q rfl rfl rfl (q_move rfl rfl) ?_
                        refine l_q rfl rfl rfl (quiet_call rfl rfl rfl Tryd.func23 (by kernel_rfl) rfl ((fun w _ => two_pure (opE x) a54 a141 w))) ?_
                        refine l_q rfl rfl rfl (q_extract rfl rfl rfl) ?_
                        refine l_q rfl rfl rfl (q_extract rfl rfl rfl) ?_
                        refine l_q rfl rfl rfl (q_assign rfl rfl) ?_
                        refine l_q rfl rfl rfl (q_assign rfl rfl) ?_
                        refine l_nil ?_
                        refine n_then ?_
                        refine t_ret ?_
                        refine n_ret2 rfl rfl rfl (fun w' hw => ?_)
                        -- leaf 13
                        exact ⟨_, rfl, I, row b 45 [vv, sv141] :: tvec 37 2 asC sv141 S141 :: F, ⟨rfl, _, _, sv141, S141, rfl, rfl, by rw [hxe, bin_plain (hy00 ▸ hk) hlo, hr141.t he2]; exact two_rel⟩, subC_st hw⟩
theorem work_all : ∀ x, WorkC 13 x
  | .num n => fun b vv sv vars S q I F w0 w hx hv hV hS hw0 => work_calls (.num n) (fun y ⟨i, h⟩ => by cases h) (fun _ _ _ h => by cases h) b vv sv vars S q I F w0 w hx hv hV hS hw0
  | .var nm => fun b vv sv vars S q I F w0 w hx hv hV hS hw0 => work_calls (.var nm) (fun y ⟨i, h⟩ => by cases h) (fun _ _ _ h => by cases h) b vv sv vars S q I F w0 w hx hv hV hS hw0
  | .asg op nm k =>
    have hk := work_all k
    fun b vv sv vars S q I F w0 w hx hv hV hS hw0 => work_calls (.asg op nm k) (fun y ⟨i, h⟩ => by
      match i, h with
      | 0, h => cases h; exact hk
      | i + 1, h => cases h) (fun _ _ _ h => by
        cases h
        exact fun b vv sv vars S q I F w0 w hx hv hV hS hw0 => assign_calls op nm k hk b vv sv vars S q I F w0 w hx hv hV hS hw0) b vv sv vars S q I F w0 w hx hv hV hS hw0
  | .una op k =>
    have hk := work_all k
    fun b vv sv vars S q I F w0 w hx hv hV hS hw0 => work_calls (.una op k) (fun y ⟨i, h⟩ => by
      match i, h with
      | 0, h => cases h; exact hk
      | i + 1, h => cases h) (fun _ _ _ h => by cases h) b vv sv vars S q I F w0 w hx hv hV hS hw0
  | .bin op x y =>
    have hk := work_all x
    have hk2 := work_all y
    fun b vv sv vars S q I F w0 w hx hv hV hS hw0 => work_calls (.bin op x y) (fun y ⟨i, h⟩ => by
      match i, h with
      | 0, h => cases h; exact hk
      | 1, h => cases h; exact hk2
      | i + 2, h => cases h) (fun _ _ _ h => by cases h) b vv sv vars S q I F w0 w hx hv hV hS hw0
  | .cho x y z =>
    have hk := work_all x
    have hk2 := work_all y
    have hk3 := work_all z
    fun b vv sv vars S q I F w0 w hx hv hV hS hw0 => work_calls (.cho x y z) (fun y ⟨i, h⟩ => by
      match i, h with
      | 0, h => cases h; exact hk
      | 1, h => cases h; exact hk2
      | 2, h => cases h; exact hk3
      | i + 3, h => cases h) (fun _ _ _ h => by cases h) b vv sv vars S q I F w0 w hx hv hV hS hw0
end Go.Tri
