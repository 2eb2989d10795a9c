/-
 A tree as an argument: what it reads as.
-/
import Derived.Test.YthjgbalcngkjjaaGreatDoorSE4
import Derived.Test.YthjgbalcngkjjaaGreatDoorPOpen
import Derived.Test.YthjgbalcngkjjaaGreatDoorRows
set_option maxRecDepth 100000
namespace Go.Tri
open Go.ChangeShapes Go.WideShapes Go.ChangeAt Go.RowKit Go.Proofs Go.Deep
open Go.Proofs.YthjgbalcngkjjaaGreatDoor
theorem Pj {H : Type} : ∀ ss : List ByteArray, Sd (ss.map fun s => s.data.toList) + (ss.map fun s => s.data.toList).length ≤ Rows.uptoBulkAll (strs ss : List (DataW H))
 | [] => by simp [Sd, strs, Rows.uptoBulkAll]
 | s :: ss => by
  have ih := Pj (H := H) ss
  show Sd (s.data.toList :: ss.map fun s => s.data.toList) + _ ≤ Rows.uptoBulkAll (DataW.lit (.string s.data.toList) :: (strs ss : List (DataW H)))
  rw [Pe]; simp only [Rows.uptoBulkAll, Rows.uptoBulk, List.map_cons, List.length_cons]
  omega
def Sg (l : List EK) : Nat := (l.map fun r => r.op.length + r.word.length + r.doc.length + 1).sum
theorem Ll (r : EK) (l : List EK) : Sg (r :: l) = r.op.length + r.word.length + r.doc.length + 1 + Sg l := rfl
def rdD {H : Type} (r : EK) : DataW H := .agg [.lit (.int .i64 r.fd), .lit (.string r.op), .lit (.string r.word), .lit (.string r.doc), .lit (.bool r.raw)]
theorem TJ {H : Type} {D : Nat → DataW H} {f : Nat → EK} : ∀ L : List Nat, (∀ i ∈ L, D i = rdD (f i)) → Sg (L.map f) ≤ Rows.uptoBulkAll (L.map D)
 | [], _ => by simp [Sg]
 | i :: L, h => by
  have ih := TJ L (fun j hj => h j (List.mem_cons_of_mem _ hj))
  simp only [List.map_cons, Rows.uptoBulkAll, Ll]; rw [h i (List.mem_cons_self)]; simp only [rdD, Rows.uptoBulk, Rows.uptoBulkAll]
  omega
theorem YJ {l : List EK} {r : EK} (h : r ∈ l) : r.doc.length ≤ Sg l := by
 induction l with
 | nil => cases h
 | cons a l ih =>
  rw [Ll]; rcases List.mem_cons.1 h with rfl | h
  ·omega
  ·have := ih h; omega
theorem ACB (l : List EK) : MA l ≤ 120 * Sg l := by
 induction l with
 | nil => exact Nat.zero_le _
 | cons a l ih =>
  have : MA (a :: l) = wR a + MA l := by simp [MA]
  rw [this, Ll]; unfold wR; omega
theorem ABc (l : List (List UInt8)) : Ix l ≤ 20 * (Sd l + l.length) := by
 induction l with
 | nil => exact Nat.zero_le _
 | cons a l ih => rw [GB, Pe, List.length_cons]; omega
section
variable {H : Type} {enc : TypeId × Value → H} {W : World}
theorem UX {vl : Value} {d : DataW H} {ps : List MemPlace} {fuel : Nat} (hf : DataW.trod enc Tryz.prog W 0 (fun _ => true) true fuel 22 [vl] = some (d, ps)) : ∃ l : List (List UInt8), Sl (BF W) 1 vl (l.map Bo) ∧ Sd l + l.length ≤ Rows.uptoBulk d := by
 rcases open_strings Tryz.underlying22 Tryz.underlying9 (by kernel_rfl) hf with ⟨JU, hx⟩ | ⟨a, len, cap, ss, JU, hb, hl, hm, BH, hx, Iv, _⟩
 ·cases JU
  exact ⟨[], Fv (fun _ h => by cases h), by simp [Sd]⟩
 ·cases JU
  simp only [if_true] at BH
  have key : ∀ i, ∃ c : List UInt8, i < cap → (ss.map fun s => s.data.toList)[i]? = some c ∧ ∀ j u, (Bo c)[j]? = some u → W.cell? (a.add (i * 1 + j)) = some u := by
   intro i
   by_cases him : i < cap
   ·have Xk : i < ss.length := by omega
    refine ⟨ss[i].data.toList, fun _ => ⟨by simp [Xk], fun j u hu => ?_⟩⟩
    match j, hu with
    | 0, hu =>
     cases hu
     rw [JO]
     have := Iv i Xk
     simpa [Xk] using this
    | j + 1, hu => simp [Bo] at hu
   ·exact ⟨[], fun h => absurd h him⟩
  obtain ⟨f, VO⟩ := Classical.axiomOfChoice key
  have UQ : (ss.take len).map (fun s => s.data.toList) = (List.range len).map f := by
   apply List.ext_getElem?
   intro i; rw [List.getElem?_map, List.getElem?_map, List.getElem?_take]
   by_cases hi : i < len
   ·rw [if_pos hi, List.getElem?_range hi]
    have := (VO i (by omega)).1
    rw [List.getElem?_map] at this
    rw [this]; rfl
   ·rw [if_neg hi, List.getElem?_eq_none (by simpa using hi)]; rfl
  refine ⟨(List.range len).map f, MN f Bo 1 hl (fun _ => by simp [Bo]) (fun i hi => (VO i hi).2), ?_⟩; rw [← UQ]
  cases hx
  have := Pj (H := H) (ss.take len)
  simp only [Rows.uptoBulk]
  omega
theorem Rj {a : Int} (h : (Lit.int .i64 a).wf = true) : -9223372036854775808 ≤ a ∧ a ≤ 9223372036854775807 := by
 simpa [Lit.wf, IntKind.min, IntKind.max, IntKind.signed, IntKind.bits] using h
theorem Si {vl : Value} {d : DataW H} {ps : List MemPlace} {fuel : Nat} (hf : DataW.trod enc Tryz.prog W 0 (fun _ => true) true fuel 23 [vl] = some (d, ps)) : ∃ l : List EK, Sl (BF W) 5 vl (l.map BT) ∧ Sg l ≤ Rows.uptoBulk d ∧ ∀ r ∈ l, -9223372036854775808 ≤ r.fd ∧ r.fd ≤ 9223372036854775807 := by
 rcases Fd Tryz.underlying23 Tryz.underlying37 (by kernel_rfl) (by kernel_rfl) hf with ⟨JU, hx⟩ | ⟨a, len, cap, m, D, Pl, JU, hb, hl, hm, hmm, hx, hi⟩
 ·cases JU
  exact ⟨[], Fv (fun _ h => by cases h), by simp [Sg], fun _ h => by cases h⟩
 ·cases JU
  simp only [if_true] at hmm; subst hmm
  have key : ∀ i, ∃ p : EK, i < m → D i = rdD p ∧ (-9223372036854775808 ≤ p.fd ∧ p.fd ≤ 9223372036854775807) ∧ ∀ j u, (BT p)[j]? = some u → W.cell? (a.add (i * 5 + j)) = some u := by
   intro i
   by_cases him : i < m
   ·obtain ⟨ys, n, hD, _, BH, hf⟩ := hi i him; obtain ⟨v0, y0, hc0, hy0, ht0⟩ := hf 0 _ rfl; obtain ⟨v1, y1, BI, hy1, ht1⟩ := hf 1 _ rfl; obtain ⟨v2, y2, BU, hy2, ht2⟩ := hf 2 _ rfl; obtain ⟨v3, y3, Bd, hy3, ht3⟩ := hf 3 _ rfl; obtain ⟨v4, y4, Cg, hy4, ht4⟩ := hf 4 _ rfl; obtain ⟨b0, Qp, hx0, CE⟩ := DataW.trod_int Tryz.underlying3 ht0; obtain ⟨s1, En, UD, _⟩ := DataW.trod_string Tryz.underlying9 ht1; obtain ⟨s2, Ho, hx2, _⟩ := DataW.trod_string Tryz.underlying9 ht2; obtain ⟨s3, Pp, hx3, _⟩ := DataW.trod_string Tryz.underlying9 ht3; obtain ⟨b4, hb4, hx4⟩ := DataW.trod_bool Tryz.underlying4 ht4
    cases Qp; cases En; cases Ho; cases Pp; cases hb4
    subst hx0 UD hx2 hx3 hx4; refine ⟨⟨b0, s1.data.toList, s2.data.toList, s3.data.toList, b4⟩, fun _ => ⟨?_, Rj CE, ?_⟩⟩
    ·match ys, BH with
     | [z0, z1, z2, z3, z4], _ =>
      cases hy0; cases hy1; cases hy2; cases hy3; cases hy4
      rw [hD]; rfl
    ·intro j u hu
     match j, hu with
     | 0, hu => cases hu; exact hc0
     | 1, hu => cases hu; rw [JO]; exact BI
     | 2, hu => cases hu; rw [JO]; exact BU
     | 3, hu => cases hu; rw [JO]; exact Bd
     | 4, hu => cases hu; exact Cg
     | j + 5, hu => simp [BT] at hu
   ·exact ⟨⟨0, [], [], [], false⟩, fun h => absurd h him⟩
  obtain ⟨f, VO⟩ := Classical.axiomOfChoice key; refine ⟨(List.range len).map f, MN f BT 5 hl (fun _ => by simp [BT]) (fun i hi => (VO i hi).2.2), ?_, fun r hr => ?_⟩
  ·cases hx
   have := TJ (H := H) (D := D) (f := f) (List.range len) (fun i hi => (VO i (by have := List.mem_range.1 hi; omega)).1)
   simp only [Rows.uptoBulk]
   omega
  ·obtain ⟨i, hi, rfl⟩ := List.mem_map.1 hr; exact (VO i (by have := List.mem_range.1 hi; omega)).2.1
theorem S5 {D : Nat → DataW H} : ∀ (L : List Nat) (i : Nat), i ∈ L → Rows.uptoBulk (D i) ≤ Rows.uptoBulkAll (L.map D)
 | [], _, h => by cases h
 | j :: L, i, h => by
  rw [List.map_cons, Rows.uptoBulkAll]; rcases List.mem_cons.1 h with rfl | h
  ·omega
  ·have := S5 (D := D) L i h; omega
theorem Uw {D : Nat → DataW H} {f : Nat → Hn × HC} (I : AU) : ∀ (L : List Nat), (∀ i ∈ L, D5 I (f i).1 (f i).2 ∧ HX (f i).1 ∧ wH (f i).1 + 60 ≤ 300 * Rows.uptoBulk (D i)) → Bx I (L.map fun i => (f i).1) (L.map fun i => (f i).2) ∧ US (L.map fun i => (f i).1) ∧ Hm (L.map fun i => (f i).1) ≤ 300 * Rows.uptoBulkAll (L.map D)
 | [], _ => ⟨by unfold Bx; trivial, by simp [US], by simp [Hm]⟩
 | j :: L, h => by
  obtain ⟨h1, h2, h3⟩ := Uw I L (fun i hi => h i (List.mem_cons_of_mem _ hi)); obtain ⟨h4, h5, h6⟩ := h j (List.mem_cons_self); refine ⟨?_, ?_, ?_⟩
  ·simp only [List.map_cons]; unfold Bx; exact ⟨h4, h1⟩
  ·simp only [List.map_cons]; rw [US]; exact ⟨h5, h2⟩
  ·simp only [List.map_cons]; rw [Hm, Rows.uptoBulkAll]; omega
theorem NY {y0 y1 y2 y3 y4 y5 y6 : DataW H × List MemPlace} {v0 v1 v2 v3 v4 v5 v6 : Value} {n : Nat} (hu6 : Rows.uptoBulk y6.1 ≤ 1048576) (hu5 : Rows.uptoBulk y5.1 ≤ 1048576)
  (ih : ∀ (fuel : Nat) (v : Value) (y : DataW H × List MemPlace), Rows.uptoBulk y.1 ≤ Rows.uptoBulk y6.1 → DataW.trod enc Tryz.prog W 0 (fun _ => true) true fuel 24 [v] = some y → ∃ (ks : List Hn) (cs : List HC), Sl (BF W) 7 v (cs.map Eo) ∧ Bx (BF W) ks cs ∧ US ks ∧ Hm ks ≤ 300 * Rows.uptoBulk y.1)
  (ht0 : DataW.trod enc Tryz.prog W 0 (fun _ => true) true n 3 [v0] = some y0) (ht1 : DataW.trod enc Tryz.prog W 0 (fun _ => true) true n 4 [v1] = some y1) (ht2 : DataW.trod enc Tryz.prog W 0 (fun _ => true) true n 4 [v2] = some y2) (ht3 : DataW.trod enc Tryz.prog W 0 (fun _ => true) true n 9 [v3] = some y3)
  (ht4 : DataW.trod enc Tryz.prog W 0 (fun _ => true) true n 22 [v4] = some y4) (ht5 : DataW.trod enc Tryz.prog W 0 (fun _ => true) true n 23 [v5] = some y5) (ht6 : DataW.trod enc Tryz.prog W 0 (fun _ => true) true n 24 [v6] = some y6) :
  ∃ (h : Hn) (c : HC), Eo c = [v0, v1, v2, v3, v4, v5, v6] ∧ D5 (BF W) h c ∧ HX h ∧ wH h + 60 ≤ 300 * (Rows.uptoBulk y0.1 + Rows.uptoBulk y1.1 + Rows.uptoBulk y2.1 + Rows.uptoBulk y3.1 + Rows.uptoBulk y4.1 + Rows.uptoBulk y5.1 + Rows.uptoBulk y6.1 + 1) := by
 obtain ⟨ks, cs, h7, h8, Bb, hw⟩ := ih _ _ _ (Nat.le_refl _) ht6; obtain ⟨b0, Qp, hx0, CE⟩ := DataW.trod_int Tryz.underlying3 ht0; obtain ⟨b1, hb1, UD⟩ := DataW.trod_bool Tryz.underlying4 ht1; obtain ⟨b2, Ei, hx2⟩ := DataW.trod_bool Tryz.underlying4 ht2; obtain ⟨s3, Pp, hx3, _⟩ := DataW.trod_string Tryz.underlying9 ht3; obtain ⟨ws, h5, hws⟩ := UX (d := y4.1) (ps := y4.2) ht4; obtain ⟨rs, h6, hrs, hfd⟩ := Si (d := y5.1) (ps := y5.2) ht5
 cases Qp; cases hb1; cases Ei; cases Pp
 subst hx0 UD hx2 hx3; refine ⟨.mk b0 b1 b2 s3.data.toList ws rs ks, ⟨b0, b1, b2, s3.data.toList, v4, v5, v6⟩, ?_, ?_, ?_, ?_⟩
 ·simp only [Eo]; rw [JO]
 ·unfold D5; exact ⟨rfl, rfl, rfl, rfl, h5, h6, cs, h7, h8⟩
 ·rw [HX]; exact ⟨Rj CE, fun r hr => ⟨by have := YJ hr; omega, hfd r hr⟩, Bb⟩
 ·rw [wH]
  have h1 := ABc ws
  have h2 := ACB rs
  simp only [Rows.uptoBulk]
  omega
theorem WM : ∀ (N fuel : Nat) (v : Value) (y : DataW H × List MemPlace), Rows.uptoBulk y.1 ≤ N → Rows.uptoBulk y.1 ≤ 1048576 → DataW.trod enc Tryz.prog W 0 (fun _ => true) true fuel 24 [v] = some y →
  ∃ (ks : List Hn) (cs : List HC), Sl (BF W) 7 v (cs.map Eo) ∧ Bx (BF W) ks cs ∧ US ks ∧ Hm ks ≤ 300 * Rows.uptoBulk y.1 := by
 intro N
 induction N with
 | zero =>
  intro fuel v y hN hM hf
  exfalso
  rcases Fd Tryz.underlying24 Tryz.underlying26 (by kernel_rfl) (by kernel_rfl) hf with ⟨JU, rfl⟩ | ⟨a, len, cap, m, D, Pl, JU, hb, hl, hm, hmm, rfl, hi⟩
  ·simp [Rows.uptoBulk] at hN
  ·simp [Rows.uptoBulk] at hN
 | succ N ih =>
  intro fuel v y hN hM hf; rcases Fd Tryz.underlying24 Tryz.underlying26 (by kernel_rfl) (by kernel_rfl) hf with ⟨JU, hx⟩ | ⟨a, len, cap, m, D, Pl, JU, hb, hl, hm, hmm, hx, hi⟩
  ·cases JU; subst hx
   exact ⟨[], [], Fv (fun _ h => by cases h), by unfold Bx; trivial, by rw [US]; trivial, by rw [Hm]; exact Nat.zero_le _⟩
  ·cases JU; subst hx
   simp only [if_true] at hmm; subst hmm; simp only [Rows.uptoBulk] at hN hM
   have key : ∀ i, ∃ p : Hn × HC, i < len → (D5 (BF W) p.1 p.2 ∧ HX p.1 ∧ wH p.1 + 60 ≤ 300 * Rows.uptoBulk (D i)) ∧ ∀ j u, (Eo p.2)[j]? = some u → W.cell? (a.add (i * 7 + j)) = some u := by
    intro i
    by_cases him : i < len
    ·obtain ⟨ys, n, hD, _, BH, hf⟩ := hi i (by omega); obtain ⟨v0, y0, hc0, hy0, ht0⟩ := hf 0 _ rfl; obtain ⟨v1, y1, BI, hy1, ht1⟩ := hf 1 _ rfl; obtain ⟨v2, y2, BU, hy2, ht2⟩ := hf 2 _ rfl; obtain ⟨v3, y3, Bd, hy3, ht3⟩ := hf 3 _ rfl; obtain ⟨v4, y4, Cg, hy4, ht4⟩ := hf 4 _ rfl; obtain ⟨v5, y5, C1, hy5, ht5⟩ := hf 5 _ rfl; obtain ⟨v6, y6, Dd, hy6, ht6⟩ := hf 6 _ rfl
     have hbk : Rows.uptoBulk (D i) = Rows.uptoBulk y0.1 + Rows.uptoBulk y1.1 + Rows.uptoBulk y2.1 + Rows.uptoBulk y3.1 + Rows.uptoBulk y4.1 + Rows.uptoBulk y5.1 + Rows.uptoBulk y6.1 + 1 := by
      match ys, BH with
      | [z0, z1, z2, z3, z4, z5, z6], _ =>
       cases hy0; cases hy1; cases hy2; cases hy3; cases hy4; cases hy5; cases hy6
       rw [hD]; simp only [List.map_cons, List.map_nil, Rows.uptoBulk, Rows.uptoBulkAll]; omega
     have ARF := S5 (D := D) (List.range len) i (List.mem_range.2 him)
     obtain ⟨h, c, e, h1, h2, h3⟩ := NY (enc := enc) (W := W) (by omega) (by omega) (fun fuel v y hy => ih fuel v y (by omega) (by omega)) ht0 ht1 ht2 ht3 ht4 ht5 ht6; refine ⟨(h, c), fun _ => ⟨⟨h1, h2, by rw [hbk]; exact h3⟩, fun j u hu => ?_⟩⟩; rw [e] at hu
     match j, hu with
     | 0, hu => cases hu; exact hc0
     | 1, hu => cases hu; exact BI
     | 2, hu => cases hu; exact BU
     | 3, hu => cases hu; exact Bd
     | 4, hu => cases hu; exact Cg
     | 5, hu => cases hu; exact C1
     | 6, hu => cases hu; exact Dd
     | j + 7, hu => simp at hu
    ·exact ⟨(EL, hc0), fun h => absurd h him⟩
   obtain ⟨f, VO⟩ := Classical.axiomOfChoice key; obtain ⟨k1, k2, k3⟩ := Uw (D := D) (f := f) (BF W) (List.range len) (fun i hi => (VO i (List.mem_range.1 hi)).1); refine ⟨(List.range len).map fun i => (f i).1, (List.range len).map fun i => (f i).2, ?_, k1, k2, ?_⟩
   ·exact LU (fun i => (f i).2) Eo 7 hl (fun _ => by simp [Eo]) (fun i hi => (VO i hi).2)
   ·simp only [Rows.uptoBulk]; omega
theorem Wq {v : Value} {d : DataW H} {ps : List MemPlace} {base : Nat} (Ro : Value.okWide Tryz.prog W .any base 26 v)
  (h : DataW.Trod enc Tryz.prog W 0 (fun _ => true) true 26 v d ps) (hb : Rows.uptoBulk d ≤ 1048576) : ∃ (n : Hn) (c : HC), v = .agg (Eo c).toArray ∧ D5 (BF W) n c ∧ HX n ∧ wH n + 60 ≤ 300 * Rows.uptoBulk d := by
 unfold Value.okWide at Ro; rw [Tryz.underlying26] at Ro; obtain ⟨cs, rfl, Lj, _⟩ := Ro; obtain ⟨fuel, hf⟩ := h; obtain ⟨xs, n, _, hx, hl, BH, T9⟩ := DataW.trod_struct Tryz.underlying26 hf
 have hc : Tryz.prog.cellsOf 26 = 7 := by kernel_rfl
 rw [hc] at Lj; obtain ⟨cs⟩ := cs
 match cs, Lj, xs, BH with
 | [a0, a1, a2, a3, a4, a5, a6], _, [x0, x1, x2, x3, x4, x5, x6], _ =>
  have f0 : DataW.trod enc Tryz.prog W 0 (fun _ => true) true n 3 ((([a0, a1, a2, a3, a4, a5, a6] : List Value).drop 0).take (Tryz.prog.cellsOf 3)) = some x0 := T9 0 _ rfl
  rw [show Tryz.prog.cellsOf 3 = 1 by kernel_rfl] at f0
  have f1 : DataW.trod enc Tryz.prog W 0 (fun _ => true) true n 4 ((([a0, a1, a2, a3, a4, a5, a6] : List Value).drop 1).take (Tryz.prog.cellsOf 4)) = some x1 := T9 1 _ rfl
  rw [show Tryz.prog.cellsOf 4 = 1 by kernel_rfl] at f1
  have f2 : DataW.trod enc Tryz.prog W 0 (fun _ => true) true n 4 ((([a0, a1, a2, a3, a4, a5, a6] : List Value).drop 2).take (Tryz.prog.cellsOf 4)) = some x2 := T9 2 _ rfl
  rw [show Tryz.prog.cellsOf 4 = 1 by kernel_rfl] at f2
  have f3 : DataW.trod enc Tryz.prog W 0 (fun _ => true) true n 9 ((([a0, a1, a2, a3, a4, a5, a6] : List Value).drop 3).take (Tryz.prog.cellsOf 9)) = some x3 := T9 3 _ rfl
  rw [show Tryz.prog.cellsOf 9 = 1 by kernel_rfl] at f3
  have f4 : DataW.trod enc Tryz.prog W 0 (fun _ => true) true n 22 ((([a0, a1, a2, a3, a4, a5, a6] : List Value).drop 4).take (Tryz.prog.cellsOf 22)) = some x4 := T9 4 _ rfl
  rw [show Tryz.prog.cellsOf 22 = 1 by kernel_rfl] at f4
  have f5 : DataW.trod enc Tryz.prog W 0 (fun _ => true) true n 23 ((([a0, a1, a2, a3, a4, a5, a6] : List Value).drop 5).take (Tryz.prog.cellsOf 23)) = some x5 := T9 5 _ rfl
  rw [show Tryz.prog.cellsOf 23 = 1 by kernel_rfl] at f5
  have f6 : DataW.trod enc Tryz.prog W 0 (fun _ => true) true n 24 ((([a0, a1, a2, a3, a4, a5, a6] : List Value).drop 6).take (Tryz.prog.cellsOf 24)) = some x6 := T9 6 _ rfl
  rw [show Tryz.prog.cellsOf 24 = 1 by kernel_rfl] at f6
  have hd : d = .agg [x0.1, x1.1, x2.1, x3.1, x4.1, x5.1, x6.1] := congrArg Prod.fst hx
  have Nt : Rows.uptoBulk d = Rows.uptoBulk x0.1 + Rows.uptoBulk x1.1 + Rows.uptoBulk x2.1 + Rows.uptoBulk x3.1 + Rows.uptoBulk x4.1 + Rows.uptoBulk x5.1 + Rows.uptoBulk x6.1 + 1 := by
   rw [hd]; simp only [Rows.uptoBulk, Rows.uptoBulkAll]; omega
  obtain ⟨m, c, e, h1, h2, h3⟩ := NY (enc := enc) (W := W) (by omega) (by omega) (fun fuel v y hy ht => WM _ fuel v y (Nat.le_refl _) (by omega) ht) f0 f1 f2 f3 f4 f5 f6; exact ⟨m, c, by rw [e], h1, h2, by rw [Nt]; exact h3⟩
end
end Go.Tri
