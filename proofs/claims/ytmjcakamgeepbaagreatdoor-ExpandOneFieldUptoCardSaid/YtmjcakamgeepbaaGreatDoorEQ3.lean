/-
 A scene as an argument.
-/
import Derived.Test.YtmjcakamgeepbaaGreatDoorEE8
import Derived.Test.YtmjcakamgeepbaaGreatDoorEQ4
namespace Go.Tri
open Go.ChangeShapes Go.WideShapes Go.ChangeAt Go.RowKit Go.Proofs Go.Proofs.YtmjcakamgeepbaaGreatDoor
set_option maxRecDepth 100000
def vrD {H : Type} (v : Vr) : DataW H := .agg [.lit (.string v.name), .lit (.string v.value), .lit (.bool v.e), .lit (.bool v.r), .lit (.bool v.u)]
def totV (l : List Vr) : Nat := (l.map fun v => v.name.length + v.value.length).sum
theorem totV_cons (v : Vr) (l : List Vr) : totV (v :: l) = v.name.length + v.value.length + totV l := rfl
theorem bulk_vrs {H : Type} {D : Nat → DataW H} {f : Nat → Vr} : ∀ L : List Nat, (∀ i ∈ L, D i = vrD (f i)) → totV (L.map f) + (L.map f).length ≤ Rows.uptoBulkAll (L.map D)
 | [], _ => by simp [totV, Rows.uptoBulkAll]
 | i :: L, h => by
  have ih := bulk_vrs L (fun j hj => h j (List.mem_cons_of_mem _ hj))
  simp only [List.map_cons, Rows.uptoBulkAll, totV_cons, List.length_cons]; rw [h i (List.mem_cons_self)]; simp only [vrD, Rows.uptoBulk, Rows.uptoBulkAll]
  omega
theorem open_vars {H : Type} {enc : TypeId × Value → H} {W : World} {vl : Value} {d : DataW H} {ps : List MemPlace} {base : Nat} (hval : Value.okWide Tryz.prog W .any base 22 vl)
  (h : DataW.Trod enc Tryz.prog W 0 (fun _ => true) true 22 vl d ps) : ∃ l : List Vr, Sl (look W) 5 vl (l.map vrC) ∧ totV l + l.length ≤ Rows.uptoBulk d := by
 obtain ⟨a0, len0, cap0, rfl⟩ := okWide_slice Tryz.underlying22 hval; obtain ⟨fuel, hf⟩ := h; rcases open_slice_fields Tryz.underlying22 Tryz.underlying39 (by kernel_rfl) (by kernel_rfl) hf with ⟨hcs, hx⟩ | ⟨a, len, cap, m, D, Pl, hcs, hb, hl, hm, hmm, hx, hi⟩
 ·simp [Value.cells] at hcs
  obtain ⟨rfl, rfl, rfl⟩ := hcs; exact ⟨[], sl_nil (fun _ h => by cases h), by simp [totV]⟩
 ·simp [Value.cells] at hcs
  obtain ⟨rfl, rfl, rfl⟩ := hcs; simp only [if_true] at hmm; subst hmm
  have key : ∀ i, ∃ p : Vr, i < m → D i = vrD p ∧ ∀ j u, (vrC p)[j]? = some u → W.cell? (a.add (i * 5 + j)) = some u := by
   intro i
   by_cases him : i < m
   ·obtain ⟨ys, n, hD, _, hlen, hf⟩ := hi i him; obtain ⟨v0, y0, hc0, hy0, ht0⟩ := hf 0 _ rfl; obtain ⟨v1, y1, hc1, hy1, ht1⟩ := hf 1 _ rfl; obtain ⟨v2, y2, hc2, hy2, ht2⟩ := hf 2 _ rfl; obtain ⟨v3, y3, hc3, hy3, ht3⟩ := hf 3 _ rfl; obtain ⟨v4, y4, hc4, hy4, ht4⟩ := hf 4 _ rfl; obtain ⟨s0, hs0, hx0, _⟩ := DataW.trod_string Tryz.underlying9 ht0; obtain ⟨s1, hs1, hx1, _⟩ := DataW.trod_string Tryz.underlying9 ht1; obtain ⟨b2, hb2, hx2⟩ := DataW.trod_bool Tryz.underlying4 ht2; obtain ⟨b3, hb3, hx3⟩ := DataW.trod_bool Tryz.underlying4 ht3; obtain ⟨b4, hb4, hx4⟩ := DataW.trod_bool Tryz.underlying4 ht4
    cases hs0; cases hs1; cases hb2; cases hb3; cases hb4
    subst hx0 hx1 hx2 hx3 hx4; refine ⟨⟨s0.data.toList, s1.data.toList, b2, b3, b4⟩, fun _ => ⟨?_, ?_⟩⟩
    ·match ys, hlen with
     | [z0, z1, z2, z3, z4], _ =>
      cases hy0; cases hy1; cases hy2; cases hy3; cases hy4
      rw [hD]; rfl
    ·intro j u hu
     match j, hu with
     | 0, hu => cases hu; rw [str_data]; exact hc0
     | 1, hu => cases hu; rw [str_data]; exact hc1
     | 2, hu => cases hu; exact hc2
     | 3, hu => cases hu; exact hc3
     | 4, hu => cases hu; exact hc4
     | j + 5, hu => simp [vrC] at hu
   ·exact ⟨vr0, fun h => absurd h him⟩
  obtain ⟨f, hf2⟩ := Classical.axiomOfChoice key; refine ⟨(List.range len0).map f, sl_of_elems f vrC 5 hl (fun _ => by simp [vrC]) (fun i hi => (hf2 i hi).2), ?_⟩
  cases hx
  have := bulk_vrs (H := H) (D := D) (f := f) (List.range len0) (fun i hi => (hf2 i (by have := List.mem_range.1 hi; omega)).1)
  simp only [Rows.uptoBulk]
  omega
theorem bulk_strs {H : Type} : ∀ ss : List ByteArray, totS (ss.map fun s => s.data.toList) + (ss.map fun s => s.data.toList).length ≤ Rows.uptoBulkAll (strs ss : List (DataW H))
 | [] => by simp [totS, strs, Rows.uptoBulkAll]
 | s :: ss => by
  have ih := bulk_strs (H := H) ss
  show totS (s.data.toList :: ss.map fun s => s.data.toList) + _ ≤ Rows.uptoBulkAll (DataW.lit (.string s.data.toList) :: (strs ss : List (DataW H)))
  rw [totS_cons]; simp only [Rows.uptoBulkAll, Rows.uptoBulk, List.map_cons, List.length_cons]
  omega
theorem open_strs {H : Type} {enc : TypeId × Value → H} {W : World} {vl : Value} {d : DataW H} {ps : List MemPlace} {base : Nat} (hval : Value.okWide Tryz.prog W .any base 23 vl)
  (h : DataW.Trod enc Tryz.prog W 0 (fun _ => true) true 23 vl d ps) : ∃ l : List (List UInt8), Sl (look W) 1 vl (l.map stC) ∧ totS l + l.length ≤ Rows.uptoBulk d := by
 obtain ⟨a0, len0, cap0, rfl⟩ := okWide_slice Tryz.underlying23 hval; obtain ⟨fuel, hf⟩ := h; rcases open_strings Tryz.underlying23 Tryz.underlying9 (by kernel_rfl) hf with ⟨hcs, hx⟩ | ⟨a, len, cap, ss, hcs, hb, hl, hm, hlen, hx, hcell, _⟩
 ·simp [Value.cells] at hcs
  obtain ⟨rfl, rfl, rfl⟩ := hcs; exact ⟨[], sl_nil (fun _ h => by cases h), by simp [totS]⟩
 ·simp [Value.cells] at hcs
  obtain ⟨rfl, rfl, rfl⟩ := hcs; simp only [if_true] at hlen
  have key : ∀ i, ∃ c : List UInt8, i < cap0 → (ss.map fun s => s.data.toList)[i]? = some c ∧ ∀ j u, (stC c)[j]? = some u → W.cell? (a.add (i * 1 + j)) = some u := by
   intro i
   by_cases him : i < cap0
   ·have hi2 : i < ss.length := by omega
    refine ⟨ss[i].data.toList, fun _ => ⟨by simp [hi2], fun j u hu => ?_⟩⟩
    match j, hu with
    | 0, hu =>
     cases hu
     rw [str_data]
     have := hcell i hi2
     simpa [hi2] using this
    | j + 1, hu => simp [stC] at hu
   ·exact ⟨[], fun h => absurd h him⟩
  obtain ⟨f, hf2⟩ := Classical.axiomOfChoice key
  have hl2 : (ss.take len0).map (fun s => s.data.toList) = (List.range len0).map f := by
   apply List.ext_getElem?
   intro i; rw [List.getElem?_map, List.getElem?_map, List.getElem?_take]
   by_cases hi : i < len0
   ·rw [if_pos hi, List.getElem?_range hi]
    have := (hf2 i (by omega)).1
    rw [List.getElem?_map] at this
    rw [this]; rfl
   ·rw [if_neg hi, List.getElem?_eq_none (by simpa using hi)]; rfl
  refine ⟨(List.range len0).map f, sl_of_elems f stC 1 hl (fun _ => by simp [stC]) (fun i hi => (hf2 i hi).2), ?_⟩; rw [← hl2]
  cases hx
  have := bulk_strs (H := H) (ss.take len0)
  simp only [Rows.uptoBulk]
  omega
theorem open_scene {H : Type} {enc : TypeId × Value → H} {W : World} {v : Value} {d : DataW H} {ps : List MemPlace} {base : Nat} (hval : Value.okWide Tryz.prog W .any base 25 v)
  (h : DataW.Trod enc Tryz.prog W 0 (fun _ => true) true 25 v d ps) : ∃ (vv av ov pv : Value) (vars : List Vr) (al outs pl : List (List UInt8)), v = .agg #[vv, av, ov, pv] ∧ Sl (look W) 5 vv (vars.map vrC) ∧ Sl (look W) 1 av (al.map stC) ∧ Sl (look W) 1 ov (outs.map stC) ∧ Sl (look W) 1 pv (pl.map stC) ∧
   (totV vars + vars.length) + (totS al + al.length) + (totS outs + outs.length) + (totS pl + pl.length) ≤ Rows.uptoBulk d := by
 unfold Value.okWide at hval; rw [Tryz.underlying25] at hval; obtain ⟨cs, rfl, hsz, ts, hts, _, hrow⟩ := hval
 have hts2 : Tryz.prog.cellTypes Tryz.prog.depth 25 = some [22, 23, 23, 23] := by kernel_rfl
 rw [hts2] at hts
 cases hts
 obtain ⟨fuel, hf⟩ := h; obtain ⟨xs, n, _, hx, hl, hlen, hfld⟩ := DataW.trod_struct Tryz.underlying25 hf
 have hc : Tryz.prog.cellsOf 25 = 4 := by kernel_rfl
 have hcv : Tryz.prog.cellsOf 22 = 1 := by kernel_rfl
 have hcs : Tryz.prog.cellsOf 23 = 1 := by kernel_rfl
 rw [hc] at hsz; obtain ⟨cs⟩ := cs
 match cs, hsz, xs, hlen with
 | [a, b, c, e], _, [x0, x1, x2, x3], _ =>
  have w0 : Value.okWide Tryz.prog W .any base 22 a := by
   obtain ⟨u, hu, hw⟩ := hrow 0 a rfl
   cases hu
   unfold Value.okWide; rw [Tryz.underlying22]; exact hw
  have w1 : Value.okWide Tryz.prog W .any base 23 b := by
   obtain ⟨u, hu, hw⟩ := hrow 1 b rfl
   cases hu
   unfold Value.okWide; rw [Tryz.underlying23]; exact hw
  have w2 : Value.okWide Tryz.prog W .any base 23 c := by
   obtain ⟨u, hu, hw⟩ := hrow 2 c rfl
   cases hu
   unfold Value.okWide; rw [Tryz.underlying23]; exact hw
  have w3 : Value.okWide Tryz.prog W .any base 23 e := by
   obtain ⟨u, hu, hw⟩ := hrow 3 e rfl
   cases hu
   unfold Value.okWide; rw [Tryz.underlying23]; exact hw
  have f0 : DataW.trod enc Tryz.prog W 0 (fun _ => true) true n 22 ((([a, b, c, e] : List Value).drop 0).take (Tryz.prog.cellsOf 22)) = some x0 := hfld 0 _ rfl
  rw [hcv] at f0
  have f1 : DataW.trod enc Tryz.prog W 0 (fun _ => true) true n 23 ((([a, b, c, e] : List Value).drop 1).take (Tryz.prog.cellsOf 23)) = some x1 := hfld 1 _ rfl
  rw [hcs] at f1
  have f2 : DataW.trod enc Tryz.prog W 0 (fun _ => true) true n 23 ((([a, b, c, e] : List Value).drop 2).take (Tryz.prog.cellsOf 23)) = some x2 := hfld 2 _ rfl
  rw [hcs] at f2
  have f3 : DataW.trod enc Tryz.prog W 0 (fun _ => true) true n 23 ((([a, b, c, e] : List Value).drop 3).take (Tryz.prog.cellsOf 23)) = some x3 := hfld 3 _ rfl
  rw [hcs] at f3; obtain ⟨s0, m0, k0, rfl⟩ := okWide_slice Tryz.underlying22 w0; obtain ⟨s1, m1, k1, rfl⟩ := okWide_slice Tryz.underlying23 w1; obtain ⟨s2, m2, k2, rfl⟩ := okWide_slice Tryz.underlying23 w2; obtain ⟨s3, m3, k3, rfl⟩ := okWide_slice Tryz.underlying23 w3; obtain ⟨d0, p0⟩ := x0; obtain ⟨d1, p1⟩ := x1; obtain ⟨d2, p2⟩ := x2; obtain ⟨d3, p3⟩ := x3; obtain ⟨vars, hv, hb0⟩ := open_vars (d := d0) (ps := p0) w0 ⟨n, f0⟩; obtain ⟨al, ha, hb1⟩ := open_strs (d := d1) (ps := p1) w1 ⟨n, f1⟩; obtain ⟨outs, ho, hb2⟩ := open_strs (d := d2) (ps := p2) w2 ⟨n, f2⟩; obtain ⟨pl, hp, hb3⟩ := open_strs (d := d3) (ps := p3) w3 ⟨n, f3⟩; refine ⟨_, _, _, _, vars, al, outs, pl, rfl, hv, ha, ho, hp, ?_⟩; rw [show d = _ from congrArg Prod.fst hx]; simp only [List.map_cons, List.map_nil, Rows.uptoBulk, Rows.uptoBulkAll]
  omega
theorem totV_name {l : List Vr} {v : Vr} (h : v ∈ l) : v.name.length ≤ totV l := by
 induction l with
 | nil => cases h
 | cons a l ih =>
  rw [totV_cons]; rcases List.mem_cons.1 h with rfl | h
  ·omega
  ·have := ih h; omega
theorem vals_tot (l : List Vr) : valsN l ≤ totV l := by
 induction l with
 | nil => exact Nat.le_refl _
 | cons a l ih =>
  rw [totV_cons]
  show a.value.length + valsN l ≤ _
  omega
theorem lens_tot (l : List (List UInt8)) : Lib.lens l = totS l := rfl
theorem small_tot {vars : List Vr} {al outs : List (List UInt8)} {s : List UInt8} {n : Nat} (h : (totV vars + vars.length) + (totS al + al.length) + (totS outs + outs.length) ≤ n) : smallN vars al outs s ≤ n + s.length := by
 have h1 := vals_tot vars
 unfold smallN sizN; rw [lens_tot, lens_tot]
 omega
end Go.Tri
