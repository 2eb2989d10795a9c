/-
 Pieces: made, as a text, as bytes.
-/
import Derived.Test.YtmjcakamgeepbaaGreatDoorEC4
namespace Go.Tri
open Go.Proofs Go.RowKit
set_option maxRecDepth 10000
def mkC (p : HP) (m : List UInt8) (e : Nat) : List Value := [.iface 31 (.pointer (some ⟨p.hb, 0, none⟩)), str m, .int .i64 (e : Int)]
/-- the maker and its host -/
@[reducible] def makH (mb : Nat) (m : List UInt8) (e : Nat) (p : HP) (lv av : Value) (h : Hx) (F : List HA) : List HA := row mb 78 (mkC p m e) :: hostH p lv av h F
theorem pick_mak {H : List HA} {I : Look} {w0 w : World} {F : List HA} {mb e : Nat} {m : List UInt8} {p : HP} {lv av : Value} {h : Hx} [hq : Picks [row mb 78 (mkC p m e), row p.hb 35 [.pointer (some ⟨p.eb, 0, none⟩)], row p.eb 65 (envC p av), row p.vb 61 [lv, p.gv], tvec 9 1 svC av h.asked] F H] (hw : St w0 I H w) : St w0 I (makH mb m e p lv av h F) w := hw.perm hq.perm
def PxR (I : Look) (v : Value) (l : List Px) : Prop := Sl I 4 v (l.map pxC)
theorem PxR.mono {I J : Look} {v : Value} {l : List Px} (h : PxR I v l) (hle : Le I J) : PxR J v l := Sl.mono h hle
theorem PxR.one {I : Look} {v : Value} {l : List Px} (h : PxR I v l) : One v := Sl.one h
theorem pxC_ones (x : Px) : ∀ u ∈ pxC x, u.oneCell' = true := fun u hu => by
 simp only [pxC, List.mem_cons, List.not_mem_nil, or_false] at hu
 rcases hu with rfl | rfl | rfl | rfl <;> rfl
theorem rds_px {w0 : World} {I : Look} {H : List HA} {v : Value} {l : List Px} (h : Sl I 4 v (l.map pxC)) {i : Nat} (hi : i < l.length) : Rds w0 I H (adr v).block ((adr v).off + i * 4) (pxC (nth l i px0)) := h.rds (map_getD l pxC px0 hi)
theorem textX_take_le (l : List Px) (k : Nat) : (textX (l.take k)).length ≤ (textX l).length := by
 conv => rhs; rw [← List.take_append_drop k l]
 rw [textX_app, List.length_append]; omega
theorem px_len {l : List Px} {i : Nat} (h : i < l.length) : (nth l i px0).p.t.length ≤ (textX l).length := by
 have := textX_take_le l (i + 1)
 rw [textX_take h, List.length_append] at this; omega
def chAt (x : Px) : List Ch := (if x.st then [(⟨32, false⟩ : Ch)] else []) ++ x.p.t.map fun b => ⟨b, x.p.q⟩
theorem charsX_drop {l : List Px} {i : Nat} (h : i < l.length) : charsX (l.drop i) = chAt (nth l i px0) ++ charsX (l.drop (i + 1)) := by
 rw [drop_nth px0 h]; rfl
def chV (c : Ch) : List Value := [.agg (chC c).toArray]
theorem chV_at {xs r : List Ch} {n : Nat} {c : Ch} (h : xs.drop n = c :: r) : (xs.map chV)[n]? = some [.agg (chC c).toArray] := by
 rw [List.getElem?_map, (drop_step h).2.1]; rfl
theorem chV_one {xs : List Ch} {n : Nat} {vs : List Value} (h : (xs.map chV)[n]? = some vs) : n < xs.length ∧ vs = [.agg (chC (nth xs n ch0)).toArray] := by
 rw [List.getElem?_map] at h; obtain ⟨x, hx, rfl⟩ := Option.map_eq_some_iff.1 h; obtain ⟨hn, hx'⟩ := List.getElem?_eq_some_iff.1 hx; exact ⟨hn, by rw [nth_eq hn, hx']; rfl⟩
theorem chVs_one {xs : List Ch} : ∀ vs ∈ xs.map chV, vs.length = 1 := fun vs h => by
 obtain ⟨x, _, rfl⟩ := List.mem_map.1 h; rfl
theorem charsX_len (l : List Px) : (charsX l).length = (textX l).length := by
 induction l with
 | nil => rfl
 | cons x l ih =>
  show (chAt x ++ charsX l).length = ((stS x ++ x.p.t) ++ textX l).length
  rw [List.length_append, List.length_append, ih]
  congr 1
  unfold chAt stS
  cases x.st <;> simp
theorem trimPrefix_pure (s p : List UInt8) (w : World) : Pure Tryz.prog 76 [str s, str p] w (str (Lib.trimPrefix s p)) := by
 refine (Tryz.strings_TrimPrefix ⟨s.toArray⟩ ⟨p.toArray⟩ w).mono fun e w' ⟨h1, h2⟩ => ?_
 subst h2; exact ⟨by simpa [str] using h1, Below.refl _ _⟩
theorem trimNl_pure (s : List UInt8) (w : World) (hs : s.length ≤ 1000000000) : Pure Tryz.prog 56 [str s, str [10]] w (str (trimNl s)) := by
 have hsz := size_str s
 refine (Tryz.strings_TrimRight_one ⟨s.toArray⟩ 10 (by decide) w (by omega)).mono fun e w' ⟨h1, h2⟩ => ?_
 subst h2; refine ⟨?_, Below.refl _ _⟩; unfold trimNl; rw [Lib.trimRightS_one]
 simpa [str] using h1
theorem xjoin_pure (v : Value) (ws : List (List UInt8)) (sep : List UInt8) (w : World) (hn : ws.length ≤ 1000000000) (h : Sl (look w) 1 v (ws.map svC)) (hl : (Lib.join ws sep).length ≤ 1000000000) : Pure Tryz.prog 71 [v, str sep] w (str (Lib.join ws sep)) := by
 obtain ⟨⟨Ad, c, rfl, hc, hsp, hAd⟩, hcells⟩ := h
 by_cases hne : ws = []
 ·subst hne
  exact (Tryz.strings_Join_none Ad c ⟨sep.toArray⟩ w).mono fun e w' ⟨h1, h2⟩ => ⟨h1, h2 ▸ Below.refl _ _⟩
 have hne' : ws.map svC ≠ [] := fun h => hne (List.map_eq_nil_iff.1 h)
 cases Ad with
 | none => exact absurd rfl (hAd hne')
 | some ad =>
  obtain ⟨bk, o, sp⟩ := ad
  have hs0 : sp = none := hsp hne' _ rfl
  subst hs0
  have hget : ∀ (j : Nat) x, (ws.map fun l => (⟨l.toArray⟩ : ByteArray))[j]? = some x → w.cell? ⟨bk, o + j, none⟩ = some (.string x) := fun j x hj => by
   rw [List.getElem?_map] at hj
   cases hj2 : ws[j]? with
   | none => rw [hj2] at hj; cases hj
   | some t =>
    rw [hj2] at hj
    cases hj
    have := hcells j 0 (svC t) (str t) (by rw [List.getElem?_map, hj2]; rfl) rfl
    obtain ⟨cur, U, fr, h1, h2⟩ := this
    have h1 : w.heap[bk]? = some (.cells cur U fr) := h1
    unfold World.cell?; rw [h1]
    have e : o + j * 1 + 0 = o + j := by omega
    rw [show (adr (Value.slice (some ⟨bk, o, none⟩) (ws.map svC).length c)).off = o from rfl, e] at h2
    simpa [str] using h2
  have hbk : bk < w.heap.size := by
   obtain ⟨t, r, rfl⟩ := List.exists_cons_of_ne_nil hne
   have := hget 0 _ rfl
   unfold World.cell? at this
   cases hb : w.heap[bk]? with
   | none => rw [hb] at this; cases this
   | some _ => exact lt_of_some hb
  have hm : (ws.map fun l => (⟨l.toArray⟩ : ByteArray)).map (fun y => y.data.toList) = ws := by
   rw [List.map_map]
   conv => rhs; rw [← List.map_id ws]
   refine List.map_congr_left fun l _ => ?_
   simp
  have hJ := Tryz.strings_Join bk o c (ws.map fun l => (⟨l.toArray⟩ : ByteArray)) ⟨sep.toArray⟩ w hget hbk (by rw [List.length_map]; omega) (by rw [List.length_map]; rw [List.length_map] at hc; exact hc) (by rw [hm]; exact Nat.le_trans hl (by decide))
  rw [hm, List.length_map] at hJ; rw [List.length_map]
  exact hJ.mono fun e w' ⟨h1, h2⟩ => ⟨h1, h2⟩
theorem whole_calls (s : List UInt8) (q : Bool) (I : Look) (F : List HA) (w0 w : World) (hw0 : St w0 I F w) : Calls Tryz.prog 55 [str s, .bool q].toArray w (fun e w' => ∃ v, e = .returned v ∧ ∃ I' H', (Le I I' ∧ F = H' ∧ PxR I' v (wholeX s q)) ∧ St w I' H' w') := by
 refine enter Tryz.func55 rfl Tryz.ntmps55 rfl (hw0.self) (trun rfl (tr (l_run 2 rfl (lq rfl (q_build (pl := [(_, _), (_, _), (_, _)]) (cs := #[_, _, _]) rfl un82 ti82 ⟨rfl, ⟨_, _, ti9⟩, rfl, ⟨_, _, ti4⟩, rfl, ⟨_, _, ti4⟩, trivial⟩ rfl rfl) (lq rfl (q_build (pl := [(_, _), (_, _)]) (cs := #[_, _, _, _]) rfl un84 ti84 ⟨rfl, ⟨_, _, ti82⟩, rfl, ⟨_, _, ti4⟩, trivial⟩ rfl rfl) (le rfl (e_buildSlice1 rfl un43 ti84 rfl rfl rfl (by rfl) rfl) ?_)))))); rintro _ _ _ ⟨b9, rfl, rfl, rfl⟩; refine l_freezeRow b9 (fun J hJ hk => ?_)
 have hpx := sl_row (f := pxC) (sz := 4) (wholeX s q) hk rfl rfl (fun _ => rfl)
 refine lrun rfl (t_ret (n_ret1 rfl rfl (fun w' hw => ?_))); exact ⟨_, rfl, J, F, ⟨hJ, rfl, hpx⟩, subC_st hw⟩
theorem many_pure (n : List UInt8) (w : World) : Pure Tryz.prog 69 [str n] w (.bool (manyB n)) := by
 refine enter Tryz.func69 rfl Tryz.ntmps69 rfl (St.start w (look w) (Le.refl _)) (trun rfl (tq (s_run 1 rfl (sq rfl (q_eql_str rfl rfl rfl) (s_run 1 rfl ?_)))))
 refine s_or2 2 2 5 8 7 _ _ rfl rfl rfl rfl rfl rfl (fun h8 => by
   simp at h8
   refine s_runG 1 rfl (sg rfl (q_eql_str rfl rfl rfl) ?_); exact s_val rfl
  ) (wanted_n rfl) rfl rfl rfl ?_
 refine s_run 1 rfl (sdn (t_ret (n_ret1 rfl rfl (fun w' hw => ?_)))); exact ⟨rfl, hw.below⟩
theorem mfail_calls (mb : Nat) (p : HP) (m : List UInt8) (e : Nat) (I : Look) (F : List HA) (w0 w : World) (hw0 : St w0 I (row mb 78 (mkC p m 0) :: F) w) : Calls Tryz.prog 54 [.pointer (some ⟨mb, 0, none⟩), .int .i64 (e : Int)].toArray w (fun e1 w' => ∃ v0, e1 = .returned v0 ∧ ∃ I' H', (I = I' ∧ v0 = nilV ∧ H' = row mb 78 (mkC p m e) :: F) ∧ St w I' H' w') := by
 refine enter Tryz.func54 rfl Tryz.ntmps54 rfl (hw0.self) (trun rfl (t_seq (tr (l_run 3 rfl (lq rfl (q_ld rfl rfl (by rfl)) ?_))))); refine lrun rfl (t_cond rfl (fun hc0 => ?_) (fun hc0 => ?_))
 ·refine t_region (l_run 4 rfl ?_); refine l_e0 rfl rfl (e_storeS rfl ti28 rfl rfl (by exact ⟨rfl, rfl⟩) rfl (by rfl)) ?_; rintro _ _ _ ⟨rfl, rfl⟩; refine l_heap (H' := row mb 78 (mkC p m e) :: _) ?_ (fun _ h => h); refine lnr1 (lrun rfl (t_ret (n_ret1 rfl rfl (fun w' hw => ?_)))); exact ⟨_, rfl, I, row mb 78 (mkC p m e) :: F, ⟨rfl, rfl, rfl⟩, subC_st hw⟩
 ·cases hc0
theorem xtext_pure (v : Value) (l : List Px) (w : World) (hl : l.length ≤ 1000000000000) (hx : (textX l).length ≤ 1000000000000) (hv : PxR (look w) v l) : Pure Tryz.prog 20 [v] w (str (textX l)) := by
 have htk := textX_take_le l
 refine enter Tryz.func20 rfl Tryz.ntmps20 rfl (St.start w (look w) (Le.refl _)) (trun rfl (tr (le rfl (e_alloc rfl ti100 rfl) ?_))); rintro _ _ _ ⟨b3, rfl, rfl, rfl⟩; refine lnr (l_run 1 rfl ?_); refine lq rfl ((by exact q_len rfl un43 rfl (Sl.lenOf hv (List.length_map _)))) ?_; refine lrun rfl (t_block (t_loopE (ι := Nat × Option Addr × Value) (fun zz => zz.1 ≤ l.length ∧ (zz.2.1 = none ∨ zz.2.1 = some ⟨b3, 0, none⟩) ∧ BufOk zz.2.2 (textX (l.take zz.1))) (fun zz => l.length - zz.1) (fun zz => [(8, .int .i64 (zz.1 : Int))]) [(0, _), (2, _), (3, _), (6, _), (7, _)] (fun zz => look w) (fun zz => [row b3 100 [.pointer zz.2.1, zz.2.2], tvec 5 1 byC zz.2.2 (textX (l.take zz.1))]) (0, none, .slice none 0 0) ?_ (sub_rfl rfl) (sub_rfl rfl) (fun _ h => (show St _ _ [row b3 100 [.pointer none, .slice none 0 0], tvec 5 1 byC (.slice none 0 0) []] _ from subC_st (st_nilT 5 1 byC h))) ?_))
 ·dsimp only; exact ⟨Nat.zero_le _, .inl rfl, .inl rfl⟩
 rintro ⟨k, p, vb⟩ ⟨hk, hp, hok⟩; dsimp only at *; refine trun rfl (t_seq (t_cond rfl (fun hc0 => ?_) (fun hc0 => ?_)))
 ·simp at hc0
  have hkl : k < l.length := by omega
  refine tskip (t_seq (t_block (tr ?_))); refine lq rfl ((by exact q_indexAddrN rfl un43 ti84 rfl rfl (Sl.shape hv (List.length_map _)) (by omega))) ?_; refine lq rfl ((by exact q_load_agg rfl un84 ti84 rfl rfl (rds_px (i := k) hv (by omega)))) ?_; refine le rfl (e_alloc rfl ti84 rfl) ?_; rintro _ _ _ ⟨b5, rfl, rfl, rfl⟩; refine l_e0 rfl rfl ((by exact e_store_all rfl ti84 rfl rfl rfl (by exact pxC_ones _) rfl)) ?_; rintro _ _ _ ⟨rfl, rfl⟩; refine l_heap (H' := row b5 84 (pxC (nth l k px0)) :: _) ?_ (fun _ h => h); refine ln (t_cutE (ι := Option Addr × Value × List UInt8) (fun zz => (zz.1 = none ∨ zz.1 = some ⟨b3, 0, none⟩) ∧ BufOk zz.2.1 zz.2.2 ∧ zz.2.2 = textX (l.take k) ++ stS (nth l k px0)) (fun zz => []) [(8, _), (0, _), (2, _), (3, _), (6, _), (7, _), (9, _), (5, _)] (fun zz => look w) (fun zz => [row b3 100 [.pointer zz.1, zz.2.1], tvec 5 1 byC zz.2.1 (zz.2.2), row b5 84 (pxC (nth l k px0))]) (sub_rfl rfl) ?_ ?_)
  ·refine tr (l_run 1 rfl (lq rfl (q_ld rfl rfl (by rfl)) ?_)); refine ln (t_cond rfl (fun hc1 => ?_) (fun hc1 => ?_))
   ·have hc1 : (nth l k px0).st = true := hc1
    refine t_region (lec rfl rfl rfl rfl (fun w hw => writeByte_calls b3 p vb (textX (l.take k)) 32 _ _ _ w hp (by have := htk k; omega) (picks_st2 (row b3 100 [.pointer p, vb]) (tvec 5 1 byC vb (textX (l.take k))) hw)) ?_); rintro _ _ _ ⟨rfl, rfl, vb2, rfl⟩; refine l_nil (n_cut ((some ⟨b3, 0, none⟩, vb2, textX (l.take k) ++ [32])) ?_ (sub_nil) (sub_rfl rfl) (fun _ h => by dsimp only; exact subC_st h))
    ·dsimp only; refine ⟨.inr rfl, .inr (by simp), ?_⟩
     unfold stS; rw [if_pos hc1]
   ·have hc1 : (nth l k px0).st = false := hc1
    refine t_skip (n_cut ((p, vb, textX (l.take k))) ?_ (sub_nil) (sub_rfl rfl) (fun _ h => by dsimp only; exact subC_st h))
    ·dsimp only; refine ⟨hp, hok, ?_⟩
     unfold stS; rw [if_neg (by rw [hc1]; simp), List.append_nil]
  rintro ⟨p1, vb1, tx⟩ ⟨hp1, hok1, htx⟩; dsimp only at *; refine t_region (l_run 2 rfl (lq rfl (q_ld rfl rfl (by rfl)) ?_)); refine lec rfl rfl rfl rfl (fun w hw => writeStringB_calls b3 p1 vb1 tx (nth l k px0).p.t _ _ _ w hp1 (by have := htk (k + 1); rw [textX_take hkl, ← htx, List.length_append] at this; omega) (picks_st2 (row b3 100 [.pointer p1, vb1]) (tvec 5 1 byC vb1 (tx)) hw)) ?_; rintro _ _ _ ⟨rfl, rfl, vb3, rfl, hbo⟩; refine l_nil (n_block (n_then (t_region (lq rfl (q_add64 rfl rfl rfl (by omega)) ?_)))); refine l_runA rfl (n_roundE ((k + 1, some ⟨b3, 0, none⟩, vb3)) ?_ ?_ (sub_rfl rfl) (sub_rfl rfl) (fun _ h => by dsimp only; rw [textX_take hkl, ← htx]; exact subC_st h))
  ·dsimp only; exact ⟨(show k + 1 ≤ _ by omega), .inr rfl, by show BufOk vb3 (textX (l.take (k + 1))); rw [textX_take hkl, ← htx]; exact hbo hok1⟩
  ·dsimp only
   show l.length - (k + 1) < l.length - k; omega
 ·simp at hc0
  have hkl : k = l.length := by omega
  refine t_exit (n_exit_then (n_exit_then (n_exit_block (n_then (tr (lec rfl rfl rfl rfl (fun w hw => builderString_calls b3 (.pointer p) vb (textX (l.take k)) _ _ _ w hok (by have := htk k; omega) (picks_st2 (row b3 100 [.pointer p, vb]) (tvec 5 1 byC vb (textX (l.take k))) hw)) ?_)))))); rintro _ _ _ ⟨rfl, rfl, rfl⟩; refine lrun rfl (t_ret (n_ret1 rfl rfl (fun w' hw => ?_))); refine ⟨?_, hw.below⟩; rw [List.take_of_length_le (by omega)]
theorem chars_calls (vl : Value) (h1 : One vl) (I : Look) (F : List HA) (w0 w : World) (hw0 : St w0 I F w) : Calls Tryz.prog 75 [vl].toArray w (fun e w' => ∃ v, e = .returned v ∧ ∃ I' H', (Le I I' ∧ F = H' ∧ ∃ b, v = .func (.func 96) #[] #[.pointer (some ⟨b, 0, none⟩)] ∧ CellI I' b 0 vl) ∧ St w I' H' w') := by
 refine enter Tryz.func75 rfl Tryz.ntmps75 rfl (hw0.self) (tr (le rfl (e_box rfl rfl (by exact One.cells (by assumption))) ?_)); rintro _ _ _ ⟨b1, rfl, rfl, rfl⟩; refine lrun rfl (t_seq (t_freezeRow b1 (fun J hJ hb1 => ?_))); refine t_region (lq rfl (q_makeFunc rfl rfl rfl) (lrun rfl (t_ret (n_ret1 rfl rfl (fun w' hw => ?_))))); exact ⟨_, rfl, J, _, ⟨hJ, rfl, b1, rfl, hb1 0 _ rfl⟩, hw⟩
theorem chars_iter (L : List Px) (vl : Value) (b1 : Nat) (hL : L.length ≤ 1000000000000) (hx : (textX L).length ≤ 1000000000000) : Iterates Tryz.prog 96 [.pointer (some ⟨b1, 0, none⟩)] ((charsX L).map chV) (fun I => CellI I b1 0 vl ∧ PxR I vl L) := by
 intro γ Cd Cx G II lid hY w0 g00 F w hcd0 hpre hw0; obtain ⟨hb1, hpx0⟩ := hpre
 have hJ := Le.refl (II g00)
 have hpx := hpx0
 have hcl := charsX_len L
 refine enter Tryz.func96 rfl Tryz.ntmps96 rfl (hw0.self) (tr (lq rfl ((by exact q_ldr rfl rfl (rd_imm (hb1.mono hJ)))) ?_)); refine lq rfl ((by exact q_len rfl un43 rfl (Sl.lenOf hpx (List.length_map _)))) ?_; refine lrun rfl (t_block (t_loopE (ι := Nat × Nat × γ) (fun zz => zz.1 ≤ L.length ∧ zz.2.1 ≤ (charsX L).length ∧ Cd zz.2.1 zz.2.2 ∧ Le (II g00) (II zz.2.2) ∧ (charsX L).drop zz.2.1 = charsX (L.drop zz.1)) (fun zz => L.length - zz.1) (fun zz => [(8, .int .i64 (zz.1 : Int))]) [(0, _), (1, _), (6, _), (7, _)] (fun zz => (II zz.2.2)) (fun zz => (F ++ G zz.2.2)) (0, 0, g00) ?_ (sub_rfl rfl) (sub_rfl rfl) (fun _ h => subC_st h) ?_))
 ·dsimp only; exact ⟨Nat.zero_le _, Nat.zero_le _, hcd0, Le.refl _, rfl⟩
 rintro ⟨i, n, g⟩ ⟨hi, hn, hcd, hJ, hdr⟩; dsimp only at *
 have hpx := hpx0.mono hJ
 refine trun rfl (t_seq (t_cond rfl (fun hc0 => ?_) (fun hc0 => ?_)))
 ·simp at hc0
  have hiL : i < L.length := by omega
  have hpl := px_len hiL
  refine tskip (t_seq (t_block (tr ?_))); refine lq rfl ((by exact q_indexAddrN rfl un43 ti84 rfl rfl (Sl.shape hpx (List.length_map _)) (by omega))) ?_; refine lq rfl ((by exact q_load_agg rfl un84 ti84 rfl rfl (rds_px (i := i) hpx (by omega)))) ?_; refine le rfl (e_alloc rfl ti84 rfl) ?_; rintro _ _ _ ⟨b4, rfl, rfl, rfl⟩; refine l_e0 rfl rfl ((by exact e_store_all rfl ti84 rfl rfl rfl (by exact pxC_ones _) rfl)) ?_; rintro _ _ _ ⟨rfl, rfl⟩; refine l_heap (H' := row b4 84 (pxC (nth L i px0)) :: _) ?_ (fun _ h => h); refine ln (t_cutE (ι := Nat × γ) (fun zz => zz.1 ≤ (charsX L).length ∧ Cd zz.1 zz.2 ∧ Le (II g00) (II zz.2) ∧ (charsX L).drop zz.1 = ((nth L i px0).p.t.drop 0).map (fun b => (⟨b, (nth L i px0).p.q⟩ : Ch)) ++ charsX (L.drop (i + 1))) (fun zz => []) [(8, _), (0, _), (1, _), (6, _), (7, _), (9, _), (4, _)] (fun zz => (II zz.2)) (fun zz => (row b4 84 (pxC (nth L i px0)) :: (F ++ G zz.2))) (sub_rfl rfl) ?_ ?_)
  ·refine tr (l_run 1 rfl (lq rfl ((by exact q_ld rfl rfl (by rfl))) ?_)); refine l_run 1 rfl (l_split (t := 14) rfl (fun hs0 => ?_) (fun hs0 => ?_))
   ·refine l_qg (wanted_g rfl rfl rfl rfl) rfl rfl (q_move rfl rfl) (l_qg (wanted_g rfl rfl rfl rfl) rfl rfl (q_build (pl := [(_, _), (_, _)]) (cs := (chC ⟨32, false⟩).toArray) rfl un92 ti92 ⟨rfl, ⟨_, _, ti5⟩, rfl, ⟨_, _, ti4⟩, trivial⟩ rfl rfl) ?_)
    have hq := hdr
    rw [charsX_drop hiL, chAt, if_pos (by simpa using hs0)] at hq; refine l_yield (i := n) g (wanted_g rfl rfl rfl rfl) rfl rfl rfl rfl rfl hY (chV_at (c := ⟨32, false⟩) hq) hcd rfl (fun g hcd hle => ?_) (fun g hcx hle => ?_)
    ·replace hJ := hJ.trans hle
     refine l_qg (wanted_g rfl rfl rfl rfl) rfl rfl (q_not rfl rfl) (lq rfl (q_pick rfl rfl rfl rfl) (ln (t_cond rfl (fun hc1 => ?_) (fun hc1 => ?_))))
     ·simp at hc1
     ·simp at hc1
      refine t_skip (n_cut ((n + 1, g)) ?_ (sub_nil) (sub_rfl rfl) (fun _ h => by dsimp only; exact subC_st h))
      ·dsimp only; exact ⟨(drop_step hq).1, hcd, hJ, (drop_step hq).2.2⟩
    ·replace hJ := hJ.trans hle
     refine l_qg (wanted_g rfl rfl rfl rfl) rfl rfl (q_not rfl rfl) (lq rfl (q_pick rfl rfl rfl rfl) (ln (t_cond rfl (fun hc2 => ?_) (fun hc2 => ?_))))
     ·simp at hc2
      refine tret (n_ret0 rfl (fun w' hw => ?_)); exact ⟨_, rfl, g, .inr ⟨n + 1, by rw [List.length_map]; exact (drop_step hq).1, hcx⟩, hJ, hw0.rebase (subC_st hw)⟩
     ·simp at hc2
   ·refine l_skip rfl rfl rfl rfl rfl rfl rfl (l_skip rfl rfl rfl rfl rfl rfl rfl (l_skip rfl rfl rfl rfl rfl rfl rfl (l_skip rfl rfl rfl rfl rfl rfl rfl (lq rfl (q_pick rfl rfl rfl rfl) (ln (t_cond rfl (fun hc3 => ?_) (fun hc3 => ?_)))))))
    ·simp at hc3
    ·simp at hc3
     refine t_skip (n_cut ((n, g)) ?_ (sub_nil) (sub_rfl rfl) (fun _ h => by dsimp only; exact subC_st h))
     ·dsimp only; refine ⟨hn, hcd, hJ, ?_⟩
      rw [charsX_drop hiL, chAt, if_neg (by simpa using hs0)] at hdr; exact hdr
  rintro ⟨n, g⟩ ⟨hn, hcd, hJ, hdr⟩; dsimp only at *; refine tr (l_run 2 rfl (lq rfl ((by exact q_ld rfl rfl (by rfl))) ?_)); refine lq rfl (q_len_str rfl un9 rfl) (lrun rfl (t_block (t_loopE (ι := Nat × Nat × γ) (fun zz => zz.1 ≤ (nth L i px0).p.t.length ∧ zz.2.1 ≤ (charsX L).length ∧ Cd zz.2.1 zz.2.2 ∧ Le (II g00) (II zz.2.2) ∧ (charsX L).drop zz.2.1 = ((nth L i px0).p.t.drop zz.1).map (fun b => (⟨b, (nth L i px0).p.q⟩ : Ch)) ++ charsX (L.drop (i + 1))) (fun zz => (nth L i px0).p.t.length - zz.1) (fun zz => [(24, .int .i64 (zz.1 : Int))]) [(8, _), (0, _), (1, _), (6, _), (7, _), (9, _), (4, _), (23, _)] (fun zz => (II zz.2.2)) (fun zz => (row b4 84 (pxC (nth L i px0)) :: (F ++ G zz.2.2))) (0, n, g) ?_ (sub_rfl rfl) (sub_rfl rfl) (fun _ h => subC_st h) ?_)))
  ·dsimp only; exact ⟨Nat.zero_le _, hn, hcd, hJ, hdr⟩
  rintro ⟨k, n, g⟩ ⟨hk, hn, hcd, hJ, hdr⟩; dsimp only at *
  have hpx := hpx0.mono hJ
  refine trun rfl (t_seq (t_cond rfl (fun hc4 => ?_) (fun hc4 => ?_)))
  ·simp at hc4
   have hkl : k < (nth L i px0).p.t.length := by omega
   refine tskip (t_seq (t_block (trun rfl (t_seq (t_draw [10] [] [row b4 84 (pxC (nth L i px0))] mo (by kernel_rfl) (fun _ _ _ _ _ h => h) (r_run [0, 1, 2] (by kernel_rfl) rfl rfl rfl (rq1 3 (by kernel_rfl) rfl rfl ((by exact q_ld rfl rfl (by rfl))) ?_))))))); refine r_run [4] (by kernel_rfl) rfl rfl rfl (rq1 5 (by kernel_rfl) rfl rfl ((by exact q_index_strN rfl un9 rfl rfl (by omega))) ?_); refine r_run [6, 7] (by kernel_rfl) rfl rfl rfl (rq1 8 (by kernel_rfl) rfl rfl ((by exact q_ld rfl rfl (by rfl))) ?_); refine rq1 9 (by kernel_rfl) rfl rfl (q_build (pl := [(_, _), (_, _)]) (cs := (chC ⟨nth (nth L i px0).p.t k 0, (nth L i px0).p.q⟩).toArray) rfl un92 ti92 ⟨rfl, ⟨_, _, ti5⟩, rfl, ⟨_, _, ti4⟩, trivial⟩ rfl rfl) ?_
   have hq := hdr
   rw [drop_nth 0 hkl, List.map_cons, List.cons_append] at hq; refine re 10 (by kernel_rfl) rfl (Le.refl _) rfl (e_yield (i := n) g rfl rfl rfl hY (chV_at (c := ⟨nth (nth L i px0).p.t k 0, (nth L i px0).p.q⟩) hq) hcd rfl) ?_; rintro _ _ _ ⟨g37, b37, rfl, hcd37, hcx37, hle37, rfl, rfl⟩; refine ⟨hle37, .inr SubC.sub, ?_⟩; refine r_run [11] (by kernel_rfl) rfl rfl rfl (r_end (by kernel_rfl) (n_then (t_cond rfl (fun hc5 => ?_) (fun hc5 => ?_))))
   ·simp at hc5
    refine tret (n_ret0 rfl (fun w' hw => ?_)); exact ⟨_, rfl, g37, .inr ⟨n + 1, by rw [List.length_map]; exact (drop_step hq).1, hcx37 hc5⟩, hJ.trans hle37, hw0.rebase (subC_st hw)⟩
   ·simp at hc5
    refine t_skip (n_block (n_then (t_region (lq rfl (q_add64 rfl rfl rfl (by omega)) ?_)))); refine l_runA rfl (n_roundE ((k + 1, n + 1, g37)) ?_ ?_ (sub_rfl rfl) (sub_rfl rfl) (fun _ h => by dsimp only; exact subC_st h))
    ·dsimp only; exact ⟨(show k + 1 ≤ _ by omega), (drop_step hq).1, hcd37 hc5, hJ.trans hle37, (drop_step hq).2.2⟩
    ·dsimp only
     show (nth L i px0).p.t.length - (k + 1) < (nth L i px0).p.t.length - k; omega
  ·simp at hc4
   refine t_exit (n_exit_then (n_exit_then (n_exit_block (n_block (n_then (t_region (lq rfl (q_add64 rfl rfl rfl (by omega)) ?_))))))); refine l_runA rfl (n_roundE ((i + 1, n, g)) ?_ ?_ (sub_rfl rfl) (sub_rfl rfl) (fun _ h => by dsimp only; exact subC_st h))
   ·dsimp only; refine ⟨(show i + 1 ≤ _ by omega), hn, hcd, hJ, ?_⟩
    rw [show (nth L i px0).p.t.drop k = [] from List.drop_of_length_le (by omega)] at hdr; exact hdr
   ·dsimp only
    show L.length - (i + 1) < L.length - i; omega
 ·simp at hc0
  have hiL : i = L.length := by omega
  refine t_exit (n_exit_then (n_exit_then (n_exit_block (n_end0 rfl (fun w' hw => ?_))))); rw [show L.drop i = [] from List.drop_of_length_le (by omega)] at hdr; exact ⟨_, rfl, g, .inl (by rw [List.length_map, ← drop_end hdr hn]; exact hcd), hJ, hw0.rebase (subC_st hw)⟩
theorem appendChars_calls (L : List Px) (vl : Value) (b : Nat) (I : Look) (F : List HA) (w0 w : World) (hL : L.length ≤ 1000000000000) (hx : (textX L).length ≤ 1000000000000) (hb : CellI I b 0 vl) (hpx : PxR I vl L) (hw0 : St w0 I F w) : Calls Tryz.prog 95 [.slice none 0 0, .func (.func 96) #[] #[.pointer (some ⟨b, 0, none⟩)]].toArray w (fun e w' => ∃ v, e = .returned v ∧ ∃ I' H', (Le I I' ∧ F = H' ∧ Sl I' 2 v ((charsX L).map chC)) ∧ St w I' H' w') := by
 have hcl := charsX_len L
 refine enterMN Tryz.func95 rfl Tryz.ntmps95 rfl (hw0.self) (tr (le rfl (e_box rfl rfl (by rfl)) ?_)); rintro _ _ _ ⟨b2, rfl, rfl, rfl⟩; refine lrun rfl (t_seq (trun rfl (t_block (t_range (γ := Value × List Ch) (chars_iter L vl b hL hx) rfl rfl Tryz.func96 (by kernel_rfl) rfl (fun nn zz => zz.2 = (charsX L).take nn) (fun _ _ => False) F (fun zz TT => (row b2 55 [zz.1] :: tvec 92 2 chC zz.1 zz.2 :: TT)) (fun _ _ => rfl) (fun zz => I) [(0, _), (1, _), (2, _), (4, _), (6, _)] (sub_rfl rfl) (.slice none 0 0, []) ?_ ?_ ?_ ?_ rfl ?_ ?_ ?_ (fun _ _ _ h => h.elim)))))
 ·rfl
 ·exact ⟨hb, hpx⟩
 ·exact Le.refl _
 ·exact fun _ h => subC_st (st_nilT 92 2 chC h)
 ·exact chVs_one
 ·intro bl ready busy done dfr nn vs gg w0r FF hi hinv hrs hbz; obtain ⟨v1, l1⟩ := gg
  have hl1 := hinv
  dsimp only at *; obtain ⟨hnl, rfl⟩ := chV_one hi
  have hll := congrArg List.length hl1
  rw [List.length_take] at hll; refine t_region (le rfl (e_alloc rfl ti92 rfl) ?_); rintro _ _ _ ⟨b5, rfl, rfl, rfl⟩; refine l_e0 rfl rfl ((by exact e_store_all rfl ti92 rfl rfl rfl (by exact chC_ones _) rfl)) ?_; rintro _ _ _ ⟨rfl, rfl⟩; refine l_nil (n_begin (by rfl) hrs ?_); refine t_block (t_region (lq rfl (q_ld rfl rfl (by rfl)) ?_)); refine lq rfl (q_load_rowA rfl un92 ti92 rfl rfl rfl) (le rfl (e_buildSlice1 rfl un55 ti92 rfl rfl rfl (by rfl) rfl) ?_); rintro _ _ _ ⟨b10, rfl, rfl, rfl⟩; refine le rfl (e_appendT (f := chC) (c := nth (charsX L) nn ch0) rfl un55 ti92 rfl rfl rfl rfl rfl rfl rfl (by exact chC_ones _) (by simp only [maxLen]; omega) (by omega)) ?_; rintro v11 _ _ ⟨rfl, rfl⟩; refine l_one v11 (fun hone => ?_); refine l_e0 rfl rfl (e_storeS rfl ti55 rfl rfl (by assumption) rfl (by (simp only [List.set_cons_succ, List.set_cons_zero]; rfl))) ?_; rintro _ _ _ ⟨rfl, rfl⟩; refine l_nil (n_block (n_rnext (fun w' hw' => .inl ⟨rfl, ((v11, l1 ++ [nth (charsX L) nn ch0])), ?_, ?_, ?_⟩)))
  ·dsimp only; rw [hl1, take_nth ch0 hnl]
  ·exact Le.refl _
  ·dsimp only; exact subC_st hw'
 intro bd gg hinv hle; obtain ⟨v1, l1⟩ := gg
 have hl1 := hinv
 dsimp only at *; rw [List.length_map, List.take_length] at hl1; subst hl1; refine n_block (n_then (t_seq (t_freezeT (f := chC) (l := charsX L) v1 (fun _ => rfl) (fun J hJ hv => ?_)))); refine t_region (lq rfl (q_ld rfl rfl (by rfl)) ?_); refine lrun rfl (t_ret (n_np_ret (n_ret1M (bs := [bd]) rfl rfl (fun w' hw => ?_)))); exact ⟨_, rfl, J, F, ⟨hJ, rfl, hv⟩, subC_st hw⟩
theorem collectChars_calls (L : List Px) (vl : Value) (b : Nat) (I : Look) (F : List HA) (w0 w : World) (hL : L.length ≤ 1000000000000) (hx : (textX L).length ≤ 1000000000000) (hb : CellI I b 0 vl) (hpx : PxR I vl L) (hw0 : St w0 I F w) : Calls Tryz.prog 74 [.func (.func 96) #[] #[.pointer (some ⟨b, 0, none⟩)]].toArray w (fun e w' => ∃ v, e = .returned v ∧ ∃ I' H', (Le I I' ∧ F = H' ∧ Sl I' 2 v ((charsX L).map chC)) ∧ St w I' H' w') := by
 refine enter Tryz.func74 rfl Tryz.ntmps74 rfl (hw0.self) (trun rfl (tr (l_run 1 rfl (lec rfl rfl rfl rfl (fun w hw => appendChars_calls L vl b _ _ _ w hL hx hb hpx hw) ?_)))); rintro v4 J4 _ ⟨hJ4, rfl, hv4⟩; refine lrun rfl (t_ret (n_ret1 rfl rfl (fun w' hw => ?_))); exact ⟨_, rfl, J4, _, ⟨hJ4, rfl, hv4⟩, hw⟩
end Go.Tri
