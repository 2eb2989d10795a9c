/-
 Files: what is there.
-/
import Derived.Test.YtmjcakamgeepbaaGreatDoorEC4
import Derived.Test.YtmjcakamgeepbaaGreatDoorPExV
namespace Go.Tri
open Go.Proofs Go.RowKit
set_option maxRecDepth 10000
/-- an inode with where its entries lie -/
structure Ne where
 nd : Nd
 nv : Value
 iv : Value
def ne0 : Ne := ⟨nd0, nilV, nilV⟩
def neC (x : Ne) : List Value := [.int .i64 x.nd.kind, .int .i64 x.nd.mode, .int .i64 x.nd.links, .int .i64 x.nd.holds, .int .i64 x.nd.parent, str x.nd.data, x.nv, x.iv]
def inC (k : Int) : List Value := [.int .i64 k]
theorem inC_ones (k : Int) : ∀ u ∈ inC k, u.oneCell' = true := fun u hu => by
 rw [inC, List.mem_singleton] at hu; subst hu; rfl
structure NeOk (I : Look) (x : Ne) : Prop where
 nv : Sl I 1 x.nv (x.nd.names.map svC)
 iv : Sl I 1 x.iv (x.nd.inos.map inC)
theorem NeOk.mono {I J : Look} {x : Ne} (h : NeOk I x) (hle : Le I J) : NeOk J x := ⟨h.nv.mono hle, h.iv.mono hle⟩
theorem NeOk.ones {I : Look} {x : Ne} (h : NeOk I x) : ∀ u ∈ neC x, u.oneCell' = true := fun u hu => by
 simp only [neC, List.mem_cons, List.not_mem_nil, or_false] at hu; rcases hu with rfl | rfl | rfl | rfl | rfl | rfl | rfl | rfl
 ·rfl
 ·rfl
 ·rfl
 ·rfl
 ·rfl
 ·rfl
 ·exact h.nv.one.2
 ·exact h.iv.one.2
theorem sl_nilF {I : Look} {sz : Nat} : Sl I sz nilV [] := sl_nil (fun _ h => by cases h)
theorem ne0_ok {I : Look} : NeOk I ne0 := ⟨sl_nil (fun _ h => by cases h), sl_nil (fun _ h => by cases h)⟩
theorem nth_out {α : Type} {l : List α} {i : Nat} {d : α} (h : l.length ≤ i) : nth l i d = d := by
 show l.getD i d = d
 rw [List.getD_eq_getElem?_getD, List.getElem?_eq_none h]; rfl
theorem nth_nd (L : List Ne) (i : Nat) : nth (L.map Ne.nd) i nd0 = (nth L i ne0).nd := by
 rcases Nat.lt_or_ge i L.length with h | h
 ·rw [nth_eq (by rw [List.length_map]; exact h), nth_eq h, List.getElem_map]
 ·rw [nth_out (by rw [List.length_map]; exact h), nth_out h]; rfl
/-- the tree's rows as a walk reads them -/
structure FsW (w : World) (b : Nat) (v : Value) (L : List Ne) : Prop where
 row : Rowed w b [v]
 sl : Sl (look w) 8 v (L.map neC)
 ok : ∀ x ∈ L, NeOk (look w) x
 len : L.length ≤ 1000000
theorem FsW.mono {w w' : World} {b : Nat} {v : Value} {L : List Ne} (k : FsW w b v L) (hle : Le (look w) (look w')) : FsW w' b v L := ⟨k.row.mono hle, k.sl.mono hle, fun x hx => (k.ok x hx).mono hle, k.len⟩
theorem rd_nef {w0 : World} {I : Look} {H : List HA} {v : Value} {l : List Ne} (h : Sl I 8 v (l.map neC)) {i j : Nat} {u : Value} (hi : i < l.length) (hu : (neC (nth l i ne0))[j]? = some u) : Rd w0 I H (adr v).block ((adr v).off + i * 8 + j) u := h.rd (map_getD l neC ne0 hi) hu
theorem rds_ne {w0 : World} {I : Look} {H : List HA} {v : Value} {l : List Ne} (h : Sl I 8 v (l.map neC)) {i : Nat} (hi : i < l.length) : Rds w0 I H (adr v).block ((adr v).off + i * 8) (neC (nth l i ne0)) := h.rds (map_getD l neC ne0 hi)
theorem rd_in {w0 : World} {I : Look} {H : List HA} {v : Value} {l : List Int} (h : Sl I 1 v (l.map inC)) {i : Nat} (hi : i < l.length) : Rd w0 I H (adr v).block ((adr v).off + i * 1) (.int .i64 (nth l i 0)) := h.rd (j := 0) (map_getD l inC 0 hi) rfl
theorem sl_of {α : Type} {f : α → List Value} {l : List α} {w0 w : World} {I : Look} {H F : List HA} {T : TypeId} {sz : Nat} {v : Value} (hw : St w0 I H w) [hp : PickVec v T sz l.length (l.map f).flatten F H] (hu : ∀ c, (f c).length = sz) : Sl (look w) sz v (l.map f) := by
 obtain ⟨J, _, h2, h3⟩ := st_freeze (hw.perm hp.pick) (by simp) (fun cs hcs => by obtain ⟨c, _, rfl⟩ := List.mem_map.1 hcs; exact hu c); exact h3.mono h2.le
theorem rds_t {w0 : World} {I : Look} {H : List HA} {v : Value} {L : List Ne} {i : Nat} (hm : tvec 107 8 neC v L ∈ H) (hi : i < L.length) : Rds w0 I H (adr v).block ((adr v).off + i * 8) (neC (nth L i ne0)) := fun j u hj => by
 rw [Nat.add_assoc]; exact rd_vec hm (flat_at (f := neC) (sz := 8) (fun _ => rfl) (map_getD L neC ne0 hi) hj)
theorem cutG {α : Type} {I : Look} {sz : Nat} {v : Value} {f : α → List Value} {l : List α} {i : Nat} (h : Sl I sz v (l.map f)) (hi : i ≤ l.length) : Sl I sz (cutV sz 0 i v) ((l.take i).map f) := by
 have := Sl.cutM h (Nat.zero_le i) hi
 rwa [List.drop_zero, Nat.sub_zero] at this
/-- a tree's rows -/
@[reducible] def fsH (b : Nat) (v : Value) (L : List Ne) (F : List HA) : List HA := row b 110 [v] :: tvec 107 8 neC v L :: F
theorem fsW_of {w0 w : World} {I : Look} {H F : List HA} {b : Nat} {v : Value} {L : List Ne} (hw : St w0 I H w) (hok : ∀ x ∈ L, NeOk I x) (hl : L.length ≤ 1000000) [InRow b 110 [v] H] [PickVec v 107 8 L.length (L.map neC).flatten F H] : FsW w b v L := ⟨rowed_of (T := 110) hw, sl_of hw (fun _ => rfl), fun x hx => (hok x hx).mono hw.le, hl⟩
theorem count_snoc {L : List Ne} {i : Nat} (h : i < L.length) : countN ((L.take (i + 1)).map Ne.nd) = countN ((L.take i).map Ne.nd) + if 0 < (nth L i ne0).nd.kind then 1 else 0 := by
 rw [take_nth ne0 h, List.map_append]; unfold countN; rw [List.filter_append, List.length_append]
 congr 1
 rw [List.map_singleton, List.filter_cons]
 by_cases hk : 0 < (nth L i ne0).nd.kind
 ·rw [if_pos hk, if_pos (decide_eq_true hk)]; rfl
 ·rw [if_neg hk, if_neg (by simpa using hk)]; rfl
theorem in_of {L : List Ne} {i : Int} (h : isN (L.map Ne.nd) i = true) : 0 < i ∧ i < L.length := by
 have := isN_in h
 rwa [List.length_map] at this
theorem fis_pure (b : Nat) (v : Value) (L : List Ne) (w : World) (k : FsW w b v L) (a : Int) : Pure Tryz.prog 62 [.pointer (some ⟨b, 0, none⟩), .int .i64 a] w (.bool (isN (L.map Ne.nd) a)) := by
 have hll := k.len
 refine enter Tryz.func62 rfl Tryz.ntmps62 rfl (St.start w (look w) (Le.refl _)) (trun rfl (tq (s_run 3 rfl ?_)))
 refine s_and2 7 2 7 15 14 _ _ rfl rfl rfl rfl rfl rfl (fun h15 => by
   simp at h15
   refine s_runG 4 rfl (sg rfl ((by exact q_ldr rfl rfl (rd_imm (k.row 0 _ rfl)))) ?_); refine sg rfl ((by exact q_len rfl un108 rfl (Sl.lenOf k.sl (List.length_map _)))) ?_; refine s_runG 1 rfl ?_; exact s_val rfl
  ) (wanted_n rfl) rfl rfl rfl ?_
 refine s_run 1 rfl ?_
 refine s_and2 9 11 16 26 25 _ _ rfl rfl rfl rfl rfl rfl (fun h26 => by
   simp at h26
   have h9 : 0 < a ∧ a < (L.length : Int) := by omega
   refine s_runG 3 rfl (sg rfl ((by exact q_ldr rfl rfl (rd_imm (k.row 0 _ rfl)))) ?_); refine s_runG 1 rfl ?_; refine sg rfl ((by exact q_indexAddr rfl un108 ti107 rfl rfl (Sl.shape k.sl (List.length_map _)) (by omega))) ?_; refine s_runG 1 rfl (sg rfl ((by exact q_ldr rfl rfl (rd_nef (i := a.toNat) (j := 0) k.sl (by omega) rfl))) ?_); refine s_runG 1 rfl ?_; exact s_val rfl
  ) (wanted_n rfl) rfl rfl rfl ?_
 refine s_run 1 rfl (sdn (t_ret (n_ret1 rfl rfl (fun w' hw => ?_)))); refine ⟨?_, hw.below⟩; unfold isN; rw [nth_nd, List.length_map]
theorem fdir_pure (b : Nat) (v : Value) (L : List Ne) (w : World) (k : FsW w b v L) (a : Int) : Pure Tryz.prog 83 [.pointer (some ⟨b, 0, none⟩), .int .i64 a] w (.bool (dirN (L.map Ne.nd) a)) := by
 have hll := k.len
 refine enter Tryz.func83 rfl Tryz.ntmps83 rfl (St.start w (look w) (Le.refl _)) (trun rfl (tq (s_run 2 rfl (sq rfl (qc rfl rfl rfl ((fun w hw => fis_pure b v L w (k.mono hw.le) a))) (s_run 1 rfl ?_)))))
 refine s_and2 9 3 8 18 17 _ _ rfl rfl rfl rfl rfl rfl (fun h18 => by
   have h9 := in_of h18
   refine s_runG 3 rfl (sg rfl ((by exact q_ldr rfl rfl (rd_imm (k.row 0 _ rfl)))) ?_); refine s_runG 1 rfl ?_; refine sg rfl ((by exact q_indexAddr rfl un108 ti107 rfl rfl (Sl.shape k.sl (List.length_map _)) (by omega))) ?_; refine s_runG 1 rfl (sg rfl ((by exact q_ldr rfl rfl (rd_nef (i := a.toNat) (j := 0) k.sl (by omega) rfl))) ?_); refine s_runG 1 rfl ?_; exact s_val rfl
  ) (wanted_n rfl) rfl rfl rfl ?_
 refine s_run 1 rfl (sdn (t_ret (n_ret1 rfl rfl (fun w' hw => ?_)))); refine ⟨?_, hw.below⟩; unfold dirN; rw [nth_nd]
theorem fmay_pure (b : Nat) (v : Value) (L : List Ne) (w : World) (k : FsW w b v L) (a x : Int) : Pure Tryz.prog 48 [.pointer (some ⟨b, 0, none⟩), .int .i64 a, .int .i64 x] w (.bool (mayN (L.map Ne.nd) a x)) := by
 have hll := k.len
 refine enter Tryz.func48 rfl Tryz.ntmps48 rfl (St.start w (look w) (Le.refl _)) (trun rfl (t_seq (tq (s_run 2 rfl (sq rfl (qc rfl rfl rfl ((fun w hw => fis_pure b v L w (k.mono hw.le) a))) (s_run 2 rfl ?_))))))
 refine s_or2 2 4 11 14 13 _ _ rfl rfl rfl rfl rfl rfl (fun h14 => by
   simp at h14
   refine s_runG 2 rfl ?_; exact s_val rfl
  ) (wanted_n rfl) rfl rfl rfl ?_
 refine s_run 1 rfl ?_
 refine s_or2 2 8 15 18 17 _ _ rfl rfl rfl rfl rfl rfl (fun h18 => by
   simp at h18
   refine s_runG 2 rfl ?_; exact s_val rfl
  ) (wanted_n rfl) rfl rfl rfl ?_
 refine sdn (t_cond rfl (fun hc0 => ?_) (fun hc0 => ?_))
 ·refine trun rfl (tret (n_ret1 rfl rfl (fun w' hw => ?_))); refine ⟨?_, hw.below⟩; unfold mayN; rw [if_pos hc0]
 ·have h1 : isN (L.map Ne.nd) a = true := by
   cases h9 : isN (L.map Ne.nd) a with
   | true => rfl
   | false => rw [h9] at hc0; simp at hc0
  have h2 := in_of h1
  refine tskip (tr (l_run 3 rfl (lq rfl ((by exact q_ldr rfl rfl (rd_imm (k.row 0 _ rfl)))) ?_))); refine l_run 1 rfl ?_; refine lq rfl ((by exact q_indexAddr rfl un108 ti107 rfl rfl (Sl.shape k.sl (List.length_map _)) (by omega))) ?_; refine l_run 1 rfl (lq rfl ((by exact q_ldr rfl rfl (rd_nef (i := a.toNat) (j := 1) k.sl (by omega) rfl))) ?_); refine lq rfl (q_quo rfl rfl rfl (by decide)) ?_; refine lq rfl (q_rem rfl rfl rfl (by decide)) ?_; refine l_run 1 rfl (lq rfl (q_and rfl rfl rfl) (lrun rfl (t_ret (n_ret1 rfl rfl (fun w' hw => ?_))))); refine ⟨?_, hw.below⟩; unfold mayN; rw [if_neg (by rw [hc0]; simp), nth_nd]
  rfl
theorem slash_pure (p : List UInt8) (w : World) (hp : p.length ≤ 1000000000) : Pure Tryz.prog 46 [str p] w (.bool (slashN p)) := by
 refine enter Tryz.func46 rfl Tryz.ntmps46 rfl (St.start w (look w) (Le.refl _)) (trun rfl (tq (s_run 1 rfl (sq rfl (q_neq_str rfl rfl rfl) (s_run 1 rfl ?_)))))
 refine s_and2 6 2 5 12 11 _ _ rfl rfl rfl rfl rfl rfl (fun h12 => by
   simp at h12
   have hp0 : 0 < p.length := List.length_pos_iff.2 h12
   refine s_runG 2 rfl (sg rfl (q_len_str rfl un9 rfl) (sg rfl (q_sub64 rfl rfl rfl (by omega)) ?_)); refine sg rfl ((by exact q_index_str rfl un9 rfl rfl (by omega))) ?_; refine sg rfl (q_eql_u8c rfl rfl rfl rfl) ?_; exact s_val rfl
  ) (wanted_n rfl) rfl rfl rfl ?_
 refine s_run 1 rfl (sdn (t_ret (n_ret1 rfl rfl (fun w' hw => ?_)))); refine ⟨?_, hw.below⟩; unfold slashN
 by_cases h0 : p = []
 ·subst h0; rfl
 ·have hp0 := List.length_pos_iff.2 h0
  rw [show ((p.length : Int) - 1).toNat = p.length - 1 by omega]
  try rfl
theorem ffind_pure (b : Nat) (v : Value) (L : List Ne) (w : World) (k : FsW w b v L) (a : Int) (ha : 0 ≤ a ∧ a < L.length) (n : List UInt8) (hlen : (nth L a.toNat ne0).nd.inos.length = (nth L a.toNat ne0).nd.names.length) (hnl : (nth L a.toNat ne0).nd.names.length ≤ 1000000000) : Pure Tryz.prog 47 [.pointer (some ⟨b, 0, none⟩), .int .i64 a, str n] w (.int .i64 (entI (nth L a.toNat ne0).nd n)) := by
 have hll := k.len
 have hxm : (nth L a.toNat ne0) ∈ L := nth_mem (by omega)
 have hok := k.ok _ hxm
 refine enter Tryz.func47 rfl Tryz.ntmps47 rfl (St.start w (look w) (Le.refl _)) (trun rfl (tr (l_run 3 rfl (lq rfl ((by exact q_ldr rfl rfl (rd_imm (k.row 0 _ rfl)))) ?_)))); refine l_run 1 rfl ?_; refine lq rfl ((by exact q_indexAddr rfl un108 ti107 rfl rfl (Sl.shape k.sl (List.length_map _)) (by omega))) ?_; refine lq rfl ((by exact q_load_agg rfl un107 ti107 rfl rfl (rds_ne (i := a.toNat) k.sl (by omega)))) ?_; refine le rfl (e_alloc rfl ti107 rfl) ?_; rintro _ _ _ ⟨b7, rfl, rfl, rfl⟩; refine l_e0 rfl rfl ((by exact e_store_all rfl ti107 rfl rfl rfl (by exact hok.ones) rfl)) ?_; rintro _ _ _ ⟨rfl, rfl⟩; refine l_heap (H' := row b7 107 (neC (nth L a.toNat ne0)) :: _) ?_ (fun _ h => h); refine lnr (lrun rfl (t_block (t_loopE (ι := Nat) (fun zz => zz ≤ (nth L a.toNat ne0).nd.names.length ∧ ∀ j, j < zz → nth (nth L a.toNat ne0).nd.names j [] ≠ n) (fun zz => (nth L a.toNat ne0).nd.names.length - zz) (fun zz => [(8, .int .i64 (zz : Int))]) [(0, _), (1, _), (2, _), (7, _)] (fun zz => look w) (fun zz => [row b7 107 (neC (nth L a.toNat ne0))]) 0 ?_ (sub_rfl rfl) (sub_rfl rfl) (fun _ h => subC_st h) ?_)))
 ·exact ⟨Nat.zero_le _, fun j h => absurd h (Nat.not_lt_zero _)⟩
 rintro i ⟨hi, hno⟩; dsimp only at *; refine t_seq (tr (l_run 2 rfl (lq rfl ((by exact q_ld rfl rfl (by rfl))) ?_))); refine lq rfl ((by exact q_len rfl un23 rfl (Sl.lenOf hok.nv (List.length_map _)))) ?_; refine lrun rfl (t_cond rfl (fun hc0 => ?_) (fun hc0 => ?_))
 ·simp at hc0
  have hil : i < (nth L a.toNat ne0).nd.names.length := by omega
  refine tskip (t_seq (t_block (tr (l_run 1 rfl (lq rfl ((by exact q_ld rfl rfl (by rfl))) ?_))))); refine l_run 1 rfl ?_; refine lq rfl ((by exact q_indexAddrN rfl un23 ti9 rfl rfl (Sl.shape hok.nv (List.length_map _)) (by omega))) ?_; refine lq rfl ((by exact q_ldr rfl rfl (rd_sv (i := i) hok.nv (by omega)))) ?_; refine l_run 1 rfl (lq rfl (q_eql_str rfl rfl rfl) (ln (t_cond rfl (fun hc1 => ?_) (fun hc1 => ?_))))
  ·simp only [decide_eq_true_eq, decide_eq_false_iff_not] at hc1; refine tr (l_run 1 rfl (lq rfl ((by exact q_ld rfl rfl (by rfl))) ?_)); refine l_run 1 rfl ?_; refine lq rfl ((by exact q_indexAddrN rfl un105 ti3 rfl rfl (Sl.shape hok.iv (List.length_map _)) (by omega))) ?_; refine lq rfl ((by exact q_ldr rfl rfl (rd_in (i := i) hok.iv (by omega)))) ?_; refine lrun rfl (tret (n_ret1 rfl rfl (fun w' hw => ?_))); refine ⟨?_, hw.below⟩; rw [ent_hit hil hc1 hno]
  ·simp only [decide_eq_true_eq, decide_eq_false_iff_not] at hc1; refine t_skip (n_block (n_then (t_region (l_run 1 rfl (lq rfl (q_add64 rfl rfl rfl (by omega)) ?_))))); refine l_runA rfl (n_roundE (i + 1) ?_ ?_ (sub_rfl rfl) (sub_rfl rfl) (fun _ h => by dsimp only; exact subC_st h))
   ·refine ⟨by omega, fun j hj => ?_⟩; rcases Nat.lt_succ_iff_lt_or_eq.1 hj with h | rfl
    ·exact hno j h
    ·exact hc1
   ·show _ - (i + 1) < _ - i
    omega
 ·simp at hc0
  have hil : i = (nth L a.toNat ne0).nd.names.length := by omega
  refine t_exit (n_exit_then (n_exit_then (n_exit_block (n_then (trun rfl (t_ret (n_ret1 rfl rfl (fun w' hw => ?_)))))))); refine ⟨?_, hw.below⟩; rw [ent_miss (fun j hj => hno j (by omega))]
theorem fstep_pure (b : Nat) (v : Value) (L : List Ne) (w : World) (k : FsW w b v L) (a : Int) (ha : 0 ≤ a ∧ a < L.length) (q : List UInt8) (hq : q.length ≤ 1000000000) (hlen : (nth L a.toNat ne0).nd.inos.length = (nth L a.toNat ne0).nd.names.length) (hnl : (nth L a.toNat ne0).nd.names.length ≤ 1000000000) : Pure Tryz.prog 61 [.pointer (some ⟨b, 0, none⟩), .int .i64 a, str q] w (.tuple #[.int .i64 (stepN (L.map Ne.nd) a q).1, .int .i64 (stepN (L.map Ne.nd) a q).2]) := by
 have hll := k.len
 have hxm : (nth L a.toNat ne0) ∈ L := nth_mem (by omega)
 have hok := k.ok _ hxm
 have hnd := nth_nd L a.toNat
 refine enter Tryz.func61 rfl Tryz.ntmps61 rfl (St.start w (look w) (Le.refl _)) (trun rfl (tr (l_run 3 rfl (lq rfl ((by exact q_ldr rfl rfl (rd_imm (k.row 0 _ rfl)))) ?_)))); refine l_run 1 rfl ?_; refine lq rfl ((by exact q_indexAddr rfl un108 ti107 rfl rfl (Sl.shape k.sl (List.length_map _)) (by omega))) ?_; refine lq rfl ((by exact q_load_agg rfl un107 ti107 rfl rfl (rds_ne (i := a.toNat) k.sl (by omega)))) ?_; refine le rfl (e_alloc rfl ti107 rfl) ?_; rintro _ _ _ ⟨b8, rfl, rfl, rfl⟩; refine l_e0 rfl rfl ((by exact e_store_all rfl ti107 rfl rfl rfl (by exact hok.ones) rfl)) ?_; rintro _ _ _ ⟨rfl, rfl⟩; refine l_heap (H' := row b8 107 (neC (nth L a.toNat ne0)) :: _) ?_ (fun _ h => h); refine lnt (t_block (tr (l_run 1 rfl (lq rfl ((by exact q_ld rfl rfl (by rfl))) ?_)))); refine lrun rfl (t_cond rfl (fun hc0 => ?_) (fun hc0 => ?_))
 ·refine trun rfl (tret (n_ret2 rfl rfl rfl (fun w' hw => ?_))); refine ⟨?_, hw.below⟩; unfold stepN; rw [hnd]
  try rw [if_neg (show ¬ 32 < q.length by omega)]
  simp_all
 ·refine tr (l_run 2 rfl (lq rfl (qc rfl rfl rfl ((fun w hw => fmay_pure b v L w (k.mono hw.le) a 1))) (lrun rfl (t_cond rfl (fun hc1 => ?_) (fun hc1 => ?_)))))
  ·refine trun rfl (tret (n_ret2 rfl rfl rfl (fun w' hw => ?_))); refine ⟨?_, hw.below⟩; unfold stepN; rw [hnd]
   try rw [if_neg (show ¬ 32 < q.length by omega)]
   simp_all
  ·refine tr (l_run 1 rfl (lq rfl (q_eql_str rfl rfl rfl) (lrun rfl (t_cond rfl (fun hc2 => ?_) (fun hc2 => ?_)))))
   ·refine trun rfl (tret (n_ret2 rfl rfl rfl (fun w' hw => ?_))); refine ⟨?_, hw.below⟩; unfold stepN; rw [hnd]
    try rw [if_neg (show ¬ 32 < q.length by omega)]
    simp_all
   ·refine tq (s_run 1 rfl (sq rfl (q_eql_str rfl rfl rfl) (s_run 1 rfl ?_)))
    refine s_and2 3 2 33 37 36 _ _ rfl rfl rfl rfl rfl rfl (fun h37 => by
      simp at h37
      refine s_runG 1 rfl (sg rfl ((by exact q_ld rfl rfl (by rfl))) ?_); refine s_runG 1 rfl ?_; exact s_val rfl
     ) (wanted_n rfl) rfl rfl rfl ?_
    refine s_run 1 rfl (sdn (t_cond rfl (fun hc3 => ?_) (fun hc3 => ?_)))
    ·refine trun rfl (tret (n_ret2 rfl rfl rfl (fun w' hw => ?_))); refine ⟨?_, hw.below⟩; unfold stepN; rw [hnd]
     try rw [if_neg (show ¬ 32 < q.length by omega)]
     simp_all
    ·refine tr (l_run 1 rfl (lq rfl (q_eql_str rfl rfl rfl) (lrun rfl (t_cond rfl (fun hc4 => ?_) (fun hc4 => ?_)))))
     ·refine tr (l_run 1 rfl (lq rfl ((by exact q_ld rfl rfl (by rfl))) ?_)); refine lrun rfl (tret (n_ret2 rfl rfl rfl (fun w' hw => ?_))); refine ⟨?_, hw.below⟩; unfold stepN; rw [hnd]
      try rw [if_neg (show ¬ 32 < q.length by omega)]
      simp_all
     ·refine tr (l_run 1 rfl (lq rfl (q_len_str rfl un9 rfl) (lrun rfl (t_cond rfl (fun hc5 => ?_) (fun hc5 => ?_)))))
      ·simp at hc5
       have h32 : 32 < q.length := by omega
       refine trun rfl (tret (n_ret2 rfl rfl rfl (fun w' hw => ?_))); refine ⟨?_, hw.below⟩; unfold stepN; rw [hnd]
       try rw [if_neg (show ¬ 32 < q.length by omega)]
       simp_all
      ·simp at hc5
       have h32 : ¬ 32 < q.length := by omega
       refine t_skip (n_block (n_then (tr (l_run 3 rfl (lq rfl (qc rfl rfl rfl ((fun w hw => ffind_pure b v L w (k.mono hw.le) a ha q hlen hnl))) (lrun rfl (t_seq (trun rfl (t_cond rfl (fun hc6 => ?_) (fun hc6 => ?_))))))))))
       ·refine trun rfl (tret (n_ret2 rfl rfl rfl (fun w' hw => ?_))); refine ⟨?_, hw.below⟩; unfold stepN; rw [hnd]
        try rw [if_neg (show ¬ 32 < q.length by omega)]
        simp_all
       ·refine tskip (trun rfl (t_ret (n_ret2 rfl rfl rfl (fun w' hw => ?_)))); refine ⟨?_, hw.below⟩; unfold stepN; rw [hnd]
        try rw [if_neg (show ¬ 32 < q.length by omega)]
        simp_all
theorem fbegin_pure (b : Nat) (v : Value) (L : List Ne) (w : World) (k : FsW w b v L) (a : Int) (p : List UInt8) (hp : p.length ≤ 1000000000) : Pure Tryz.prog 59 [.pointer (some ⟨b, 0, none⟩), .int .i64 a, str p] w (.tuple #[.int .i64 (beginN (L.map Ne.nd) a p).1, .int .i64 (beginN (L.map Ne.nd) a p).2]) := by
 have hll := k.len
 refine enter Tryz.func59 rfl Tryz.ntmps59 rfl (St.start w (look w) (Le.refl _)) (trun rfl (t_seq (t_block (tr (l_run 2 rfl (lq rfl (qc rfl rfl rfl ((fun w hw => fdir_pure b v L w (k.mono hw.le) a))) (lrun rfl (t_cond rfl (fun hc0 => ?_) (fun hc0 => ?_)))))))))
 ·refine trun rfl (tret (n_ret2 rfl rfl rfl (fun w' hw => ?_))); refine ⟨?_, hw.below⟩; unfold beginN
  try rw [if_neg (show ¬ 256 < p.length by omega)]
  simp_all
 ·refine tr (l_run 1 rfl (lq rfl (q_eql_str rfl rfl rfl) (lrun rfl (t_cond rfl (fun hc1 => ?_) (fun hc1 => ?_)))))
  ·refine trun rfl (tret (n_ret2 rfl rfl rfl (fun w' hw => ?_))); refine ⟨?_, hw.below⟩; unfold beginN
   try rw [if_neg (show ¬ 256 < p.length by omega)]
   simp_all
  ·have hp0 : 0 < p.length := List.length_pos_iff.2 (of_decide_eq_false hc1)
   refine tr (l_run 1 rfl (lq rfl (q_len_str rfl un9 rfl) (lrun rfl (t_cond rfl (fun hc2 => ?_) (fun hc2 => ?_)))))
   ·simp at hc2
    have h256 : 256 < p.length := by omega
    refine trun rfl (tret (n_ret2 rfl rfl rfl (fun w' hw => ?_))); refine ⟨?_, hw.below⟩; unfold beginN
    try rw [if_neg (show ¬ 256 < p.length by omega)]
    simp_all
   ·simp at hc2
    have h256 : ¬ 256 < p.length := by omega
    refine tr (l_run 1 rfl (lq rfl ((by exact q_index_strN rfl un9 rfl rfl (by omega))) ?_)); refine lq rfl (q_eql_u8c rfl rfl rfl rfl) (lrun rfl (t_cond rfl (fun hc3 => ?_) (fun hc3 => ?_)))
    ·refine trun rfl (tret (n_ret2 rfl rfl rfl (fun w' hw => ?_))); refine ⟨?_, hw.below⟩; unfold beginN
     try rw [if_neg (show ¬ 256 < p.length by omega)]
     simp_all
    ·refine t_skip (n_block (n_then (trun rfl (t_ret (n_ret2 rfl rfl rfl (fun w' hw => ?_)))))); refine ⟨?_, hw.below⟩; unfold beginN
     try rw [if_neg (show ¬ 256 < p.length by omega)]
     simp_all
theorem fcount_pure (b : Nat) (v : Value) (L : List Ne) (w : World) (k : FsW w b v L) : Pure Tryz.prog 49 [.pointer (some ⟨b, 0, none⟩)] w (.int .i64 (countN (L.map Ne.nd) : Int)) := by
 have hll := k.len
 refine enter Tryz.func49 rfl Tryz.ntmps49 rfl (St.start w (look w) (Le.refl _)) (trun rfl (trun rfl (t_seq (trun rfl (t_block (t_loopE (ι := Nat × Nat) (fun zz => zz.1 ≤ L.length ∧ zz.2 = countN ((L.take zz.1).map Ne.nd) ∧ zz.2 ≤ zz.1) (fun zz => L.length - zz.1) (fun zz => [(4, .int .i64 (zz.1 : Int)), (3, .int .i64 (zz.2 : Int))]) [(0, _), (2, _)] (fun zz => look w) (fun zz => []) (0, 0) ?_ (sub_rfl rfl) (sub_rfl rfl) (fun _ h => subC_st h) ?_))))))
 ·dsimp only; exact ⟨Nat.zero_le _, rfl, Nat.le_refl _⟩
 rintro ⟨i, c⟩ ⟨hi, hcn, hci⟩; dsimp only at *; refine t_seq (tr (l_run 4 rfl (lq rfl ((by exact q_ldr rfl rfl (rd_imm (k.row 0 _ rfl)))) ?_))); refine lq rfl ((by exact q_len rfl un108 rfl (Sl.lenOf k.sl (List.length_map _)))) ?_; refine lrun rfl (t_cond rfl (fun hc0 => ?_) (fun hc0 => ?_))
 ·simp at hc0
  have hil : i < L.length := by omega
  refine tskip (t_seq (t_block (tr (l_run 3 rfl (lq rfl ((by exact q_ldr rfl rfl (rd_imm (k.row 0 _ rfl)))) ?_))))); refine l_run 1 rfl ?_; refine lq rfl ((by exact q_indexAddrN rfl un108 ti107 rfl rfl (Sl.shape k.sl (List.length_map _)) (by omega))) ?_; refine l_run 1 rfl (lq rfl ((by exact q_ldr rfl rfl (rd_nef (i := i) (j := 0) k.sl (by omega) rfl))) ?_); refine lrun rfl (t_cond rfl (fun hc1 => ?_) (fun hc1 => ?_))
  ·simp at hc1
   refine t_region (l_run 1 rfl (lq rfl (q_add64 rfl rfl rfl (by omega)) ?_)); refine l_runA rfl (n_block (n_then (t_region (l_run 1 rfl (lq rfl (q_add64 rfl rfl rfl (by omega)) ?_))))); refine l_runA rfl (n_roundE ((i + 1, c + 1)) ?_ ?_ (sub_rfl rfl) (sub_rfl rfl) (fun _ h => by dsimp only; exact subC_st h))
   ·dsimp only; exact ⟨by omega, by rw [count_snoc hil, if_pos (by omega), ← hcn], by omega⟩
   ·dsimp only
    show L.length - (i + 1) < L.length - i
    omega
  ·simp at hc1
   refine t_skip (n_block (n_then (t_region (l_run 1 rfl (lq rfl (q_add64 rfl rfl rfl (by omega)) ?_))))); refine l_runA rfl (n_roundE ((i + 1, c)) ?_ ?_ (sub_rfl rfl) (sub_rfl rfl) (fun _ h => by dsimp only; exact subC_st h))
   ·dsimp only; exact ⟨by omega, by rw [count_snoc hil, if_neg (by omega), ← hcn]; rfl, by omega⟩
   ·dsimp only
    show L.length - (i + 1) < L.length - i
    omega
 ·simp at hc0
  have hil : i = L.length := by omega
  refine t_exit (n_exit_then (n_exit_then (n_exit_block (n_then (trun rfl (t_ret (n_ret1 rfl rfl (fun w' hw => ?_)))))))); refine ⟨?_, hw.below⟩; rw [hcn, hil, List.take_length]
theorem fpieces_calls (p : List UInt8) (hp : p.length ≤ 1000000000) (I : Look) (F : List HA) (w0 w : World) (hw0 : St w0 I F w) : Calls Tryz.prog 60 [str p].toArray w (fun e w' => ∃ v, e = .returned v ∧ ∃ I' H', (Le I I' ∧ F = H' ∧ Sl I' 1 v ((piecesN p).map svC)) ∧ St w I' H' w') := by
 refine enter Tryz.func60 rfl Tryz.ntmps60 rfl (hw0.self) (trun rfl (trun rfl (trun rfl (t_seq (trun rfl (t_block (t_loopE (ι := Nat × Nat × List (List UInt8) × Value) (fun zz => zz.1 ≤ p.length + 1 ∧ pcsN p zz.1 = (zz.2.2.1, zz.2.1) ∧ zz.2.1 ≤ zz.1 ∧ zz.2.2.1.length ≤ zz.1) (fun zz => p.length + 1 - zz.1) (fun zz => [(5, .int .i64 (zz.1 : Int)), (4, .int .i64 (zz.2.1 : Int)), (3, zz.2.2.2)]) [(0, _), (2, _)] (fun zz => I) (fun zz => (tvec 9 1 svC zz.2.2.2 zz.2.2.1 :: F)) (0, 0, [], .slice none 0 0) ?_ (sub_rfl rfl) (sub_rfl rfl) (fun _ h => st_nilT 9 1 svC (subC_st h)) ?_)))))))
 ·dsimp only; exact ⟨Nat.zero_le _, rfl, Nat.le_refl _, Nat.le_refl _⟩
 rintro ⟨i, fr, l, vo⟩ ⟨hi, hpc, hfr, hll⟩; dsimp only at *; refine t_seq (tr (l_run 2 rfl (lq rfl (q_len_str rfl un9 rfl) (lrun rfl (t_cond rfl (fun hc0 => ?_) (fun hc0 => ?_))))))
 ·simp at hc0
  have hil : i ≤ p.length := by omega
  refine tskip (t_seq (t_block (tq (s_run 2 rfl (sq rfl (q_len_str rfl un9 rfl) (s_run 2 rfl ?_))))))
  refine s_or2 4 4 16 21 20 _ _ rfl rfl rfl rfl rfl rfl (fun h21 => by
    simp at h21
    have hil2 : i < p.length := by omega
    refine s_runG 2 rfl (sg rfl ((by exact q_index_strN rfl un9 rfl rfl (by omega))) ?_); refine sg rfl (q_eql_u8c rfl rfl rfl rfl) ?_; exact s_val rfl
   ) (wanted_n rfl) rfl rfl rfl ?_
  refine sdn (t_cond rfl (fun hc1 => ?_) (fun hc1 => ?_))
  ·have hcs : i = p.length ∨ nth p i 0 = 47 := by
    rw [Bool.or_eq_true, decide_eq_true_eq] at hc1; rcases hc1 with h | h
    ·left; omega
    ·right; exact of_decide_eq_true h
   refine t_seq (trun rfl (t_cond rfl (fun hc2 => ?_) (fun hc2 => ?_)))
   ·simp at hc2
    refine t_region (l_run 4 rfl (lq rfl (q_slice_str rfl un9 rfl rfl rfl (by omega)) ?_)); refine le rfl (e_buildSlice1 rfl un23 ti9 rfl rfl rfl (by rfl) rfl) ?_; rintro _ _ _ ⟨b30, rfl, rfl, rfl⟩; refine le rfl (e_appendT (f := svC) (c := ((p.drop fr).take (i - fr))) rfl un23 ti9 rfl rfl rfl rfl rfl rfl rfl (svC_ones _) (by simp only [maxLen]; omega) (by omega)) ?_; rintro v31 _ _ ⟨rfl, rfl⟩; refine lrun rfl (t_region (l_run 1 rfl (lq rfl (q_add64 rfl rfl rfl (by omega)) ?_))); refine l_runA rfl (n_block (n_then (t_region (l_run 1 rfl (lq rfl (q_add64 rfl rfl rfl (by omega)) ?_))))); refine l_runA rfl (n_roundE ((i + 1, i + 1, l ++ [(p.drop fr).take (i - fr)], v31)) ?_ ?_ (sub_rfl rfl) (sub_rfl rfl) (fun _ h => by dsimp only; exact subC_st h))
    ·dsimp only; exact ⟨by omega, by rw [pcsN, if_pos hcs, hpc, if_pos (by show fr < i; omega)], Nat.le_refl _, by simp; omega⟩
    ·dsimp only
     show p.length + 1 - (i + 1) < p.length + 1 - i
     omega
   ·simp at hc2
    refine tskip (t_region (l_run 1 rfl (lq rfl (q_add64 rfl rfl rfl (by omega)) ?_))); refine l_runA rfl (n_block (n_then (t_region (l_run 1 rfl (lq rfl (q_add64 rfl rfl rfl (by omega)) ?_))))); refine l_runA rfl (n_roundE ((i + 1, i + 1, l, vo)) ?_ ?_ (sub_rfl rfl) (sub_rfl rfl) (fun _ h => by dsimp only; exact subC_st h))
    ·dsimp only; exact ⟨by omega, by rw [pcsN, if_pos hcs, hpc, if_neg (by show ¬ fr < i; omega)], Nat.le_refl _, by omega⟩
    ·dsimp only
     show p.length + 1 - (i + 1) < p.length + 1 - i
     omega
  ·have hcs : ¬ (i = p.length ∨ nth p i 0 = 47) := by
    rw [Bool.or_eq_false_iff, decide_eq_false_iff_not] at hc1; rintro (h | h)
    ·exact hc1.1 (by omega)
    ·exact (of_decide_eq_false hc1.2) h
   refine t_skip (n_block (n_then (t_region (l_run 1 rfl (lq rfl (q_add64 rfl rfl rfl (by omega)) ?_))))); refine l_runA rfl (n_roundE ((i + 1, fr, l, vo)) ?_ ?_ (sub_rfl rfl) (sub_rfl rfl) (fun _ h => by dsimp only; exact subC_st h))
   ·dsimp only; exact ⟨by omega, by rw [pcsN, if_neg hcs, hpc], by omega, by omega⟩
   ·dsimp only
    show p.length + 1 - (i + 1) < p.length + 1 - i
    omega
 ·simp at hc0
  have hil : i = p.length + 1 := by omega
  refine t_exit (n_exit_then (n_exit_then (n_exit_block (n_then (t_seq (t_freezeT (f := svC) (l := l) vo (fun _ => rfl) (fun Jf hJf hvo => ?_))))))); refine t_region (lrun rfl (t_ret (n_ret1 rfl rfl (fun w' hw => ?_)))); exact ⟨_, rfl, Jf, F, ⟨hJf, rfl, by unfold piecesN; rw [← hil, hpc]; exact hvo⟩, subC_st hw⟩
end Go.Tri

/-
 Files: made.
-/
namespace Go.Tri
open Go.Proofs Go.RowKit
set_option maxRecDepth 10000
theorem wf_at {L : List Ne} (hw : WfN (L.map Ne.nd)) {i : Nat} (h : i < L.length) : (nth L i ne0).nd.inos.length = (nth L i ne0).nd.names.length := hw.len _ (List.mem_map.2 ⟨_, nth_mem h, rfl⟩)
/-- few entries -/
def FewN (L : List Ne) : Prop := ∀ x ∈ L, x.nd.names.length ≤ 1000000
theorem in_map {L : List Ne} {a : Int} (h : 0 ≤ a ∧ a < ((L.map Ne.nd).length : Int)) : 0 ≤ a ∧ a < L.length := by rwa [List.length_map] at h
theorem steps_snoc (fs : List Nd) (a : Int) (l : List (List UInt8)) (i m : Nat) (hi : i < m) (hm : m ≤ l.length) : stepsN fs a ((l.take m).drop i) = if (stepN fs a (nth l i [])).2 ≠ 0 then (0, (stepN fs a (nth l i [])).2) else stepsN fs (stepN fs a (nth l i [])).1 ((l.take m).drop (i + 1)) := by
 have h1 : i < (l.take m).length := by rw [List.length_take]; omega
 have h2 : nth (l.take m) i [] = nth l i [] := by rw [nth_eq h1, nth_eq (by omega), List.getElem_take]
 rw [drop_nth [] h1, stepsN, h2]
theorem steps_end (fs : List Nd) (a : Int) (l : List (List UInt8)) (i m : Nat) (hi : m ≤ i) : stepsN fs a ((l.take m).drop i) = (a, 0) := by
 rw [List.drop_of_length_le (by rw [List.length_take]; omega), stepsN]
theorem last_t {l : List (List UInt8)} (h : ((decide ((l.length : Int) = 0) || decide (nth l (((l.length : Int) - 1).toNat) [] = [46])) || decide (nth l (((l.length : Int) - 1).toNat) [] = [46, 46])) = true) : l = [] ∨ lastN l = [46] ∨ lastN l = [46, 46] := by
 have hlt : ((l.length : Int) - 1).toNat = l.length - 1 := by omega
 rw [hlt, Bool.or_eq_true, Bool.or_eq_true, decide_eq_true_eq, decide_eq_true_eq, decide_eq_true_eq] at h; rcases h with (h | h) | h
 ·exact .inl (List.eq_nil_of_length_eq_zero (by omega))
 ·exact .inr (.inl h)
 ·exact .inr (.inr h)
theorem last_f {l : List (List UInt8)} (h : ((decide ((l.length : Int) = 0) || decide (nth l (((l.length : Int) - 1).toNat) [] = [46])) || decide (nth l (((l.length : Int) - 1).toNat) [] = [46, 46])) = false) : ¬ (l = [] ∨ lastN l = [46] ∨ lastN l = [46, 46]) := by
 have hlt : ((l.length : Int) - 1).toNat = l.length - 1 := by omega
 rw [hlt, Bool.or_eq_false_iff, Bool.or_eq_false_iff, decide_eq_false_iff_not, decide_eq_false_iff_not, decide_eq_false_iff_not] at h; rintro (h9 | h9 | h9)
 ·exact h.1.1 (by rw [h9]; rfl)
 ·exact h.1.2 h9
 ·exact h.2 h9
theorem pcs_len (p : List UInt8) (i : Nat) : (pcsN p i).1.length ≤ i ∧ (pcsN p i).2 ≤ i ∧ ∀ x ∈ (pcsN p i).1, x.length ≤ p.length := by
 induction i with
 | zero => exact ⟨Nat.le_refl _, Nat.le_refl _, fun x hx => by cases hx⟩
 | succ i ih =>
  obtain ⟨h1, h2, h3⟩ := ih; rw [pcsN]
  split
  ·refine ⟨?_, Nat.le_refl _, ?_⟩
   ·show (if _ then _ else _ : List (List UInt8)).length ≤ _
    split
    ·rw [List.length_append, List.length_singleton]; omega
    ·omega
   ·intro x hx
    have hx : x ∈ (if (pcsN p i).2 < i then (pcsN p i).1 ++ [(p.drop (pcsN p i).2).take (i - (pcsN p i).2)] else (pcsN p i).1) := hx
    split at hx
    ·rcases List.mem_append.1 hx with h | h
     ·exact h3 x h
     ·rw [List.mem_singleton.1 h, List.length_take, List.length_drop]; omega
    ·exact h3 x hx
  ·exact ⟨by omega, by omega, h3⟩
theorem fahead_pure (b : Nat) (v : Value) (L : List Ne) (w : World) (k : FsW w b v L) (hwf : WfN (L.map Ne.nd)) (hfew : FewN L) (d : Int) (p : List UInt8) (hp : p.length ≤ 100000000) : Pure Tryz.prog 45 [.pointer (some ⟨b, 0, none⟩), .int .i64 d, str p] w (.tuple #[.int .i64 (aheadN (L.map Ne.nd) d p).1, str (aheadN (L.map Ne.nd) d p).2.1, .int .i64 (aheadN (L.map Ne.nd) d p).2.2]) := by
 have hll := k.len
 have hpl := pcs_len p (p.length + 1)
 have hpl1 : (piecesN p).length ≤ p.length + 1 := hpl.1
 have hpx : ∀ x ∈ piecesN p, x.length ≤ p.length := hpl.2.2
 refine enter Tryz.func45 rfl Tryz.ntmps45 rfl (St.start w (look w) (Le.refl _)) (trun rfl (tr (l_run 3 rfl (lq rfl (qc rfl rfl rfl ((fun w hw => fbegin_pure b v L w (k.mono hw.le) d p (by omega)))) ?_)))); refine lrun rfl (t_seq (trun rfl (t_cond rfl (fun hc0 => ?_) (fun hc0 => ?_))))
 ·simp at hc0
  have hb0 : (beginN (L.map Ne.nd) d p).2 ≠ 0 := by omega
  refine trun rfl (tret (n_ret3 rfl rfl rfl rfl (fun w' hw => ?_))); refine ⟨?_, hw.below⟩; rw [aheadN_eq, if_pos hb0]
  rfl
 ·simp at hc0
  have hb0 : (beginN (L.map Ne.nd) d p).2 = 0 := by omega
  refine tskip (tr (l_run 1 rfl (lec rfl rfl rfl rfl (fun w hw => fpieces_calls p (by omega) _ _ _ w hw) ?_))); rintro v24 J24 _ ⟨hJ24, rfl, hps⟩; refine lrun rfl (t_seq (trun rfl (t_block (t_loopE (ι := Nat × Int) (fun zz => zz.1 ≤ (piecesN p).length ∧ (0 ≤ zz.2 ∧ zz.2 < L.length) ∧ (stepsN (L.map Ne.nd) (beginN (L.map Ne.nd) d p).1 ((piecesN p).take ((piecesN p).length - 1))) = stepsN (L.map Ne.nd) zz.2 (((piecesN p).take ((piecesN p).length - 1)).drop zz.1)) (fun zz => (piecesN p).length - zz.1) (fun zz => [(12, .int .i64 (zz.1 : Int)), (9, .int .i64 zz.2)]) [(0, _), (1, _), (2, _), (21, _), (11, _)] (fun zz => J24) (fun zz => []) (0, (beginN (L.map Ne.nd) d p).1) ?_ (sub_rfl rfl) (sub_rfl rfl) (fun _ h => subC_st h) ?_))))
  ·dsimp only; exact ⟨Nat.zero_le _, in_map (begin_in hwf hb0), rfl⟩
  rintro ⟨i, a⟩ ⟨hi, ha, hst⟩; dsimp only at *; refine t_seq (tr (l_run 1 rfl (lq rfl (q_add64 rfl rfl rfl (by omega)) ?_))); refine l_run 1 rfl ?_; refine lq rfl ((by exact q_len rfl un23 rfl (Sl.lenOf hps (List.length_map _)))) ?_; refine lrun rfl (t_cond rfl (fun hc1 => ?_) (fun hc1 => ?_))
  ·simp at hc1
   have hil : i + 1 < (piecesN p).length := by omega
   refine tskip (t_seq (t_block (tr (l_run 4 rfl ?_)))); refine lq rfl ((by exact q_indexAddrN rfl un23 ti9 rfl rfl (Sl.shape hps (List.length_map _)) (by omega))) ?_; refine lq rfl ((by exact q_ldr rfl rfl (rd_sv (i := i) hps (by omega)))) ?_; refine lq rfl (qc rfl rfl rfl ((fun w hw => fstep_pure b v L w (k.mono (hJ24.trans hw.le)) a ha (nth (piecesN p) i []) (by have := hpx _ (nth_mem (d := []) (show i < (piecesN p).length by omega)); omega) (wf_at hwf (by omega)) (by have := hfew _ (nth_mem (d := ne0) (show a.toNat < L.length by omega)); omega)))) ?_; refine lrun rfl (trun rfl (t_cond rfl (fun hc2 => ?_) (fun hc2 => ?_)))
   ·simp at hc2
    have hse : (stepN (L.map Ne.nd) a (nth (piecesN p) i [])).2 ≠ 0 := by omega
    rw [steps_snoc _ _ _ _ _ (by omega) (by omega), if_pos hse] at hst; refine trun rfl (tret (n_ret3 rfl rfl rfl rfl (fun w' hw => ?_))); refine ⟨?_, (hw.less hJ24).below⟩; rw [aheadN_eq, if_neg (by rw [hb0]; simp), show preS (L.map Ne.nd) d p = _ from hst, if_pos hse]
    rfl
   ·simp at hc2
    have hse : (stepN (L.map Ne.nd) a (nth (piecesN p) i [])).2 = 0 := by omega
    refine t_skip (n_block (n_then (t_region (l_run 1 rfl (lq rfl (q_add64 rfl rfl rfl (by omega)) ?_))))); refine l_runA rfl (n_roundE ((i + 1, (stepN (L.map Ne.nd) a (nth (piecesN p) i [])).1)) ?_ ?_ (sub_rfl rfl) (sub_rfl rfl) (fun _ h => by dsimp only; exact subC_st h))
    ·dsimp only; refine ⟨by omega, in_map (step_in hwf (by rwa [List.length_map]) _), ?_⟩; rw [hst, steps_snoc _ _ _ _ _ (by omega) (by omega), if_neg (by omega)]
    ·dsimp only
     show _ - (i + 1) < _ - i
     omega
  ·simp at hc1
   have hil : (piecesN p).length ≤ i + 1 := by omega
   rw [steps_end _ _ _ _ _ (by omega)] at hst
   have hnd := nth_nd L a.toNat
   refine t_exit (n_exit_then (n_exit_then (n_exit_block (n_then (t_seq (t_block (tr (l_run 3 rfl (lq rfl ((by exact q_ldr rfl rfl (rd_imm ((k.row 0 _ rfl).mono hJ24)))) ?_))))))))); refine l_run 1 rfl ?_; refine lq rfl ((by exact q_indexAddr rfl un108 ti107 rfl rfl (Sl.shape (k.sl.mono hJ24) (List.length_map _)) (by omega))) ?_; refine l_run 1 rfl (lq rfl ((by exact q_ldr rfl rfl (rd_nef (i := a.toNat) (j := 0) (k.sl.mono hJ24) (by omega) rfl))) ?_); refine lrun rfl (t_cond rfl (fun hc3 => ?_) (fun hc3 => ?_))
   ·refine trun rfl (tret (n_ret3 rfl rfl rfl rfl (fun w' hw => ?_))); refine ⟨?_, (hw.less hJ24).below⟩; rw [aheadN_eq, if_neg (by rw [hb0]; simp), show preS (L.map Ne.nd) d p = _ from hst, if_neg (by simp), if_pos (by rw [hnd]; exact of_decide_eq_true hc3)]
    rfl
   ·refine tr (l_run 2 rfl (lq rfl (qc rfl rfl rfl ((fun w hw => fmay_pure b v L w (k.mono (hJ24.trans hw.le)) a 1))) (lrun rfl (t_cond rfl (fun hc4 => ?_) (fun hc4 => ?_)))))
    ·refine trun rfl (tret (n_ret3 rfl rfl rfl rfl (fun w' hw => ?_))); refine ⟨?_, (hw.less hJ24).below⟩; rw [aheadN_eq, if_neg (by rw [hb0]; simp), show preS (L.map Ne.nd) d p = _ from hst, if_neg (by simp), if_neg (by rw [hnd]; simpa using of_decide_eq_false hc3), if_pos (by simpa using hc4)]
     rfl
    ·refine tq (s_run 1 rfl ?_); refine sq rfl ((by exact q_len rfl un23 rfl (Sl.lenOf hps (List.length_map _)))) ?_; refine s_run 2 rfl ?_
     refine s_or2 7 3 64 72 71 _ _ rfl rfl rfl rfl rfl rfl (fun h72 => by
       simp at h72
       have hl0 : 0 < (piecesN p).length := List.length_pos_iff.2 h72
       refine s_runG 2 rfl ?_; refine sg rfl ((by exact q_len rfl un23 rfl (Sl.lenOf hps (List.length_map _)))) ?_; refine sg rfl (q_sub64 rfl rfl rfl (by omega)) ?_; refine sg rfl ((by exact q_indexAddr rfl un23 ti9 rfl rfl (Sl.shape hps (List.length_map _)) (by omega))) ?_; refine sg rfl ((by exact q_ldr rfl rfl (rd_sv (i := (((piecesN p).length : Int) - 1).toNat) hps (by omega)))) ?_; refine sg rfl (q_eql_str rfl rfl rfl) ?_; exact s_val rfl
      ) (wanted_n rfl) rfl rfl rfl ?_
     refine s_run 1 rfl ?_
     refine s_or2 7 12 73 81 80 _ _ rfl rfl rfl rfl rfl rfl (fun h81 => by
       simp at h81
       have hl0 : 0 < (piecesN p).length := List.length_pos_iff.2 h81.1
       refine s_runG 2 rfl ?_; refine sg rfl ((by exact q_len rfl un23 rfl (Sl.lenOf hps (List.length_map _)))) ?_; refine sg rfl (q_sub64 rfl rfl rfl (by omega)) ?_; refine sg rfl ((by exact q_indexAddr rfl un23 ti9 rfl rfl (Sl.shape hps (List.length_map _)) (by omega))) ?_; refine sg rfl ((by exact q_ldr rfl rfl (rd_sv (i := (((piecesN p).length : Int) - 1).toNat) hps (by omega)))) ?_; refine sg rfl (q_eql_str rfl rfl rfl) ?_; exact s_val rfl
      ) (wanted_n rfl) rfl rfl rfl ?_
     refine s_run 1 rfl (sdn (t_cond rfl (fun hc5 => ?_) (fun hc5 => ?_)))
     ·have hla := last_t hc5
      refine trun rfl (tret (n_ret3 rfl rfl rfl rfl (fun w' hw => ?_))); refine ⟨?_, (hw.less hJ24).below⟩; rw [aheadN_eq, if_neg (by rw [hb0]; simp), show preS (L.map Ne.nd) d p = _ from hst, if_neg (by simp), if_neg (by rw [hnd]; simpa using of_decide_eq_false hc3), if_neg (by simpa using hc4), if_pos hla]
      rfl
     ·have hla := last_f hc5
      have hl0 : 0 < (piecesN p).length := List.length_pos_iff.2 (fun h9 => hla (.inl h9))
      refine tr (l_run 2 rfl ?_); refine lq rfl ((by exact q_len rfl un23 rfl (Sl.lenOf hps (List.length_map _)))) ?_; refine lq rfl (q_sub64 rfl rfl rfl (by omega)) ?_; refine lq rfl ((by exact q_indexAddr rfl un23 ti9 rfl rfl (Sl.shape hps (List.length_map _)) (by omega))) ?_; refine lq rfl ((by exact q_ldr rfl rfl (rd_sv (i := (((piecesN p).length : Int) - 1).toNat) hps (by omega)))) ?_; refine lq rfl (q_len_str rfl un9 rfl) (lrun rfl (t_cond rfl (fun hc6 => ?_) (fun hc6 => ?_)))
      ·refine trun rfl (tret (n_ret3 rfl rfl rfl rfl (fun w' hw => ?_))); refine ⟨?_, (hw.less hJ24).below⟩
       have hlt : nth (piecesN p) (((piecesN p).length : Int) - 1).toNat [] = lastN (piecesN p) := by unfold lastN; congr 1; omega
       rw [aheadN_eq, if_neg (by rw [hb0]; simp), show preS (L.map Ne.nd) d p = _ from hst, if_neg (by simp), if_neg (by rw [hnd]; simpa using of_decide_eq_false hc3), if_neg (by simpa using hc4), if_neg hla, if_pos (by have := of_decide_eq_true hc6; rw [hlt] at this; omega)]
       rfl
      ·refine t_skip (n_block (n_then (t_seq (t_qdraw mo (by kernel_rfl) (fun _ _ _ _ _ h => h) (s_run 3 rfl ?_))))); refine sq rfl ((by exact q_len rfl un23 rfl (Sl.lenOf hps (List.length_map _)))) ?_; refine sq rfl (q_sub64 rfl rfl rfl (by omega)) ?_; refine sq rfl ((by exact q_indexAddr rfl un23 ti9 rfl rfl (Sl.shape hps (List.length_map _)) (by omega))) ?_; refine sq rfl ((by exact q_ldr rfl rfl (rd_sv (i := (((piecesN p).length : Int) - 1).toNat) hps (by omega)))) ?_; refine s_run 3 rfl (sdn (t_ret (n_ret3 rfl rfl rfl rfl (fun w' hw => ?_)))); refine ⟨?_, (hw.less hJ24).below⟩
       have hlt : nth (piecesN p) (((piecesN p).length : Int) - 1).toNat [] = lastN (piecesN p) := by unfold lastN; congr 1; omega
       rw [aheadN_eq, if_neg (by rw [hb0]; simp), show preS (L.map Ne.nd) d p = _ from hst, if_neg (by simp), if_neg (by rw [hnd]; simpa using of_decide_eq_false hc3), if_neg (by simpa using hc4), if_neg hla, if_neg (by have := of_decide_eq_false hc6; rw [hlt] at this; omega), hlt]
theorem fput_calls (b : Nat) (v : Value) (L : List Ne) (d : Nat) (n : List UInt8) (kk : Int) (hd : d < L.length) (hL : L.length ≤ 1000000) (hlen : (nth L d ne0).nd.inos.length = (nth L d ne0).nd.names.length) (hnl : (nth L d ne0).nd.names.length ≤ 1000000) (I : Look) (hall : ∀ x ∈ L, NeOk I x) (F : List HA) (w0 w : World) (hw0 : St w0 I (fsH b v L F) w) : Calls Tryz.prog 50 [.pointer (some ⟨b, 0, none⟩), .int .i64 (d : Int), str n, .int .i64 kk].toArray w (fun e w' => ∃ v0, e = .returned v0 ∧ ∃ I' H', (Le I I' ∧ v0 = .tuple #[] ∧ ∃ L', H' = fsH b v L' F ∧ (∀ x ∈ L', NeOk I' x) ∧ L'.map Ne.nd = putE (L.map Ne.nd) d n kk) ∧ St w I' H' w') := by
 have hxm : (nth L d ne0) ∈ L := nth_mem hd
 have hok := hall _ hxm
 refine enter Tryz.func50 rfl Tryz.ntmps50 rfl (hw0.self) (tr (l_run 3 rfl (lq rfl ((by exact q_ld rfl rfl (by rfl))) ?_))); refine l_run 1 rfl ?_; refine lq rfl ((by exact q_indexAddrVN rfl un108 ti107 rfl rfl (by omega))) ?_; refine lq rfl ((by exact q_load_agg rfl un107 ti107 rfl rfl (rds_t (L := L) (i := d) (by exact .tail _ (.head _)) (by omega)))) ?_; refine le rfl (e_alloc rfl ti107 rfl) ?_; rintro _ _ _ ⟨b8, rfl, rfl, rfl⟩; refine l_e0 rfl rfl ((by exact e_store_all rfl ti107 rfl rfl rfl (by exact hok.ones) rfl)) ?_; rintro _ _ _ ⟨rfl, rfl⟩; refine l_heap (H' := row b8 107 (neC (nth L d ne0)) :: _) ?_ (fun _ h => h); refine lnr1 (lrun rfl (t_seq (t_block (t_loopE (ι := Nat) (fun zz => zz ≤ (nth L d ne0).nd.names.length ∧ ∀ j, j < zz → Op.bytesLess (nth (nth L d ne0).nd.names j []) n = true) (fun zz => (nth L d ne0).nd.names.length - zz) (fun zz => [(9, .int .i64 (zz : Int))]) [(0, _), (1, _), (2, _), (3, _), (8, _)] (fun zz => I) (fun zz => (row b8 107 (neC (nth L d ne0)) :: row b 110 [v] :: tvec 107 8 neC v L :: F)) 0 ?_ (sub_rfl rfl) (sub_rfl rfl) (fun _ h => subC_st h) ?_))))
 ·exact ⟨Nat.zero_le _, fun j h => absurd h (Nat.not_lt_zero _)⟩
 rintro i ⟨hi, hlt⟩; dsimp only at *; refine t_seq (tq (s_run 2 rfl (sq rfl ((by exact q_ld rfl rfl (by rfl))) ?_))); refine sq rfl ((by exact q_len rfl un23 rfl (Sl.lenOf hok.nv (List.length_map _)))) ?_; refine s_run 2 rfl ?_
 refine s_and2 7 5 22 30 29 _ _ rfl rfl rfl rfl rfl rfl (fun h30 => by
   simp at h30
   have hil : i < (nth L d ne0).nd.names.length := by omega
   refine s_runG 1 rfl (sg rfl ((by exact q_ld rfl rfl (by rfl))) ?_); refine s_runG 1 rfl ?_; refine sg rfl ((by exact q_indexAddrN rfl un23 ti9 rfl rfl (Sl.shape hok.nv (List.length_map _)) (by omega))) ?_; refine sg rfl ((by exact q_ldr rfl rfl (rd_sv (i := i) hok.nv (by omega)))) ?_; refine s_runG 1 rfl (sg rfl (q_lss_str rfl rfl rfl) ?_); exact s_val rfl
  ) (wanted_n rfl) rfl rfl rfl ?_
 refine sdn (t_cond rfl (fun hc0 => ?_) (fun hc0 => ?_))
 ·rw [Bool.and_eq_true] at hc0
  have hil : i < (nth L d ne0).nd.names.length := by have := of_decide_eq_true hc0.1; omega
  have hbl := hc0.2
  refine tskip (t_block (t_region (l_run 1 rfl (lq rfl (q_add64 rfl rfl rfl (by omega)) ?_)))); refine l_runA rfl (n_block (n_roundE (i + 1) ?_ ?_ (sub_rfl rfl) (sub_rfl rfl) (fun _ h => by dsimp only; exact subC_st h)))
  ·refine ⟨by omega, fun j hj => ?_⟩; rcases Nat.lt_succ_iff_lt_or_eq.1 hj with h | rfl
   ·exact hlt j h
   ·exact hbl
  ·show _ - (i + 1) < _ - i
   omega
 ·have hlow : lowE (nth L d ne0).nd.names n = i := lowE_at hi hlt (fun hil => by have h9 := hc0; rw [decide_eq_true (show (i : Int) < ((nth L d ne0).nd.names.length : Int) by omega), Bool.true_and] at h9; exact h9)
  refine t_exit (n_exit_then (n_exit_then (n_exit_block (n_then (t_cutE (ι := Value) (fun zz => One zz) (fun zz => []) [(9, _), (0, _), (1, _), (2, _), (3, _), (8, _), (30, _)] (fun zz => I) (fun zz => (row b8 107 (neC ⟨⟨(nth L d ne0).nd.kind, (nth L d ne0).nd.mode, (nth L d ne0).nd.links, (nth L d ne0).nd.holds, (nth L d ne0).nd.parent, (nth L d ne0).nd.data, (nth L d ne0).nd.names.take i ++ [n] ++ (nth L d ne0).nd.names.drop i, (nth L d ne0).nd.inos⟩, zz, (nth L d ne0).iv⟩) :: tvec 9 1 svC zz ((nth L d ne0).nd.names.take i ++ [n] ++ (nth L d ne0).nd.names.drop i) :: row b 110 [v] :: tvec 107 8 neC v L :: F)) (sub_rfl rfl) ?_ ?_)))))
  ·refine t_draw [0, 5, 7, 8, 13, 15] [15] [row b8 107 (neC (nth L d ne0))] mo (by kernel_rfl) (fun _ _ _ _ _ h => h) (r_run [1] (by kernel_rfl) rfl rfl rfl (rq0 2 (by kernel_rfl) rfl (Le.refl _) rfl (fun _ hI => (by exact q_ld rfl rfl (by rfl))) ?_)); refine r_run [3] (by kernel_rfl) rfl rfl rfl (rqf 4 (by kernel_rfl) rfl rfl (fun _ => (by exact q_slice_to rfl un23 ti9 rfl rfl (Sl.capOf hok.nv (List.length_map _)) (by omega))) ?_); refine r_run [6, 9] (by kernel_rfl) rfl rfl rfl (rq0 10 (by kernel_rfl) rfl (Le.refl _) rfl (fun _ hI => (by exact q_ld rfl rfl (by rfl))) ?_); refine r_run [11] (by kernel_rfl) rfl rfl rfl (rqf 12 (by kernel_rfl) rfl rfl (fun _ => (by exact q_slice_from rfl un23 ti9 rfl rfl (Sl.lenOf hok.nv (List.length_map _)) (by omega))) ?_); refine r_two 0 7 (by kernel_rfl) (by kernel_rfl) ?_ ?_
   ·refine x_e 0 rfl rfl (Le.refl _) rfl rfl rfl (e_buildSlice0 rfl un23 ti9) ?_; rintro v33 _ _ ⟨⟨b33, hb33⟩, rfl, rfl⟩; refine ⟨Le.refl _, .inr SubC.sub, ?_⟩; refine r_two 5 7 (by kernel_rfl) (by kernel_rfl) ?_ ?_
    ·refine x_e 5 rfl rfl (Le.refl _) rfl rfl rfl (e_appendSl (f := svC) (l := []) (ls := (nth L d ne0).nd.names.take i) rfl un23 ti9 rfl rfl rfl rfl (cutG hok.nv (by omega)) rfl (fun _ => rfl) svC_ones (by (try simp only [maxLen, List.length_append, List.length_take, List.length_drop, List.length_cons, List.length_nil]); omega) (by (try simp only [List.length_append, List.length_take, List.length_drop, List.length_cons, List.length_nil]); omega)) ?_; rintro v38 _ _ ⟨rfl, rfl⟩; refine ⟨Le.refl _, .inr SubC.sub, ?_⟩; refine re 7 (by kernel_rfl) rfl (Le.refl _) rfl (e_buildSlice1 rfl un23 ti9 rfl rfl rfl (by rfl) rfl) ?_; rintro _ _ _ ⟨b40, rfl, rfl, rfl⟩; refine ⟨Le.refl _, .inr SubC.sub, ?_⟩; refine re 8 (by kernel_rfl) rfl (Le.refl _) rfl (e_appendT (f := svC) (l := (nth L d ne0).nd.names.take i) (c := n) rfl un23 ti9 rfl rfl rfl rfl rfl rfl rfl (svC_ones _) (by (try simp only [maxLen, List.length_append, List.length_take, List.length_drop, List.length_cons, List.length_nil]); omega) (by (try simp only [List.length_append, List.length_take, List.length_drop, List.length_cons, List.length_nil]); omega)) ?_; rintro v41 _ _ ⟨rfl, rfl⟩; refine ⟨Le.refl _, .inr SubC.sub, ?_⟩
     refine re 13 (by kernel_rfl) rfl (Le.refl _) rfl (e_appendSl (f := svC) (l := (nth L d ne0).nd.names.take i ++ [n]) (ls := (nth L d ne0).nd.names.drop i) rfl un23 ti9 rfl rfl rfl rfl (Sl.dropM hok.nv rfl (by omega)) rfl (fun _ => rfl) svC_ones (by (try simp only [maxLen, List.length_append, List.length_take, List.length_drop, List.length_cons, List.length_nil]); omega) (by (try simp only [List.length_append, List.length_take, List.length_drop, List.length_cons, List.length_nil]); omega)) ?_; rintro v46 _ _ ⟨rfl, rfl⟩; refine ⟨Le.refl _, .inr SubC.sub, ?_⟩; refine r_len v46 (fun hsh46 hone46 => ?_); refine r_run [14] (by kernel_rfl) rfl rfl rfl ?_; refine r_e0 15 (by kernel_rfl) (by kernel_rfl) rfl (Le.refl _) rfl rfl (e_storeS rfl ti23 rfl rfl (by assumption) rfl (by rfl)) ?_; rintro _ _ _ ⟨rfl, rfl⟩; refine ⟨Le.refl _, .inl rfl, ?_⟩; refine r_heap (H' := row b8 107 (neC ⟨⟨(nth L d ne0).nd.kind, (nth L d ne0).nd.mode, (nth L d ne0).nd.links, (nth L d ne0).nd.holds, (nth L d ne0).nd.parent, (nth L d ne0).nd.data, (nth L d ne0).nd.names.take i ++ [n] ++ (nth L d ne0).nd.names.drop i, (nth L d ne0).nd.inos⟩, v46, (nth L d ne0).iv⟩) :: _) ?_ (fun _ h => h); refine r_end (by kernel_rfl) (n_cut (v46) ?_ (sub_nil) (sub_rfl rfl) (fun _ h => by dsimp only; exact subC_st h))
     ·exact hone46
    ·refine x_e 7 rfl rfl (Le.refl _) rfl rfl rfl (e_buildSlice1 rfl un23 ti9 rfl rfl rfl (by rfl) rfl) ?_; rintro _ _ _ ⟨b40, rfl, rfl, rfl⟩; refine ⟨Le.refl _, .inr SubC.sub, ?_⟩; refine re 5 (by kernel_rfl) rfl (Le.refl _) rfl (e_appendSl (f := svC) (l := []) (ls := (nth L d ne0).nd.names.take i) rfl un23 ti9 rfl rfl rfl rfl (cutG hok.nv (by omega)) rfl (fun _ => rfl) svC_ones (by (try simp only [maxLen, List.length_append, List.length_take, List.length_drop, List.length_cons, List.length_nil]); omega) (by (try simp only [List.length_append, List.length_take, List.length_drop, List.length_cons, List.length_nil]); omega)) ?_; rintro v38 _ _ ⟨rfl, rfl⟩; refine ⟨Le.refl _, .inr SubC.sub, ?_⟩; refine re 8 (by kernel_rfl) rfl (Le.refl _) rfl (e_appendT (f := svC) (l := (nth L d ne0).nd.names.take i) (c := n) rfl un23 ti9 rfl rfl rfl rfl rfl rfl rfl (svC_ones _) (by (try simp only [maxLen, List.length_append, List.length_take, List.length_drop, List.length_cons, List.length_nil]); omega) (by (try simp only [List.length_append, List.length_take, List.length_drop, List.length_cons, List.length_nil]); omega)) ?_; rintro v41 _ _ ⟨rfl, rfl⟩; refine ⟨Le.refl _, .inr SubC.sub, ?_⟩
     refine re 13 (by kernel_rfl) rfl (Le.refl _) rfl (e_appendSl (f := svC) (l := (nth L d ne0).nd.names.take i ++ [n]) (ls := (nth L d ne0).nd.names.drop i) rfl un23 ti9 rfl rfl rfl rfl (Sl.dropM hok.nv rfl (by omega)) rfl (fun _ => rfl) svC_ones (by (try simp only [maxLen, List.length_append, List.length_take, List.length_drop, List.length_cons, List.length_nil]); omega) (by (try simp only [List.length_append, List.length_take, List.length_drop, List.length_cons, List.length_nil]); omega)) ?_; rintro v46 _ _ ⟨rfl, rfl⟩; refine ⟨Le.refl _, .inr SubC.sub, ?_⟩; refine r_len v46 (fun hsh46 hone46 => ?_); refine r_run [14] (by kernel_rfl) rfl rfl rfl ?_; refine r_e0 15 (by kernel_rfl) (by kernel_rfl) rfl (Le.refl _) rfl rfl (e_storeS rfl ti23 rfl rfl (by assumption) rfl (by rfl)) ?_; rintro _ _ _ ⟨rfl, rfl⟩; refine ⟨Le.refl _, .inl rfl, ?_⟩; refine r_heap (H' := row b8 107 (neC ⟨⟨(nth L d ne0).nd.kind, (nth L d ne0).nd.mode, (nth L d ne0).nd.links, (nth L d ne0).nd.holds, (nth L d ne0).nd.parent, (nth L d ne0).nd.data, (nth L d ne0).nd.names.take i ++ [n] ++ (nth L d ne0).nd.names.drop i, (nth L d ne0).nd.inos⟩, v46, (nth L d ne0).iv⟩) :: _) ?_ (fun _ h => h); refine r_end (by kernel_rfl) (n_cut (v46) ?_ (sub_nil) (sub_rfl rfl) (fun _ h => by dsimp only; exact subC_st h))
     ·exact hone46
   ·refine x_e 7 rfl rfl (Le.refl _) rfl rfl rfl (e_buildSlice1 rfl un23 ti9 rfl rfl rfl (by rfl) rfl) ?_; rintro _ _ _ ⟨b40, rfl, rfl, rfl⟩; refine ⟨Le.refl _, .inr SubC.sub, ?_⟩; refine re 0 (by kernel_rfl) rfl (Le.refl _) rfl (e_buildSlice0 rfl un23 ti9) ?_; rintro v33 _ _ ⟨⟨b33, hb33⟩, rfl, rfl⟩; refine ⟨Le.refl _, .inr SubC.sub, ?_⟩; refine re 5 (by kernel_rfl) rfl (Le.refl _) rfl (e_appendSl (f := svC) (l := []) (ls := (nth L d ne0).nd.names.take i) rfl un23 ti9 rfl rfl rfl rfl (cutG hok.nv (by omega)) rfl (fun _ => rfl) svC_ones (by (try simp only [maxLen, List.length_append, List.length_take, List.length_drop, List.length_cons, List.length_nil]); omega) (by (try simp only [List.length_append, List.length_take, List.length_drop, List.length_cons, List.length_nil]); omega)) ?_; rintro v38 _ _ ⟨rfl, rfl⟩; refine ⟨Le.refl _, .inr SubC.sub, ?_⟩; refine re 8 (by kernel_rfl) rfl (Le.refl _) rfl (e_appendT (f := svC) (l := (nth L d ne0).nd.names.take i) (c := n) rfl un23 ti9 rfl rfl rfl rfl rfl rfl rfl (svC_ones _) (by (try simp only [maxLen, List.length_append, List.length_take, List.length_drop, List.length_cons, List.length_nil]); omega) (by (try simp only [List.length_append, List.length_take, List.length_drop, List.length_cons, List.length_nil]); omega)) ?_; rintro v41 _ _ ⟨rfl, rfl⟩; refine ⟨Le.refl _, .inr SubC.sub, ?_⟩
    refine re 13 (by kernel_rfl) rfl (Le.refl _) rfl (e_appendSl (f := svC) (l := (nth L d ne0).nd.names.take i ++ [n]) (ls := (nth L d ne0).nd.names.drop i) rfl un23 ti9 rfl rfl rfl rfl (Sl.dropM hok.nv rfl (by omega)) rfl (fun _ => rfl) svC_ones (by (try simp only [maxLen, List.length_append, List.length_take, List.length_drop, List.length_cons, List.length_nil]); omega) (by (try simp only [List.length_append, List.length_take, List.length_drop, List.length_cons, List.length_nil]); omega)) ?_; rintro v46 _ _ ⟨rfl, rfl⟩; refine ⟨Le.refl _, .inr SubC.sub, ?_⟩; refine r_len v46 (fun hsh46 hone46 => ?_); refine r_run [14] (by kernel_rfl) rfl rfl rfl ?_; refine r_e0 15 (by kernel_rfl) (by kernel_rfl) rfl (Le.refl _) rfl rfl (e_storeS rfl ti23 rfl rfl (by assumption) rfl (by rfl)) ?_; rintro _ _ _ ⟨rfl, rfl⟩; refine ⟨Le.refl _, .inl rfl, ?_⟩; refine r_heap (H' := row b8 107 (neC ⟨⟨(nth L d ne0).nd.kind, (nth L d ne0).nd.mode, (nth L d ne0).nd.links, (nth L d ne0).nd.holds, (nth L d ne0).nd.parent, (nth L d ne0).nd.data, (nth L d ne0).nd.names.take i ++ [n] ++ (nth L d ne0).nd.names.drop i, (nth L d ne0).nd.inos⟩, v46, (nth L d ne0).iv⟩) :: _) ?_ (fun _ h => h); refine r_end (by kernel_rfl) (n_cut (v46) ?_ (sub_nil) (sub_rfl rfl) (fun _ h => by dsimp only; exact subC_st h))
    ·exact hone46
  rintro nw hone46; refine t_cutE (ι := Value × Look) (fun zz => One zz.1 ∧ Le I zz.2 ∧ Sl zz.2 1 nw (((nth L d ne0).nd.names.take i ++ [n] ++ (nth L d ne0).nd.names.drop i).map svC)) (fun zz => []) [(9, _), (0, _), (1, _), (2, _), (3, _), (8, _), (30, _)] (fun zz => zz.2) (fun zz => (row b8 107 (neC ⟨⟨(nth L d ne0).nd.kind, (nth L d ne0).nd.mode, (nth L d ne0).nd.links, (nth L d ne0).nd.holds, (nth L d ne0).nd.parent, (nth L d ne0).nd.data, (nth L d ne0).nd.names.take i ++ [n] ++ (nth L d ne0).nd.names.drop i, (nth L d ne0).nd.inos.take i ++ [kk] ++ (nth L d ne0).nd.inos.drop i⟩, nw, zz.1⟩) :: tvec 3 1 inC zz.1 ((nth L d ne0).nd.inos.take i ++ [kk] ++ (nth L d ne0).nd.inos.drop i) :: row b 110 [v] :: tvec 107 8 neC v L :: F)) (sub_rfl rfl) ?_ ?_
  ·refine t_freezeT (f := svC) (l := (nth L d ne0).nd.names.take i ++ [n] ++ (nth L d ne0).nd.names.drop i) nw (fun _ => rfl) (fun J1 hJ1 hnv => ?_); refine t_draw [0, 5, 7, 8, 13, 15] [15] [row b8 107 (neC ⟨⟨(nth L d ne0).nd.kind, (nth L d ne0).nd.mode, (nth L d ne0).nd.links, (nth L d ne0).nd.holds, (nth L d ne0).nd.parent, (nth L d ne0).nd.data, (nth L d ne0).nd.names.take i ++ [n] ++ (nth L d ne0).nd.names.drop i, (nth L d ne0).nd.inos⟩, nw, (nth L d ne0).iv⟩)] mo (by kernel_rfl) (fun _ _ _ _ _ h => h) (r_run [1] (by kernel_rfl) rfl rfl rfl (rq0 2 (by kernel_rfl) rfl (Le.refl _) rfl (fun _ hI => (by exact q_ld rfl rfl (by rfl))) ?_)); refine r_run [3] (by kernel_rfl) rfl rfl rfl (rqf 4 (by kernel_rfl) rfl rfl (fun _ => (by exact q_slice_to rfl un105 ti3 rfl rfl (Sl.capOf hok.iv ((List.length_map _).trans hlen)) (by omega))) ?_); refine r_run [6, 9] (by kernel_rfl) rfl rfl rfl (rq0 10 (by kernel_rfl) rfl (Le.refl _) rfl (fun _ hI => (by exact q_ld rfl rfl (by rfl))) ?_); refine r_run [11] (by kernel_rfl) rfl rfl rfl (rqf 12 (by kernel_rfl) rfl rfl (fun _ => (by exact q_slice_from rfl un105 ti3 rfl rfl (Sl.lenOf hok.iv ((List.length_map _).trans hlen)) (by omega))) ?_); refine r_two 0 7 (by kernel_rfl) (by kernel_rfl) ?_ ?_
   ·refine x_e 0 rfl rfl (Le.refl _) rfl rfl rfl (e_buildSlice0 rfl un105 ti3) ?_; rintro v48 _ _ ⟨⟨b48, hb48⟩, rfl, rfl⟩; refine ⟨Le.refl _, .inr SubC.sub, ?_⟩; refine r_two 5 7 (by kernel_rfl) (by kernel_rfl) ?_ ?_
    ·refine x_e 5 rfl rfl (Le.refl _) rfl rfl rfl (e_appendSl (f := inC) (l := []) (ls := (nth L d ne0).nd.inos.take i) rfl un105 ti3 rfl rfl rfl rfl (cutG (hok.iv.mono hJ1) (by omega)) rfl (fun _ => rfl) inC_ones (by (try simp only [maxLen, List.length_append, List.length_take, List.length_drop, List.length_cons, List.length_nil]); omega) (by (try simp only [List.length_append, List.length_take, List.length_drop, List.length_cons, List.length_nil]); omega)) ?_; rintro v53 _ _ ⟨rfl, rfl⟩; refine ⟨Le.refl _, .inr SubC.sub, ?_⟩; refine re 7 (by kernel_rfl) rfl (Le.refl _) rfl (e_buildSlice1 rfl un105 ti3 rfl rfl rfl (by rfl) rfl) ?_; rintro _ _ _ ⟨b55, rfl, rfl, rfl⟩; refine ⟨Le.refl _, .inr SubC.sub, ?_⟩; refine re 8 (by kernel_rfl) rfl (Le.refl _) rfl (e_appendT (f := inC) (l := (nth L d ne0).nd.inos.take i) (c := kk) rfl un105 ti3 rfl rfl rfl rfl rfl rfl rfl (inC_ones _) (by (try simp only [maxLen, List.length_append, List.length_take, List.length_drop, List.length_cons, List.length_nil]); omega) (by (try simp only [List.length_append, List.length_take, List.length_drop, List.length_cons, List.length_nil]); omega)) ?_; rintro v56 _ _ ⟨rfl, rfl⟩; refine ⟨Le.refl _, .inr SubC.sub, ?_⟩
     refine re 13 (by kernel_rfl) rfl (Le.refl _) rfl (e_appendSl (f := inC) (l := (nth L d ne0).nd.inos.take i ++ [kk]) (ls := (nth L d ne0).nd.inos.drop i) rfl un105 ti3 rfl rfl rfl rfl (Sl.dropM (hok.iv.mono hJ1) hlen (by omega)) rfl (fun _ => rfl) inC_ones (by (try simp only [maxLen, List.length_append, List.length_take, List.length_drop, List.length_cons, List.length_nil]); omega) (by (try simp only [List.length_append, List.length_take, List.length_drop, List.length_cons, List.length_nil]); omega)) ?_; rintro v61 _ _ ⟨rfl, rfl⟩; refine ⟨Le.refl _, .inr SubC.sub, ?_⟩; refine r_len v61 (fun hsh61 hone61 => ?_); refine r_run [14] (by kernel_rfl) rfl rfl rfl ?_; refine r_e0 15 (by kernel_rfl) (by kernel_rfl) rfl (Le.refl _) rfl rfl (e_storeS rfl ti105 rfl rfl (by assumption) rfl (by rfl)) ?_; rintro _ _ _ ⟨rfl, rfl⟩; refine ⟨Le.refl _, .inl rfl, ?_⟩; refine r_heap (H' := row b8 107 (neC ⟨⟨(nth L d ne0).nd.kind, (nth L d ne0).nd.mode, (nth L d ne0).nd.links, (nth L d ne0).nd.holds, (nth L d ne0).nd.parent, (nth L d ne0).nd.data, (nth L d ne0).nd.names.take i ++ [n] ++ (nth L d ne0).nd.names.drop i, (nth L d ne0).nd.inos.take i ++ [kk] ++ (nth L d ne0).nd.inos.drop i⟩, nw, v61⟩) :: _) ?_ (fun _ h => h); refine r_end (by kernel_rfl) (n_cut ((v61, J1)) ?_ (sub_nil) (sub_rfl rfl) (fun _ h => by dsimp only; exact subC_st h))
     ·dsimp only; exact ⟨hone61, hJ1, hnv⟩
    ·refine x_e 7 rfl rfl (Le.refl _) rfl rfl rfl (e_buildSlice1 rfl un105 ti3 rfl rfl rfl (by rfl) rfl) ?_; rintro _ _ _ ⟨b55, rfl, rfl, rfl⟩; refine ⟨Le.refl _, .inr SubC.sub, ?_⟩; refine re 5 (by kernel_rfl) rfl (Le.refl _) rfl (e_appendSl (f := inC) (l := []) (ls := (nth L d ne0).nd.inos.take i) rfl un105 ti3 rfl rfl rfl rfl (cutG (hok.iv.mono hJ1) (by omega)) rfl (fun _ => rfl) inC_ones (by (try simp only [maxLen, List.length_append, List.length_take, List.length_drop, List.length_cons, List.length_nil]); omega) (by (try simp only [List.length_append, List.length_take, List.length_drop, List.length_cons, List.length_nil]); omega)) ?_; rintro v53 _ _ ⟨rfl, rfl⟩; refine ⟨Le.refl _, .inr SubC.sub, ?_⟩; refine re 8 (by kernel_rfl) rfl (Le.refl _) rfl (e_appendT (f := inC) (l := (nth L d ne0).nd.inos.take i) (c := kk) rfl un105 ti3 rfl rfl rfl rfl rfl rfl rfl (inC_ones _) (by (try simp only [maxLen, List.length_append, List.length_take, List.length_drop, List.length_cons, List.length_nil]); omega) (by (try simp only [List.length_append, List.length_take, List.length_drop, List.length_cons, List.length_nil]); omega)) ?_; rintro v56 _ _ ⟨rfl, rfl⟩; refine ⟨Le.refl _, .inr SubC.sub, ?_⟩
     refine re 13 (by kernel_rfl) rfl (Le.refl _) rfl (e_appendSl (f := inC) (l := (nth L d ne0).nd.inos.take i ++ [kk]) (ls := (nth L d ne0).nd.inos.drop i) rfl un105 ti3 rfl rfl rfl rfl (Sl.dropM (hok.iv.mono hJ1) hlen (by omega)) rfl (fun _ => rfl) inC_ones (by (try simp only [maxLen, List.length_append, List.length_take, List.length_drop, List.length_cons, List.length_nil]); omega) (by (try simp only [List.length_append, List.length_take, List.length_drop, List.length_cons, List.length_nil]); omega)) ?_; rintro v61 _ _ ⟨rfl, rfl⟩; refine ⟨Le.refl _, .inr SubC.sub, ?_⟩; refine r_len v61 (fun hsh61 hone61 => ?_); refine r_run [14] (by kernel_rfl) rfl rfl rfl ?_; refine r_e0 15 (by kernel_rfl) (by kernel_rfl) rfl (Le.refl _) rfl rfl (e_storeS rfl ti105 rfl rfl (by assumption) rfl (by rfl)) ?_; rintro _ _ _ ⟨rfl, rfl⟩; refine ⟨Le.refl _, .inl rfl, ?_⟩; refine r_heap (H' := row b8 107 (neC ⟨⟨(nth L d ne0).nd.kind, (nth L d ne0).nd.mode, (nth L d ne0).nd.links, (nth L d ne0).nd.holds, (nth L d ne0).nd.parent, (nth L d ne0).nd.data, (nth L d ne0).nd.names.take i ++ [n] ++ (nth L d ne0).nd.names.drop i, (nth L d ne0).nd.inos.take i ++ [kk] ++ (nth L d ne0).nd.inos.drop i⟩, nw, v61⟩) :: _) ?_ (fun _ h => h); refine r_end (by kernel_rfl) (n_cut ((v61, J1)) ?_ (sub_nil) (sub_rfl rfl) (fun _ h => by dsimp only; exact subC_st h))
     ·dsimp only; exact ⟨hone61, hJ1, hnv⟩
   ·refine x_e 7 rfl rfl (Le.refl _) rfl rfl rfl (e_buildSlice1 rfl un105 ti3 rfl rfl rfl (by rfl) rfl) ?_; rintro _ _ _ ⟨b55, rfl, rfl, rfl⟩; refine ⟨Le.refl _, .inr SubC.sub, ?_⟩; refine re 0 (by kernel_rfl) rfl (Le.refl _) rfl (e_buildSlice0 rfl un105 ti3) ?_; rintro v48 _ _ ⟨⟨b48, hb48⟩, rfl, rfl⟩; refine ⟨Le.refl _, .inr SubC.sub, ?_⟩; refine re 5 (by kernel_rfl) rfl (Le.refl _) rfl (e_appendSl (f := inC) (l := []) (ls := (nth L d ne0).nd.inos.take i) rfl un105 ti3 rfl rfl rfl rfl (cutG (hok.iv.mono hJ1) (by omega)) rfl (fun _ => rfl) inC_ones (by (try simp only [maxLen, List.length_append, List.length_take, List.length_drop, List.length_cons, List.length_nil]); omega) (by (try simp only [List.length_append, List.length_take, List.length_drop, List.length_cons, List.length_nil]); omega)) ?_; rintro v53 _ _ ⟨rfl, rfl⟩; refine ⟨Le.refl _, .inr SubC.sub, ?_⟩; refine re 8 (by kernel_rfl) rfl (Le.refl _) rfl (e_appendT (f := inC) (l := (nth L d ne0).nd.inos.take i) (c := kk) rfl un105 ti3 rfl rfl rfl rfl rfl rfl rfl (inC_ones _) (by (try simp only [maxLen, List.length_append, List.length_take, List.length_drop, List.length_cons, List.length_nil]); omega) (by (try simp only [List.length_append, List.length_take, List.length_drop, List.length_cons, List.length_nil]); omega)) ?_; rintro v56 _ _ ⟨rfl, rfl⟩; refine ⟨Le.refl _, .inr SubC.sub, ?_⟩
    refine re 13 (by kernel_rfl) rfl (Le.refl _) rfl (e_appendSl (f := inC) (l := (nth L d ne0).nd.inos.take i ++ [kk]) (ls := (nth L d ne0).nd.inos.drop i) rfl un105 ti3 rfl rfl rfl rfl (Sl.dropM (hok.iv.mono hJ1) hlen (by omega)) rfl (fun _ => rfl) inC_ones (by (try simp only [maxLen, List.length_append, List.length_take, List.length_drop, List.length_cons, List.length_nil]); omega) (by (try simp only [List.length_append, List.length_take, List.length_drop, List.length_cons, List.length_nil]); omega)) ?_; rintro v61 _ _ ⟨rfl, rfl⟩; refine ⟨Le.refl _, .inr SubC.sub, ?_⟩; refine r_len v61 (fun hsh61 hone61 => ?_); refine r_run [14] (by kernel_rfl) rfl rfl rfl ?_; refine r_e0 15 (by kernel_rfl) (by kernel_rfl) rfl (Le.refl _) rfl rfl (e_storeS rfl ti105 rfl rfl (by assumption) rfl (by rfl)) ?_; rintro _ _ _ ⟨rfl, rfl⟩; refine ⟨Le.refl _, .inl rfl, ?_⟩; refine r_heap (H' := row b8 107 (neC ⟨⟨(nth L d ne0).nd.kind, (nth L d ne0).nd.mode, (nth L d ne0).nd.links, (nth L d ne0).nd.holds, (nth L d ne0).nd.parent, (nth L d ne0).nd.data, (nth L d ne0).nd.names.take i ++ [n] ++ (nth L d ne0).nd.names.drop i, (nth L d ne0).nd.inos.take i ++ [kk] ++ (nth L d ne0).nd.inos.drop i⟩, nw, v61⟩) :: _) ?_ (fun _ h => h); refine r_end (by kernel_rfl) (n_cut ((v61, J1)) ?_ (sub_nil) (sub_rfl rfl) (fun _ h => by dsimp only; exact subC_st h))
    ·dsimp only; exact ⟨hone61, hJ1, hnv⟩
  rintro ⟨mw, J1⟩ ⟨hone61, hJ1, hnv⟩; dsimp only at *; refine t_freezeT (f := inC) (l := (nth L d ne0).nd.inos.take i ++ [kk] ++ (nth L d ne0).nd.inos.drop i) mw (fun _ => rfl) (fun J2 hJ2 hiv => ?_)
  have hn2 : NeOk J2 ⟨⟨(nth L d ne0).nd.kind, (nth L d ne0).nd.mode, (nth L d ne0).nd.links, (nth L d ne0).nd.holds, (nth L d ne0).nd.parent, (nth L d ne0).nd.data, (nth L d ne0).nd.names.take i ++ [n] ++ (nth L d ne0).nd.names.drop i, (nth L d ne0).nd.inos.take i ++ [kk] ++ (nth L d ne0).nd.inos.drop i⟩, nw, mw⟩ := ⟨hnv.mono hJ2, hiv⟩
  refine t_draw [7] [] [row b8 107 (neC ⟨⟨(nth L d ne0).nd.kind, (nth L d ne0).nd.mode, (nth L d ne0).nd.links, (nth L d ne0).nd.holds, (nth L d ne0).nd.parent, (nth L d ne0).nd.data, (nth L d ne0).nd.names.take i ++ [n] ++ (nth L d ne0).nd.names.drop i, (nth L d ne0).nd.inos.take i ++ [kk] ++ (nth L d ne0).nd.inos.drop i⟩, nw, mw⟩), row b 110 [v]] mo (by kernel_rfl) (fun _ _ _ _ _ h => h) (r_run [0, 1, 2] (by kernel_rfl) rfl rfl rfl (rq1 3 (by kernel_rfl) rfl rfl ((by exact q_ld rfl rfl (by rfl))) ?_)); refine r_run [4] (by kernel_rfl) rfl rfl rfl (rq1 5 (by kernel_rfl) rfl rfl ((by exact q_load_rowA rfl un107 ti107 rfl rfl rfl)) ?_); refine rq1 6 (by kernel_rfl) rfl rfl ((by exact q_indexAddrVN rfl un108 ti107 rfl rfl (by omega))) ?_; refine r_e0 7 (by kernel_rfl) (by kernel_rfl) rfl (Le.refl _) rfl rfl (e_storeSA (⟨⟨(nth L d ne0).nd.kind, (nth L d ne0).nd.mode, (nth L d ne0).nd.links, (nth L d ne0).nd.holds, (nth L d ne0).nd.parent, (nth L d ne0).nd.data, (nth L d ne0).nd.names.take i ++ [n] ++ (nth L d ne0).nd.names.drop i, (nth L d ne0).nd.inos.take i ++ [kk] ++ (nth L d ne0).nd.inos.drop i⟩, nw, mw⟩) rfl ti107 rfl rfl ((NeOk.ones hn2)) (fun _ => rfl) hd (by decide)) ?_; rintro _ _ _ ⟨rfl, rfl⟩; refine ⟨Le.refl _, .inr SubC.sub, ?_⟩; refine r_end (by kernel_rfl) (n_end0 rfl (fun w' hw => ?_))
  refine ⟨_, rfl, J2, _, ⟨hJ1.trans hJ2, rfl, L.set d ⟨⟨(nth L d ne0).nd.kind, (nth L d ne0).nd.mode, (nth L d ne0).nd.links, (nth L d ne0).nd.holds, (nth L d ne0).nd.parent, (nth L d ne0).nd.data, (nth L d ne0).nd.names.take i ++ [n] ++ (nth L d ne0).nd.names.drop i, (nth L d ne0).nd.inos.take i ++ [kk] ++ (nth L d ne0).nd.inos.drop i⟩, nw, mw⟩, rfl, fun x hx => ?_, ?_⟩, subC_st hw⟩
  ·rcases List.mem_or_eq_of_mem_set hx with hx | rfl
   ·exact (hall x hx).mono (hJ1.trans hJ2)
   ·exact hn2
  ·unfold putE; simp only; rw [nth_nd, hlow, List.map_set]
end Go.Tri

/-
 Files: one more.
-/
namespace Go.Tri
open Go.Proofs Go.RowKit
set_option maxRecDepth 10000
theorem wf_len {L : List Ne} (h : WfN (L.map Ne.nd)) : 2 ≤ L.length := by have := h.two; rwa [List.length_map] at this
theorem kinds {L : List Ne} {k : Nat} (h : k < L.length) (hk : 0 < (nth L k ne0).nd.kind) : k < (L.map Ne.nd).length ∧ 0 < (nth (L.map Ne.nd) k nd0).kind := by rw [List.length_map, nth_nd]; exact ⟨h, hk⟩
theorem all_snoc {I J : Look} {L : List Ne} (h : ∀ x ∈ L, NeOk I x) (hle : Le I J) : ∀ x ∈ L ++ [ne0], NeOk J x := fun x hx => by
 rcases List.mem_append.1 hx with hx | hx
 ·exact (h x hx).mono hle
 ·rw [List.mem_singleton.1 hx]; exact ne0_ok
theorem sized {L L1 : List Ne} {c : Prop} [Decidable c] (hwf : WfN (L.map Ne.nd)) (hfew : FewN L) (h : L1.map Ne.nd = if c then L.map Ne.nd ++ [nd0] else L.map Ne.nd) : ∀ x ∈ L1, x.nd.inos.length = x.nd.names.length ∧ x.nd.names.length ≤ 1000000 := fun x hx => by
 have h1 : x.nd ∈ L1.map Ne.nd := List.mem_map.2 ⟨x, hx, rfl⟩
 have key : ∀ y ∈ L.map Ne.nd, y.inos.length = y.names.length ∧ y.names.length ≤ 1000000 := fun y hy => by
  refine ⟨hwf.len y hy, ?_⟩; obtain ⟨z, hz, rfl⟩ := List.mem_map.1 hy; exact hfew z hz
 rw [h] at h1
 split at h1
 ·rcases List.mem_append.1 h1 with h2 | h2
  ·exact key _ h2
  ·rw [List.mem_singleton.1 h2]; exact ⟨rfl, Nat.zero_le _⟩
 ·exact key _ h1
theorem set_sized {L1 : List Ne} {i j : Nat} {e : Ne} (h : ∀ x ∈ L1, x.nd.inos.length = x.nd.names.length ∧ x.nd.names.length ≤ 1000000) (he : e.nd.inos.length = e.nd.names.length ∧ e.nd.names.length ≤ 1000000) (hj : j < L1.length) : (nth (L1.set i e) j ne0).nd.inos.length = (nth (L1.set i e) j ne0).nd.names.length ∧ (nth (L1.set i e) j ne0).nd.names.length ≤ 1000000 := by
 rcases List.mem_or_eq_of_mem_set (nth_mem (d := ne0) (show j < (L1.set i e).length by rwa [List.length_set])) with h9 | h9
 ·exact h _ h9
 ·rw [h9]; exact he
theorem all_set {I J : Look} {L : List Ne} {i : Nat} {e : Ne} (h : ∀ x ∈ L, NeOk I x) (hle : Le I J) (he : NeOk J e) : ∀ x ∈ L.set i e, NeOk J x := fun x hx => by
 rcases List.mem_or_eq_of_mem_set hx with hx | rfl
 ·exact (h x hx).mono hle
 ·exact he
def neL0 : List Ne := [ne0, ⟨⟨2, 493, 1, 0, 1, [], [], []⟩, nilV, nilV⟩]
theorem neL0_ok {I : Look} : ∀ x ∈ neL0, NeOk I x := fun x hx => by
 simp only [neL0, List.mem_cons, List.not_mem_nil, or_false] at hx; rcases hx with rfl | rfl
 ·exact ne0_ok
 ·exact ⟨sl_nilF, sl_nilF⟩
/-- a tree as it stands -/
structure FsI (I : Look) (b : Nat) (v : Value) (L : List Ne) : Prop where
 row : ∀ k u, [v][k]? = some u → CellI I b k u
 sl : Sl I 8 v (L.map neC)
 ok : ∀ x ∈ L, NeOk I x
 len : L.length ≤ 1000000
theorem FsI.w {I : Look} {b : Nat} {v : Value} {L : List Ne} (k : FsI I b v L) {w : World} (h : Le I (look w)) : FsW w b v L := ⟨fun j u hj => (k.row j u hj).mono h, k.sl.mono h, fun x hx => (k.ok x hx).mono h, k.len⟩
theorem FsI.mono {I J : Look} {b : Nat} {v : Value} {L : List Ne} (k : FsI I b v L) (h : Le I J) : FsI J b v L := ⟨fun j u hj => (k.row j u hj).mono h, k.sl.mono h, fun x hx => (k.ok x hx).mono h, k.len⟩
theorem fput_callsI (b : Nat) (v : Value) (L : List Ne) (d : Int) (hd0 : 0 ≤ d) (n : List UInt8) (kk : Int) (hd : d.toNat < L.length) (hL : L.length ≤ 1000000) (hlen : (nth L d.toNat ne0).nd.inos.length = (nth L d.toNat ne0).nd.names.length) (hnl : (nth L d.toNat ne0).nd.names.length ≤ 1000000) (I : Look) (hall : ∀ x ∈ L, NeOk I x) (F : List HA) (w0 w : World) (hw0 : St w0 I (fsH b v L F) w) : Calls Tryz.prog 50 [.pointer (some ⟨b, 0, none⟩), .int .i64 d, str n, .int .i64 kk].toArray w (fun e w' => ∃ v0, e = .returned v0 ∧ ∃ I' H', (Le I I' ∧ v0 = .tuple #[] ∧ ∃ L', H' = fsH b v L' F ∧ (∀ x ∈ L', NeOk I' x) ∧ L'.map Ne.nd = putE (L.map Ne.nd) d.toNat n kk) ∧ St w I' H' w') := by
 have h := fput_calls b v L d.toNat n kk hd hL hlen hnl I hall F w0 w hw0
 rw [Int.toNat_of_nonneg hd0] at h; exact h
theorem fmake_calls (b : Nat) (v : Value) (L : List Ne) (hL : L.length ≤ 900000) (hwf : WfN (L.map Ne.nd)) (hfew : FewN L) (d : Int) (p : List UInt8) (hp : p.length ≤ 100000000) (kd md : Int) (I : Look) (hall : ∀ x ∈ L, NeOk I x) (F : List HA) (w0 w : World) (hw0 : St w0 I (fsH b v L F) w) : Calls Tryz.prog 35 [.pointer (some ⟨b, 0, none⟩), .int .i64 d, str p, .int .i64 kd, .int .i64 md].toArray w (fun e w' => ∃ v0, e = .returned v0 ∧ ∃ I' H', (Le I I' ∧ v0 = .tuple #[.int .i64 (makeN (L.map Ne.nd) d p kd md).1, .int .i64 (makeN (L.map Ne.nd) d p kd md).2.1] ∧ ∃ v' L', H' = fsH b v' L' F ∧ (∀ x ∈ L', NeOk I' x) ∧ L'.map Ne.nd = (makeN (L.map Ne.nd) d p kd md).2.2) ∧ St w I' H' w') := by
 have h2l := wf_len hwf
 have ha := in_map (ahead_in hwf (d := d) (p := p))
 have hL9 : L.length ≤ 1000000 := by omega
 have hlen := wf_at hwf (i := (aheadN (L.map Ne.nd) d p).1.toNat) (by omega)
 have hnl := hfew _ (nth_mem (d := ne0) (show (aheadN (L.map Ne.nd) d p).1.toNat < L.length by omega))
 refine enter Tryz.func35 rfl Tryz.ntmps35 rfl (hw0.self) (trun rfl (tr (l_run 3 rfl (lq rfl (qc rfl rfl rfl ((fun w hw => fahead_pure b v L w (fsW_of hw (fun x hx => (hall x hx)) hL9) hwf hfew d p hp))) (lrun rfl (t_seq (t_block (trun rfl (t_cond rfl (fun hc0 => ?_) (fun hc0 => ?_))))))))))
 ·simp at hc0
  have he : (aheadN (L.map Ne.nd) d p).2.2 ≠ 0 := by omega
  have hmk : (makeN (L.map Ne.nd) d p kd md) = (0, (aheadN (L.map Ne.nd) d p).2.2, (L.map Ne.nd)) := by rw [makeN_eq, if_pos he]
  refine trun rfl (tret (n_ret2 rfl rfl rfl (fun w' hw => ?_))); rw [hmk]; exact ⟨_, rfl, I, _, ⟨Le.refl _, rfl, v, L, rfl, hall, rfl⟩, subC_st hw⟩
 ·simp at hc0
  have he : (aheadN (L.map Ne.nd) d p).2.2 = 0 := by omega
  refine tq (s_run 3 rfl ?_)
  refine s_and2 2 2 31 34 33 _ _ rfl rfl rfl rfl rfl rfl (fun h34 => by
    simp at h34
    refine s_runG 1 rfl (sg rfl (qc rfl rfl rfl ((fun w hw => slash_pure p w (by omega)))) ?_); exact s_val rfl
   ) (wanted_n rfl) rfl rfl rfl ?_
  refine s_run 1 rfl (sdn (t_cond rfl (fun hc1 => ?_) (fun hc1 => ?_)))
  ·rw [Bool.and_eq_true, decide_eq_true_eq] at hc1
   have hmk : (makeN (L.map Ne.nd) d p kd md) = (0, 21, (L.map Ne.nd)) := by rw [makeN_eq, if_neg (by rw [he]; simp), if_pos hc1]
   refine trun rfl (tret (n_ret2 rfl rfl rfl (fun w' hw => ?_))); rw [hmk]; exact ⟨_, rfl, I, _, ⟨Le.refl _, rfl, v, L, rfl, hall, rfl⟩, subC_st hw⟩
  ·have hk1 : ¬ (kd = 1 ∧ slashN p = true) := fun h9 => by rw [decide_eq_true h9.1, h9.2] at hc1; cases hc1
   refine tr (l_run 3 rfl (lq rfl (qc rfl rfl rfl ((fun w hw => ffind_pure b v L w (fsW_of hw (fun x hx => (hall x hx)) hL9) (aheadN (L.map Ne.nd) d p).1 ha (aheadN (L.map Ne.nd) d p).2.1 hlen (by omega)))) ?_)); refine lrun rfl (t_cond rfl (fun hc2 => ?_) (fun hc2 => ?_))
   ·simp at hc2
    have hf0 : 0 < entI (nth L (aheadN (L.map Ne.nd) d p).1.toNat ne0).nd (aheadN (L.map Ne.nd) d p).2.1 := by omega
    have hmk : (makeN (L.map Ne.nd) d p kd md) = (0, 17, (L.map Ne.nd)) := by rw [makeN_eq, if_neg (by rw [he]; simp), if_neg hk1, nth_nd, if_pos hf0]
    refine trun rfl (tret (n_ret2 rfl rfl rfl (fun w' hw => ?_))); rw [hmk]; exact ⟨_, rfl, I, _, ⟨Le.refl _, rfl, v, L, rfl, hall, rfl⟩, subC_st hw⟩
   ·simp at hc2
    have hf0 : ¬ 0 < entI (nth L (aheadN (L.map Ne.nd) d p).1.toNat ne0).nd (aheadN (L.map Ne.nd) d p).2.1 := by omega
    refine tr (l_run 3 rfl (lq rfl ((by exact q_ld rfl rfl (by rfl))) ?_)); refine l_run 1 rfl ?_; refine lq rfl ((by exact q_indexAddrV rfl un108 ti107 rfl rfl (by omega))) ?_; refine l_run 1 rfl (lq rfl ((by exact q_ldr rfl rfl (rds_t (L := L) (i := (aheadN (L.map Ne.nd) d p).1.toNat) (by exact .tail _ (.head _)) (by omega) 2 _ rfl))) ?_); refine lrun rfl (t_cond rfl (fun hc3 => ?_) (fun hc3 => ?_))
    ·have hl0 : (nth L (aheadN (L.map Ne.nd) d p).1.toNat ne0).nd.links = 0 := of_decide_eq_true hc3
     have hmk : (makeN (L.map Ne.nd) d p kd md) = (0, 2, (L.map Ne.nd)) := by rw [makeN_eq, if_neg (by rw [he]; simp), if_neg hk1, nth_nd, if_neg hf0, if_pos hl0]
     refine trun rfl (tret (n_ret2 rfl rfl rfl (fun w' hw => ?_))); rw [hmk]; exact ⟨_, rfl, I, _, ⟨Le.refl _, rfl, v, L, rfl, hall, rfl⟩, subC_st hw⟩
    ·have hl0 : ¬ (nth L (aheadN (L.map Ne.nd) d p).1.toNat ne0).nd.links = 0 := of_decide_eq_false hc3
     refine tr (l_run 2 rfl (lq rfl (qc rfl rfl rfl ((fun w hw => fmay_pure b v L w (fsW_of hw (fun x hx => (hall x hx)) hL9) (aheadN (L.map Ne.nd) d p).1 2))) (lrun rfl (t_cond rfl (fun hc4 => ?_) (fun hc4 => ?_)))))
     ·have hm0 : mayN (L.map Ne.nd) (aheadN (L.map Ne.nd) d p).1 2 = false := by rw [Bool.not_eq_true'] at hc4; exact hc4
      have hmk : (makeN (L.map Ne.nd) d p kd md) = (0, 13, (L.map Ne.nd)) := by rw [makeN_eq, if_neg (by rw [he]; simp), if_neg hk1, nth_nd, if_neg hf0, if_neg hl0, if_pos hm0]
      refine trun rfl (tret (n_ret2 rfl rfl rfl (fun w' hw => ?_))); rw [hmk]; exact ⟨_, rfl, I, _, ⟨Le.refl _, rfl, v, L, rfl, hall, rfl⟩, subC_st hw⟩
     ·have hm0 : mayN (L.map Ne.nd) (aheadN (L.map Ne.nd) d p).1 2 = true := by rw [Bool.not_eq_false'] at hc4; exact hc4
      refine tr (l_run 1 rfl (lq rfl (qc rfl rfl rfl ((fun w hw => fcount_pure b v L w (fsW_of hw (fun x hx => (hall x hx)) hL9)))) (lrun rfl (t_cond rfl (fun hc5 => ?_) (fun hc5 => ?_)))))
      ·simp at hc5
       have hn0 : 100 ≤ countN (L.map Ne.nd) := by omega
       have hmk : (makeN (L.map Ne.nd) d p kd md) = (0, 23, (L.map Ne.nd)) := by rw [makeN_eq, if_neg (by rw [he]; simp), if_neg hk1, nth_nd, if_neg hf0, if_neg hl0, if_neg (by rw [hm0]; simp), if_pos hn0]
       refine trun rfl (tret (n_ret2 rfl rfl rfl (fun w' hw => ?_))); rw [hmk]; exact ⟨_, rfl, I, _, ⟨Le.refl _, rfl, v, L, rfl, hall, rfl⟩, subC_st hw⟩
      ·simp at hc5
       have hn0 : ¬ 100 ≤ countN (L.map Ne.nd) := by omega
       refine t_skip (n_block (n_then (trun rfl (t_seq (t_block (t_loopE (ι := Nat) (fun zz => 1 ≤ zz ∧ zz ≤ L.length ∧ ∀ j, 1 ≤ j → j < zz → j < (L.map Ne.nd).length ∧ 0 < (nth (L.map Ne.nd) j nd0).kind) (fun zz => L.length - zz) (fun zz => [(15, .int .i64 (zz : Int))]) [(0, _), (1, _), (2, _), (3, _), (4, _), (10, _), (11, _), (12, _), (13, _), (14, _), (24, _), (28, _), (35, _), (41, _), (51, _), (56, _)] (fun zz => I) (fun zz => (fsH b v L F)) 1 ?_ (sub_rfl rfl) (sub_rfl rfl) (fun _ h => subC_st h) ?_))))))
       ·exact ⟨Nat.le_refl _, by omega, fun j h1 h2 => by omega⟩
       rintro i ⟨hi1, hi, hgo⟩; dsimp only at *; refine t_seq (tq (s_run 4 rfl (sq rfl ((by exact q_ld rfl rfl (by rfl))) ?_))); refine sq rfl ((by exact q_lenV rfl un108 rfl)) ?_; refine s_run 2 rfl ?_
       refine s_and2 9 7 67 77 76 _ _ rfl rfl rfl rfl rfl rfl (fun h77 => by
         simp at h77
         have hil : i < L.length := by omega
         refine s_runG 3 rfl (sg rfl ((by exact q_ld rfl rfl (by rfl))) ?_); refine s_runG 1 rfl ?_; refine sg rfl ((by exact q_indexAddrVN rfl un108 ti107 rfl rfl (by omega))) ?_; refine s_runG 1 rfl (sg rfl ((by exact q_ldr rfl rfl (rds_t (L := L) (i := i) (by exact .tail _ (.head _)) (by omega) 0 _ rfl))) ?_); refine s_runG 1 rfl ?_; exact s_val rfl
        ) (wanted_n rfl) rfl rfl rfl ?_
       refine sdn (t_cond rfl (fun hc6 => ?_) (fun hc6 => ?_))
       ·rw [Bool.and_eq_true] at hc6
        have hil : i < L.length := by have := of_decide_eq_true hc6.1; omega
        have hkp : 0 < (nth L i ne0).nd.kind := by have := of_decide_eq_true hc6.2; omega
        refine tskip (t_block (t_region (l_run 1 rfl (lq rfl (q_add64 rfl rfl rfl (by omega)) ?_)))); refine l_runA rfl (n_block (n_roundE (i + 1) ?_ ?_ (sub_rfl rfl) (sub_rfl rfl) (fun _ h => by dsimp only; exact subC_st h)))
        ·refine ⟨by omega, by omega, fun j h1 h2 => ?_⟩; rcases Nat.lt_succ_iff_lt_or_eq.1 h2 with h | rfl
         ·exact hgo j h1 h
         ·exact kinds hil hkp
        ·show _ - (i + 1) < _ - i
         omega
       ·have hfr : freeN (L.map Ne.nd) (L.map Ne.nd).length 1 = i := free_at hi1 hgo (fun h9 => by
         rw [List.length_map, nth_nd] at h9
         have h8 := hc6
         rw [decide_eq_true (show (i : Int) < (L.length : Int) by omega), Bool.true_and, decide_eq_false_iff_not] at h8
         omega) (by rw [List.length_map]; omega)
        refine t_exit (n_exit_then (n_exit_then (n_exit_block (n_then (t_cutE (ι := Value × List Ne × Look) (fun zz => Le I zz.2.2 ∧ (∀ x ∈ zz.2.1, NeOk zz.2.2 x) ∧ zz.2.1.map Ne.nd = (if i = (L.map Ne.nd).length then (L.map Ne.nd) ++ [nd0] else (L.map Ne.nd))) (fun zz => []) [(15, _), (0, _), (1, _), (2, _), (3, _), (4, _), (10, _), (11, _), (12, _), (13, _), (14, _), (24, _), (28, _), (35, _), (41, _), (51, _), (56, _), (77, _)] (fun zz => zz.2.2) (fun zz => (fsH b zz.1 zz.2.1 F)) (sub_rfl rfl) ?_ ?_)))))
        ·refine tr (l_run 4 rfl (lq rfl ((by exact q_ld rfl rfl (by rfl))) ?_)); refine lq rfl ((by exact q_lenV rfl un108 rfl)) ?_; refine lrun rfl (t_cond rfl (fun hc7 => ?_) (fun hc7 => ?_))
         ·simp at hc7
          have hiL : i = L.length := by omega
          refine t_freezeT (f := neC) (l := L) v (fun _ => rfl) (fun J0 hJ0 hvv => ?_); refine t_region (l_run 1 rfl (le rfl (e_buildSlice0 rfl un108 ti107) ?_)); rintro v88 _ _ ⟨⟨b88, hb88⟩, rfl, rfl⟩; refine l_run 3 rfl (lq rfl ((by exact q_ld rfl rfl (by rfl))) ?_); refine le rfl (e_appendSm (f := neC) (l := []) (ls := L) rfl un108 ti107 rfl rfl rfl rfl (hvv) rfl (fun _ => rfl) (fun x hx => (hall x hx).ones) (by (try simp only [maxLen, List.length_nil]); omega) (by (try simp only [List.length_nil]); omega)) ?_; rintro v93 _ _ ⟨rfl, rfl⟩; refine lq rfl (q_build (pl := [(_, _), (_, _), (_, _), (_, _), (_, _), (_, _), (_, _), (_, _)]) (cs := #[_, _, _, _, _, _, _, _]) rfl un107 ti107 ⟨rfl, ⟨_, _, ti3⟩, rfl, ⟨_, _, ti3⟩, rfl, ⟨_, _, ti3⟩, rfl, ⟨_, _, ti3⟩, rfl, ⟨_, _, ti3⟩, rfl, ⟨_, _, ti9⟩, rfl, ⟨_, _, ti23⟩, rfl, ⟨_, _, ti105⟩, trivial⟩ rfl rfl) (le rfl (e_buildSlice1 rfl un108 ti107 rfl rfl rfl (by rfl) rfl) ?_); rintro _ _ _ ⟨b95, rfl, rfl, rfl⟩; refine le rfl (e_appendT (f := neC) (l := L) (c := ne0) rfl un108 ti107 rfl rfl rfl rfl rfl rfl rfl (NeOk.ones (ne0_ok (I := I))) (by (try simp only [maxLen]); omega) (by omega)) ?_; rintro v96 _ _ ⟨rfl, rfl⟩; refine l_heap (H' := tvec 107 8 neC v96 (L ++ [ne0]) :: _) ?_ (fun _ h => h); refine l_len v96 (fun hsh96 hone96 => ?_); refine l_run 2 rfl ?_; refine l_e0 rfl rfl (e_storeS rfl ti108 rfl rfl (by assumption) rfl (by rfl)) ?_; rintro _ _ _ ⟨rfl, rfl⟩; refine l_heap (H' := row b 110 [v96] :: _) ?_ (fun _ h => h)
          refine l_nil (n_cut ((v96, L ++ [ne0], J0)) ?_ (sub_nil) (sub_rfl rfl) (fun _ h => by dsimp only; exact subC_st h))
          ·dsimp only; exact ⟨hJ0, all_snoc hall hJ0, by rw [if_pos (by rw [List.length_map]; exact hiL), List.map_append]; rfl⟩
         ·simp at hc7
          have hiL : ¬ i = L.length := by omega
          refine t_skip (n_cut ((v, L, I)) ?_ (sub_nil) (sub_rfl rfl) (fun _ h => by dsimp only; exact subC_st h))
          ·dsimp only; exact ⟨Le.refl _, hall, by rw [if_neg (by rw [List.length_map]; exact hiL)]⟩
        rintro ⟨v1, L1, J1⟩ ⟨hJ1, hall1, hmap1⟩; dsimp only at *; refine t_seq ?_
        have hl1 : L.length ≤ L1.length ∧ i < L1.length ∧ L1.length ≤ L.length + 1 := by
         have h9 := congrArg List.length hmap1
         rw [List.length_map] at h9
         split at h9
         ·rename_i h8; rw [List.length_map] at h8; rw [List.length_append, List.length_map, List.length_singleton] at h9; omega
         ·rename_i h8; rw [List.length_map] at h8 h9; omega
        have hsz1 := set_sized (i := i) (j := (aheadN (L.map Ne.nd) d p).1.toNat) (e := (⟨⟨kd, andI md 511, 1, 0, (aheadN (L.map Ne.nd) d p).1, [], [], []⟩, nilV, nilV⟩ : Ne)) (sized hwf hfew hmap1) ⟨rfl, Nat.zero_le _⟩ (by omega)
        refine t_region (l_run 3 rfl (lq rfl ((by exact q_ld rfl rfl (by rfl))) ?_)); refine l_run 3 rfl (lq rfl (q_and rfl rfl rfl) (l_run 1 rfl (lq rfl (q_build (pl := [(_, _), (_, _), (_, _), (_, _), (_, _), (_, _), (_, _), (_, _)]) (cs := (neC (⟨⟨kd, andI md 511, 1, 0, (aheadN (L.map Ne.nd) d p).1, [], [], []⟩, nilV, nilV⟩ : Ne)).toArray) rfl un107 ti107 ⟨rfl, ⟨_, _, ti3⟩, rfl, ⟨_, _, ti3⟩, rfl, ⟨_, _, ti3⟩, rfl, ⟨_, _, ti3⟩, rfl, ⟨_, _, ti3⟩, rfl, ⟨_, _, ti9⟩, rfl, ⟨_, _, ti23⟩, rfl, ⟨_, _, ti105⟩, trivial⟩ rfl rfl) ?_))); refine lq rfl ((by exact q_indexAddrVN rfl un108 ti107 rfl rfl (by omega))) ?_; refine l_e0 rfl rfl (e_storeSA (⟨⟨kd, andI md 511, 1, 0, (aheadN (L.map Ne.nd) d p).1, [], [], []⟩, nilV, nilV⟩) rfl ti107 rfl rfl ((NeOk.ones (I := J1) ⟨sl_nilF, sl_nilF⟩)) (fun _ => rfl) hl1.2.1 (by decide)) ?_; rintro _ _ _ ⟨rfl, rfl⟩; refine lnr1 (l_run 4 rfl (lec rfl rfl rfl rfl (fun w hw => fput_callsI b v1 (L1.set i ⟨⟨kd, andI md 511, 1, 0, (aheadN (L.map Ne.nd) d p).1, [], [], []⟩, nilV, nilV⟩) (aheadN (L.map Ne.nd) d p).1 ha.1 (aheadN (L.map Ne.nd) d p).2.1 (i : Int) (by rw [List.length_set]; omega) (by rw [List.length_set]; omega) hsz1.1 hsz1.2 J1 (all_set hall1 (Le.refl _) ⟨sl_nilF, sl_nilF⟩) F _ w (picks_st2 (row b 110 [v1]) (tvec 107 8 neC v1 (L1.set i ⟨⟨kd, andI md 511, 1, 0, (aheadN (L.map Ne.nd) d p).1, [], [], []⟩, nilV, nilV⟩)) hw)) ?_)); rintro _ J2 _ ⟨hJ2, rfl, L2, rfl, hall2, hmap2⟩
        refine lnr1 (lrun rfl (t_ret (n_ret2 rfl rfl rfl (fun w' hw => ?_))))
        have hmk : (makeN (L.map Ne.nd) d p kd md) = ((i : Int), 0, putE ((L1.set i ⟨⟨kd, andI md 511, 1, 0, (aheadN (L.map Ne.nd) d p).1, [], [], []⟩, nilV, nilV⟩).map Ne.nd) (aheadN (L.map Ne.nd) d p).1.toNat (aheadN (L.map Ne.nd) d p).2.1 i) := by
         rw [makeN_eq, if_neg (by rw [he]; simp), if_neg hk1, nth_nd, if_neg hf0, if_neg hl0, if_neg (by rw [hm0]; simp), if_neg hn0]; unfold mkE; simp only; rw [hfr, List.map_set, hmap1]
        rw [hmk]; exact ⟨_, rfl, J2, _, ⟨hJ1.trans hJ2, rfl, v1, L2, rfl, hall2, hmap2⟩, subC_st hw⟩
theorem fmkdir_calls (b : Nat) (v : Value) (L : List Ne) (hL : L.length ≤ 900000) (hwf : WfN (L.map Ne.nd)) (hfew : FewN L) (d : Int) (p : List UInt8) (hp : p.length ≤ 100000000) (md : Int) (I : Look) (hall : ∀ x ∈ L, NeOk I x) (F : List HA) (w0 w : World) (hw0 : St w0 I (fsH b v L F) w) : Calls Tryz.prog 18 [.pointer (some ⟨b, 0, none⟩), .int .i64 d, str p, .int .i64 md].toArray w (fun e w' => ∃ v0, e = .returned v0 ∧ ∃ I' H', (Le I I' ∧ v0 = .int .i64 (makeN (L.map Ne.nd) d p 2 md).2.1 ∧ ∃ v' L', H' = fsH b v' L' F ∧ (∀ x ∈ L', NeOk I' x) ∧ L'.map Ne.nd = (makeN (L.map Ne.nd) d p 2 md).2.2) ∧ St w I' H' w') := by
 refine enter Tryz.func18 rfl Tryz.ntmps18 rfl (hw0.self) (trun rfl (tr (l_run 4 rfl (lec rfl rfl rfl rfl (fun w hw => fmake_calls b v L hL hwf hfew d p hp 2 md I hall F _ w hw) ?_)))); rintro _ J9 _ ⟨hJ9, rfl, v9, L9, rfl, hall9, hmap9⟩; refine lrun rfl (trun rfl (t_ret (n_ret1 rfl rfl (fun w' hw => ?_)))); exact ⟨_, rfl, J9, _, ⟨hJ9, rfl, v9, L9, rfl, hall9, hmap9⟩, subC_st hw⟩
theorem fcreate_calls (b : Nat) (v : Value) (L : List Ne) (hL : L.length ≤ 900000) (hwf : WfN (L.map Ne.nd)) (hfew : FewN L) (d : Int) (p : List UInt8) (hp : p.length ≤ 100000000) (md : Int) (I : Look) (hall : ∀ x ∈ L, NeOk I x) (F : List HA) (w0 w : World) (hw0 : St w0 I (fsH b v L F) w) : Calls Tryz.prog 19 [.pointer (some ⟨b, 0, none⟩), .int .i64 d, str p, .int .i64 md].toArray w (fun e w' => ∃ v0, e = .returned v0 ∧ ∃ I' H', (Le I I' ∧ v0 = .tuple #[.int .i64 (makeN (L.map Ne.nd) d p 1 md).1, .int .i64 (makeN (L.map Ne.nd) d p 1 md).2.1] ∧ ∃ v' L', H' = fsH b v' L' F ∧ (∀ x ∈ L', NeOk I' x) ∧ L'.map Ne.nd = (makeN (L.map Ne.nd) d p 1 md).2.2) ∧ St w I' H' w') := by
 refine enter Tryz.func19 rfl Tryz.ntmps19 rfl (hw0.self) (trun rfl (tr (l_run 4 rfl (lec rfl rfl rfl rfl (fun w hw => fmake_calls b v L hL hwf hfew d p hp 1 md I hall F _ w hw) ?_)))); rintro _ J9 _ ⟨hJ9, rfl, v9, L9, rfl, hall9, hmap9⟩; refine lrun rfl (t_ret (n_ret2 rfl rfl rfl (fun w' hw => ?_))); exact ⟨_, rfl, J9, _, ⟨hJ9, rfl, v9, L9, rfl, hall9, hmap9⟩, subC_st hw⟩
theorem newf_calls (I : Look) (F : List HA) (w0 w : World) (hw0 : St w0 I F w) : Calls Tryz.prog 14 [].toArray w (fun e w' => ∃ v, e = .returned v ∧ ∃ I' H', (I = I' ∧ ∃ b v1, v = .pointer (some ⟨b, 0, none⟩) ∧ H' = fsH b v1 neL0 F) ∧ St w I' H' w') := by
 refine enter Tryz.func14 rfl Tryz.ntmps14 rfl (hw0.self) (trun rfl (tr (lq rfl (q_build (pl := [(_, _), (_, _), (_, _), (_, _), (_, _), (_, _), (_, _), (_, _)]) (cs := #[_, _, _, _, _, _, _, _]) rfl un107 ti107 ⟨rfl, ⟨_, _, ti3⟩, rfl, ⟨_, _, ti3⟩, rfl, ⟨_, _, ti3⟩, rfl, ⟨_, _, ti3⟩, rfl, ⟨_, _, ti3⟩, rfl, ⟨_, _, ti9⟩, rfl, ⟨_, _, ti23⟩, rfl, ⟨_, _, ti105⟩, trivial⟩ rfl rfl) (lq rfl (q_build (pl := [(_, _), (_, _), (_, _), (_, _), (_, _), (_, _), (_, _), (_, _)]) (cs := #[_, _, _, _, _, _, _, _]) rfl un107 ti107 ⟨rfl, ⟨_, _, ti3⟩, rfl, ⟨_, _, ti3⟩, rfl, ⟨_, _, ti3⟩, rfl, ⟨_, _, ti3⟩, rfl, ⟨_, _, ti3⟩, rfl, ⟨_, _, ti9⟩, rfl, ⟨_, _, ti23⟩, rfl, ⟨_, _, ti105⟩, trivial⟩ rfl rfl) (le rfl (e_buildSliceN (vs := [_, _]) (css := [[.int .i64 0, .int .i64 0, .int .i64 0, .int .i64 0, .int .i64 0, str [], .slice none 0 0, .slice none 0 0], [.int .i64 2, .int .i64 493, .int .i64 1, .int .i64 0, .int .i64 1, str [], .slice none 0 0, .slice none 0 0]]) rfl un108 ti107 rfl rfl rfl rfl (rfl) (by simp [pcC, chC])) ?_))))); rintro _ _ _ ⟨b3, rfl, rfl, rfl⟩; refine l_heap (H' := tvec 107 8 neC (.slice (some ⟨b3, 0, none⟩) 2 2) neL0 :: _) ?_ (fun _ h => st_rowVec h rfl (by decide)); refine lq rfl (q_build (pl := [(_, _)]) (cs := #[_]) rfl un110 ti110 ⟨rfl, ⟨_, _, ti108⟩, trivial⟩ rfl rfl) (le rfl (e_box rfl rfl rfl) ?_); rintro _ _ _ ⟨b5, rfl, rfl, rfl⟩; refine l_heap (H' := row b5 110 [.slice (some ⟨b3, 0, none⟩) 2 2] :: _) ?_ (fun _ h => h)
 refine lrun rfl (t_ret (n_ret1 rfl rfl (fun w' hw => ?_))); exact ⟨_, rfl, I, _, ⟨rfl, b5, .slice (some ⟨b3, 0, none⟩) 2 2, rfl, rfl⟩, subC_st hw⟩
end Go.Tri
