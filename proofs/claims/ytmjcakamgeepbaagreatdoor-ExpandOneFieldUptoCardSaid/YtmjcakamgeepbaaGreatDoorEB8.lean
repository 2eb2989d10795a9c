/-
 A builder of texts.
-/
import Derived.Test.YtmjcakamgeepbaaGreatDoorEB6
import Derived.Test.YtmjcakamgeepbaaGreatDoorTriZ
namespace Go.Tri
open Go.Proofs Go.RowKit
set_option maxRecDepth 10000
theorem copyCheck_calls (b : Nat) (p : Option Addr) (vb : Value) (I : Look) (F : List HA) (w0 w : World) (hp : p = none ∨ p = some ⟨b, 0, none⟩) (hw0 : St w0 I (row b 100 [.pointer p, vb] :: F) w) : Calls Tryz.prog 42 [.pointer (some ⟨b, 0, none⟩)].toArray w (fun e w' => ∃ v, e = .returned v ∧ ∃ I' H', (I = I' ∧ H' = row b 100 [.pointer (some ⟨b, 0, none⟩), vb] :: F) ∧ St w I' H' w') := by
 refine enter Tryz.func42 rfl Tryz.ntmps42 rfl (hw0.self) (tr (l_run 3 rfl (lq rfl (q_ld rfl rfl (by rfl)) ?_))); refine lq rfl (q_eql_pnil rfl (by kernel_rfl) rfl rfl) (ln (t_cond rfl (fun hc0 => ?_) (fun hc0 => ?_)))
 ·have hp0 : p = none := Option.isNone_iff_eq_none.1 hc0
  subst hp0; refine t_region (l_run 2 rfl (lq rfl (q_toUnsafe rfl un97 un143 ti100 rfl rfl rfl) (lq rfl (quiet_extern rfl rfl rfl Tryz.func58 (by kernel_rfl) rfl (by kernel_rfl) (show Extern.find _ = some Extern.AbiNoEscape.same by kernel_rfl) (fun w => Lib.run_noEscape w _)) ?_))); refine lq rfl (q_fromUnsafe rfl un143 un97 ti100 rfl (by kernel_rfl)) (l_run 2 rfl ?_); refine l_e0 rfl rfl (e_storeS rfl ti97 rfl rfl (by exact ⟨rfl, rfl⟩) rfl (by rfl)) ?_; rintro _ _ _ ⟨rfl, rfl⟩; refine l_nil (n_end0 rfl (fun w' hw => ?_)); exact ⟨_, rfl, I, _, ⟨rfl, rfl⟩, (show St w I (row b 100 [.pointer (some ⟨b, 0, none⟩), vb] :: F) w' from hw)⟩
 ·have hp0 : p = some ⟨b, 0, none⟩ := by rcases hp with rfl | h; cases hc0; exact h
  subst hp0; refine tr (l_run 3 rfl (lq rfl (q_ld rfl rfl (by rfl)) ?_)); refine l_run 1 rfl (lq rfl (q_neq_psame rfl un97 ti100 rfl rfl) (ln (t_cond rfl (fun hc1 => ?_) (fun hc1 => ?_))))
  ·simp at hc1
  ·simp at hc1
   refine t_skip (n_end0 rfl (fun w' hw => ?_)); exact ⟨_, rfl, I, _, ⟨rfl, rfl⟩, (show St w I (row b 100 [.pointer (some ⟨b, 0, none⟩), vb] :: F) w' from hw)⟩
theorem writeByte_calls (b : Nat) (p : Option Addr) (vb : Value) (l : List UInt8) (c : UInt8) (I : Look) (F : List HA) (w0 w : World) (hp : p = none ∨ p = some ⟨b, 0, none⟩) (hl : l.length ≤ 140737488355000) (hw0 : St w0 I (row b 100 [.pointer p, vb] :: tvec 5 1 byC vb l :: F) w) : Calls Tryz.prog 29 [.pointer (some ⟨b, 0, none⟩), u8 c].toArray w (fun e w' => ∃ v, e = .returned v ∧ ∃ I' H', (v = .nilIface ∧ I = I' ∧ ∃ vb', H' = row b 100 [.pointer (some ⟨b, 0, none⟩), vb'] :: tvec 5 1 byC vb' (l ++ [c]) :: F) ∧ St w I' H' w') := by
 refine enter Tryz.func29 rfl Tryz.ntmps29 rfl (hw0.self) (trun rfl (tr (l_run 1 rfl (lec rfl rfl rfl rfl (fun w hw => copyCheck_calls b p vb _ _ _ w hp (picks_st1 (row b 100 [.pointer p, vb]) hw)) ?_)))); rintro _ _ _ ⟨rfl, rfl⟩; refine lnr1 (l_run 4 rfl (lq rfl (q_ld rfl rfl (by rfl)) ?_)); refine l_run 1 rfl (le rfl (e_buildSlice1 rfl un98 ti5 rfl rfl rfl (by rfl) rfl) ?_); rintro _ _ _ ⟨b13, rfl, rfl, rfl⟩; refine le rfl (e_appendT (f := byC) (c := c) rfl un98 ti5 rfl rfl rfl rfl rfl rfl rfl (by exact byC_ones _) (by simp only [maxLen]; omega) (by omega)) ?_; rintro v14 _ _ ⟨rfl, rfl⟩; refine l_one v14 (fun hone => ?_); refine l_run 2 rfl ?_; refine l_e0 rfl rfl (e_storeS rfl ti98 rfl rfl (by assumption) rfl (by (simp only [List.set_cons_succ, List.set_cons_zero]; rfl))) ?_; rintro _ _ _ ⟨rfl, rfl⟩; refine lnr1 (lrun rfl (t_ret (n_ret1 rfl rfl (fun w' hw => ?_))))
 have hw2 : St w I (row b 100 [.pointer (some ⟨b, 0, none⟩), v14] :: tvec 5 1 byC v14 (l ++ [c]) :: row b13 5 [u8 c] :: F) w' := hw
 exact ⟨_, rfl, I, _, ⟨rfl, rfl, v14, rfl⟩, subC_st hw2⟩
theorem writeStringB_calls (b : Nat) (p : Option Addr) (vb : Value) (l s : List UInt8) (I : Look) (F : List HA) (w0 w : World) (hp : p = none ∨ p = some ⟨b, 0, none⟩) (hl : l.length + s.length ≤ 140737488355000) (hw0 : St w0 I (row b 100 [.pointer p, vb] :: tvec 5 1 byC vb l :: F) w) : Calls Tryz.prog 36 [.pointer (some ⟨b, 0, none⟩), str s].toArray w (fun e w' => ∃ v, e = .returned v ∧ ∃ I' H', (v = .tuple #[.int .i64 (s.length : Int), .nilIface] ∧ I = I' ∧ ∃ vb', H' = row b 100 [.pointer (some ⟨b, 0, none⟩), vb'] :: tvec 5 1 byC vb' (l ++ s) :: F ∧ (BufOk vb l → BufOk vb' (l ++ s))) ∧ St w I' H' w') := by
 refine enter Tryz.func36 rfl Tryz.ntmps36 rfl (hw0.self) (trun rfl (tr (l_run 1 rfl (lec rfl rfl rfl rfl (fun w hw => copyCheck_calls b p vb _ _ _ w hp (picks_st1 (row b 100 [.pointer p, vb]) hw)) ?_)))); rintro _ _ _ ⟨rfl, rfl⟩; refine lnr1 (l_run 4 rfl (lq rfl (q_ld rfl rfl (by rfl)) ?_)); refine l_run 1 rfl ?_; refine le rfl (e_appendStrN rfl un98 un9 ti5 rfl rfl rfl (by simp only [maxLen]; omega) (by omega)) ?_; rintro v14 _ _ ⟨rfl, rfl, hbo14⟩; refine l_one v14 (fun hone => ?_); refine l_run 2 rfl ?_; refine l_e0 rfl rfl (e_storeS rfl ti98 rfl rfl (by assumption) rfl (by (simp only [List.set_cons_succ, List.set_cons_zero]; rfl))) ?_; rintro _ _ _ ⟨rfl, rfl⟩; refine lnr1 (l_run 1 rfl (lq rfl (q_len_str rfl un9 rfl) (lrun rfl (t_ret (n_ret2 rfl rfl rfl (fun w' hw => ?_))))))
 have hw2 : St w I (row b 100 [.pointer (some ⟨b, 0, none⟩), v14] :: tvec 5 1 byC v14 (l ++ s) :: F) w' := hw
 exact ⟨_, rfl, I, _, ⟨rfl, rfl, v14, rfl, hbo14⟩, hw2⟩
theorem builderString_calls (b : Nat) (p : Value) (vb : Value) (l : List UInt8) (I : Look) (F : List HA) (w0 w : World) (hok : BufOk vb l) (hl : l.length ≤ 9223372036854775807) (hw0 : St w0 I (row b 100 [p, vb] :: tvec 5 1 byC vb l :: F) w) : Calls Tryz.prog 30 [.pointer (some ⟨b, 0, none⟩)].toArray w (fun e w' => ∃ v, e = .returned v ∧ ∃ I' H', (v = str l ∧ I = I' ∧ H' = F) ∧ St w I' H' w') := by
 refine enter Tryz.func30 rfl Tryz.ntmps30 rfl (hw0.self) (trun rfl (t_seq (t_draw [10] [] [row b 100 [p, vb]] mo (by kernel_rfl) (fun _ _ _ _ _ h => h) (r_run [0, 1, 2] (by kernel_rfl) rfl rfl rfl (rq1 3 (by kernel_rfl) rfl rfl (q_ld rfl rfl (by rfl)) ?_))))); refine rq1 4 (by kernel_rfl) rfl rfl (q_sliceData (ty := 0) rfl rfl hok) (r_run [5, 6, 7] (by kernel_rfl) rfl rfl rfl (rq1 8 (by kernel_rfl) rfl rfl (q_ld rfl rfl (by rfl)) ?_)); refine rq1 9 (by kernel_rfl) rfl rfl ((by exact q_lenV rfl un98 rfl)) ?_; refine re 10 (by kernel_rfl) rfl (Le.refl _) rfl (e_unsafeString rfl un124 (by kernel_rfl) rfl rfl rfl hok (by omega)) ?_; rintro _ _ _ ⟨rfl, rfl, rfl⟩; refine ⟨Le.refl _, .inr SubC.sub, ?_⟩; refine r_run [11] (by kernel_rfl) rfl rfl rfl (r_end (by kernel_rfl) (n_then (t_ret (n_ret1 rfl rfl (fun w' hw => ?_))))); exact ⟨_, rfl, I, _, ⟨rfl, rfl, rfl⟩, subC_st hw⟩
end Go.Tri

/-
 Parts, and what is static.
-/
namespace Go.Tri
open Go.Proofs Go.RowKit
set_option maxRecDepth 10000
theorem parts_calls (s : List UInt8) (kind : Int) (I : Look) (F : List HA) (w0 w : World) (hs : s.length ≤ 1000000000) (hG : EnvI I) (hw0 : St w0 I F w) : Calls Tryz.prog 21 [str s, .int .i64 kind].toArray w (fun e w' => ∃ v, e = .returned v ∧ ∃ I' H', (Le I I' ∧ F = H' ∧ ∃ vl, ∃ e1 : Nat, v = .tuple #[vl, .int .i64 (e1 : Int)] ∧ WRes (partsP s kind) I' vl e1) ∧ St w I' H' w') := by
 refine enter Tryz.func21 rfl Tryz.ntmps21 rfl (hw0.self) (trun rfl (t_seq (t_block (tr (l_run 1 rfl (lq rfl (q_len_str rfl un9 rfl) (lrun rfl (t_cond rfl (fun hc0 => ?_) (fun hc0 => ?_)))))))))
 ·simp at hc0
  have hpp : partsP s kind = .bad 50 := by rw [partsP, if_pos (by omega)]
  refine trun rfl (tret (n_ret2 rfl rfl rfl (fun w' hw => ?_))); exact ⟨_, rfl, I, _, ⟨Le.refl _, rfl, nilV, 50, rfl, (by rw [hpp]; exact ⟨rfl, by decide, rfl⟩)⟩, hw⟩
 ·simp at hc0
  have hs6 : ¬ 65536 < s.length := by omega
  refine tq (s_run 3 rfl ?_)
  refine s_or2 2 2 13 16 15 _ _ rfl rfl rfl rfl rfl rfl (fun h16 => by
    simp at h16
    refine s_runG 2 rfl ?_; exact s_val rfl
   ) (wanted_n rfl) rfl rfl rfl ?_
  refine s_run 1 rfl (sdn (t_cond rfl (fun hc1 => ?_) (fun hc1 => ?_)))
  ·have h1 : kind < 0 ∨ 2 < kind := by simpa using hc1
   have hpp : partsP s kind = .bad 73 := by rw [partsP, if_neg hs6, if_pos h1]
   refine trun rfl (tret (n_ret2 rfl rfl rfl (fun w' hw => ?_))); exact ⟨_, rfl, I, _, ⟨Le.refl _, rfl, nilV, 73, rfl, (by rw [hpp]; exact ⟨rfl, by decide, rfl⟩)⟩, hw⟩
  ·have h1 : ¬ (kind < 0 ∨ 2 < kind) := by
    have h := hc1
    rw [Bool.or_eq_false_iff, decide_eq_false_iff_not, decide_eq_false_iff_not] at h
    exact fun h2 => h2.elim h.1 h.2
   obtain ⟨kind, rfl⟩ : ∃ k : Nat, kind = (k : Int) := ⟨kind.toNat, by omega⟩
   have hk2 : kind ≤ 2 := by omega
   have hpp : partsP s (kind : Int) = wP 24 kind s := by rw [partsP, if_neg hs6, if_neg h1]; rfl
   refine t_skip (n_block (n_then (tr (l_run 2 rfl (lec rfl rfl rfl rfl (fun w hw => within_ok 24 s kind 0 _ _ _ w rfl (by omega) hk2 (by omega) hG hw) ?_))))); rintro _ J19 _ ⟨hJ19, rfl, vl, e1, rfl, hres⟩; refine lrun rfl (t_ret (n_ret2 rfl rfl rfl (fun w' hw => ?_))); exact ⟨_, rfl, J19, _, ⟨hJ19, rfl, vl, e1, rfl, (by rw [hpp]; exact hres)⟩, hw⟩
end Go.Tri
