/-
  Numbers.
-/
import Derived.Test.YtigfpkcaakkgaaaDoorOA3
import Derived.Lib.SmallJoins
import Derived.Shelf.Strings.SlTrimAscii
namespace Go.Tri
open Go.Proofs Go.RowKit
open Go.Sort
def numRes (s : List UInt8) : Value := .tuple #[.int .i64 ((numB s).getD 0), .bool (numB s).isSome]
theorem fmt_pure (n : Int) (w : World) (h : -9223372036854775808 ≤ n ∧ n ≤ 9223372036854775807) (hG : GW w) : Pure Tryd.prog 26 [.int .i64 n, .int .i64 10] w (str (Lib.itoa n)) :=
  (Tryd.strconv_FormatInt_10 n h.1 h.2 w hG.tab).mono fun e w' ⟨h1, k, os, h2⟩ => ⟨h1, h2 ▸ below_grown w k os⟩
def ParseR (s : List UInt8) (v : Value) : Prop := ∃ n e, v = .tuple #[.int .i64 n, e] ∧ ErrIs e (numB s).isNone ∧ ∀ m, numB s = some m → n = m
theorem parse_X (s : List UInt8) (w : World) (hs : s.length ≤ 281474976710656) (hG : GW w) : PureX Tryd.prog 28 [str s, .int .i64 10, .int .i64 64] w (ParseR s) := by
  have hsz := size_str s
  have hdt : (⟨s.toArray⟩ : ByteArray).data.toList = s := by simp
  rcases parse_cases s with ⟨v, h1, h2⟩ | ⟨h1, h2 | h2⟩
  · refine (Tryd.strconv_ParseInt_10_at64_ok ⟨s.toArray⟩ (by omega) v (by rw [hdt]; exact h1) w).mono fun e w' ⟨h3, h4⟩ => ⟨_, h3, ⟨v, _, rfl, .inl ⟨by rw [h2]; rfl, rfl⟩, fun m hm => by rw [h2] at hm; cases hm; rfl⟩, ?_⟩
    rcases h4 with rfl | ⟨t, rfl⟩
    · exact Below.refl _ _
    · exact Go.Joins.below_bytesWorld _ _ _ _ (Nat.le_refl _)
  · obtain ⟨ev, hv, hev⟩ := hG.syn
    exact (Tryd.strconv_ParseInt_10_at64_syntax ⟨s.toArray⟩ (by omega) (by rw [hdt]; exact h2) ev w hv hev).mono fun e w' ⟨N, h3, _, _, h4⟩ => ⟨_, h3, ⟨_, _, rfl, .inr ⟨by rw [h1]; rfl, _, _, rfl⟩, fun m hm => by rw [h1] at hm; cases hm⟩, h4⟩
  · obtain ⟨ev, hv, hev⟩ := hG.rng
    exact (Tryd.strconv_ParseInt_10_at64_range ⟨s.toArray⟩ (by omega) (by rw [hdt]; exact h2) ev w hv hev).mono fun e w' ⟨N, h3, _, _, h4⟩ => ⟨_, h3, ⟨_, _, rfl, .inr ⟨by rw [h1]; rfl, _, _, rfl⟩, fun m hm => by rw [h1] at hm; cases hm⟩, h4⟩
theorem trim_pure (s cs : List UInt8) (w : World) (hs : s.length ≤ 9223372036854775807) (hc : cs.length ≤ 1000) (ha : cs.all (fun b => decide (b.toNat < 128)) = true) : Pure Tryd.prog 27 [str s, str cs] w (str (Lib.trimS s cs)) := by
  have h1 := size_str s
  have h2 := size_str cs
  refine (Any.strings_Trim_laid Tryd.lays160 (by kernel_rfl) ⟨s.toArray⟩ ⟨cs.toArray⟩ w (by omega) (by omega) (ascii_of_all (l := cs) ha)).mono fun e w' ⟨h3, h4⟩ => ⟨h3, h4⟩
theorem numRes_none {s : List UInt8} (h : numB s = none) : numRes s = .tuple #[.int .i64 0, .bool false] := by unfold numRes; rw [h]; rfl
theorem numRes_some {s : List UInt8} {n : Int} (h : numB s = some n) : numRes s = .tuple #[.int .i64 n, .bool true] := by unfold numRes; rw [h]; rfl
set_option maxRecDepth 10000 in
theorem decimal_pure (n : Int) (w : World) (h : -9223372036854775808 ≤ n ∧ n ≤ 9223372036854775807) (hG : GW w) : Pure Tryd.prog 11 [.int .i64 n] w (str (Lib.itoa n)) := by
  refine enter Tryd.func11 rfl Tryd.ntmps11 rfl (St.start w (look w) (Le.refl _)) ?_
  refine t_seq ?_
  refine t_region ?_
  refine l_q rfl rfl rfl (q_assign rfl rfl) ?_
  refine l_nil ?_
  refine n_then ?_
  refine t_seq ?_
  refine t_region ?_
  refine l_q rfl rfl rfl (q_move rfl rfl) ?_
  refine l_q rfl rfl rfl (quiet_call rfl rfl rfl Tryd.func26 (by kernel_rfl) rfl ((fun w hw => fmt_pure n w h (hG.le hw.le)))) ?_
  refine l_q rfl rfl rfl (q_assign rfl rfl) ?_
  refine l_nil ?_
  refine n_then ?_
  refine t_ret ?_
  refine n_ret1 rfl rfl (fun w' hw => ?_)
  -- leaf 0
  exact ⟨rfl, hw.below⟩
set_option maxRecDepth 10000 in
theorem number_pure (s : List UInt8) (w : World) (hs : s.length ≤ 281474976710656) (hG : GW w) : Pure Tryd.prog 12 [str s] w (numRes s) := by
  refine enter Tryd.func12 rfl Tryd.ntmps12 rfl (St.start w (look w) (Le.refl _)) ?_
  refine t_seq ?_
  refine t_region ?_
  refine l_q rfl rfl rfl (q_assign rfl rfl) ?_
  refine l_q rfl rfl rfl (q_assign rfl rfl) ?_
  refine l_nil ?_
  refine n_then ?_
  refine t_seq ?_
  refine t_seq ?_
  refine t_region ?_
  refine l_q rfl rfl rfl (q_move rfl rfl) ?_
  refine l_q rfl rfl rfl (quiet_call rfl rfl rfl Tryd.func27 (by kernel_rfl) rfl ((fun w _ => trim_pure s numSet w (by omega) (by decide) (by decide)))) ?_
  refine l_q rfl rfl rfl (q_neq_str rfl rfl rfl) ?_
  refine l_nil ?_
  refine n_then ?_
  refine t_cond rfl (fun hc0 => ?_) (fun hc0 => ?_)
  · skip
    refine t_seq ?_
    refine t_region ?_
    refine l_q rfl rfl rfl (q_assign rfl rfl) ?_
    refine l_q rfl rfl rfl (q_assign rfl rfl) ?_
    refine l_nil ?_
    refine n_then ?_
    refine t_ret ?_
    refine n_ret_then ?_
    refine n_ret2 rfl rfl rfl (fun w' hw => ?_)
    -- leaf 0
    refine ⟨?_, hw.below⟩
    rw [numRes_none (numB_trim (of_decide_eq_true hc0))]
  · skip
    refine t_skip ?_
    refine n_then ?_
    refine t_seq ?_
    refine t_region ?_
    refine l_q rfl rfl rfl (q_move rfl rfl) ?_
    refine l_e rfl rfl rfl (eff_callX rfl rfl rfl Tryd.func28 (by kernel_rfl) rfl (fun w hw => parse_X s w hs (hG.le hw.le))) ?_
    rintro _ _ _ ⟨⟨pn, pe, rfl, hpe, hpm⟩, rfl, rfl⟩
    refine l_q rfl rfl rfl (q_move rfl rfl) ?_
    refine l_q rfl rfl rfl (q_extract rfl rfl rfl) ?_
    refine l_q rfl rfl rfl (q_extract rfl rfl rfl) ?_
    refine l_q rfl rfl rfl (q_assign rfl rfl) ?_
    refine l_q rfl rfl rfl (q_assign rfl rfl) ?_
    refine l_nil ?_
    refine n_then ?_
    refine t_seq ?_
    refine t_seq ?_
    refine t_region ?_
    refine l_q rfl rfl rfl (q_move rfl rfl) ?_
    refine l_q rfl rfl rfl (q_neq_inil rfl (by kernel_rfl) rfl (by assumption)) ?_
    refine l_nil ?_
    refine n_then ?_
    refine t_cond rfl (fun hc1 => ?_) (fun hc1 => ?_)
    · skip
      refine t_seq ?_
      refine t_region ?_
      refine l_q rfl rfl rfl (q_assign rfl rfl) ?_
      refine l_q rfl rfl rfl (q_assign rfl rfl) ?_
      refine l_nil ?_
      refine n_then ?_
      refine t_ret ?_
      refine n_ret_then ?_
      refine n_ret2 rfl rfl rfl (fun w' hw => ?_)
      -- leaf 1
      refine ⟨?_, hw.below⟩
      rw [numRes_none (Option.isNone_iff_eq_none.1 hc1)]
    · skip
      refine t_skip ?_
      refine n_then ?_
      refine t_seq ?_
      refine t_region ?_
      refine l_q rfl rfl rfl (q_move rfl rfl) ?_
      refine l_q rfl rfl rfl (q_assign rfl rfl) ?_
      refine l_q rfl rfl rfl (q_assign rfl rfl) ?_
      refine l_nil ?_
      refine n_then ?_
      refine t_ret ?_
      refine n_ret2 rfl rfl rfl (fun w' hw => ?_)
      -- leaf 2
      refine ⟨?_, hw.below⟩
      cases hn : numB s with
      | none => rw [hn] at hc1; cases hc1
      | some m => rw [numRes_some hn, hpm m hn]; rfl
end Go.Tri
