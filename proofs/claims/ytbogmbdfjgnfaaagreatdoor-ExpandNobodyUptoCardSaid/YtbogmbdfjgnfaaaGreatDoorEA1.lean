/-
  A scanner: its small steps.
-/
import Derived.Test.YtbogmbdfjgnfaaaGreatDoorEA0
namespace Go.Tri
open Go.Proofs Go.RowKit
theorem run_ibs (s : List UInt8) (c : UInt8) (w : World) : (Extern.BytealgIndexByte.indexByte #[str s, u8 c]).run Tryz.prog w = .ok (.int .i64 (Lib.indexByte s c)) w := by
  unfold str u8
  rw [Lib.run_indexByteString]
  simp
/-- a scanner's cells -/
def scC (s : List UInt8) (i a e : Nat) : List Value := [str s, .int .i64 (i : Int), .int .i64 (a : Int), .int .i64 (e : Int)]
/-- what a block holds -/
def Rowed (w : World) (b : Nat) (cs : List Value) : Prop := ∀ k u, cs[k]? = some u → CellI (look w) b k u
theorem rowed_of {w0 w : World} {I : Look} {H : List HA} {b : Nat} {T : TypeId} {cs : List Value} (hw : St w0 I H w) [hm : InRow b T cs H] : Rowed w b cs := fun k u hk =>
  ⟨cs.toArray, T, (0, 0), hw.sat _ hm.mem, by simpa using hk⟩
/-- what a scan left behind -/
def SRel (i : Nat) (r : SR) (ok : Bool) (i' a' e' : Nat) : Prop := match r with
  | .ok k => ok = true ∧ i' = i + k ∧ a' = 0 ∧ e' = 0
  | .bad a e => ok = false ∧ a' = i + a ∧ e' = e
theorem SRel.t {i i' a' e' : Nat} {r : SR} {ok : Bool} (h : SRel i r ok i' a' e') (hok : ok = true) : ∃ k, r = .ok k ∧ i' = i + k ∧ a' = 0 ∧ e' = 0 := by
  cases r with
  | ok k => exact ⟨k, rfl, h.2⟩
  | bad a e => rw [h.1] at hok; cases hok
theorem SRel.f {i i' a' e' : Nat} {r : SR} {ok : Bool} (h : SRel i r ok i' a' e') (hok : ok = false) : ∃ a, r = .bad a e' ∧ a' = i + a := by
  cases r with
  | ok k => rw [h.1] at hok; cases hok
  | bad a e => exact ⟨a, by rw [h.2.2], h.2.1⟩
def ScanC (f : FuncId) (T : TypeId) (b : Nat) (s : List UInt8) (i : Nat) (args : List Value) (r : SR) (I : Look) (F : List HA) (w : World) : Prop :=
  Calls Tryz.prog f (.pointer (some ⟨b, 0, none⟩) :: args).toArray w (fun e w' => ∃ v, e = .returned v ∧ ∃ I' H', (I = I' ∧ ∃ ok i' a' e', v = .bool ok ∧ SRel i r ok i' a' e' ∧ i' ≤ s.length ∧ H' = row b T (scC s i' a' e') :: F) ∧ St w I' H' w')
def DollarOk (n : Nat) : Prop := ∀ (b : Nat) (s : List UInt8) (i d : Nat) (q : Bool) (I : Look) (F : List HA) (w0 w : World), 25 - d = n → d ≤ 30 → s.length ≤ 2305843009213693952 → i + 2 ≤ s.length → St w0 I (row b 242 (scC s i 0 0) :: F) w →
  ScanC 148 242 b s i [.int .i64 (d : Int), .bool q] ((lv n).2 q (s.drop i)) I F w
def DoubleOk (n : Nat) : Prop := ∀ (b : Nat) (s : List UInt8) (i d : Nat) (I : Look) (F : List HA) (w0 w : World), 25 - d = n → d ≤ 30 → s.length ≤ 2305843009213693952 → i < s.length → St w0 I (row b 242 (scC s i 0 0) :: F) w →
  ScanC 147 242 b s i [.int .i64 (d : Int)] ((lv n).1 (s.drop i)) I F w
set_option maxRecDepth 10000 in
theorem slIndexByte_pure (s : List UInt8) (c : UInt8) (w : World) : Pure Tryz.prog 84 [str s, u8 c] w (.int .i64 (Lib.indexByte s c)) := by
  refine enter Tryz.func84 rfl Tryz.ntmps84 rfl (St.start w (look w) (Le.refl _)) ?_
  refine t_seq ?_
  refine t_region ?_
  refine l_q rfl rfl rfl (q_assign rfl rfl) ?_
  refine l_nil ?_
  refine n_then ?_
  refine t_seq ?_
  refine t_region ?_
  refine l_q rfl rfl rfl (q_move rfl rfl) ?_
  refine l_q rfl rfl rfl (q_move rfl rfl) ?_
  refine l_q rfl rfl rfl (quiet_extern rfl rfl rfl Tryz.func106 (by kernel_rfl) rfl (by kernel_rfl) (show Extern.find _ = some Extern.BytealgIndexByte.indexByte by kernel_rfl) (fun w => run_ibs s c w)) ?_
  refine l_q rfl rfl rfl (q_assign rfl rfl) ?_
  refine l_nil ?_
  refine n_then ?_
  refine t_ret ?_
  refine n_ret1 rfl rfl (fun w' hw => ?_)
  -- leaf 0
  exact ⟨rfl, hw.below⟩
set_option maxRecDepth 10000 in
theorem indexByte_pure (s : List UInt8) (c : UInt8) (w : World) : Pure Tryz.prog 56 [str s, u8 c] w (.int .i64 (Lib.indexByte s c)) := by
  refine enter Tryz.func56 rfl Tryz.ntmps56 rfl (St.start w (look w) (Le.refl _)) ?_
  refine t_seq ?_
  refine t_region ?_
  refine l_q rfl rfl rfl (q_assign rfl rfl) ?_
  refine l_nil ?_
  refine n_then ?_
  refine t_seq ?_
  refine t_region ?_
  refine l_q rfl rfl rfl (q_move rfl rfl) ?_
  refine l_q rfl rfl rfl (q_move rfl rfl) ?_
  refine l_q rfl rfl rfl (quiet_call rfl rfl rfl Tryz.func84 (by kernel_rfl) rfl (fun w _ => slIndexByte_pure s c w)) ?_
  refine l_q rfl rfl rfl (q_assign rfl rfl) ?_
  refine l_nil ?_
  refine n_then ?_
  refine t_ret ?_
  refine n_ret1 rfl rfl (fun w' hw => ?_)
  -- leaf 0
  exact ⟨rfl, hw.below⟩
set_option maxRecDepth 10000 in
theorem slHasPrefix_pure (s t : List UInt8) (w : World) : Pure Tryz.prog 130 [str s, str t] w (.bool (stB s t)) := by
  refine enter Tryz.func130 rfl Tryz.ntmps130 rfl (St.start w (look w) (Le.refl _)) ?_
  refine t_seq ?_
  refine t_region ?_
  refine l_q rfl rfl rfl (q_assign rfl rfl) ?_
  refine l_nil ?_
  refine n_then ?_
  refine t_seq ?_
  refine t_qreg ?_
  refine s_q rfl rfl rfl (q_move rfl rfl) ?_
  refine s_q rfl rfl rfl (q_len_str rfl Tryz.underlying9 rfl) ?_
  refine s_q rfl rfl rfl (q_move rfl rfl) ?_
  refine s_q rfl rfl rfl (q_len_str rfl Tryz.underlying9 rfl) ?_
  refine s_q rfl rfl rfl (q_geq rfl rfl rfl) ?_
  refine s_q rfl rfl rfl (q_move rfl rfl) ?_
  refine s_and2 6 5 10 17 16 _ _ rfl rfl rfl rfl rfl rfl (fun h17 => by
      try simp at h17
      refine s_g rfl rfl rfl rfl rfl rfl (q_move rfl rfl) ?_
      refine s_g rfl rfl rfl rfl rfl rfl (q_move rfl rfl) ?_
      refine s_g rfl rfl rfl rfl rfl rfl (q_len_str rfl Tryz.underlying9 rfl) ?_
      refine s_g rfl rfl rfl rfl rfl rfl (q_slice_str_to rfl Tryz.underlying9 rfl rfl (by omega)) ?_
      refine s_g rfl rfl rfl rfl rfl rfl (q_move rfl rfl) ?_
      refine s_g rfl rfl rfl rfl rfl rfl (q_eql_str rfl rfl rfl) ?_
      exact s_val rfl
    ) (wanted_n rfl) rfl rfl rfl ?_
  refine s_q rfl rfl rfl (q_assign rfl rfl) ?_
  refine s_done ?_
  refine n_then ?_
  refine t_ret ?_
  refine n_ret1 rfl rfl (fun w' hw => ?_)
  -- leaf 0
  refine ⟨?_, hw.below⟩
  refine congrArg (fun b => Ending.returned (Value.bool b)) ?_
  unfold stB
  by_cases h : t.length ≤ s.length
  · rw [decide_eq_true (show ((t.length : Int)) ≤ (s.length : Int) by omega), Bool.true_and]; rfl
  · rw [decide_eq_false (show ¬ ((t.length : Int)) ≤ (s.length : Int) by omega), Bool.false_and]; exact (decide_eq_false (fun e => by have := congrArg List.length e; rw [List.length_take] at this; omega)).symm
set_option maxRecDepth 10000 in
theorem hasPrefix_pure (s t : List UInt8) (w : World) : Pure Tryz.prog 109 [str s, str t] w (.bool (stB s t)) := by
  refine enter Tryz.func109 rfl Tryz.ntmps109 rfl (St.start w (look w) (Le.refl _)) ?_
  refine t_seq ?_
  refine t_region ?_
  refine l_q rfl rfl rfl (q_assign rfl rfl) ?_
  refine l_nil ?_
  refine n_then ?_
  refine t_seq ?_
  refine t_region ?_
  refine l_q rfl rfl rfl (q_move rfl rfl) ?_
  refine l_q rfl rfl rfl (q_move rfl rfl) ?_
  refine l_q rfl rfl rfl (quiet_call rfl rfl rfl Tryz.func130 (by kernel_rfl) rfl ((fun w _ => slHasPrefix_pure s t w))) ?_
  refine l_q rfl rfl rfl (q_assign rfl rfl) ?_
  refine l_nil ?_
  refine n_then ?_
  refine t_ret ?_
  refine n_ret1 rfl rfl (fun w' hw => ?_)
  -- leaf 0
  exact ⟨rfl, hw.below⟩
set_option maxRecDepth 10000 in
theorem starts_pure (b : Nat) (s t : List UInt8) (i a e : Nat) (w : World) (hi : i ≤ s.length) (hb : Rowed w b (scC s i a e)) : Pure Tryz.prog 145 [.pointer (some ⟨b, 0, none⟩), str t] w (.bool (stB (s.drop i) t)) := by
  refine enter Tryz.func145 rfl Tryz.ntmps145 rfl (St.start w (look w) (Le.refl _)) ?_
  refine t_seq ?_
  refine t_region ?_
  refine l_q rfl rfl rfl (q_assign rfl rfl) ?_
  refine l_nil ?_
  refine n_then ?_
  refine t_seq ?_
  refine t_qdraw mo (by kernel_rfl) (fun _ _ _ _ _ h => h) ?_
  refine s_q rfl rfl rfl (q_move rfl rfl) ?_
  refine s_q rfl rfl rfl (q_nilCheck rfl rfl) ?_
  refine s_q rfl rfl rfl (q_fieldAddr rfl Tryz.underlying242 rfl rfl ti9 rfl rfl) ?_
  refine s_q rfl rfl rfl ((by first | exact q_load_row rfl Tryz.underlying9 rfl rfl (by rfl) | exact q_load rfl Tryz.underlying9 rfl rfl (rd_imm (hb 0 _ rfl)) | exact q_load rfl Tryz.underlying9 rfl rfl (rd_imm (hb 1 _ rfl)))) ?_
  refine s_q rfl rfl rfl (q_move rfl rfl) ?_
  refine s_q rfl rfl rfl (q_nilCheck rfl rfl) ?_
  refine s_q rfl rfl rfl (q_fieldAddr rfl Tryz.underlying242 rfl rfl ti3 rfl rfl) ?_
  refine s_q rfl rfl rfl ((by first | exact q_load_row rfl Tryz.underlying3 rfl rfl (by rfl) | exact q_load rfl Tryz.underlying3 rfl rfl (rd_imm (hb 0 _ rfl)) | exact q_load rfl Tryz.underlying3 rfl rfl (rd_imm (hb 1 _ rfl)))) ?_
  refine s_q rfl rfl rfl (q_slice_str_from rfl Tryz.underlying9 rfl rfl (by omega)) ?_
  refine s_q rfl rfl rfl (q_move rfl rfl) ?_
  refine s_q rfl rfl rfl (quiet_call rfl rfl rfl Tryz.func109 (by kernel_rfl) rfl ((fun w _ => hasPrefix_pure (s.drop i) t w))) ?_
  refine s_q rfl rfl rfl (q_assign rfl rfl) ?_
  refine s_done ?_
  refine n_then ?_
  refine t_ret ?_
  refine n_ret1 rfl rfl (fun w' hw => ?_)
  -- leaf 0
  exact ⟨rfl, hw.below⟩
set_option maxRecDepth 10000 in
theorem fail_calls (b : Nat) (s : List UInt8) (i a e : Nat) (I : Look) (F : List HA) (w0 w : World) (hw0 : St w0 I (row b 242 (scC s i 0 0) :: F) w) : Calls Tryz.prog 165 [.pointer (some ⟨b, 0, none⟩), .int .i64 (a : Int), .int .i64 (e : Int)].toArray w (fun e1 w' => ∃ v, e1 = .returned v ∧ ∃ I' H', (v = .bool false ∧ I = I' ∧ H' = row b 242 (scC s i a e) :: F) ∧ St w I' H' w') := by
  unfold scC at *
  refine enter Tryz.func165 rfl Tryz.ntmps165 rfl (hw0.self) ?_
  refine t_seq ?_
  refine t_region ?_
  refine l_q rfl rfl rfl (q_assign rfl rfl) ?_
  refine l_nil ?_
  refine n_then ?_
  refine t_seq ?_
  refine t_seq ?_
  refine t_region ?_
  refine l_q rfl rfl rfl (q_move rfl rfl) ?_
  refine l_q rfl rfl rfl (q_nilCheck rfl rfl) ?_
  refine l_q rfl rfl rfl (q_fieldAddr rfl Tryz.underlying242 rfl rfl ti240 rfl rfl) ?_
  refine l_q rfl rfl rfl (q_fieldAddr rfl Tryz.underlying240 rfl rfl ti30 rfl rfl) ?_
  refine l_q rfl rfl rfl (q_load_row rfl Tryz.underlying30 rfl rfl (by rfl)) ?_
  refine l_q rfl rfl rfl (q_eql rfl rfl rfl) ?_
  refine l_nil ?_
  refine n_then ?_
  refine t_cond rfl (fun hc0 => ?_) (fun hc0 => ?_)
  · skip
    try simp at hc0
    refine t_region ?_
    refine l_q rfl rfl rfl (q_move rfl rfl) ?_
    refine l_q rfl rfl rfl (q_move rfl rfl) ?_
    refine l_q rfl rfl rfl (q_move rfl rfl) ?_
    refine l_q rfl rfl rfl (q_build (pl := [(_, _), (_, _)]) (cs := ([.int .i64 (a : Int), .int .i64 (e : Int)]).toArray) rfl Tryz.underlying240 ti240 ⟨rfl, ⟨_, _, ti3⟩, rfl, ⟨_, _, ti30⟩, trivial⟩ rfl rfl) ?_
    refine l_q rfl rfl rfl (q_nilCheck rfl rfl) ?_
    refine l_q rfl rfl rfl (q_fieldAddr rfl Tryz.underlying242 rfl rfl ti240 rfl rfl) ?_
    refine l_e0 rfl rfl ((by first | exact e_store_all rfl ti240 rfl rfl rfl (by first | exact chC_ones _ | exact pcC_ones _ | simp [Value.oneCell', str, u8]) rfl | exact e_store_agg rfl ti240 rfl rfl rfl (by first | exact chC_ones _ | exact pcC_ones _ | simp [Value.oneCell', str, u8]) rfl)) ?_
    rintro _ _ _ ⟨rfl, rfl⟩
    refine l_nil ?_
    refine n_then ?_
    refine t_seq ?_
    refine t_region ?_
    refine l_q rfl rfl rfl (q_assign rfl rfl) ?_
    refine l_nil ?_
    refine n_then ?_
    refine t_ret ?_
    refine n_ret1 rfl rfl (fun w' hw => ?_)
    -- leaf 0
    exact ⟨_, rfl, I, _, ⟨rfl, rfl, rfl⟩, hw⟩
  · skip
    try simp at hc0
set_option maxRecDepth 10000 in
theorem skip_calls (b : Nat) (s : List UInt8) (i n a e : Nat) (I : Look) (F : List HA) (w0 w : World) (hi : i ≤ s.length) (hs : s.length ≤ 2305843009213693952) (hn : n ≤ 2305843009213693952) (hw0 : St w0 I (row b 242 (scC s i a e) :: F) w) : Calls Tryz.prog 166 [.pointer (some ⟨b, 0, none⟩), .int .i64 (n : Int)].toArray w (fun e1 w' => ∃ v, e1 = .returned v ∧ ∃ I' H', (v = .tuple #[] ∧ I = I' ∧ H' = row b 242 (scC s (min (i + n) s.length) a e) :: F) ∧ St w I' H' w') := by
  unfold scC at *
  refine enter Tryz.func166 rfl Tryz.ntmps166 rfl (hw0.self) ?_
  refine t_draw [15] [] [] mo (by kernel_rfl) (fun _ _ _ _ _ h => h) ?_
  refine r_q1 0 (by kernel_rfl) rfl (Le.refl _) rfl rfl rfl (q_move rfl rfl) ?_
  refine r_q1 1 (by kernel_rfl) rfl (Le.refl _) rfl rfl rfl (q_move rfl rfl) ?_
  refine r_q1 2 (by kernel_rfl) rfl (Le.refl _) rfl rfl rfl (q_nilCheck rfl rfl) ?_
  refine r_q1 3 (by kernel_rfl) rfl (Le.refl _) rfl rfl rfl (q_fieldAddr rfl Tryz.underlying242 rfl rfl ti3 rfl rfl) ?_
  refine r_q1 4 (by kernel_rfl) rfl (Le.refl _) rfl rfl rfl (q_load_row rfl Tryz.underlying3 rfl rfl (by rfl)) ?_
  refine r_q1 5 (by kernel_rfl) rfl (Le.refl _) rfl rfl rfl (q_move rfl rfl) ?_
  refine r_q1 6 (by kernel_rfl) rfl (Le.refl _) rfl rfl rfl (q_add64 rfl rfl rfl (by omega)) ?_
  refine r_q1 7 (by kernel_rfl) rfl (Le.refl _) rfl rfl rfl (q_move rfl rfl) ?_
  refine r_q1 8 (by kernel_rfl) rfl (Le.refl _) rfl rfl rfl (q_nilCheck rfl rfl) ?_
  refine r_q1 9 (by kernel_rfl) rfl (Le.refl _) rfl rfl rfl (q_fieldAddr rfl Tryz.underlying242 rfl rfl ti9 rfl rfl) ?_
  refine r_q1 10 (by kernel_rfl) rfl (Le.refl _) rfl rfl rfl (q_load_row rfl Tryz.underlying9 rfl rfl (by rfl)) ?_
  refine r_q1 11 (by kernel_rfl) rfl (Le.refl _) rfl rfl rfl (q_len_str rfl Tryz.underlying9 rfl) ?_
  refine r_q1 12 (by kernel_rfl) rfl (Le.refl _) rfl rfl rfl (q_min rfl rfl rfl) ?_
  refine r_q1 13 (by kernel_rfl) rfl (Le.refl _) rfl rfl rfl (q_nilCheck rfl rfl) ?_
  refine r_q1 14 (by kernel_rfl) rfl (Le.refl _) rfl rfl rfl (q_fieldAddr rfl Tryz.underlying242 rfl rfl ti3 rfl rfl) ?_
  refine r_e0 15 (by kernel_rfl) (by kernel_rfl) rfl (Le.refl _) rfl rfl (e_storeS rfl ti3 rfl rfl (by first | exact ⟨rfl, rfl⟩ | assumption) rfl (by first | (simp only [List.set_cons_succ, List.set_cons_zero]; rfl) | rfl)) ?_
  rintro _ _ _ ⟨rfl, rfl⟩
  refine ⟨Le.refl _, .inr SubC.sub, ?_⟩
  refine r_end (by kernel_rfl) ?_
  refine n_end0 rfl (fun w' hw => ?_)
  -- leaf 0
  have e9 : min ((i : Int) + (n : Int)) (s.length : Int) = ((min (i + n) s.length : Nat) : Int) := by omega
  rw [e9] at hw
  exact ⟨_, rfl, I, _, ⟨rfl, rfl, rfl⟩, hw⟩
end Go.Tri
