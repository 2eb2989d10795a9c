/-
  A text of a proof (SE).
-/
import Derived.Test.YtigihljkacoopaaSD
namespace Go.Tri
open Go.Proofs Go.RowKit
def EndPost (b : Nat) (vc : Value) (lg s : Bool) (us : List Value) (cur : List Ch) (I : Look) (F : List HA) : Value → Look → List HA → Prop := fun _ I' H' => Le I I' ∧ Sl I' 2 vc (cur.map chC) ∧
  ∃ vo', H' = row b 44 [vo', .slice none 0 0, .bool false, .bool s, .bool (lg || decide ((4096 : Int) < (cur.length : Int)))] :: tvec 33 1 oneC vo' (us ++ [vc]) :: tvec 49 2 chC (.slice none 0 0) [] :: F
def BytesPost (vl : Value) (ifs : List UInt8) (I : Look) (F : List HA) : Value → Look → List HA → Prop := fun v I' H' => Le I I' ∧ H' = F ∧
  ∃ b2 b3, v = .func (.func 19) #[] #[.pointer (some ⟨b2, 0, none⟩), .pointer (some ⟨b3, 0, none⟩)] ∧ CellI I' b2 0 vl ∧ CellI I' b3 0 (str ifs)
theorem ti26 : TI Try.prog 26 1 24 (.slice none 0 0) := ti_of (by kernel_rfl)
set_option maxRecDepth 10000 in
theorem end_calls (b : Nat) (vo vc : Value) (bg sf lg s : Bool) (us : List Value) (cur : List Ch) (I : Look) (F : List HA) (w0 w : World) (hub : us.length ≤ 1000000) (hw0 : St w0 I (row b 44 [vo, vc, .bool bg, .bool sf, .bool lg] :: tvec 33 1 oneC vo us :: tvec 49 2 chC vc cur :: F) w) : Calls Try.prog 15 [.pointer (some ⟨b, 0, none⟩), .bool s].toArray w (fun e w' => ∃ v, e = .returned v ∧ ∃ I' H', EndPost b vc lg s us cur I F v I' H' ∧ St w I' H' w') := by
  refine enter Try.func15 rfl Try.ntmps15 rfl (hw0.self) ?_
  refine t_seq ?_
  refine t_region ?_
  refine l_quietHead 13 ?_
  refine s_q rfl rfl rfl (q_move rfl rfl) ?_
  refine s_q rfl rfl rfl (q_move rfl rfl) ?_
  refine s_q rfl rfl rfl (q_nilCheck rfl rfl) ?_
  refine s_q rfl rfl rfl (q_fieldAddr rfl Try.underlying44 rfl rfl ti4 rfl rfl) ?_
  refine s_q rfl rfl rfl (q_load_row rfl Try.underlying4 rfl rfl (by rfl)) ?_
  refine s_q rfl rfl rfl (q_move rfl rfl) ?_
  refine s_short 6 5 9 16 15 false _ _ rfl rfl rfl rfl rfl rfl (fun h16 => by
      try simp at h16
      refine s_g rfl rfl rfl rfl rfl rfl (q_move rfl rfl) ?_
      refine s_g rfl rfl rfl rfl rfl rfl (q_nilCheck rfl rfl) ?_
      refine s_g rfl rfl rfl rfl rfl rfl (q_fieldAddr rfl Try.underlying44 rfl rfl ti33 rfl rfl) ?_
      refine s_g rfl rfl rfl rfl rfl rfl (q_load_row rfl Try.underlying33 rfl rfl (by rfl)) ?_
      refine s_g rfl rfl rfl rfl rfl rfl ((by first | exact q_lenV rfl Try.underlying33 rfl | exact q_len rfl Try.underlying33 rfl (Sl.len ‹_›))) ?_
      refine s_g rfl rfl rfl rfl rfl rfl (q_gtr rfl rfl rfl) ?_
      exact s_val rfl
    ) rfl rfl rfl (.inr ⟨rfl, rfl⟩) ?_
  refine s_list ?_
  refine l_q rfl rfl rfl (q_nilCheck rfl rfl) ?_
  refine l_q rfl rfl rfl (q_fieldAddr rfl Try.underlying44 rfl rfl ti4 rfl rfl) ?_
  refine l_e0 rfl rfl (e_store rfl ti4 rfl rfl (by first | exact ⟨rfl, rfl⟩ | assumption | exact hcur.one) rfl) ?_
  rintro _ _ _ ⟨rfl, rfl⟩
  refine l_heap (H' := row b 44 [vo, vc, .bool bg, .bool sf, .bool (lg || decide ((4096 : Int) < (cur.length : Int)))] :: tvec 33 1 oneC vo us :: tvec 49 2 chC vc cur :: F) ?_ (fun _ h => h)
  refine l_nil ?_
  refine n_then ?_
  refine t_seq ?_
  refine t_freezeT (f := chC) (l := cur) vc (fun _ => rfl) (fun J hJ hcur => ?_)
  refine t_draw [9, 10, 13] [13] [row b 44 [vo, vc, .bool bg, .bool sf, .bool (lg || decide ((4096 : Int) < (cur.length : Int)))]] mo (by kernel_rfl) (fun _ _ _ _ _ h => h) ?_
  refine r_q0 0 (by kernel_rfl) rfl (Le.refl _) rfl rfl rfl (fun _ hI => q_move rfl rfl) ?_
  refine r_q0 1 (by kernel_rfl) rfl (Le.refl _) rfl rfl rfl (fun _ hI => q_move rfl rfl) ?_
  refine r_q0 2 (by kernel_rfl) rfl (Le.refl _) rfl rfl rfl (fun _ hI => q_nilCheck rfl rfl) ?_
  refine r_q0 3 (by kernel_rfl) rfl (Le.refl _) rfl rfl rfl (fun _ hI => q_fieldAddr rfl Try.underlying44 rfl rfl ti26 rfl rfl) ?_
  refine r_q0 4 (by kernel_rfl) rfl (Le.refl _) rfl rfl rfl (fun _ hI => q_load_row rfl Try.underlying26 rfl rfl (by rfl)) ?_
  refine r_q1 5 (by kernel_rfl) rfl (Le.refl _) rfl rfl rfl (q_move rfl rfl) ?_
  refine r_q1 6 (by kernel_rfl) rfl (Le.refl _) rfl rfl rfl (q_nilCheck rfl rfl) ?_
  refine r_q1 7 (by kernel_rfl) rfl (Le.refl _) rfl rfl rfl (q_fieldAddr rfl Try.underlying44 rfl rfl ti33 rfl rfl) ?_
  refine r_q1 8 (by kernel_rfl) rfl (Le.refl _) rfl rfl rfl (q_load_row rfl Try.underlying33 rfl rfl (by rfl)) ?_
  refine r_e 9 (by kernel_rfl) (by kernel_rfl) rfl (Le.refl _) rfl rfl rfl (e_buildSlice1 rfl Try.underlying26 ti33 rfl rfl rfl (by first | exact One.cells (by assumption) | exact One.cells hcur.one | rfl) rfl) ?_
  rintro _ _ _ ⟨b28, rfl, rfl, rfl⟩
  refine ⟨Le.refl _, .inr SubC.sub, ?_⟩
  refine r_e 10 (by kernel_rfl) (by kernel_rfl) rfl (Le.refl _) rfl rfl rfl (e_appendT (f := oneC) (c := vc) rfl Try.underlying26 ti33 rfl rfl rfl rfl rfl rfl rfl (ones1 hcur.one) (by simp only [maxLen]; omega) (by omega)) ?_
  rintro v29 _ _ ⟨rfl, rfl⟩
  refine ⟨Le.refl _, .inr SubC.sub, ?_⟩
  refine r_one v29 (fun hone => ?_)
  refine r_q0 11 (by kernel_rfl) rfl (Le.refl _) rfl rfl rfl (fun _ hI => q_nilCheck rfl rfl) ?_
  refine r_q0 12 (by kernel_rfl) rfl (Le.refl _) rfl rfl rfl (fun _ hI => q_fieldAddr rfl Try.underlying44 rfl rfl ti26 rfl rfl) ?_
  refine r_e0 13 (by kernel_rfl) (by kernel_rfl) rfl (Le.refl _) rfl rfl (e_store rfl ti26 rfl rfl (by first | exact ⟨rfl, rfl⟩ | assumption | exact hcur.one) rfl) ?_
  rintro _ _ _ ⟨rfl, rfl⟩
  refine ⟨Le.refl _, .inl rfl, ?_⟩
  refine r_end (by kernel_rfl) ?_
  refine n_then ?_
  refine t_region ?_
  refine l_q rfl rfl rfl (q_move rfl rfl) ?_
  refine l_q rfl rfl rfl (q_move rfl rfl) ?_
  refine l_q rfl rfl rfl (q_move rfl rfl) ?_
  refine l_q rfl rfl rfl (q_move rfl rfl) ?_
  refine l_q rfl rfl rfl (q_nilCheck rfl rfl) ?_
  refine l_q rfl rfl rfl (q_fieldAddr rfl Try.underlying44 rfl rfl ti33 rfl rfl) ?_
  refine l_e0 rfl rfl (e_store rfl ti33 rfl rfl (by first | exact ⟨rfl, rfl⟩ | assumption | exact hcur.one) rfl) ?_
  rintro _ _ _ ⟨rfl, rfl⟩
  refine l_q rfl rfl rfl (q_nilCheck rfl rfl) ?_
  refine l_q rfl rfl rfl (q_fieldAddr rfl Try.underlying44 rfl rfl ti4 rfl rfl) ?_
  refine l_e0 rfl rfl (e_store rfl ti4 rfl rfl (by first | exact ⟨rfl, rfl⟩ | assumption | exact hcur.one) rfl) ?_
  rintro _ _ _ ⟨rfl, rfl⟩
  refine l_q rfl rfl rfl (q_nilCheck rfl rfl) ?_
  refine l_q rfl rfl rfl (q_fieldAddr rfl Try.underlying44 rfl rfl ti4 rfl rfl) ?_
  refine l_e0 rfl rfl (e_store rfl ti4 rfl rfl (by first | exact ⟨rfl, rfl⟩ | assumption | exact hcur.one) rfl) ?_
  rintro _ _ _ ⟨rfl, rfl⟩
  refine l_nil ?_
  refine n_end0 rfl (fun w' hw => ?_)
  -- leaf 0
  refine ⟨_, rfl, J, _, ⟨hJ, hcur, v29, rfl⟩, ?_⟩
  have hw2 : St w J (row b 44 [v29, .slice none 0 0, .bool false, .bool s, .bool (lg || decide ((4096 : Int) < (cur.length : Int)))] :: tvec 33 1 oneC v29 (us ++ [vc]) :: row b28 33 [vc] :: F) w' := hw
  exact subC_st (st_nilT 49 2 chC hw2)

set_option maxRecDepth 10000 in
theorem bytes_calls (vl : Value) (ifs : List UInt8) (I : Look) (F : List HA) (w0 w : World) (hvl : One vl) (hw0 : St w0 I F w) : Calls Try.prog 14 [vl, str ifs].toArray w (fun e w' => ∃ v, e = .returned v ∧ ∃ I' H', BytesPost vl ifs I F v I' H' ∧ St w I' H' w') := by
  refine enter Try.func14 rfl Try.ntmps14 rfl (hw0.self) ?_
  refine t_seq ?_
  refine t_region ?_
  refine l_e rfl rfl rfl (e_box rfl rfl (by first | exact One.cells (by assumption) | exact One.cells hvl | rfl)) ?_
  rintro _ _ _ ⟨b2, rfl, rfl, rfl⟩
  refine l_e rfl rfl rfl (e_box rfl rfl (by first | exact One.cells (by assumption) | exact One.cells hvl | rfl)) ?_
  rintro _ _ _ ⟨b3, rfl, rfl, rfl⟩
  refine l_q rfl rfl rfl (q_assign rfl rfl) ?_
  refine l_nil ?_
  refine n_then ?_
  refine t_seq ?_
  refine t_freezeRow b2 (fun J hJ h2 => ?_)
  refine t_freezeRow b3 (fun J3 hJ3 h3 => ?_)
  refine t_region ?_
  refine l_q rfl rfl rfl (q_makeFunc rfl rfl rfl) ?_
  refine l_q rfl rfl rfl (q_assign rfl rfl) ?_
  refine l_nil ?_
  refine n_then ?_
  refine t_ret ?_
  refine n_ret1 rfl rfl (fun w' hw => ?_)
  -- leaf 0
  exact ⟨_, rfl, J3, _, ⟨hJ.trans hJ3, rfl, b2, b3, rfl, (h2 0 _ rfl).mono hJ3, h3 0 _ rfl⟩, hw⟩
end Go.Tri
