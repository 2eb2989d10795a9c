/-
  The host: a command asked; pieces.
-/
import Derived.Test.YtbogmbdfjgnfaaaGreatDoorEC4
namespace Go.Tri
open Go.Proofs Go.RowKit
theorem rd_sv {w0 : World} {I : Look} {H : List HA} {v : Value} {l : List (List UInt8)} (h : Sl I 1 v (l.map svC)) {i : Nat} (hi : i < l.length) : Rd w0 I H (adr v).block ((adr v).off + i * 1) (str (nth l i [])) := h.rd (j := 0) (map_getD l svC [] hi) rfl
def mkC (p : HP) (e : Nat) : List Value := [.iface 33 (.pointer (some ⟨p.hb, 0, none⟩)), str [], .int .i64 (e : Int)]
/-- the maker and its host -/
@[reducible] def makH (mb : Nat) (e : Nat) (p : HP) (lv av : Value) (h : Hx) (F : List HA) : List HA := row mb 101 (mkC p e) :: hostH p lv av h F
def PxR (I : Look) (v : Value) (l : List Px) : Prop := Sl I 4 v (l.map pxC)
theorem pxC_ones (x : Px) : ∀ u ∈ pxC x, u.oneCell' = true := fun u hu => by
  simp only [pxC, List.mem_cons, List.not_mem_nil, or_false] at hu
  rcases hu with rfl | rfl | rfl | rfl <;> rfl
theorem rds_px {w0 : World} {I : Look} {H : List HA} {v : Value} {l : List Px} (h : Sl I 4 v (l.map pxC)) {i : Nat} (hi : i < l.length) : Rds w0 I H (adr v).block ((adr v).off + i * 4) (pxC (nth l i px0)) := h.rds (map_getD l pxC px0 hi)
set_option maxRecDepth 10000 in
theorem whole_calls (s : List UInt8) (q : Bool) (I : Look) (F : List HA) (w0 w : World) (hw0 : St w0 I F w) : Calls Tryz.prog 94 [str s, .bool q].toArray w (fun e w' => ∃ v, e = .returned v ∧ ∃ I' H', (Le I I' ∧ F = H' ∧ PxR I' v (wholeX s q)) ∧ St w I' H' w') := by
  refine enter Tryz.func94 rfl Tryz.ntmps94 rfl (hw0.self) ?_
  refine t_seq ?_
  refine t_region ?_
  refine l_q rfl rfl rfl (q_assign rfl rfl) ?_
  refine l_nil ?_
  refine n_then ?_
  refine t_seq ?_
  refine t_region ?_
  refine l_q rfl rfl rfl (q_move rfl rfl) ?_
  refine l_q rfl rfl rfl (q_move rfl rfl) ?_
  refine l_q rfl rfl rfl (q_build (pl := [(_, _), (_, _), (_, _)]) (cs := #[_, _, _]) rfl Tryz.underlying108 ti108 ⟨rfl, ⟨_, _, ti9⟩, rfl, ⟨_, _, ti4⟩, rfl, ⟨_, _, ti4⟩, trivial⟩ rfl rfl) ?_
  refine l_q rfl rfl rfl (q_build (pl := [(_, _), (_, _)]) (cs := #[_, _, _, _]) rfl Tryz.underlying110 ti110 ⟨rfl, ⟨_, _, ti108⟩, rfl, ⟨_, _, ti4⟩, trivial⟩ rfl rfl) ?_
  refine l_e rfl rfl rfl (e_buildSlice1 rfl Tryz.underlying60 ti110 rfl rfl rfl (by first | exact One.cells (by assumption) | rfl) rfl) ?_
  rintro _ _ _ ⟨b9, rfl, rfl, rfl⟩
  refine l_freezeRow b9 (fun J hJ hk => ?_)
  have hpx := sl_row (f := pxC) (sz := 4) (wholeX s q) hk rfl rfl (fun _ => rfl)
  refine l_q rfl rfl rfl (q_assign rfl rfl) ?_
  refine l_nil ?_
  refine n_then ?_
  refine t_ret ?_
  refine n_ret1 rfl rfl (fun w' hw => ?_)
  -- leaf 0
  exact ⟨_, rfl, J, F, ⟨hJ, rfl, hpx⟩, subC_st hw⟩
set_option maxRecDepth 10000 in
theorem many_pure (n : List UInt8) (w : World) : Pure Tryz.prog 115 [str n] w (.bool (decide (n = [64]) || decide (n = [42]))) := by
  refine enter Tryz.func115 rfl Tryz.ntmps115 rfl (St.start w (look w) (Le.refl _)) ?_
  refine t_seq ?_
  refine t_region ?_
  refine l_q rfl rfl rfl (q_assign rfl rfl) ?_
  refine l_nil ?_
  refine n_then ?_
  refine t_seq ?_
  refine t_qreg ?_
  refine s_q rfl rfl rfl (q_move rfl rfl) ?_
  refine s_q rfl rfl rfl (q_eql_str rfl rfl rfl) ?_
  refine s_q rfl rfl rfl (q_move rfl rfl) ?_
  refine s_or2 2 2 5 8 7 _ _ rfl rfl rfl rfl rfl rfl (fun h8 => by
      try simp at h8
      refine s_g rfl rfl rfl rfl rfl rfl (q_move rfl rfl) ?_
      refine s_g rfl rfl rfl rfl rfl rfl (q_eql_str rfl rfl rfl) ?_
      exact s_val rfl
    ) (wanted_n rfl) rfl rfl rfl ?_
  refine s_q rfl rfl rfl (q_assign rfl rfl) ?_
  refine s_done ?_
  refine n_then ?_
  refine t_ret ?_
  refine n_ret1 rfl rfl (fun w' hw => ?_)
  -- leaf 0
  exact ⟨rfl, hw.below⟩
end Go.Tri
