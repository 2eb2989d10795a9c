/-
  The parser: its small steps.
-/
import Derived.Test.YtomcodpgickmgaaGreatDoorQB2
import Derived.Test.YtomcodpgickmgaaGreatDoorPCode
namespace Go.Tri
open Go.Proofs Go.RowKit
def prC (s : List UInt8) (lv : Value) (n : Nat) : List Value := [str s, lv, .int .i64 (n : Int)]
def stopV (a e : Nat) : Value := .iface 48 (.agg #[.int .i64 (a : Int), .int .i64 (e : Int)])
def rdCell (r : Rdr) : List Value := [.int .i64 r.fd, str r.op, str r.word, str r.doc, .bool r.raw]
theorem rdCell_ones (r : Rdr) : ∀ u ∈ rdCell r, u.oneCell' = true := fun u hu => by
  simp only [rdCell, List.mem_cons, List.not_mem_nil, or_false] at hu
  rcases hu with rfl | rfl | rfl | rfl | rfl <;> rfl
/-- a node's cells -/
structure NC where
  kind : Nat
  not : Bool
  isin : Bool
  name : List UInt8
  wv : Value
  rv : Value
  kv : Value
def ncC (c : NC) : List Value := [.int .i64 (c.kind : Int), .bool c.not, .bool c.isin, str c.name, c.wv, c.rv, c.kv]
abbrev nilS' : Value := .slice none 0 0
def nc0 : NC := ⟨0, false, false, [], nilS', nilS', nilS'⟩
mutual
/-- a tree in memory -/
def NdAt (I : Look) : Nd → NC → Prop
  | .mk k nt isin nm ws rs ks, c => c.kind = k ∧ c.not = nt ∧ c.isin = isin ∧ c.name = nm ∧ Sl I 1 c.wv (ws.map stC) ∧ Sl I 5 c.rv (rs.map rdCell) ∧ ∃ cs : List NC, Sl I 7 c.kv (cs.map ncC) ∧ NdsAt I ks cs
def NdsAt (I : Look) : List Nd → List NC → Prop
  | [], [] => True
  | k :: ks, c :: cs => NdAt I k c ∧ NdsAt I ks cs
  | _, _ => False
end
mutual
theorem NdAt.mono {I J : Look} (hle : Le I J) : ∀ {n : Nd} {c : NC}, NdAt I n c → NdAt J n c
  | .mk k nt isin nm ws rs ks, c, h => by
    unfold NdAt at h ⊢
    obtain ⟨h1, h2, h3, h4, h5, h6, cs, h7, h8⟩ := h
    exact ⟨h1, h2, h3, h4, h5.mono hle, h6.mono hle, cs, h7.mono hle, NdsAt.mono hle h8⟩
theorem NdsAt.mono {I J : Look} (hle : Le I J) : ∀ {ks : List Nd} {cs : List NC}, NdsAt I ks cs → NdsAt J ks cs
  | [], [], _ => by unfold NdsAt; trivial
  | k :: ks, c :: cs, h => by
    unfold NdsAt at h ⊢
    exact ⟨NdAt.mono hle h.1, NdsAt.mono hle h.2⟩
  | [], _ :: _, h => by unfold NdsAt at h; exact h.elim
  | _ :: _, [], h => by unfold NdsAt at h; exact h.elim
end
theorem ncC_ones' {c : NC} (h1 : One c.wv) (h2 : One c.rv) (h3 : One c.kv) : ∀ u ∈ ncC c, u.oneCell' = true := fun u hu => by
  simp only [ncC, List.mem_cons, List.not_mem_nil, or_false] at hu
  rcases hu with rfl | rfl | rfl | rfl | rfl | rfl | rfl
  · rfl
  · rfl
  · rfl
  · rfl
  · exact h1.2
  · exact h2.2
  · exact h3.2
theorem NdAt.ones {I : Look} {n : Nd} {c : NC} (h : NdAt I n c) : ∀ u ∈ ncC c, u.oneCell' = true := by
  obtain ⟨k, nt, isin, nm, ws, rs, ks⟩ := n
  unfold NdAt at h
  obtain ⟨-, -, -, -, h5, h6, cs, h7, -⟩ := h
  exact ncC_ones' h5.one h6.one h7.one
theorem NdsAt.len {I : Look} : ∀ {ks : List Nd} {cs : List NC}, NdsAt I ks cs → cs.length = ks.length
  | [], [], _ => rfl
  | k :: ks, c :: cs, h => by
    unfold NdsAt at h
    rw [List.length_cons, List.length_cons, NdsAt.len h.2]
  | [], _ :: _, h => by unfold NdsAt at h; exact h.elim
  | _ :: _, [], h => by unfold NdsAt at h; exact h.elim
theorem NdsAt.snoc {I : Look} {n : Nd} {c : NC} (hn : NdAt I n c) : ∀ {ks : List Nd} {cs : List NC}, NdsAt I ks cs → NdsAt I (ks ++ [n]) (cs ++ [c])
  | [], [], _ => by
    show NdsAt I [n] [c]
    unfold NdsAt; exact ⟨hn, by unfold NdsAt; trivial⟩
  | k :: ks, d :: cs, h => by
    unfold NdsAt at h
    show NdsAt I (k :: (ks ++ [n])) (d :: (cs ++ [c]))
    unfold NdsAt
    exact ⟨h.1, NdsAt.snoc hn h.2⟩
  | [], _ :: _, h => by unfold NdsAt at h; exact h.elim
  | _ :: _, [], h => by unfold NdsAt at h; exact h.elim
theorem NdAt.kind {I : Look} {n : Nd} {c : NC} (h : NdAt I n c) : c.kind = n.kind := by
  obtain ⟨k, nt, isin, nm, ws, rs, ks⟩ := n
  unfold NdAt at h
  exact h.1
/-- a tree of a kind in memory, with these below it -/
theorem NdAt.of {I : Look} {k : Nat} {nt isin : Bool} {nm : List UInt8} {ws : List (List UInt8)} {rs : List Rdr} {ks : List Nd} {wv rv kv : Value} {cs : List NC} (h5 : Sl I 1 wv (ws.map stC)) (h6 : Sl I 5 rv (rs.map rdCell)) (h7 : Sl I 7 kv (cs.map ncC)) (h8 : NdsAt I ks cs) :
    NdAt I (.mk k nt isin nm ws rs ks) ⟨k, nt, isin, nm, wv, rv, kv⟩ := by
  unfold NdAt
  exact ⟨rfl, rfl, rfl, rfl, h5, h6, cs, h7, h8⟩
theorem sl_nilS {I : Look} {sz : Nat} : Sl I sz nilS' [] := sl_nil (fun _ h => by cases h)
theorem NdsAt.nil {I : Look} : NdsAt I [] [] := by unfold NdsAt; trivial
theorem NdsAt.one {I : Look} {n : Nd} {c : NC} (h : NdAt I n c) : NdsAt I [n] [c] := NdsAt.snoc h NdsAt.nil
theorem NdAt.kids {I : Look} {k : Nat} {nt : Bool} {kv : Value} {ks : List Nd} {cs : List NC} (h7 : Sl I 7 kv (cs.map ncC)) (h8 : NdsAt I ks cs) : NdAt I (.mk k nt false [] [] [] ks) ⟨k, nt, false, [], nilS', nilS', kv⟩ := NdAt.of sl_nilS sl_nilS h7 h8
theorem nil_one : One nilS' := ⟨rfl, rfl⟩
def PSt (s : List UInt8) (p : PS) (lv : Value) (I : Look) : Prop := OkP s p ∧ EnvI I ∧ Sl I 5 lv (p.line.map tokC)
theorem PSt.mono {s : List UInt8} {p : PS} {lv : Value} {I J : Look} (h : PSt s p lv I) (hle : Le I J) : PSt s p lv J := ⟨h.1, h.2.1.mono hle, h.2.2.mono hle⟩
def PostP {α : Type} (b : Nat) (s : List UInt8) (p : PS) (I : Look) (F : List HA) (V : Look → PS → α → Value → Prop) (δ : Nat) (R : ReR α) (v : Value) (I' : Look) (H' : List HA) : Prop :=
  Le I I' ∧ ∃ x q lv', R = .ok x q ∧ muP s q + δ ≤ muP s p ∧ PSt s q lv' I' ∧ V I' q x v ∧ H' = row b 53 (prC s lv' q.next) :: F
def PanP {α : Type} (I : Look) (F : List HA) (R : ReR α) (ch : List PanicEntry) (I' : Look) (H' : List HA) : Prop :=
  Le I I' ∧ F = H' ∧ ∃ a e, R = .bad a e ∧ ch = chn (stopV a e)
/-- a method of the parser that reads on, or panics -/
def ParC {α : Type} (f : FuncId) (b : Nat) (s : List UInt8) (args : List Value) (m : PS → ReR α) (V : Look → PS → α → Value → Prop) (δ : Nat) : Prop :=
  ∀ (p : PS) (lv : Value) (I : Look) (F : List HA) (w0 w : World) (R : ReR α), R = m p → PSt s p lv I → St w0 I (row b 53 (prC s lv p.next) :: F) w →
    CallsP Tryz.prog f (pAt b :: args).toArray w (PostP b s p I F V δ R) (PanP I F R)
def NowV (s : List UInt8) : Look → PS → Tok → Value → Prop := fun _ q x v => x = headT s q ∧ Filled s q ∧ v = .agg (tokC x).toArray
def StepV : Look → PS → Tok → Value → Prop := fun _ _ x v => v = .agg (tokC x).toArray
def AskV (s : List UInt8) (b : Tok → Bool) : Look → PS → Tok → Value → Prop := fun _ q t v => t = headT s q ∧ Filled s q ∧ v = .bool (b t)
def UnitV : Look → PS → Unit → Value → Prop := fun _ _ _ v => v = .tuple #[]
def LinesV (s : List UInt8) : Look → PS → Unit → Value → Prop := fun _ q _ v => v = .tuple #[] ∧ Filled s q ∧ (headT s q).kind ≠ 3
def TextV (s : List UInt8) : Look → PS → List UInt8 → Value → Prop := fun _ _ x v => v = str x ∧ x.length ≤ s.length
def RdrV : Look → PS → Rdr → Value → Prop := fun _ _ x v => v = .agg (rdCell x).toArray
def NdV : Look → PS → Nd → Value → Prop := fun I _ x v => ∃ c, v = .agg (ncC c).toArray ∧ NdAt I x c
theorem rds_tk {w0 : World} {I : Look} {H : List HA} {v : Value} {l : List Tok} {t : Tok} {r : List Tok} (h : Sl I 5 v (l.map tokC)) (hl : l = t :: r) : Rds w0 I H (adr v).block ((adr v).off + 0 * 5) (tokC t) := h.rds (by rw [hl]; rfl)
theorem rd_tk {w0 : World} {I : Look} {H : List HA} {v u : Value} {l : List Tok} {t : Tok} {r : List Tok} {j : Nat} (h : Sl I 5 v (l.map tokC)) (hl : l = t :: r) (hu : (tokC t)[j]? = some u) : Rd w0 I H (adr v).block ((adr v).off + 0 * 5 + j) u := h.rd (i := 0) (by rw [hl]; rfl) hu
theorem line_cases {p : PS} (h : ¬ p.line = []) : ∃ t r, p.line = t :: r := by
  cases hl : p.line with
  | nil => exact absurd hl h
  | cons t r => exact ⟨t, r, rfl⟩
set_option maxRecDepth 10000 in
theorem now_calls (b : Nat) (s : List UInt8) (hs : s.length ≤ 65536) : ParC 33 b s [] (nowP s) (NowV s) 0 := by
  intro p lv I F w0 w R hR hp hw0
  have hL := Le.refl I
  obtain ⟨M, hM⟩ : ∃ M, M = muP s p := ⟨_, rfl⟩
  unfold nowP fillP at hR
  refine enter Tryz.func33 rfl Tryz.ntmps33 rfl (hw0.self) ?_
  refine t_seq ?_
  refine t_region ?_
  refine l_e rfl rfl rfl (e_alloc rfl ti79 rfl) ?_
  rintro _ _ _ ⟨b2, rfl, rfl, rfl⟩
  refine l_heap (H' := row b2 79 (tokC tok0) :: _) ?_ (fun _ h => h)
  refine l_nil ?_
  refine n_then ?_
  refine t_seq ?_
  refine t_block ?_
  refine t_loopE (ι := PS × Value × Look × Nat) (fun zz => Le I zz.2.2.1 ∧ PSt s zz.1 zz.2.1 zz.2.2.1 ∧ muP s zz.1 ≤ muP s p ∧ s.length - zz.1.next < zz.2.2.2 ∧ R = bnd (fillN s zz.2.2.2) (fun _ q => ReR.ok (headT s q) q) zz.1) (fun zz => s.length - zz.1.next) (fun zz => []) [(0, _), (2, _)] (fun zz => zz.2.2.1) (fun zz => (row b2 79 (tokC tok0) :: row b 53 (prC s zz.2.1 zz.1.next) :: F)) (p, lv, I, s.length - p.next + 1) ?_ (sub_nil) (sub_cons rfl (sub_cons rfl sub_nil)) (fun _ h => subC_st h) ?_
  · try dsimp only
    exact ⟨hL, hp, Nat.le_refl _, Nat.lt_succ_self _, hR⟩
  rintro ⟨p, lv, J, g⟩ ⟨hL, hp, hmu, hg, hR⟩
  try dsimp only at *
  refine t_seq ?_
  refine t_seq ?_
  refine t_qdraw mo (by kernel_rfl) (fun _ _ _ _ _ h => h) ?_
  refine s_q rfl rfl rfl (q_move rfl rfl) ?_
  refine s_q rfl rfl rfl (q_nilCheck rfl rfl) ?_
  refine s_q rfl rfl rfl (q_fieldAddr rfl Tryz.underlying53 rfl rfl ti51 rfl rfl) ?_
  refine s_q rfl rfl rfl (q_load_row rfl Tryz.underlying51 rfl rfl (by rfl)) ?_
  refine s_q rfl rfl rfl ((by first | exact q_lenV rfl Tryz.underlying51 rfl | exact q_len rfl Tryz.underlying51 rfl (Sl.lenOf hp.2.2 (List.length_map _)))) ?_
  refine s_q rfl rfl rfl (q_eql rfl rfl rfl) ?_
  refine s_q rfl rfl rfl (q_move rfl rfl) ?_
  refine s_and2 10 6 13 24 23 _ _ rfl rfl rfl rfl rfl rfl (fun h24 => by
      try simp at h24
      refine s_g rfl rfl rfl rfl rfl rfl (q_move rfl rfl) ?_
      refine s_g rfl rfl rfl rfl rfl rfl (q_nilCheck rfl rfl) ?_
      refine s_g rfl rfl rfl rfl rfl rfl (q_fieldAddr rfl Tryz.underlying53 rfl rfl ti3 rfl rfl) ?_
      refine s_g rfl rfl rfl rfl rfl rfl (q_load_row rfl Tryz.underlying3 rfl rfl (by rfl)) ?_
      refine s_g rfl rfl rfl rfl rfl rfl (q_move rfl rfl) ?_
      refine s_g rfl rfl rfl rfl rfl rfl (q_nilCheck rfl rfl) ?_
      refine s_g rfl rfl rfl rfl rfl rfl (q_fieldAddr rfl Tryz.underlying53 rfl rfl ti9 rfl rfl) ?_
      refine s_g rfl rfl rfl rfl rfl rfl (q_load_row rfl Tryz.underlying9 rfl rfl (by rfl)) ?_
      refine s_g rfl rfl rfl rfl rfl rfl (q_len_str rfl Tryz.underlying9 rfl) ?_
      refine s_g rfl rfl rfl rfl rfl rfl (q_lss rfl rfl rfl) ?_
      exact s_val rfl
    ) (wanted_n rfl) rfl rfl rfl ?_
  refine s_done ?_
  refine n_then ?_
  refine t_cond rfl (fun hc0 => ?_) (fun hc0 => ?_)
  · skip
    have hc : p.line = [] ∧ p.next < s.length := by
      have h := hc0
      simp only [Bool.and_eq_true, decide_eq_true_eq] at h
      exact ⟨List.length_eq_zero_iff.1 (by omega), by omega⟩
    obtain ⟨g, rfl⟩ : ∃ g', g = g' + 1 := ⟨g - 1, by omega⟩
    have hst := fill_step hc hR
    refine t_skip ?_
    refine n_then ?_
    refine t_block ?_
    refine t_seq ?_
    refine t_draw [8] [] [] mo (by kernel_rfl) (fun _ _ _ _ _ h => h) ?_
    refine r_q1 0 (by kernel_rfl) rfl (Le.refl _) rfl rfl rfl (q_move rfl rfl) ?_
    refine r_q1 1 (by kernel_rfl) rfl (Le.refl _) rfl rfl rfl (q_nilCheck rfl rfl) ?_
    refine r_q1 2 (by kernel_rfl) rfl (Le.refl _) rfl rfl rfl (q_fieldAddr rfl Tryz.underlying53 rfl rfl ti9 rfl rfl) ?_
    refine r_q1 3 (by kernel_rfl) rfl (Le.refl _) rfl rfl rfl (q_load_row rfl Tryz.underlying9 rfl rfl (by rfl)) ?_
    refine r_q1 4 (by kernel_rfl) rfl (Le.refl _) rfl rfl rfl (q_move rfl rfl) ?_
    refine r_q1 5 (by kernel_rfl) rfl (Le.refl _) rfl rfl rfl (q_nilCheck rfl rfl) ?_
    refine r_q1 6 (by kernel_rfl) rfl (Le.refl _) rfl rfl rfl (q_fieldAddr rfl Tryz.underlying53 rfl rfl ti3 rfl rfl) ?_
    refine r_q1 7 (by kernel_rfl) rfl (Le.refl _) rfl rfl rfl (q_load_row rfl Tryz.underlying3 rfl rfl (by rfl)) ?_
    refine r_e 8 (by kernel_rfl) (by kernel_rfl) rfl (Le.refl _) rfl rfl rfl (eff_call rfl rfl rfl Tryz.func53 (by kernel_rfl) rfl (fun w hw => line_calls s (p.next : Int) _ _ _ w (by omega) hp.2.1 hw)) ?_
    rintro _ J _ ⟨hJ, rfl, vl34, rfl, hvl34⟩
    refine ⟨hJ, .inr SubC.sub, ?_⟩
    have hL := hL.trans hJ
    refine r_q0 9 (by kernel_rfl) rfl (hJ) rfl rfl rfl (fun _ hI => q_move rfl rfl) ?_
    refine r_q0 10 (by kernel_rfl) rfl (hJ) rfl rfl rfl (fun _ hI => q_extract rfl rfl rfl) ?_
    refine r_q0 11 (by kernel_rfl) rfl (hJ) rfl rfl rfl (fun _ hI => q_extract rfl rfl rfl) ?_
    refine r_q0 12 (by kernel_rfl) rfl (hJ) rfl rfl rfl (fun _ hI => q_extract rfl rfl rfl) ?_
    refine r_q0 13 (by kernel_rfl) rfl (hJ) rfl rfl rfl (fun _ hI => q_extract rfl rfl rfl) ?_
    refine r_q0 14 (by kernel_rfl) rfl (hJ) rfl rfl rfl (fun _ hI => q_assign rfl rfl) ?_
    refine r_q0 15 (by kernel_rfl) rfl (hJ) rfl rfl rfl (fun _ hI => q_assign rfl rfl) ?_
    refine r_q0 16 (by kernel_rfl) rfl (hJ) rfl rfl rfl (fun _ hI => q_assign rfl rfl) ?_
    refine r_q0 17 (by kernel_rfl) rfl (hJ) rfl rfl rfl (fun _ hI => q_assign rfl rfl) ?_
    refine r_end (by kernel_rfl) ?_
    refine n_then ?_
    refine t_seq ?_
    refine t_seq ?_
    refine t_region ?_
    refine l_q rfl rfl rfl (q_move rfl rfl) ?_
    refine l_q rfl rfl rfl (q_neq rfl rfl rfl) ?_
    refine l_nil ?_
    refine n_then ?_
    refine t_cond rfl (fun hc1 => ?_) (fun hc1 => ?_)
    · skip
      try simp at hc1
      have he : (lineP s p.next).err ≠ 0 := by omega
      refine t_region ?_
      refine l_q rfl rfl rfl (q_move rfl rfl) ?_
      refine l_q rfl rfl rfl (q_move rfl rfl) ?_
      refine l_q rfl rfl rfl (q_build (pl := [(_, _), (_, _)]) (cs := ([.int .i64 ((lineP s p.next).place : Int), .int .i64 ((lineP s p.next).err : Int)]).toArray) rfl Tryz.underlying48 ti48 ⟨rfl, ⟨_, _, ti3⟩, rfl, ⟨_, _, ti30⟩, trivial⟩ rfl rfl) ?_
      refine l_q rfl rfl rfl (q_makeIface rfl Tryz.underlying48 rfl rfl) ?_
      refine l_panic rfl rfl rfl ?_
      refine np_then (np_block (np_then (np_block (np_then (?_)))))
      exact np_body fun w hw => .inr ⟨_, rfl, J, _, ⟨hL, rfl, _, _, hst.2 he, rfl⟩, subC_st hw⟩
    · skip
      try simp at hc1
      have he : (lineP s p.next).err = 0 := by omega
      have hml := mu_line hp.1 hc he
      refine t_skip ?_
      refine n_then ?_
      refine t_region ?_
      refine l_q rfl rfl rfl (q_move rfl rfl) ?_
      refine l_q rfl rfl rfl (q_move rfl rfl) ?_
      refine l_q rfl rfl rfl (q_move rfl rfl) ?_
      refine l_q rfl rfl rfl (q_move rfl rfl) ?_
      refine l_q rfl rfl rfl (q_nilCheck rfl rfl) ?_
      refine l_q rfl rfl rfl (q_fieldAddr rfl Tryz.underlying53 rfl rfl ti51 rfl rfl) ?_
      refine l_e0 rfl rfl (e_storeS rfl ti51 rfl rfl (by first | exact ⟨rfl, rfl⟩ | assumption | exact hvl34.one) rfl (by first | (simp only [List.set_cons_succ, List.set_cons_zero]; rfl) | rfl)) ?_
      rintro _ _ _ ⟨rfl, rfl⟩
      refine l_q rfl rfl rfl (q_nilCheck rfl rfl) ?_
      refine l_q rfl rfl rfl (q_fieldAddr rfl Tryz.underlying53 rfl rfl ti3 rfl rfl) ?_
      refine l_e0 rfl rfl (e_storeS rfl ti3 rfl rfl (by first | exact ⟨rfl, rfl⟩ | assumption | exact hvl34.one) rfl (by first | (simp only [List.set_cons_succ, List.set_cons_zero]; rfl) | rfl)) ?_
      rintro _ _ _ ⟨rfl, rfl⟩
      refine l_heap (H' := row b 53 (prC s vl34 (lineP s p.next).fin) :: _) ?_ (fun _ h => h)
      refine l_nil ?_
      refine n_block ?_
      refine n_roundE ((⟨(lineP s p.next).toks, (lineP s p.next).fin⟩, vl34, J, g)) ?_ ?_ (sub_nil) (sub_cons rfl (sub_cons rfl sub_nil)) (fun _ h => by try dsimp only; exact subC_st h)
      · try dsimp only
        exact ⟨hL, ⟨hml.1, hp.2.1.mono hJ, hvl34⟩, Nat.le_trans hml.2.1 hmu, by have := hml.2.2; omega, hst.1 he⟩
      · try dsimp only
        exact hml.2.2
  · skip
    have hc : Filled s p := fun ⟨h1, h2⟩ => by
      have h := hc0
      rw [Bool.and_eq_false_iff, decide_eq_false_iff_not, decide_eq_false_iff_not] at h
      rcases h with h | h
      · exact h (by rw [h1]; rfl)
      · omega
    have hR := fill_done hc hR
    refine t_exit ?_
    refine n_exit_then ?_
    refine n_exit_then ?_
    refine n_exit_block ?_
    refine n_then ?_
    refine t_seq ?_
    refine t_seq ?_
    refine t_region ?_
    refine l_q rfl rfl rfl (q_move rfl rfl) ?_
    refine l_q rfl rfl rfl (q_nilCheck rfl rfl) ?_
    refine l_q rfl rfl rfl (q_fieldAddr rfl Tryz.underlying53 rfl rfl ti51 rfl rfl) ?_
    refine l_q rfl rfl rfl (q_load_row rfl Tryz.underlying51 rfl rfl (by rfl)) ?_
    refine l_q rfl rfl rfl ((by first | exact q_lenV rfl Tryz.underlying51 rfl | exact q_len rfl Tryz.underlying51 rfl (Sl.lenOf hp.2.2 (List.length_map _)))) ?_
    refine l_q rfl rfl rfl (q_eql rfl rfl rfl) ?_
    refine l_nil ?_
    refine n_then ?_
    refine t_cond rfl (fun hc2 => ?_) (fun hc2 => ?_)
    · skip
      try simp at hc2
      have hln : p.line = [] := by simpa using hc2
      have hh := headT_nil (s := s) hln
      refine t_seq ?_
      refine t_region ?_
      refine l_q rfl rfl rfl (q_move rfl rfl) ?_
      refine l_q rfl rfl rfl (q_nilCheck rfl rfl) ?_
      refine l_q rfl rfl rfl (q_fieldAddr rfl Tryz.underlying53 rfl rfl ti9 rfl rfl) ?_
      refine l_q rfl rfl rfl (q_load_row rfl Tryz.underlying9 rfl rfl (by rfl)) ?_
      refine l_q rfl rfl rfl (q_len_str rfl Tryz.underlying9 rfl) ?_
      refine l_q rfl rfl rfl (q_build (pl := [(_, _), (_, _), (_, _), (_, _), (_, _)]) (cs := (tokC (endT' s)).toArray) rfl Tryz.underlying79 ti79 ⟨rfl, ⟨_, _, ti3⟩, rfl, ⟨_, _, ti9⟩, rfl, ⟨_, _, ti3⟩, rfl, ⟨_, _, ti9⟩, rfl, ⟨_, _, ti4⟩, trivial⟩ rfl rfl) ?_
      refine l_e0 rfl rfl ((by first | exact e_store_all rfl ti79 rfl rfl rfl (by first | exact chC_ones _ | exact pcC_ones _ | exact tokC_ones _ | simp [Value.oneCell', str, u8]) rfl | exact e_store_agg rfl ti79 rfl rfl rfl (by first | exact chC_ones _ | exact pcC_ones _ | exact tokC_ones _ | simp [Value.oneCell', str, u8]) rfl)) ?_
      rintro _ _ _ ⟨rfl, rfl⟩
      refine l_nil ?_
      refine n_then ?_
      refine t_ret ?_
      refine n_ret_then ?_
      refine n_retGG (.inl rfl) rfl (by exact rg_row rfl Tryz.underlying79 ti79 rfl rfl (rg_nil)) (fun w' hw => ?_)
      -- leaf 0
      exact .inl ⟨_, rfl, J, _, ⟨hL, _, p, lv, hR, by omega, hp, ⟨rfl, hc, by rw [hh]; rfl⟩, rfl⟩, subC_st hw⟩
    · skip
      try simp at hc2
      obtain ⟨t0, r0, hln⟩ := line_cases (p := p) (fun h => by rw [h] at hc2; simp at hc2)
      have hh := headT_cons (s := s) hln
      have hpl : 0 < p.line.length := List.length_pos_iff.2 (by rw [hln]; simp)
      refine t_skip ?_
      refine n_then ?_
      refine t_seq ?_
      refine t_region ?_
      refine l_q rfl rfl rfl (q_move rfl rfl) ?_
      refine l_q rfl rfl rfl (q_nilCheck rfl rfl) ?_
      refine l_q rfl rfl rfl (q_fieldAddr rfl Tryz.underlying53 rfl rfl ti51 rfl rfl) ?_
      refine l_q rfl rfl rfl (q_load_row rfl Tryz.underlying51 rfl rfl (by rfl)) ?_
      refine l_q rfl rfl rfl ((by first | exact q_indexAddrVN rfl Tryz.underlying51 ti79 rfl rfl (by omega) | exact q_indexAddrN rfl Tryz.underlying51 ti79 rfl rfl (Sl.shape hp.2.2 (List.length_map _)) (by omega) | exact q_indexAddrV rfl Tryz.underlying51 ti79 rfl rfl (by omega) | exact q_indexAddr rfl Tryz.underlying51 ti79 rfl rfl (Sl.shape hp.2.2 (List.length_map _)) (by omega))) ?_
      refine l_q rfl rfl rfl ((by first | exact q_load_rowA rfl Tryz.underlying79 ti79 rfl rfl rfl | exact q_load_agg rfl Tryz.underlying79 ti79 rfl rfl (rds_tk hp.2.2 hln))) ?_
      refine l_e0 rfl rfl ((by first | exact e_store_all rfl ti79 rfl rfl rfl (by first | exact chC_ones _ | exact pcC_ones _ | exact tokC_ones _ | simp [Value.oneCell', str, u8]) rfl | exact e_store_agg rfl ti79 rfl rfl rfl (by first | exact chC_ones _ | exact pcC_ones _ | exact tokC_ones _ | simp [Value.oneCell', str, u8]) rfl)) ?_
      rintro _ _ _ ⟨rfl, rfl⟩
      refine l_nil ?_
      refine n_then ?_
      refine t_ret ?_
      refine n_retGG (.inl rfl) rfl (by exact rg_row rfl Tryz.underlying79 ti79 rfl rfl (rg_nil)) (fun w' hw => ?_)
      -- leaf 1
      exact .inl ⟨_, rfl, J, _, ⟨hL, _, p, lv, hR, by omega, hp, ⟨rfl, hc, by rw [hh]; rfl⟩, rfl⟩, subC_st hw⟩
set_option maxRecDepth 10000 in
theorem nowF_pure (b : Nat) (s : List UInt8) (p : PS) (lv : Value) (w : World) (hs : s.length ≤ 65536) (hf : Filled s p) (hp : OkP s p) (hb : RowI (look w) b (prC s lv p.next)) (hsl : Sl (look w) 5 lv (p.line.map tokC)) : Pure Tryz.prog 33 [pAt b] w (.agg (tokC (headT s p)).toArray) := by
  refine enter Tryz.func33 rfl Tryz.ntmps33 rfl (St.start w (look w) (Le.refl _)) ?_
  refine t_seq ?_
  refine t_region ?_
  refine l_e rfl rfl rfl (e_alloc rfl ti79 rfl) ?_
  rintro _ _ _ ⟨b2, rfl, rfl, rfl⟩
  refine l_heap (H' := row b2 79 (tokC tok0) :: _) ?_ (fun _ h => h)
  refine l_nil ?_
  refine n_then ?_
  refine t_seq ?_
  refine t_block ?_
  refine t_loopE (ι := Unit) (fun _ => True) (fun _ => 0) (fun _ => []) [(0, _), (2, _)] (fun _ => look w) (fun _ => (row b2 79 (tokC tok0) :: [])) () ?_ (sub_nil) (sub_cons rfl (sub_cons rfl sub_nil)) (fun _ h => subC_st h) ?_
  · try dsimp only
    all_goals trivial
  rintro _ _
  refine t_seq ?_
  refine t_seq ?_
  refine t_qdraw mo (by kernel_rfl) (fun _ _ _ _ _ h => h) ?_
  refine s_q rfl rfl rfl (q_move rfl rfl) ?_
  refine s_q rfl rfl rfl (q_nilCheck rfl rfl) ?_
  refine s_q rfl rfl rfl (q_fieldAddr rfl Tryz.underlying53 rfl rfl ti51 rfl rfl) ?_
  refine s_q rfl rfl rfl ((by first | exact q_load_row rfl Tryz.underlying51 rfl rfl (by rfl) | exact q_load rfl Tryz.underlying51 rfl rfl (rd_imm (hb 0 _ rfl)) | exact q_load rfl Tryz.underlying51 rfl rfl (rd_imm (hb 1 _ rfl)) | exact q_load rfl Tryz.underlying51 rfl rfl (rd_imm (hb 2 _ rfl)))) ?_
  refine s_q rfl rfl rfl ((by first | exact q_lenV rfl Tryz.underlying51 rfl | exact q_len rfl Tryz.underlying51 rfl (Sl.lenOf hsl (List.length_map _)))) ?_
  refine s_q rfl rfl rfl (q_eql rfl rfl rfl) ?_
  refine s_q rfl rfl rfl (q_move rfl rfl) ?_
  refine s_and2 10 6 13 24 23 _ _ rfl rfl rfl rfl rfl rfl (fun h24 => by
      try simp at h24
      refine s_g rfl rfl rfl rfl rfl rfl (q_move rfl rfl) ?_
      refine s_g rfl rfl rfl rfl rfl rfl (q_nilCheck rfl rfl) ?_
      refine s_g rfl rfl rfl rfl rfl rfl (q_fieldAddr rfl Tryz.underlying53 rfl rfl ti3 rfl rfl) ?_
      refine s_g rfl rfl rfl rfl rfl rfl ((by first | exact q_load_row rfl Tryz.underlying3 rfl rfl (by rfl) | exact q_load rfl Tryz.underlying3 rfl rfl (rd_imm (hb 0 _ rfl)) | exact q_load rfl Tryz.underlying3 rfl rfl (rd_imm (hb 1 _ rfl)) | exact q_load rfl Tryz.underlying3 rfl rfl (rd_imm (hb 2 _ rfl)))) ?_
      refine s_g rfl rfl rfl rfl rfl rfl (q_move rfl rfl) ?_
      refine s_g rfl rfl rfl rfl rfl rfl (q_nilCheck rfl rfl) ?_
      refine s_g rfl rfl rfl rfl rfl rfl (q_fieldAddr rfl Tryz.underlying53 rfl rfl ti9 rfl rfl) ?_
      refine s_g rfl rfl rfl rfl rfl rfl ((by first | exact q_load_row rfl Tryz.underlying9 rfl rfl (by rfl) | exact q_load rfl Tryz.underlying9 rfl rfl (rd_imm (hb 0 _ rfl)) | exact q_load rfl Tryz.underlying9 rfl rfl (rd_imm (hb 1 _ rfl)) | exact q_load rfl Tryz.underlying9 rfl rfl (rd_imm (hb 2 _ rfl)))) ?_
      refine s_g rfl rfl rfl rfl rfl rfl (q_len_str rfl Tryz.underlying9 rfl) ?_
      refine s_g rfl rfl rfl rfl rfl rfl (q_lss rfl rfl rfl) ?_
      exact s_val rfl
    ) (wanted_n rfl) rfl rfl rfl ?_
  refine s_done ?_
  refine n_then ?_
  refine t_cond rfl (fun hc0 => ?_) (fun hc0 => ?_)
  · skip
    exfalso
    have h := hc0
    simp only [Bool.and_eq_true, decide_eq_true_eq] at h
    exact hf ⟨List.length_eq_zero_iff.1 (by omega), by omega⟩
  · skip
    refine t_exit ?_
    refine n_exit_then ?_
    refine n_exit_then ?_
    refine n_exit_block ?_
    refine n_then ?_
    refine t_seq ?_
    refine t_seq ?_
    refine t_region ?_
    refine l_q rfl rfl rfl (q_move rfl rfl) ?_
    refine l_q rfl rfl rfl (q_nilCheck rfl rfl) ?_
    refine l_q rfl rfl rfl (q_fieldAddr rfl Tryz.underlying53 rfl rfl ti51 rfl rfl) ?_
    refine l_q rfl rfl rfl ((by first | exact q_load_row rfl Tryz.underlying51 rfl rfl (by rfl) | exact q_load rfl Tryz.underlying51 rfl rfl (rd_imm (hb 0 _ rfl)) | exact q_load rfl Tryz.underlying51 rfl rfl (rd_imm (hb 1 _ rfl)) | exact q_load rfl Tryz.underlying51 rfl rfl (rd_imm (hb 2 _ rfl)))) ?_
    refine l_q rfl rfl rfl ((by first | exact q_lenV rfl Tryz.underlying51 rfl | exact q_len rfl Tryz.underlying51 rfl (Sl.lenOf hsl (List.length_map _)))) ?_
    refine l_q rfl rfl rfl (q_eql rfl rfl rfl) ?_
    refine l_nil ?_
    refine n_then ?_
    refine t_cond rfl (fun hc1 => ?_) (fun hc1 => ?_)
    · skip
      try simp at hc1
      have hln : p.line = [] := by simpa using hc1
      have hh := headT_nil (s := s) hln
      refine t_seq ?_
      refine t_region ?_
      refine l_q rfl rfl rfl (q_move rfl rfl) ?_
      refine l_q rfl rfl rfl (q_nilCheck rfl rfl) ?_
      refine l_q rfl rfl rfl (q_fieldAddr rfl Tryz.underlying53 rfl rfl ti9 rfl rfl) ?_
      refine l_q rfl rfl rfl ((by first | exact q_load_row rfl Tryz.underlying9 rfl rfl (by rfl) | exact q_load rfl Tryz.underlying9 rfl rfl (rd_imm (hb 0 _ rfl)) | exact q_load rfl Tryz.underlying9 rfl rfl (rd_imm (hb 1 _ rfl)) | exact q_load rfl Tryz.underlying9 rfl rfl (rd_imm (hb 2 _ rfl)))) ?_
      refine l_q rfl rfl rfl (q_len_str rfl Tryz.underlying9 rfl) ?_
      refine l_q rfl rfl rfl (q_build (pl := [(_, _), (_, _), (_, _), (_, _), (_, _)]) (cs := (tokC (endT' s)).toArray) rfl Tryz.underlying79 ti79 ⟨rfl, ⟨_, _, ti3⟩, rfl, ⟨_, _, ti9⟩, rfl, ⟨_, _, ti3⟩, rfl, ⟨_, _, ti9⟩, rfl, ⟨_, _, ti4⟩, trivial⟩ rfl rfl) ?_
      refine l_e0 rfl rfl ((by first | exact e_store_all rfl ti79 rfl rfl rfl (by first | exact chC_ones _ | exact pcC_ones _ | exact tokC_ones _ | simp [Value.oneCell', str, u8]) rfl | exact e_store_agg rfl ti79 rfl rfl rfl (by first | exact chC_ones _ | exact pcC_ones _ | exact tokC_ones _ | simp [Value.oneCell', str, u8]) rfl)) ?_
      rintro _ _ _ ⟨rfl, rfl⟩
      refine l_nil ?_
      refine n_then ?_
      refine t_ret ?_
      refine n_ret_then ?_
      refine n_retGG (.inl rfl) rfl (by exact rg_row rfl Tryz.underlying79 ti79 rfl rfl (rg_nil)) (fun w' hw => ?_)
      -- leaf 0
      refine ⟨?_, hw.below⟩
      rw [hh]; rfl
    · skip
      try simp at hc1
      obtain ⟨t0, r0, hln⟩ := line_cases (p := p) (fun h => by rw [h] at hc1; simp at hc1)
      have hh := headT_cons (s := s) hln
      have hpl : 0 < p.line.length := List.length_pos_iff.2 (by rw [hln]; simp)
      refine t_skip ?_
      refine n_then ?_
      refine t_seq ?_
      refine t_region ?_
      refine l_q rfl rfl rfl (q_move rfl rfl) ?_
      refine l_q rfl rfl rfl (q_nilCheck rfl rfl) ?_
      refine l_q rfl rfl rfl (q_fieldAddr rfl Tryz.underlying53 rfl rfl ti51 rfl rfl) ?_
      refine l_q rfl rfl rfl ((by first | exact q_load_row rfl Tryz.underlying51 rfl rfl (by rfl) | exact q_load rfl Tryz.underlying51 rfl rfl (rd_imm (hb 0 _ rfl)) | exact q_load rfl Tryz.underlying51 rfl rfl (rd_imm (hb 1 _ rfl)) | exact q_load rfl Tryz.underlying51 rfl rfl (rd_imm (hb 2 _ rfl)))) ?_
      refine l_q rfl rfl rfl ((by first | exact q_indexAddrVN rfl Tryz.underlying51 ti79 rfl rfl (by omega) | exact q_indexAddrN rfl Tryz.underlying51 ti79 rfl rfl (Sl.shape hsl (List.length_map _)) (by omega) | exact q_indexAddrV rfl Tryz.underlying51 ti79 rfl rfl (by omega) | exact q_indexAddr rfl Tryz.underlying51 ti79 rfl rfl (Sl.shape hsl (List.length_map _)) (by omega))) ?_
      refine l_q rfl rfl rfl ((by first | exact q_load_rowA rfl Tryz.underlying79 ti79 rfl rfl rfl | exact q_load_agg rfl Tryz.underlying79 ti79 rfl rfl (rds_tk hsl hln))) ?_
      refine l_e0 rfl rfl ((by first | exact e_store_all rfl ti79 rfl rfl rfl (by first | exact chC_ones _ | exact pcC_ones _ | exact tokC_ones _ | simp [Value.oneCell', str, u8]) rfl | exact e_store_agg rfl ti79 rfl rfl rfl (by first | exact chC_ones _ | exact pcC_ones _ | exact tokC_ones _ | simp [Value.oneCell', str, u8]) rfl)) ?_
      rintro _ _ _ ⟨rfl, rfl⟩
      refine l_nil ?_
      refine n_then ?_
      refine t_ret ?_
      refine n_retGG (.inl rfl) rfl (by exact rg_row rfl Tryz.underlying79 ti79 rfl rfl (rg_nil)) (fun w' hw => ?_)
      -- leaf 1
      refine ⟨?_, hw.below⟩
      rw [hh]; rfl
theorem opB_int {x : List UInt8} {t : Tok} : (decide ((t.kind : Int) = 2) && decide (t.text = x)) = opB x t := by
  unfold opB
  rw [show decide ((t.kind : Int) = 2) = decide (t.kind = 2) by by_cases h : t.kind = 2 <;> simp [h] <;> omega]
theorem keyB_int {x : List UInt8} {t : Tok} : (decide ((t.kind : Int) = 1) && decide (t.text = x)) = keyB x t := by
  unfold keyB
  rw [show decide ((t.kind : Int) = 1) = decide (t.kind = 1) by by_cases h : t.kind = 1 <;> simp [h] <;> omega]
theorem redirB_int {t : Tok} : (decide ((t.kind : Int) = 4) || (decide ((t.kind : Int) = 2) && amongB redirectS t.text)) = redirB t := by
  unfold redirB
  rw [show decide ((t.kind : Int) = 2) = decide (t.kind = 2) by by_cases h : t.kind = 2 <;> simp [h] <;> omega, show decide ((t.kind : Int) = 4) = decide (t.kind = 4) by by_cases h : t.kind = 4 <;> simp [h] <;> omega]
theorem beginB_int {t : Tok} : ((decide ((t.kind : Int) = 1) && !amongB closersS t.text) || opB [40] t || redirB t) = beginB t := by
  unfold beginB
  rw [show decide ((t.kind : Int) = 1) = decide (t.kind = 1) by by_cases h : t.kind = 1 <;> simp [h] <;> omega]
set_option maxRecDepth 10000 in
theorem opF_pure (b : Nat) (s x : List UInt8) (p : PS) (lv : Value) (w : World) (hs : s.length ≤ 65536) (hf : Filled s p) (hp : OkP s p) (hb : RowI (look w) b (prC s lv p.next)) (hsl : Sl (look w) 5 lv (p.line.map tokC)) : Pure Tryz.prog 55 [pAt b, str x] w (.bool (opB x (headT s p))) := by
  refine enter Tryz.func55 rfl Tryz.ntmps55 rfl (St.start w (look w) (Le.refl _)) ?_
  refine t_seq ?_
  refine t_region ?_
  refine l_q rfl rfl rfl (q_assign rfl rfl) ?_
  refine l_nil ?_
  refine n_then ?_
  refine t_seq ?_
  refine t_region ?_
  refine l_q rfl rfl rfl (q_move rfl rfl) ?_
  refine l_q rfl rfl rfl (quiet_call rfl rfl rfl Tryz.func33 (by kernel_rfl) rfl ((fun w hw => nowF_pure b s p lv w hs hf hp (hb.mono hw.le) (hsl.mono hw.le)))) ?_
  refine l_e rfl rfl rfl (e_alloc rfl ti79 rfl) ?_
  rintro _ _ _ ⟨b5, rfl, rfl, rfl⟩
  refine l_e0 rfl rfl ((by first | exact e_store_all rfl ti79 rfl rfl rfl (by first | exact chC_ones _ | exact pcC_ones _ | exact tokC_ones _ | simp [Value.oneCell', str, u8]) rfl | exact e_store_agg rfl ti79 rfl rfl rfl (by first | exact chC_ones _ | exact pcC_ones _ | exact tokC_ones _ | simp [Value.oneCell', str, u8]) rfl)) ?_
  rintro _ _ _ ⟨rfl, rfl⟩
  refine l_heap (H' := row b5 79 (tokC (headT s p)) :: _) ?_ (fun _ h => h)
  refine l_nil ?_
  refine n_then ?_
  refine t_seq ?_
  refine t_qreg ?_
  refine s_q rfl rfl rfl (q_fieldAddr rfl Tryz.underlying79 rfl rfl ti3 rfl rfl) ?_
  refine s_q rfl rfl rfl (q_load_row rfl Tryz.underlying3 rfl rfl (by rfl)) ?_
  refine s_q rfl rfl rfl (q_eql rfl rfl rfl) ?_
  refine s_q rfl rfl rfl (q_move rfl rfl) ?_
  refine s_and2 4 3 11 16 15 _ _ rfl rfl rfl rfl rfl rfl (fun h16 => by
      try simp at h16
      refine s_g rfl rfl rfl rfl rfl rfl (q_fieldAddr rfl Tryz.underlying79 rfl rfl ti9 rfl rfl) ?_
      refine s_g rfl rfl rfl rfl rfl rfl (q_load_row rfl Tryz.underlying9 rfl rfl (by rfl)) ?_
      refine s_g rfl rfl rfl rfl rfl rfl (q_move rfl rfl) ?_
      refine s_g rfl rfl rfl rfl rfl rfl (q_eql_str rfl rfl rfl) ?_
      exact s_val rfl
    ) (wanted_n rfl) rfl rfl rfl ?_
  refine s_q rfl rfl rfl (q_assign rfl rfl) ?_
  refine s_done ?_
  refine n_then ?_
  refine t_ret ?_
  refine n_ret1 rfl rfl (fun w' hw => ?_)
  -- leaf 0
  refine ⟨?_, hw.below⟩
  rw [← opB_int]
set_option maxRecDepth 10000 in
theorem op_calls (b : Nat) (s : List UInt8) (hs : s.length ≤ 65536) (x : List UInt8) : ParC 55 b s [str x] (nowP s) (AskV s (opB x)) 0 := by
  intro p lv I F w0 w R hR hp hw0
  have hL := Le.refl I
  obtain ⟨M, hM⟩ : ∃ M, M = muP s p := ⟨_, rfl⟩
  refine enter Tryz.func55 rfl Tryz.ntmps55 rfl (hw0.self) ?_
  refine t_seq ?_
  refine t_region ?_
  refine l_q rfl rfl rfl (q_assign rfl rfl) ?_
  refine l_nil ?_
  refine n_then ?_
  refine t_seq ?_
  refine t_region ?_
  refine l_q rfl rfl rfl (q_move rfl rfl) ?_
  refine l_eP rfl rfl rfl (eff_callP rfl rfl rfl Tryz.func33 (by kernel_rfl) rfl (fun w hw => now_calls b s hs p lv _ _ _ w _ rfl hp (picks_st1 (row b 53 (prC s lv p.next)) hw))) ?_ ?_
  · skip
    rintro _ Jx _ ⟨hJx, rfl, ax, ex, hbx, rfl⟩
    rw [hbx] at hR
    refine np_then (?_)
    exact np_body fun w hw => .inr ⟨_, rfl, Jx, _, ⟨hL.trans hJx, rfl, ax, ex, hR, rfl⟩, subC_st hw⟩
  rintro v7 J _ ⟨hJ, x7, p, lv, he7, hmu7, hp, ⟨rfl, hf, rfl⟩, rfl⟩
  have hL := hL.trans hJ
  rw [he7] at hR
  refine l_e rfl rfl rfl (e_alloc rfl ti79 rfl) ?_
  rintro _ _ _ ⟨b5, rfl, rfl, rfl⟩
  refine l_e0 rfl rfl ((by first | exact e_store_all rfl ti79 rfl rfl rfl (by first | exact chC_ones _ | exact pcC_ones _ | exact tokC_ones _ | simp [Value.oneCell', str, u8]) rfl | exact e_store_agg rfl ti79 rfl rfl rfl (by first | exact chC_ones _ | exact pcC_ones _ | exact tokC_ones _ | simp [Value.oneCell', str, u8]) rfl)) ?_
  rintro _ _ _ ⟨rfl, rfl⟩
  refine l_heap (H' := row b5 79 (tokC (headT s p)) :: _) ?_ (fun _ h => h)
  refine l_nil ?_
  refine n_then ?_
  refine t_seq ?_
  refine t_qreg ?_
  refine s_q rfl rfl rfl (q_fieldAddr rfl Tryz.underlying79 rfl rfl ti3 rfl rfl) ?_
  refine s_q rfl rfl rfl (q_load_row rfl Tryz.underlying3 rfl rfl (by rfl)) ?_
  refine s_q rfl rfl rfl (q_eql rfl rfl rfl) ?_
  refine s_q rfl rfl rfl (q_move rfl rfl) ?_
  refine s_and2 4 3 11 16 15 _ _ rfl rfl rfl rfl rfl rfl (fun h16 => by
      try simp at h16
      refine s_g rfl rfl rfl rfl rfl rfl (q_fieldAddr rfl Tryz.underlying79 rfl rfl ti9 rfl rfl) ?_
      refine s_g rfl rfl rfl rfl rfl rfl (q_load_row rfl Tryz.underlying9 rfl rfl (by rfl)) ?_
      refine s_g rfl rfl rfl rfl rfl rfl (q_move rfl rfl) ?_
      refine s_g rfl rfl rfl rfl rfl rfl (q_eql_str rfl rfl rfl) ?_
      exact s_val rfl
    ) (wanted_n rfl) rfl rfl rfl ?_
  refine s_q rfl rfl rfl (q_assign rfl rfl) ?_
  refine s_done ?_
  refine n_then ?_
  refine t_ret ?_
  refine n_ret1 rfl rfl (fun w' hw => ?_)
  -- leaf 0
  exact .inl ⟨_, rfl, J, _, ⟨hL, _, p, lv, hR, (by omega), hp, ⟨rfl, hf, congrArg Value.bool opB_int⟩, rfl⟩, subC_st hw⟩
set_option maxRecDepth 10000 in
theorem keyF_pure (b : Nat) (s x : List UInt8) (p : PS) (lv : Value) (w : World) (hs : s.length ≤ 65536) (hf : Filled s p) (hp : OkP s p) (hb : RowI (look w) b (prC s lv p.next)) (hsl : Sl (look w) 5 lv (p.line.map tokC)) : Pure Tryz.prog 108 [pAt b, str x] w (.bool (keyB x (headT s p))) := by
  refine enter Tryz.func108 rfl Tryz.ntmps108 rfl (St.start w (look w) (Le.refl _)) ?_
  refine t_seq ?_
  refine t_region ?_
  refine l_q rfl rfl rfl (q_assign rfl rfl) ?_
  refine l_nil ?_
  refine n_then ?_
  refine t_seq ?_
  refine t_region ?_
  refine l_q rfl rfl rfl (q_move rfl rfl) ?_
  refine l_q rfl rfl rfl (quiet_call rfl rfl rfl Tryz.func33 (by kernel_rfl) rfl ((fun w hw => nowF_pure b s p lv w hs hf hp (hb.mono hw.le) (hsl.mono hw.le)))) ?_
  refine l_e rfl rfl rfl (e_alloc rfl ti79 rfl) ?_
  rintro _ _ _ ⟨b5, rfl, rfl, rfl⟩
  refine l_e0 rfl rfl ((by first | exact e_store_all rfl ti79 rfl rfl rfl (by first | exact chC_ones _ | exact pcC_ones _ | exact tokC_ones _ | simp [Value.oneCell', str, u8]) rfl | exact e_store_agg rfl ti79 rfl rfl rfl (by first | exact chC_ones _ | exact pcC_ones _ | exact tokC_ones _ | simp [Value.oneCell', str, u8]) rfl)) ?_
  rintro _ _ _ ⟨rfl, rfl⟩
  refine l_heap (H' := row b5 79 (tokC (headT s p)) :: _) ?_ (fun _ h => h)
  refine l_nil ?_
  refine n_then ?_
  refine t_seq ?_
  refine t_qreg ?_
  refine s_q rfl rfl rfl (q_fieldAddr rfl Tryz.underlying79 rfl rfl ti3 rfl rfl) ?_
  refine s_q rfl rfl rfl (q_load_row rfl Tryz.underlying3 rfl rfl (by rfl)) ?_
  refine s_q rfl rfl rfl (q_eql rfl rfl rfl) ?_
  refine s_q rfl rfl rfl (q_move rfl rfl) ?_
  refine s_and2 4 3 11 16 15 _ _ rfl rfl rfl rfl rfl rfl (fun h16 => by
      try simp at h16
      refine s_g rfl rfl rfl rfl rfl rfl (q_fieldAddr rfl Tryz.underlying79 rfl rfl ti9 rfl rfl) ?_
      refine s_g rfl rfl rfl rfl rfl rfl (q_load_row rfl Tryz.underlying9 rfl rfl (by rfl)) ?_
      refine s_g rfl rfl rfl rfl rfl rfl (q_move rfl rfl) ?_
      refine s_g rfl rfl rfl rfl rfl rfl (q_eql_str rfl rfl rfl) ?_
      exact s_val rfl
    ) (wanted_n rfl) rfl rfl rfl ?_
  refine s_q rfl rfl rfl (q_assign rfl rfl) ?_
  refine s_done ?_
  refine n_then ?_
  refine t_ret ?_
  refine n_ret1 rfl rfl (fun w' hw => ?_)
  -- leaf 0
  refine ⟨?_, hw.below⟩
  rw [← keyB_int]
set_option maxRecDepth 10000 in
theorem key_calls (b : Nat) (s : List UInt8) (hs : s.length ≤ 65536) (x : List UInt8) : ParC 108 b s [str x] (nowP s) (AskV s (keyB x)) 0 := by
  intro p lv I F w0 w R hR hp hw0
  have hL := Le.refl I
  obtain ⟨M, hM⟩ : ∃ M, M = muP s p := ⟨_, rfl⟩
  refine enter Tryz.func108 rfl Tryz.ntmps108 rfl (hw0.self) ?_
  refine t_seq ?_
  refine t_region ?_
  refine l_q rfl rfl rfl (q_assign rfl rfl) ?_
  refine l_nil ?_
  refine n_then ?_
  refine t_seq ?_
  refine t_region ?_
  refine l_q rfl rfl rfl (q_move rfl rfl) ?_
  refine l_eP rfl rfl rfl (eff_callP rfl rfl rfl Tryz.func33 (by kernel_rfl) rfl (fun w hw => now_calls b s hs p lv _ _ _ w _ rfl hp (picks_st1 (row b 53 (prC s lv p.next)) hw))) ?_ ?_
  · skip
    rintro _ Jx _ ⟨hJx, rfl, ax, ex, hbx, rfl⟩
    rw [hbx] at hR
    refine np_then (?_)
    exact np_body fun w hw => .inr ⟨_, rfl, Jx, _, ⟨hL.trans hJx, rfl, ax, ex, hR, rfl⟩, subC_st hw⟩
  rintro v7 J _ ⟨hJ, x7, p, lv, he7, hmu7, hp, ⟨rfl, hf, rfl⟩, rfl⟩
  have hL := hL.trans hJ
  rw [he7] at hR
  refine l_e rfl rfl rfl (e_alloc rfl ti79 rfl) ?_
  rintro _ _ _ ⟨b5, rfl, rfl, rfl⟩
  refine l_e0 rfl rfl ((by first | exact e_store_all rfl ti79 rfl rfl rfl (by first | exact chC_ones _ | exact pcC_ones _ | exact tokC_ones _ | simp [Value.oneCell', str, u8]) rfl | exact e_store_agg rfl ti79 rfl rfl rfl (by first | exact chC_ones _ | exact pcC_ones _ | exact tokC_ones _ | simp [Value.oneCell', str, u8]) rfl)) ?_
  rintro _ _ _ ⟨rfl, rfl⟩
  refine l_heap (H' := row b5 79 (tokC (headT s p)) :: _) ?_ (fun _ h => h)
  refine l_nil ?_
  refine n_then ?_
  refine t_seq ?_
  refine t_qreg ?_
  refine s_q rfl rfl rfl (q_fieldAddr rfl Tryz.underlying79 rfl rfl ti3 rfl rfl) ?_
  refine s_q rfl rfl rfl (q_load_row rfl Tryz.underlying3 rfl rfl (by rfl)) ?_
  refine s_q rfl rfl rfl (q_eql rfl rfl rfl) ?_
  refine s_q rfl rfl rfl (q_move rfl rfl) ?_
  refine s_and2 4 3 11 16 15 _ _ rfl rfl rfl rfl rfl rfl (fun h16 => by
      try simp at h16
      refine s_g rfl rfl rfl rfl rfl rfl (q_fieldAddr rfl Tryz.underlying79 rfl rfl ti9 rfl rfl) ?_
      refine s_g rfl rfl rfl rfl rfl rfl (q_load_row rfl Tryz.underlying9 rfl rfl (by rfl)) ?_
      refine s_g rfl rfl rfl rfl rfl rfl (q_move rfl rfl) ?_
      refine s_g rfl rfl rfl rfl rfl rfl (q_eql_str rfl rfl rfl) ?_
      exact s_val rfl
    ) (wanted_n rfl) rfl rfl rfl ?_
  refine s_q rfl rfl rfl (q_assign rfl rfl) ?_
  refine s_done ?_
  refine n_then ?_
  refine t_ret ?_
  refine n_ret1 rfl rfl (fun w' hw => ?_)
  -- leaf 0
  exact .inl ⟨_, rfl, J, _, ⟨hL, _, p, lv, hR, (by omega), hp, ⟨rfl, hf, congrArg Value.bool keyB_int⟩, rfl⟩, subC_st hw⟩
set_option maxRecDepth 10000 in
theorem step_calls (b : Nat) (s : List UInt8) (hs : s.length ≤ 65536) : ParC 36 b s [] (stepP s) StepV 0 := by
  intro p lv I F w0 w R hR hp hw0
  have hL := Le.refl I
  obtain ⟨M, hM⟩ : ∃ M, M = muP s p := ⟨_, rfl⟩
  unfold stepP at hR
  refine enter Tryz.func36 rfl Tryz.ntmps36 rfl (hw0.self) ?_
  refine t_seq ?_
  refine t_region ?_
  refine l_e rfl rfl rfl (e_alloc rfl ti79 rfl) ?_
  rintro _ _ _ ⟨b2, rfl, rfl, rfl⟩
  refine l_nil ?_
  refine n_then ?_
  refine t_seq ?_
  refine t_region ?_
  refine l_q rfl rfl rfl (q_move rfl rfl) ?_
  refine l_eP rfl rfl rfl (eff_callP rfl rfl rfl Tryz.func33 (by kernel_rfl) rfl (fun w hw => now_calls b s hs p lv _ _ _ w _ rfl hp (picks_st1 (row b 53 (prC s lv p.next)) hw))) ?_ ?_
  · skip
    rintro _ Jx _ ⟨hJx, rfl, ax, ex, hbx, rfl⟩
    rw [bnd_bad hbx] at hR
    refine np_then (?_)
    exact np_body fun w hw => .inr ⟨_, rfl, Jx, _, ⟨hL.trans hJx, rfl, ax, ex, hR, rfl⟩, subC_st hw⟩
  rintro v5 J _ ⟨hJ, x5, p, lv, he5, hmu5, hp, ⟨rfl, hf, rfl⟩, rfl⟩
  have hL := hL.trans hJ
  rw [bnd_ok he5] at hR
  refine l_e rfl rfl rfl (e_alloc rfl ti79 rfl) ?_
  rintro _ _ _ ⟨b3, rfl, rfl, rfl⟩
  refine l_e0 rfl rfl ((by first | exact e_store_all rfl ti79 rfl rfl rfl (by first | exact chC_ones _ | exact pcC_ones _ | exact tokC_ones _ | simp [Value.oneCell', str, u8]) rfl | exact e_store_agg rfl ti79 rfl rfl rfl (by first | exact chC_ones _ | exact pcC_ones _ | exact tokC_ones _ | simp [Value.oneCell', str, u8]) rfl)) ?_
  rintro _ _ _ ⟨rfl, rfl⟩
  refine l_heap (H' := row b3 79 (tokC (headT s p)) :: _) ?_ (fun _ h => h)
  refine l_nil ?_
  refine n_then ?_
  refine t_seq ?_
  refine t_seq ?_
  refine t_region ?_
  refine l_q rfl rfl rfl (q_move rfl rfl) ?_
  refine l_q rfl rfl rfl (q_nilCheck rfl rfl) ?_
  refine l_q rfl rfl rfl (q_fieldAddr rfl Tryz.underlying53 rfl rfl ti51 rfl rfl) ?_
  refine l_q rfl rfl rfl (q_load_row rfl Tryz.underlying51 rfl rfl (by rfl)) ?_
  refine l_q rfl rfl rfl ((by first | exact q_lenV rfl Tryz.underlying51 rfl | exact q_len rfl Tryz.underlying51 rfl (Sl.lenOf hp.2.2 (List.length_map _)))) ?_
  refine l_q rfl rfl rfl (q_gtr rfl rfl rfl) ?_
  refine l_nil ?_
  refine n_then ?_
  refine t_cond rfl (fun hc0 => ?_) (fun hc0 => ?_)
  · skip
    try simp at hc0
    have hpl : 0 < p.line.length := by omega
    have hcut := Sl.dropM hp.2.2 rfl (show 1 ≤ p.line.length by omega)
    refine t_region ?_
    refine l_q rfl rfl rfl (q_move rfl rfl) ?_
    refine l_q rfl rfl rfl (q_move rfl rfl) ?_
    refine l_q rfl rfl rfl (q_nilCheck rfl rfl) ?_
    refine l_q rfl rfl rfl (q_fieldAddr rfl Tryz.underlying53 rfl rfl ti51 rfl rfl) ?_
    refine l_q rfl rfl rfl (q_load_row rfl Tryz.underlying51 rfl rfl (by rfl)) ?_
    refine l_q rfl rfl rfl ((by first | exact q_slice_from rfl Tryz.underlying51 ti79 rfl rfl (Sl.lenOf hp.2.2 (List.length_map _)) (by omega))) ?_
    refine l_q rfl rfl rfl (q_nilCheck rfl rfl) ?_
    refine l_q rfl rfl rfl (q_fieldAddr rfl Tryz.underlying53 rfl rfl ti51 rfl rfl) ?_
    refine l_e0 rfl rfl (e_storeS rfl ti51 rfl rfl (by first | exact ⟨rfl, rfl⟩ | assumption | exact (Sl.dropM hp.2.2 rfl (by omega)).one) rfl (by first | (simp only [List.set_cons_succ, List.set_cons_zero]; rfl) | rfl)) ?_
    rintro _ _ _ ⟨rfl, rfl⟩
    refine l_heap (H' := row b 53 (prC s (cutV 5 1 p.line.length lv) p.next) :: _) ?_ (fun _ h => h)
    refine l_nil ?_
    refine n_then ?_
    refine t_seq ?_
    refine t_region ?_
    refine l_q rfl rfl rfl (q_load_rowA rfl Tryz.underlying79 ti79 rfl rfl rfl) ?_
    refine l_e0 rfl rfl ((by first | exact e_store_all rfl ti79 rfl rfl rfl (by first | exact chC_ones _ | exact pcC_ones _ | exact tokC_ones _ | simp [Value.oneCell', str, u8]) rfl | exact e_store_agg rfl ti79 rfl rfl rfl (by first | exact chC_ones _ | exact pcC_ones _ | exact tokC_ones _ | simp [Value.oneCell', str, u8]) rfl)) ?_
    rintro _ _ _ ⟨rfl, rfl⟩
    refine l_nil ?_
    refine n_then ?_
    refine t_ret ?_
    refine n_retGG (.inl rfl) rfl (by exact rg_row rfl Tryz.underlying79 ti79 rfl rfl (rg_nil)) (fun w' hw => ?_)
    -- leaf 0
    have hp2 : PSt s (stepS p) (cutV 5 1 p.line.length lv) J := ⟨hp.1.step, hp.2.1, hcut⟩
    have hm0 := mu_step0 (s := s) (p := p)
    refine .inl ⟨_, rfl, J, _, ⟨hL, _, stepS p, _, hR, by omega, hp2, rfl, rfl⟩, ?_⟩
    exact (subC_st hw : St _ _ (row b 53 (prC s (cutV 5 1 p.line.length lv) p.next) :: F) _)
  · skip
    try simp at hc0
    have hpl : p.line = [] := by simpa using hc0
    have hsp : stepS p = p := by unfold stepS; rw [hpl]; cases p; simp_all
    refine t_skip ?_
    refine n_then ?_
    refine t_seq ?_
    refine t_region ?_
    refine l_q rfl rfl rfl (q_load_rowA rfl Tryz.underlying79 ti79 rfl rfl rfl) ?_
    refine l_e0 rfl rfl ((by first | exact e_store_all rfl ti79 rfl rfl rfl (by first | exact chC_ones _ | exact pcC_ones _ | exact tokC_ones _ | simp [Value.oneCell', str, u8]) rfl | exact e_store_agg rfl ti79 rfl rfl rfl (by first | exact chC_ones _ | exact pcC_ones _ | exact tokC_ones _ | simp [Value.oneCell', str, u8]) rfl)) ?_
    rintro _ _ _ ⟨rfl, rfl⟩
    refine l_nil ?_
    refine n_then ?_
    refine t_ret ?_
    refine n_retGG (.inl rfl) rfl (by exact rg_row rfl Tryz.underlying79 ti79 rfl rfl (rg_nil)) (fun w' hw => ?_)
    -- leaf 1
    rw [hsp] at hR
    exact .inl ⟨_, rfl, J, _, ⟨hL, _, p, lv, hR, (by omega), hp, rfl, rfl⟩, subC_st hw⟩
set_option maxRecDepth 10000 in
theorem badF_calls (b : Nat) (s : List UInt8) (p : PS) (lv : Value) (hs : s.length ≤ 65536) (I : Look) (F : List HA) (w0 w : World) (hf : Filled s p) (hp : PSt s p lv I) (hw0 : St w0 I (row b 53 (prC s lv p.next) :: F) w) : CallsP Tryz.prog 35 [pAt b].toArray w (fun _ _ _ => False) (fun ch I' H' => Le I I' ∧ F = H' ∧ ch = chn (stopV (headT s p).pos 56)) := by
  refine enter Tryz.func35 rfl Tryz.ntmps35 rfl (hw0.self) ?_
  refine t_region ?_
  refine l_q rfl rfl rfl (q_move rfl rfl) ?_
  refine l_q rfl rfl rfl (quiet_call rfl rfl rfl Tryz.func33 (by kernel_rfl) rfl ((fun w hw => nowF_pure b s p lv w hs hf hp.1 (rowI_of hw) (hp.2.2.mono hw.le)))) ?_
  refine l_q rfl rfl rfl (q_field rfl Tryz.underlying79 rfl Tryz.underlying3 rfl rfl rfl) ?_
  refine l_q rfl rfl rfl (q_build (pl := [(_, _), (_, _)]) (cs := ([.int .i64 ((headT s p).pos : Int), .int .i64 56]).toArray) rfl Tryz.underlying48 ti48 ⟨rfl, ⟨_, _, ti3⟩, rfl, ⟨_, _, ti30⟩, trivial⟩ rfl rfl) ?_
  refine l_q rfl rfl rfl (q_makeIface rfl Tryz.underlying48 rfl rfl) ?_
  refine l_panic rfl rfl rfl ?_
  refine ?_
  exact np_body fun w hw => .inr ⟨_, rfl, I, _, ⟨Le.refl _, rfl, rfl⟩, subC_st hw⟩
end Go.Tri

/-
  The parser: asked, needed, passed.
-/
namespace Go.Tri
open Go.Proofs Go.RowKit
theorem stepF_calls (b : Nat) (s : List UInt8) (hs : s.length ≤ 65536) (p : PS) (lv : Value) (I : Look) (F : List HA) (w0 w : World) (hf : Filled s p) (hp : PSt s p lv I) (hw0 : St w0 I (row b 53 (prC s lv p.next) :: F) w) :
    Calls Tryz.prog 36 [pAt b].toArray w (fun e w' => ∃ v, e = .returned v ∧ ∃ I' H', (Le I I' ∧ v = .agg (tokC (headT s p)).toArray ∧ ∃ q lv', q = stepS p ∧ muP s q ≤ muP s p ∧ ((headT s p).kind ≠ 0 → muP s q + 1 ≤ muP s p) ∧ PSt s q lv' I' ∧ H' = row b 53 (prC s lv' q.next) :: F) ∧ St w I' H' w') := by
  refine Calls.mono (step_calls b s hs p lv I F w0 w _ rfl hp hw0) fun e w' h => ?_
  rcases h with ⟨v, h1, I', H', ⟨h2, x, q, lv', h3, h4, h5, h6, h7⟩, h8⟩ | ⟨ch, h1, I', H', ⟨_, _, a, e, h3, _⟩, _⟩
  · rw [step_filled hf] at h3
    cases h3
    exact ⟨v, h1, I', H', ⟨h2, h6, _, lv', rfl, mu_step0, mu_step, h5, h7⟩, h8⟩
  · rw [step_filled hf] at h3
    cases h3
set_option maxRecDepth 10000 in
theorem among_pure (ws t : List UInt8) (w : World) (h1 : ws.length ≤ 1000) (h2 : t.length ≤ 1000000) (hG : EnvI (look w)) : Pure Tryz.prog 134 [str ws, str t] w (.bool (amongB ws t)) := by
  refine enter Tryz.func134 rfl Tryz.ntmps134 rfl (St.start w (look w) (Le.refl _)) ?_
  refine t_seq ?_
  refine t_region ?_
  refine l_q rfl rfl rfl (q_assign rfl rfl) ?_
  refine l_nil ?_
  refine n_then ?_
  refine t_seq ?_
  refine t_qreg ?_
  refine s_q rfl rfl rfl (q_move rfl rfl) ?_
  refine s_q rfl rfl rfl (q_neq_str rfl rfl rfl) ?_
  refine s_q rfl rfl rfl (q_move rfl rfl) ?_
  refine s_and2 3 2 7 11 10 _ _ rfl rfl rfl rfl rfl rfl (fun h11 => by
      try simp at h11
      refine s_g rfl rfl rfl rfl rfl rfl (q_move rfl rfl) ?_
      refine s_g rfl rfl rfl rfl rfl rfl (quiet_call rfl rfl rfl Tryz.func124 (by kernel_rfl) rfl ((fun w hw => contains_pure t [32] w (by omega) (hG.mono hw.le)))) ?_
      refine s_g rfl rfl rfl rfl rfl rfl (q_not rfl rfl) ?_
      exact s_val rfl
    ) (wanted_n rfl) rfl rfl rfl ?_
  refine s_q rfl rfl rfl (q_move rfl rfl) ?_
  refine s_and2 7 7 12 20 19 _ _ rfl rfl rfl rfl rfl rfl (fun h20 => by
      try simp at h20
      refine s_g rfl rfl rfl rfl rfl rfl (q_move rfl rfl) ?_
      refine s_g rfl rfl rfl rfl rfl rfl (q_cat rfl rfl rfl (by first | omega | (simp only [List.length_append, List.length_cons, List.length_nil, List.length_take, List.length_drop]; omega))) ?_
      refine s_g rfl rfl rfl rfl rfl rfl (q_cat rfl rfl rfl (by first | omega | (simp only [List.length_append, List.length_cons, List.length_nil, List.length_take, List.length_drop]; omega))) ?_
      refine s_g rfl rfl rfl rfl rfl rfl (q_move rfl rfl) ?_
      refine s_g rfl rfl rfl rfl rfl rfl (q_cat rfl rfl rfl (by first | omega | (simp only [List.length_append, List.length_cons, List.length_nil, List.length_take, List.length_drop]; omega))) ?_
      refine s_g rfl rfl rfl rfl rfl rfl (q_cat rfl rfl rfl (by first | omega | (simp only [List.length_append, List.length_cons, List.length_nil, List.length_take, List.length_drop]; omega))) ?_
      refine s_g rfl rfl rfl rfl rfl rfl (quiet_call rfl rfl rfl Tryz.func124 (by kernel_rfl) rfl ((fun w hw => contains_pure ([32] ++ ws ++ [32]) ([32] ++ t ++ [32]) w (by simp only [List.length_append, List.length_cons, List.length_nil]; omega) (hG.mono hw.le)))) ?_
      exact s_val rfl
    ) (wanted_n rfl) rfl rfl rfl ?_
  refine s_q rfl rfl rfl (q_assign rfl rfl) ?_
  refine s_done ?_
  refine n_then ?_
  refine t_ret ?_
  refine n_ret1 rfl rfl (fun w' hw => ?_)
  -- leaf 0
  exact ⟨rfl, hw.below⟩
set_option maxRecDepth 10000 in
theorem redirectedF_pure (b : Nat) (s : List UInt8) (p : PS) (lv : Value) (w : World) (hs : s.length ≤ 65536) (hf : Filled s p) (hp : OkP s p) (hG : EnvI (look w)) (hb : RowI (look w) b (prC s lv p.next)) (hsl : Sl (look w) 5 lv (p.line.map tokC)) : Pure Tryz.prog 165 [pAt b] w (.bool (redirB (headT s p))) := by
  refine enter Tryz.func165 rfl Tryz.ntmps165 rfl (St.start w (look w) (Le.refl _)) ?_
  refine t_seq ?_
  refine t_region ?_
  refine l_q rfl rfl rfl (q_assign rfl rfl) ?_
  refine l_nil ?_
  refine n_then ?_
  refine t_seq ?_
  refine t_region ?_
  refine l_q rfl rfl rfl (q_move rfl rfl) ?_
  refine l_q rfl rfl rfl (quiet_call rfl rfl rfl Tryz.func33 (by kernel_rfl) rfl ((fun w hw => nowF_pure b s p lv w hs hf hp (hb.mono hw.le) (hsl.mono hw.le)))) ?_
  refine l_e rfl rfl rfl (e_alloc rfl ti79 rfl) ?_
  rintro _ _ _ ⟨b3, rfl, rfl, rfl⟩
  refine l_e0 rfl rfl ((by first | exact e_store_all rfl ti79 rfl rfl rfl (by first | exact chC_ones _ | exact pcC_ones _ | exact tokC_ones _ | simp [Value.oneCell', str, u8]) rfl | exact e_store_agg rfl ti79 rfl rfl rfl (by first | exact chC_ones _ | exact pcC_ones _ | exact tokC_ones _ | simp [Value.oneCell', str, u8]) rfl)) ?_
  rintro _ _ _ ⟨rfl, rfl⟩
  refine l_heap (H' := row b3 79 (tokC (headT s p)) :: _) ?_ (fun _ h => h)
  refine l_nil ?_
  refine n_then ?_
  refine t_seq ?_
  refine t_qreg ?_
  refine s_q rfl rfl rfl (q_fieldAddr rfl Tryz.underlying79 rfl rfl ti3 rfl rfl) ?_
  refine s_q rfl rfl rfl (q_load_row rfl Tryz.underlying3 rfl rfl (by rfl)) ?_
  refine s_q rfl rfl rfl (q_eql rfl rfl rfl) ?_
  refine s_q rfl rfl rfl (q_move rfl rfl) ?_
  refine s_or2 8 3 9 18 17 _ _ rfl rfl rfl rfl rfl rfl (fun h18 => by
      try simp at h18
      refine s_g rfl rfl rfl rfl rfl rfl (q_fieldAddr rfl Tryz.underlying79 rfl rfl ti3 rfl rfl) ?_
      refine s_g rfl rfl rfl rfl rfl rfl (q_load_row rfl Tryz.underlying3 rfl rfl (by rfl)) ?_
      refine s_g rfl rfl rfl rfl rfl rfl (q_eql rfl rfl rfl) ?_
      refine s_g rfl rfl rfl rfl rfl rfl (q_move rfl rfl) ?_
      refine s_and2 3 7 13 17 16 _ _ rfl rfl rfl rfl rfl rfl (fun h17 => by
          try simp at h17
          refine s_g rfl rfl rfl rfl rfl rfl (q_fieldAddr rfl Tryz.underlying79 rfl rfl ti9 rfl rfl) ?_
          refine s_g rfl rfl rfl rfl rfl rfl (q_load_row rfl Tryz.underlying9 rfl rfl (by rfl)) ?_
          refine s_g rfl rfl rfl rfl rfl rfl (quiet_call rfl rfl rfl Tryz.func134 (by kernel_rfl) rfl ((fun w hw => among_pure redirectS (headT s p).text w (by decide) (by have := headT_len hp; omega) (hG.mono hw.le)))) ?_
          exact s_val rfl
        ) (wanted_g rfl rfl rfl rfl) rfl rfl rfl ?_
      exact s_val rfl
    ) (wanted_n rfl) rfl rfl rfl ?_
  refine s_q rfl rfl rfl (q_assign rfl rfl) ?_
  refine s_done ?_
  refine n_then ?_
  refine t_ret ?_
  refine n_ret1 rfl rfl (fun w' hw => ?_)
  -- leaf 0
  refine ⟨?_, hw.below⟩
  rw [← redirB_int]
set_option maxRecDepth 10000 in
theorem redirected_calls (b : Nat) (s : List UInt8) (hs : s.length ≤ 65536) : ParC 165 b s [] (nowP s) (AskV s redirB) 0 := by
  intro p lv I F w0 w R hR hp hw0
  have hL := Le.refl I
  obtain ⟨M, hM⟩ : ∃ M, M = muP s p := ⟨_, rfl⟩
  refine enter Tryz.func165 rfl Tryz.ntmps165 rfl (hw0.self) ?_
  refine t_seq ?_
  refine t_region ?_
  refine l_q rfl rfl rfl (q_assign rfl rfl) ?_
  refine l_nil ?_
  refine n_then ?_
  refine t_seq ?_
  refine t_region ?_
  refine l_q rfl rfl rfl (q_move rfl rfl) ?_
  refine l_eP rfl rfl rfl (eff_callP rfl rfl rfl Tryz.func33 (by kernel_rfl) rfl (fun w hw => now_calls b s hs p lv _ _ _ w _ rfl hp (picks_st1 (row b 53 (prC s lv p.next)) hw))) ?_ ?_
  · skip
    rintro _ Jx _ ⟨hJx, rfl, ax, ex, hbx, rfl⟩
    rw [hbx] at hR
    refine np_then (?_)
    exact np_body fun w hw => .inr ⟨_, rfl, Jx, _, ⟨hL.trans hJx, rfl, ax, ex, hR, rfl⟩, subC_st hw⟩
  rintro v5 J _ ⟨hJ, x5, p, lv, he5, hmu5, hp, ⟨rfl, hf, rfl⟩, rfl⟩
  have hL := hL.trans hJ
  rw [he5] at hR
  refine l_e rfl rfl rfl (e_alloc rfl ti79 rfl) ?_
  rintro _ _ _ ⟨b3, rfl, rfl, rfl⟩
  refine l_e0 rfl rfl ((by first | exact e_store_all rfl ti79 rfl rfl rfl (by first | exact chC_ones _ | exact pcC_ones _ | exact tokC_ones _ | simp [Value.oneCell', str, u8]) rfl | exact e_store_agg rfl ti79 rfl rfl rfl (by first | exact chC_ones _ | exact pcC_ones _ | exact tokC_ones _ | simp [Value.oneCell', str, u8]) rfl)) ?_
  rintro _ _ _ ⟨rfl, rfl⟩
  refine l_heap (H' := row b3 79 (tokC (headT s p)) :: _) ?_ (fun _ h => h)
  refine l_nil ?_
  refine n_then ?_
  refine t_seq ?_
  refine t_qreg ?_
  refine s_q rfl rfl rfl (q_fieldAddr rfl Tryz.underlying79 rfl rfl ti3 rfl rfl) ?_
  refine s_q rfl rfl rfl (q_load_row rfl Tryz.underlying3 rfl rfl (by rfl)) ?_
  refine s_q rfl rfl rfl (q_eql rfl rfl rfl) ?_
  refine s_q rfl rfl rfl (q_move rfl rfl) ?_
  refine s_or2 8 3 9 18 17 _ _ rfl rfl rfl rfl rfl rfl (fun h18 => by
      try simp at h18
      refine s_g rfl rfl rfl rfl rfl rfl (q_fieldAddr rfl Tryz.underlying79 rfl rfl ti3 rfl rfl) ?_
      refine s_g rfl rfl rfl rfl rfl rfl (q_load_row rfl Tryz.underlying3 rfl rfl (by rfl)) ?_
      refine s_g rfl rfl rfl rfl rfl rfl (q_eql rfl rfl rfl) ?_
      refine s_g rfl rfl rfl rfl rfl rfl (q_move rfl rfl) ?_
      refine s_and2 3 7 13 17 16 _ _ rfl rfl rfl rfl rfl rfl (fun h17 => by
          try simp at h17
          refine s_g rfl rfl rfl rfl rfl rfl (q_fieldAddr rfl Tryz.underlying79 rfl rfl ti9 rfl rfl) ?_
          refine s_g rfl rfl rfl rfl rfl rfl (q_load_row rfl Tryz.underlying9 rfl rfl (by rfl)) ?_
          refine s_g rfl rfl rfl rfl rfl rfl (quiet_call rfl rfl rfl Tryz.func134 (by kernel_rfl) rfl ((fun w hw => among_pure redirectS (headT s p).text w (by decide) (by have := headT_len hp.1; omega) ((hp.2.1).mono hw.le)))) ?_
          exact s_val rfl
        ) (wanted_g rfl rfl rfl rfl) rfl rfl rfl ?_
      exact s_val rfl
    ) (wanted_n rfl) rfl rfl rfl ?_
  refine s_q rfl rfl rfl (q_assign rfl rfl) ?_
  refine s_done ?_
  refine n_then ?_
  refine t_ret ?_
  refine n_ret1 rfl rfl (fun w' hw => ?_)
  -- leaf 0
  exact .inl ⟨_, rfl, J, _, ⟨hL, _, p, lv, hR, (by omega), hp, ⟨rfl, hf, congrArg Value.bool redirB_int⟩, rfl⟩, subC_st hw⟩
set_option maxRecDepth 10000 in
theorem beginsF_pure (b : Nat) (s : List UInt8) (p : PS) (lv : Value) (w : World) (hs : s.length ≤ 65536) (hf : Filled s p) (hp : OkP s p) (hG : EnvI (look w)) (hb : RowI (look w) b (prC s lv p.next)) (hsl : Sl (look w) 5 lv (p.line.map tokC)) : Pure Tryz.prog 182 [pAt b] w (.bool (beginB (headT s p))) := by
  refine enter Tryz.func182 rfl Tryz.ntmps182 rfl (St.start w (look w) (Le.refl _)) ?_
  refine t_seq ?_
  refine t_region ?_
  refine l_q rfl rfl rfl (q_assign rfl rfl) ?_
  refine l_nil ?_
  refine n_then ?_
  refine t_seq ?_
  refine t_region ?_
  refine l_q rfl rfl rfl (q_move rfl rfl) ?_
  refine l_q rfl rfl rfl (quiet_call rfl rfl rfl Tryz.func33 (by kernel_rfl) rfl ((fun w hw => nowF_pure b s p lv w hs hf hp (hb.mono hw.le) (hsl.mono hw.le)))) ?_
  refine l_e rfl rfl rfl (e_alloc rfl ti79 rfl) ?_
  rintro _ _ _ ⟨b3, rfl, rfl, rfl⟩
  refine l_e0 rfl rfl ((by first | exact e_store_all rfl ti79 rfl rfl rfl (by first | exact chC_ones _ | exact pcC_ones _ | exact tokC_ones _ | simp [Value.oneCell', str, u8]) rfl | exact e_store_agg rfl ti79 rfl rfl rfl (by first | exact chC_ones _ | exact pcC_ones _ | exact tokC_ones _ | simp [Value.oneCell', str, u8]) rfl)) ?_
  rintro _ _ _ ⟨rfl, rfl⟩
  refine l_heap (H' := row b3 79 (tokC (headT s p)) :: _) ?_ (fun _ h => h)
  refine l_nil ?_
  refine n_then ?_
  refine t_seq ?_
  refine t_qreg ?_
  refine s_q rfl rfl rfl (q_fieldAddr rfl Tryz.underlying79 rfl rfl ti3 rfl rfl) ?_
  refine s_q rfl rfl rfl (q_load_row rfl Tryz.underlying3 rfl rfl (by rfl)) ?_
  refine s_q rfl rfl rfl (q_eql rfl rfl rfl) ?_
  refine s_q rfl rfl rfl (q_move rfl rfl) ?_
  refine s_and2 4 3 9 14 13 _ _ rfl rfl rfl rfl rfl rfl (fun h14 => by
      try simp at h14
      refine s_g rfl rfl rfl rfl rfl rfl (q_fieldAddr rfl Tryz.underlying79 rfl rfl ti9 rfl rfl) ?_
      refine s_g rfl rfl rfl rfl rfl rfl (q_load_row rfl Tryz.underlying9 rfl rfl (by rfl)) ?_
      refine s_g rfl rfl rfl rfl rfl rfl (quiet_call rfl rfl rfl Tryz.func134 (by kernel_rfl) rfl ((fun w hw => among_pure closersS (headT s p).text w (by decide) (by have := headT_len hp; omega) (hG.mono hw.le)))) ?_
      refine s_g rfl rfl rfl rfl rfl rfl (q_not rfl rfl) ?_
      exact s_val rfl
    ) (wanted_n rfl) rfl rfl rfl ?_
  refine s_q rfl rfl rfl (q_move rfl rfl) ?_
  refine s_or2 2 9 15 18 17 _ _ rfl rfl rfl rfl rfl rfl (fun h18 => by
      try simp at h18
      refine s_g rfl rfl rfl rfl rfl rfl (q_move rfl rfl) ?_
      refine s_g rfl rfl rfl rfl rfl rfl (quiet_call rfl rfl rfl Tryz.func55 (by kernel_rfl) rfl ((fun w hw => opF_pure b s [40] p lv w hs hf hp (hb.mono hw.le) (hsl.mono hw.le)))) ?_
      exact s_val rfl
    ) (wanted_n rfl) rfl rfl rfl ?_
  refine s_q rfl rfl rfl (q_move rfl rfl) ?_
  refine s_or2 2 13 19 22 21 _ _ rfl rfl rfl rfl rfl rfl (fun h22 => by
      try simp at h22
      refine s_g rfl rfl rfl rfl rfl rfl (q_move rfl rfl) ?_
      refine s_g rfl rfl rfl rfl rfl rfl (quiet_call rfl rfl rfl Tryz.func165 (by kernel_rfl) rfl ((fun w hw => redirectedF_pure b s p lv w hs hf hp (hG.mono hw.le) (hb.mono hw.le) (hsl.mono hw.le)))) ?_
      exact s_val rfl
    ) (wanted_n rfl) rfl rfl rfl ?_
  refine s_q rfl rfl rfl (q_assign rfl rfl) ?_
  refine s_done ?_
  refine n_then ?_
  refine t_ret ?_
  refine n_ret1 rfl rfl (fun w' hw => ?_)
  -- leaf 0
  refine ⟨?_, hw.below⟩
  rw [← beginB_int]
set_option maxRecDepth 10000 in
theorem needOp_calls (b : Nat) (s : List UInt8) (hs : s.length ≤ 65536) (x : List UInt8) : ParC 159 b s [str x] (needP s (opB x)) UnitV 1 := by
  intro p lv I F w0 w R hR hp hw0
  have hL := Le.refl I
  obtain ⟨M, hM⟩ : ∃ M, M = muP s p := ⟨_, rfl⟩
  unfold needP at hR
  refine enter Tryz.func159 rfl Tryz.ntmps159 rfl (hw0.self) ?_
  refine t_seq ?_
  refine t_seq ?_
  refine t_region ?_
  refine l_q rfl rfl rfl (q_move rfl rfl) ?_
  refine l_q rfl rfl rfl (q_move rfl rfl) ?_
  refine l_eP rfl rfl rfl (eff_callP rfl rfl rfl Tryz.func55 (by kernel_rfl) rfl (fun w hw => op_calls b s hs x p lv _ _ _ w _ rfl hp (picks_st1 (row b 53 (prC s lv p.next)) hw))) ?_ ?_
  · skip
    rintro _ Jx _ ⟨hJx, rfl, ax, ex, hbx, rfl⟩
    rw [bnd_bad hbx] at hR
    refine np_then (np_then (?_))
    exact np_body fun w hw => .inr ⟨_, rfl, Jx, _, ⟨hL.trans hJx, rfl, ax, ex, hR, rfl⟩, subC_st hw⟩
  rintro v6 J _ ⟨hJ, x6, p, lv, he6, hmu6, hp, ⟨rfl, hf, rfl⟩, rfl⟩
  have hL := hL.trans hJ
  rw [bnd_ok he6] at hR
  refine l_q rfl rfl rfl (q_not rfl rfl) ?_
  refine l_nil ?_
  refine n_then ?_
  refine t_cond rfl (fun hc0 => ?_) (fun hc0 => ?_)
  · skip
    have hbx : ¬ opB x (headT s p) = true := by simpa using hc0
    rw [if_neg hbx] at hR
    refine t_region ?_
    refine l_q rfl rfl rfl (q_move rfl rfl) ?_
    refine l_eP rfl rfl rfl (eff_callP rfl rfl rfl Tryz.func35 (by kernel_rfl) rfl (fun w hw => badF_calls b s p lv hs _ _ _ w hf hp (picks_st1 (row b 53 (prC s lv p.next)) hw))) ?_ ?_
    · skip
      rintro _ Jx _ ⟨hJx, rfl, rfl⟩
      refine np_then (?_)
      exact np_body fun w hw => .inr ⟨_, rfl, Jx, _, ⟨hL.trans hJx, rfl, _, _, hR, rfl⟩, subC_st hw⟩
    rintro _ _ _ ⟨⟩
  · skip
    have hbx : opB x (headT s p) = true := by simpa using hc0
    rw [if_pos hbx] at hR
    refine t_skip ?_
    refine n_then ?_
    refine t_region ?_
    refine l_q rfl rfl rfl (q_move rfl rfl) ?_
    refine l_e rfl rfl rfl (eff_call rfl rfl rfl Tryz.func36 (by kernel_rfl) rfl (fun w hw => stepF_calls b s hs p lv _ _ _ w hf hp (picks_st1 (row b 53 (prC s lv p.next)) hw))) ?_
    rintro _ J _ ⟨hJ, rfl, p, lv, hst11, hma11, hmb11, hp, rfl⟩
    have hL := hL.trans hJ
    rw [← hst11] at hR
    have hmb := hmb11 (opB_kind hbx)
    refine l_nil ?_
    refine n_end0 rfl (fun w' hw => ?_)
    -- leaf 0
    exact .inl ⟨_, rfl, J, _, ⟨hL, _, p, lv, hR, (by omega), hp, rfl, rfl⟩, subC_st hw⟩
set_option maxRecDepth 10000 in
theorem needKey_calls (b : Nat) (s : List UInt8) (hs : s.length ≤ 65536) (x : List UInt8) : ParC 160 b s [str x] (needP s (keyB x)) UnitV 1 := by
  intro p lv I F w0 w R hR hp hw0
  have hL := Le.refl I
  obtain ⟨M, hM⟩ : ∃ M, M = muP s p := ⟨_, rfl⟩
  unfold needP at hR
  refine enter Tryz.func160 rfl Tryz.ntmps160 rfl (hw0.self) ?_
  refine t_seq ?_
  refine t_seq ?_
  refine t_region ?_
  refine l_q rfl rfl rfl (q_move rfl rfl) ?_
  refine l_q rfl rfl rfl (q_move rfl rfl) ?_
  refine l_eP rfl rfl rfl (eff_callP rfl rfl rfl Tryz.func108 (by kernel_rfl) rfl (fun w hw => key_calls b s hs x p lv _ _ _ w _ rfl hp (picks_st1 (row b 53 (prC s lv p.next)) hw))) ?_ ?_
  · skip
    rintro _ Jx _ ⟨hJx, rfl, ax, ex, hbx, rfl⟩
    rw [bnd_bad hbx] at hR
    refine np_then (np_then (?_))
    exact np_body fun w hw => .inr ⟨_, rfl, Jx, _, ⟨hL.trans hJx, rfl, ax, ex, hR, rfl⟩, subC_st hw⟩
  rintro v6 J _ ⟨hJ, x6, p, lv, he6, hmu6, hp, ⟨rfl, hf, rfl⟩, rfl⟩
  have hL := hL.trans hJ
  rw [bnd_ok he6] at hR
  refine l_q rfl rfl rfl (q_not rfl rfl) ?_
  refine l_nil ?_
  refine n_then ?_
  refine t_cond rfl (fun hc0 => ?_) (fun hc0 => ?_)
  · skip
    have hbx : ¬ keyB x (headT s p) = true := by simpa using hc0
    rw [if_neg hbx] at hR
    refine t_region ?_
    refine l_q rfl rfl rfl (q_move rfl rfl) ?_
    refine l_eP rfl rfl rfl (eff_callP rfl rfl rfl Tryz.func35 (by kernel_rfl) rfl (fun w hw => badF_calls b s p lv hs _ _ _ w hf hp (picks_st1 (row b 53 (prC s lv p.next)) hw))) ?_ ?_
    · skip
      rintro _ Jx _ ⟨hJx, rfl, rfl⟩
      refine np_then (?_)
      exact np_body fun w hw => .inr ⟨_, rfl, Jx, _, ⟨hL.trans hJx, rfl, _, _, hR, rfl⟩, subC_st hw⟩
    rintro _ _ _ ⟨⟩
  · skip
    have hbx : keyB x (headT s p) = true := by simpa using hc0
    rw [if_pos hbx] at hR
    refine t_skip ?_
    refine n_then ?_
    refine t_region ?_
    refine l_q rfl rfl rfl (q_move rfl rfl) ?_
    refine l_e rfl rfl rfl (eff_call rfl rfl rfl Tryz.func36 (by kernel_rfl) rfl (fun w hw => stepF_calls b s hs p lv _ _ _ w hf hp (picks_st1 (row b 53 (prC s lv p.next)) hw))) ?_
    rintro _ J _ ⟨hJ, rfl, p, lv, hst11, hma11, hmb11, hp, rfl⟩
    have hL := hL.trans hJ
    rw [← hst11] at hR
    have hmb := hmb11 (keyB_kind hbx)
    refine l_nil ?_
    refine n_end0 rfl (fun w' hw => ?_)
    -- leaf 0
    exact .inl ⟨_, rfl, J, _, ⟨hL, _, p, lv, hR, (by omega), hp, rfl, rfl⟩, subC_st hw⟩
set_option maxRecDepth 10000 in
theorem lines_calls (b : Nat) (s : List UInt8) (hs : s.length ≤ 65536) : ParC 32 b s [] (linesP s) (LinesV s) 0 := by
  intro p lv I F w0 w R hR hp hw0
  have hL := Le.refl I
  obtain ⟨M, hM⟩ : ∃ M, M = muP s p := ⟨_, rfl⟩
  unfold linesP at hR
  refine enter Tryz.func32 rfl Tryz.ntmps32 rfl (hw0.self) ?_
  refine t_block ?_
  refine t_loopE (ι := PS × Value × Look × Nat) (fun zz => Le I zz.2.2.1 ∧ PSt s zz.1 zz.2.1 zz.2.2.1 ∧ muP s zz.1 ≤ muP s p ∧ muP s zz.1 < zz.2.2.2 ∧ R = linesN s zz.2.2.2 zz.1) (fun zz => muP s zz.1) (fun zz => []) [(0, _)] (fun zz => zz.2.2.1) (fun zz => (row b 53 (prC s zz.2.1 zz.1.next) :: F)) (p, lv, I, muP s p + 1) ?_ (sub_nil) (sub_cons rfl sub_nil) (fun _ h => subC_st h) ?_
  · try dsimp only
    exact ⟨hL, hp, Nat.le_refl _, Nat.lt_succ_self _, hR⟩
  rintro ⟨p, lv, J, g⟩ ⟨hL, hp, hmu, hg, hR⟩
  try dsimp only at *
  refine t_seq ?_
  refine t_seq ?_
  refine t_region ?_
  refine l_q rfl rfl rfl (q_move rfl rfl) ?_
  obtain ⟨g, rfl⟩ : ∃ g', g = g' + 1 := ⟨g - 1, by omega⟩
  rw [linesN] at hR
  refine l_eP rfl rfl rfl (eff_callP rfl rfl rfl Tryz.func33 (by kernel_rfl) rfl (fun w hw => now_calls b s hs p lv _ _ _ w _ rfl hp (picks_st1 (row b 53 (prC s lv p.next)) hw))) ?_ ?_
  · skip
    rintro _ Jx _ ⟨hJx, rfl, ax, ex, hbx, rfl⟩
    rw [bnd_bad hbx] at hR
    refine np_then (np_then (np_then (np_block (?_))))
    exact np_body fun w hw => .inr ⟨_, rfl, Jx, _, ⟨hL.trans hJx, rfl, ax, ex, hR, rfl⟩, subC_st hw⟩
  rintro v3 J _ ⟨hJ, x3, p, lv, he3, hmu3, hp, ⟨rfl, hf, rfl⟩, rfl⟩
  have hL := hL.trans hJ
  rw [bnd_ok he3] at hR
  refine l_q rfl rfl rfl (q_field rfl Tryz.underlying79 rfl Tryz.underlying3 rfl rfl rfl) ?_
  refine l_q rfl rfl rfl (q_eql rfl rfl rfl) ?_
  refine l_nil ?_
  refine n_then ?_
  refine t_cond rfl (fun hc0 => ?_) (fun hc0 => ?_)
  · skip
    try simp at hc0
    have hk : (headT s p).kind = 3 := by omega
    rw [if_pos hk] at hR
    refine t_skip ?_
    refine n_then ?_
    refine t_block ?_
    refine t_region ?_
    refine l_q rfl rfl rfl (q_move rfl rfl) ?_
    refine l_e rfl rfl rfl (eff_call rfl rfl rfl Tryz.func36 (by kernel_rfl) rfl (fun w hw => stepF_calls b s hs p lv _ _ _ w hf hp (picks_st1 (row b 53 (prC s lv p.next)) hw))) ?_
    rintro _ J _ ⟨hJ, rfl, p, lv, hst7, hma7, hmb7, hp, rfl⟩
    have hL := hL.trans hJ
    rw [← hst7] at hR
    have hmb := hmb7 (by omega)
    refine l_nil ?_
    refine n_block ?_
    refine n_roundE ((p, lv, J, g)) ?_ ?_ (sub_nil) (sub_cons rfl sub_nil) (fun _ h => by try dsimp only; exact subC_st h)
    · try dsimp only
      exact ⟨hL, hp, by omega, by omega, hR⟩
    · try dsimp only
      omega
  · skip
    try simp at hc0
    have hk : ¬ (headT s p).kind = 3 := by omega
    rw [if_neg hk] at hR
    refine t_exit ?_
    refine n_exit_then ?_
    refine n_exit_then ?_
    refine n_exit_block ?_
    refine n_end0 rfl (fun w' hw => ?_)
    -- leaf 0
    exact .inl ⟨_, rfl, J, _, ⟨hL, _, p, lv, hR, (by omega), hp, ⟨rfl, hf, hk⟩, rfl⟩, subC_st hw⟩
set_option maxRecDepth 10000 in
theorem pword_calls (b : Nat) (s : List UInt8) (hs : s.length ≤ 65536) : ParC 167 b s [] (wordR s) (TextV s) 1 := by
  intro p lv I F w0 w R hR hp hw0
  have hL := Le.refl I
  obtain ⟨M, hM⟩ : ∃ M, M = muP s p := ⟨_, rfl⟩
  unfold wordR at hR
  refine enter Tryz.func167 rfl Tryz.ntmps167 rfl (hw0.self) ?_
  refine t_seq ?_
  refine t_region ?_
  refine l_q rfl rfl rfl (q_assign rfl rfl) ?_
  refine l_nil ?_
  refine n_then ?_
  refine t_seq ?_
  refine t_seq ?_
  refine t_region ?_
  refine l_q rfl rfl rfl (q_move rfl rfl) ?_
  refine l_eP rfl rfl rfl (eff_callP rfl rfl rfl Tryz.func33 (by kernel_rfl) rfl (fun w hw => now_calls b s hs p lv _ _ _ w _ rfl hp (picks_st1 (row b 53 (prC s lv p.next)) hw))) ?_ ?_
  · skip
    rintro _ Jx _ ⟨hJx, rfl, ax, ex, hbx, rfl⟩
    rw [bnd_bad hbx] at hR
    refine np_then (np_then (?_))
    exact np_body fun w hw => .inr ⟨_, rfl, Jx, _, ⟨hL.trans hJx, rfl, ax, ex, hR, rfl⟩, subC_st hw⟩
  rintro v4 J _ ⟨hJ, x4, p, lv, he4, hmu4, hp, ⟨rfl, hf, rfl⟩, rfl⟩
  have hL := hL.trans hJ
  rw [bnd_ok he4] at hR
  refine l_q rfl rfl rfl (q_field rfl Tryz.underlying79 rfl Tryz.underlying3 rfl rfl rfl) ?_
  refine l_q rfl rfl rfl (q_neq rfl rfl rfl) ?_
  refine l_nil ?_
  refine n_then ?_
  refine t_cond rfl (fun hc0 => ?_) (fun hc0 => ?_)
  · skip
    try simp at hc0
    have hk : ¬ (headT s p).kind = 1 := by omega
    rw [if_neg hk] at hR
    refine t_region ?_
    refine l_q rfl rfl rfl (q_move rfl rfl) ?_
    refine l_eP rfl rfl rfl (eff_callP rfl rfl rfl Tryz.func35 (by kernel_rfl) rfl (fun w hw => badF_calls b s p lv hs _ _ _ w hf hp (picks_st1 (row b 53 (prC s lv p.next)) hw))) ?_ ?_
    · skip
      rintro _ Jx _ ⟨hJx, rfl, rfl⟩
      refine np_then (?_)
      exact np_body fun w hw => .inr ⟨_, rfl, Jx, _, ⟨hL.trans hJx, rfl, _, _, hR, rfl⟩, subC_st hw⟩
    rintro _ _ _ ⟨⟩
  · skip
    try simp at hc0
    have hk : (headT s p).kind = 1 := by omega
    rw [if_pos hk] at hR
    have htl := headT_len hp.1
    refine t_skip ?_
    refine n_then ?_
    refine t_seq ?_
    refine t_region ?_
    refine l_q rfl rfl rfl (q_move rfl rfl) ?_
    refine l_e rfl rfl rfl (eff_call rfl rfl rfl Tryz.func36 (by kernel_rfl) rfl (fun w hw => stepF_calls b s hs p lv _ _ _ w hf hp (picks_st1 (row b 53 (prC s lv p.next)) hw))) ?_
    rintro _ J _ ⟨hJ, rfl, p, lv, hst10, hma10, hmb10, hp, rfl⟩
    skip
    have hL := hL.trans hJ
    rw [← hst10] at hR
    have hmb := hmb10 (by omega)
    refine l_q rfl rfl rfl (q_field rfl Tryz.underlying79 rfl Tryz.underlying9 rfl rfl rfl) ?_
    refine l_q rfl rfl rfl (q_assign rfl rfl) ?_
    refine l_nil ?_
    refine n_then ?_
    refine t_ret ?_
    refine n_ret1 rfl rfl (fun w' hw => ?_)
    -- leaf 0
    exact .inl ⟨_, rfl, J, _, ⟨hL, _, p, lv, hR, (by omega), hp, ⟨rfl, htl⟩, rfl⟩, subC_st hw⟩
end Go.Tri

/-
  The parser: redirections.
-/
namespace Go.Tri
open Go.Proofs Go.RowKit
def rd0 : Rdr := ⟨0, [], [], [], false⟩
theorem numOk_t {t : List UInt8} (h : (!(numB t).isSome || decide (9 < (numB t).getD 0)) = true) : ¬ numOk t = true := by
  unfold numOk
  cases hn : numB t with
  | none => simp
  | some v => rw [hn] at h; simp at h ⊢; omega
theorem numOk_f {t : List UInt8} (h : (!(numB t).isSome || decide (9 < (numB t).getD 0)) = false) : numOk t = true := by
  unfold numOk
  cases hn : numB t with
  | none => rw [hn] at h; cases h
  | some v => rw [hn] at h; simp at h ⊢; omega
set_option maxRecDepth 10000 in
theorem redir_calls (b : Nat) (s : List UInt8) (hs : s.length ≤ 65536) : ParC 166 b s [] (redirR s) RdrV 1 := by
  intro p lv I F w0 w R hR hp hw0
  have hL := Le.refl I
  obtain ⟨M, hM⟩ : ∃ M, M = muP s p := ⟨_, rfl⟩
  unfold redirR at hR
  refine enter Tryz.func166 rfl Tryz.ntmps166 rfl (hw0.self) ?_
  refine t_seq ?_
  refine t_region ?_
  refine l_e rfl rfl rfl (e_alloc rfl ti59 rfl) ?_
  rintro _ _ _ ⟨b2, rfl, rfl, rfl⟩
  refine l_heap (H' := row b2 59 (rdCell rd0) :: _) ?_ (fun _ h => h)
  refine l_nil ?_
  refine n_then ?_
  refine t_seq ?_
  refine t_region ?_
  refine l_q rfl rfl rfl (q_build (pl := [(_, _), (_, _), (_, _), (_, _), (_, _)]) (cs := (rdCell ⟨-1, [], [], [], false⟩).toArray) rfl Tryz.underlying59 ti59 ⟨rfl, ⟨_, _, ti3⟩, rfl, ⟨_, _, ti9⟩, rfl, ⟨_, _, ti9⟩, rfl, ⟨_, _, ti9⟩, rfl, ⟨_, _, ti4⟩, trivial⟩ rfl rfl) ?_
  refine l_e rfl rfl rfl (e_alloc rfl ti59 rfl) ?_
  rintro _ _ _ ⟨b3, rfl, rfl, rfl⟩
  refine l_e0 rfl rfl ((by first | exact e_store_all rfl ti59 rfl rfl rfl (by first | exact chC_ones _ | exact pcC_ones _ | exact tokC_ones _ | exact rdCell_ones _ | simp [Value.oneCell', str, u8]) rfl | exact e_store_agg rfl ti59 rfl rfl rfl (by first | exact chC_ones _ | exact pcC_ones _ | exact tokC_ones _ | exact rdCell_ones _ | simp [Value.oneCell', str, u8]) rfl)) ?_
  rintro _ _ _ ⟨rfl, rfl⟩
  refine l_heap (H' := row b3 59 (rdCell ⟨-1, [], [], [], false⟩) :: _) ?_ (fun _ h => h)
  refine l_nil ?_
  refine n_then ?_
  refine t_cutE (ι := PS × Value × Look × Int) (fun zz => Le I zz.2.2.1 ∧ PSt s zz.1 zz.2.1 zz.2.2.1 ∧ muP s zz.1 ≤ muP s p ∧ R = redirT s zz.2.2.2 zz.1) (fun zz => []) [(0, _), (2, _), (3, _)] (fun zz => zz.2.2.1) (fun zz => (row b2 59 (rdCell rd0) :: row b3 59 (rdCell ⟨zz.2.2.2, [], [], [], false⟩) :: row b 53 (prC s zz.2.1 zz.1.next) :: F)) (sub_cons rfl (sub_cons rfl (sub_cons rfl sub_nil))) ?_ ?_
  · skip
    refine t_seq ?_
    refine t_region ?_
    refine l_q rfl rfl rfl (q_move rfl rfl) ?_
    refine l_eP rfl rfl rfl (eff_callP rfl rfl rfl Tryz.func33 (by kernel_rfl) rfl (fun w hw => now_calls b s hs p lv _ _ _ w _ rfl hp (picks_st1 (row b 53 (prC s lv p.next)) hw))) ?_ ?_
    · skip
      rintro _ Jx _ ⟨hJx, rfl, ax, ex, hbx, rfl⟩
      rw [bnd_bad hbx] at hR
      refine np_then (np_then (?_))
      exact np_body fun w hw => .inr ⟨_, rfl, Jx, _, ⟨hL.trans hJx, rfl, ax, ex, hR, rfl⟩, subC_st hw⟩
    rintro v10 J _ ⟨hJ, x10, p, lv, he10, hmu10, hp, ⟨rfl, hf, rfl⟩, rfl⟩
    have hL := hL.trans hJ
    rw [bnd_ok he10] at hR
    refine l_e rfl rfl rfl (e_alloc rfl ti79 rfl) ?_
    rintro _ _ _ ⟨b4, rfl, rfl, rfl⟩
    refine l_e0 rfl rfl ((by first | exact e_store_all rfl ti79 rfl rfl rfl (by first | exact chC_ones _ | exact pcC_ones _ | exact tokC_ones _ | exact rdCell_ones _ | simp [Value.oneCell', str, u8]) rfl | exact e_store_agg rfl ti79 rfl rfl rfl (by first | exact chC_ones _ | exact pcC_ones _ | exact tokC_ones _ | exact rdCell_ones _ | simp [Value.oneCell', str, u8]) rfl)) ?_
    rintro _ _ _ ⟨rfl, rfl⟩
    refine l_heap (H' := row b4 79 (tokC (headT s p)) :: _) ?_ (fun _ h => h)
    refine l_nil ?_
    refine n_then ?_
    refine t_seq ?_
    refine t_region ?_
    refine l_q rfl rfl rfl (q_fieldAddr rfl Tryz.underlying79 rfl rfl ti3 rfl rfl) ?_
    refine l_q rfl rfl rfl (q_load_row rfl Tryz.underlying3 rfl rfl (by rfl)) ?_
    refine l_q rfl rfl rfl (q_eql rfl rfl rfl) ?_
    refine l_nil ?_
    refine n_then ?_
    refine t_cond rfl (fun hc0 => ?_) (fun hc0 => ?_)
    · skip
      try simp at hc0
      have hk : (headT s p).kind = 4 := by omega
      rw [if_pos hk] at hR
      obtain ⟨fdx, hfdx⟩ : ∃ z, numV (headT s p).text = z := ⟨_, rfl⟩
      rw [hfdx] at hR
      refine t_seq ?_
      refine t_region ?_
      refine l_q rfl rfl rfl (q_fieldAddr rfl Tryz.underlying79 rfl rfl ti9 rfl rfl) ?_
      refine l_q rfl rfl rfl (q_load_row rfl Tryz.underlying9 rfl rfl (by rfl)) ?_
      refine l_q rfl rfl rfl (quiet_call rfl rfl rfl Tryz.func186 (by kernel_rfl) rfl ((fun w hw => number_pure (headT s p).text w (by have := headT_len hp.1; omega) (hp.2.1.mono hw.le).gw))) ?_
      refine l_q rfl rfl rfl (q_move rfl rfl) ?_
      refine l_q rfl rfl rfl (q_extract rfl rfl rfl) ?_
      refine l_q rfl rfl rfl (q_extract rfl rfl rfl) ?_
      refine l_q rfl rfl rfl (q_assign rfl rfl) ?_
      refine l_q rfl rfl rfl (q_assign rfl rfl) ?_
      refine l_nil ?_
      refine n_then ?_
      refine t_seq ?_
      refine t_seq ?_
      refine t_qreg ?_
      refine s_q rfl rfl rfl (q_move rfl rfl) ?_
      refine s_q rfl rfl rfl (q_not rfl rfl) ?_
      refine s_q rfl rfl rfl (q_move rfl rfl) ?_
      refine s_or2 2 2 22 25 24 _ _ rfl rfl rfl rfl rfl rfl (fun h25 => by
          try simp at h25
          refine s_g rfl rfl rfl rfl rfl rfl (q_move rfl rfl) ?_
          refine s_g rfl rfl rfl rfl rfl rfl (q_gtr rfl rfl rfl) ?_
          exact s_val rfl
        ) (wanted_n rfl) rfl rfl rfl ?_
      refine s_done ?_
      refine n_then ?_
      refine t_cond rfl (fun hc1 => ?_) (fun hc1 => ?_)
      · skip
        have hn : ¬ numOk (headT s p).text = true := numOk_t hc1
        rw [if_neg hn] at hR
        skip
        refine t_region ?_
        refine l_q rfl rfl rfl (q_move rfl rfl) ?_
        refine l_eP rfl rfl rfl (eff_callP rfl rfl rfl Tryz.func35 (by kernel_rfl) rfl (fun w hw => badF_calls b s p lv hs _ _ _ w hf hp (picks_st1 (row b 53 (prC s lv p.next)) hw))) ?_ ?_
        · skip
          rintro _ Jx _ ⟨hJx, rfl, rfl⟩
          refine np_then (np_then (?_))
          exact np_body fun w hw => .inr ⟨_, rfl, Jx, _, ⟨hL.trans hJx, rfl, _, _, hR, rfl⟩, subC_st hw⟩
        rintro _ _ _ ⟨⟩
      · skip
        have hn : numOk (headT s p).text = true := numOk_f hc1
        rw [if_pos hn] at hR
        refine t_skip ?_
        refine n_then ?_
        refine t_seq ?_
        refine t_region ?_
        refine l_q rfl rfl rfl (q_move rfl rfl) ?_
        refine l_q rfl rfl rfl (q_fieldAddr rfl Tryz.underlying59 rfl rfl ti3 rfl rfl) ?_
        refine l_e0 rfl rfl (e_storeS rfl ti3 rfl rfl (by first | exact ⟨rfl, rfl⟩ | assumption) rfl (by first | (simp only [List.set_cons_succ, List.set_cons_zero]; rfl) | rfl)) ?_
        rintro _ _ _ ⟨rfl, rfl⟩
        refine l_heap (H' := row b3 59 (rdCell ⟨fdx, [], [], [], false⟩) :: _) ?_ (fun _ h => by rw [← hfdx]; exact h)
        refine l_nil ?_
        refine n_then ?_
        refine t_seq ?_
        refine t_region ?_
        refine l_q rfl rfl rfl (q_move rfl rfl) ?_
        refine l_e rfl rfl rfl (eff_call rfl rfl rfl Tryz.func36 (by kernel_rfl) rfl (fun w hw => stepF_calls b s hs p lv _ _ _ w hf hp (picks_st1 (row b 53 (prC s lv p.next)) hw))) ?_
        rintro _ J _ ⟨hJ, rfl, p, lv, hst31, hma31, hmb31, hp, rfl⟩
        have hL := hL.trans hJ
        rw [← hst31] at hR
        have hmb := hmb31 (by omega)
        refine l_nil ?_
        refine n_then ?_
        refine t_seq ?_
        refine t_region ?_
        refine l_q rfl rfl rfl (q_move rfl rfl) ?_
        refine l_eP rfl rfl rfl (eff_callP rfl rfl rfl Tryz.func33 (by kernel_rfl) rfl (fun w hw => now_calls b s hs p lv _ _ _ w _ rfl hp (picks_st1 (row b 53 (prC s lv p.next)) hw))) ?_ ?_
        · skip
          rintro _ Jx _ ⟨hJx, rfl, ax, ex, hbx, rfl⟩
          rw [bnd_bad hbx] at hR
          refine np_then (np_then (?_))
          exact np_body fun w hw => .inr ⟨_, rfl, Jx, _, ⟨hL.trans hJx, rfl, ax, ex, hR, rfl⟩, subC_st hw⟩
        rintro v33 J _ ⟨hJ, x33, p, lv, he33, hmu33, hp, ⟨rfl, hf, rfl⟩, rfl⟩
        have hL := hL.trans hJ
        rw [bnd_ok he33] at hR
        refine l_quietHead 7 ?_
        refine s_q rfl rfl rfl (q_field rfl Tryz.underlying79 rfl Tryz.underlying3 rfl rfl rfl) ?_
        refine s_q rfl rfl rfl (q_neq rfl rfl rfl) ?_
        refine s_q rfl rfl rfl (q_move rfl rfl) ?_
        refine s_or2 3 4 36 40 39 _ _ rfl rfl rfl rfl rfl rfl (fun h40 => by
            try simp at h40
            refine s_g rfl rfl rfl rfl rfl rfl (q_move rfl rfl) ?_
            refine s_g rfl rfl rfl rfl rfl rfl (quiet_call rfl rfl rfl Tryz.func165 (by kernel_rfl) rfl ((fun w hw => redirectedF_pure b s p lv w hs hf hp.1 (hp.2.1.mono hw.le) (rowI_of hw) (hp.2.2.mono hw.le)))) ?_
            refine s_g rfl rfl rfl rfl rfl rfl (q_not rfl rfl) ?_
            exact s_val rfl
          ) (wanted_n rfl) rfl rfl rfl ?_
        refine s_list ?_
        refine l_nil ?_
        refine n_then ?_
        refine t_cond rfl (fun hc2 => ?_) (fun hc2 => ?_)
        · skip
          have hk2 : ¬ ((headT s p).kind = 2 ∧ redirB (headT s p) = true) := fun ⟨h1, h2⟩ => by
            have h := hc2
            rw [h2, show decide (((headT s p).kind : Int) ≠ 2) = false from decide_eq_false (by omega)] at h
            cases h
          rw [if_neg hk2] at hR
          refine t_region ?_
          refine l_q rfl rfl rfl (q_move rfl rfl) ?_
          refine l_eP rfl rfl rfl (eff_callP rfl rfl rfl Tryz.func35 (by kernel_rfl) rfl (fun w hw => badF_calls b s p lv hs _ _ _ w hf hp (picks_st1 (row b 53 (prC s lv p.next)) hw))) ?_ ?_
          · skip
            rintro _ Jx _ ⟨hJx, rfl, rfl⟩
            refine np_then (?_)
            exact np_body fun w hw => .inr ⟨_, rfl, Jx, _, ⟨hL.trans hJx, rfl, _, _, hR, rfl⟩, subC_st hw⟩
          rintro _ _ _ ⟨⟩
        · skip
          have hk2 : ((headT s p).kind = 2 ∧ redirB (headT s p) = true) := by
            have h := hc2
            rw [Bool.or_eq_false_iff, decide_eq_false_iff_not, Bool.not_eq_false'] at h
            exact ⟨by omega, h.2⟩
          rw [if_pos hk2] at hR
          refine t_skip ?_
          refine n_cut ((p, lv, J, fdx)) ?_ (sub_nil) (sub_cons rfl (sub_cons rfl (sub_cons rfl sub_nil))) (fun _ h => by try dsimp only; exact subC_st h)
          · try dsimp only
            exact ⟨hL, hp, by omega, hR⟩
    · skip
      try simp at hc0
      have hk : ¬ (headT s p).kind = 4 := by omega
      rw [if_neg hk] at hR
      refine t_skip ?_
      refine n_cut ((p, lv, J, -1)) ?_ (sub_nil) (sub_cons rfl (sub_cons rfl (sub_cons rfl sub_nil))) (fun _ h => by try dsimp only; exact subC_st h)
      · try dsimp only
        exact ⟨hL, hp, by omega, hR⟩
  rintro ⟨p, lv, J, fd⟩ ⟨hL, hp, hmu, hR⟩
  try dsimp only at *
  unfold redirT at hR
  refine t_seq ?_
  refine t_region ?_
  refine l_q rfl rfl rfl (q_move rfl rfl) ?_
  refine l_eP rfl rfl rfl (eff_callP rfl rfl rfl Tryz.func36 (by kernel_rfl) rfl (fun w hw => step_calls b s hs p lv _ _ _ w _ rfl hp (picks_st1 (row b 53 (prC s lv p.next)) hw))) ?_ ?_
  · skip
    rintro _ Jx _ ⟨hJx, rfl, ax, ex, hbx, rfl⟩
    rw [bnd_bad hbx] at hR
    refine np_then (?_)
    exact np_body fun w hw => .inr ⟨_, rfl, Jx, _, ⟨hL.trans hJx, rfl, ax, ex, hR, rfl⟩, subC_st hw⟩
  rintro v44 J _ ⟨hJ, x44, p, lv, he44, hmu44, hp, rfl, rfl⟩
  have hL := hL.trans hJ
  rw [bnd_ok he44] at hR
  refine l_q rfl rfl rfl (q_field rfl Tryz.underlying79 rfl Tryz.underlying9 rfl rfl rfl) ?_
  refine l_q rfl rfl rfl (q_fieldAddr rfl Tryz.underlying59 rfl rfl ti9 rfl rfl) ?_
  refine l_e0 rfl rfl (e_storeS rfl ti9 rfl rfl (by first | exact ⟨rfl, rfl⟩ | assumption) rfl (by first | (simp only [List.set_cons_succ, List.set_cons_zero]; rfl) | rfl)) ?_
  rintro _ _ _ ⟨rfl, rfl⟩
  refine l_heap (H' := row b3 59 (rdCell ⟨fd, x44.text, [], [], false⟩) :: _) ?_ (fun _ h => h)
  refine l_nil ?_
  refine n_then ?_
  refine t_seq ?_
  refine t_region ?_
  refine l_q rfl rfl rfl (q_move rfl rfl) ?_
  refine l_eP rfl rfl rfl (eff_callP rfl rfl rfl Tryz.func33 (by kernel_rfl) rfl (fun w hw => now_calls b s hs p lv _ _ _ w _ rfl hp (picks_st1 (row b 53 (prC s lv p.next)) hw))) ?_ ?_
  · skip
    rintro _ Jx _ ⟨hJx, rfl, ax, ex, hbx, rfl⟩
    rw [bnd_bad hbx] at hR
    refine np_then (?_)
    exact np_body fun w hw => .inr ⟨_, rfl, Jx, _, ⟨hL.trans hJx, rfl, ax, ex, hR, rfl⟩, subC_st hw⟩
  rintro v48 J _ ⟨hJ, x48, p, lv, he48, hmu48, hp, ⟨rfl, hf, rfl⟩, rfl⟩
  have hL := hL.trans hJ
  rw [bnd_ok he48] at hR
  obtain ⟨tt, htt⟩ : ∃ tt, headT s p = tt := ⟨_, rfl⟩
  rw [htt] at hR
  refine l_e rfl rfl rfl (e_alloc rfl ti79 rfl) ?_
  rintro _ _ _ ⟨b7, rfl, rfl, rfl⟩
  refine l_e0 rfl rfl ((by first | exact e_store_all rfl ti79 rfl rfl rfl (by first | exact chC_ones _ | exact pcC_ones _ | exact tokC_ones _ | exact rdCell_ones _ | simp [Value.oneCell', str, u8]) rfl | exact e_store_agg rfl ti79 rfl rfl rfl (by first | exact chC_ones _ | exact pcC_ones _ | exact tokC_ones _ | exact rdCell_ones _ | simp [Value.oneCell', str, u8]) rfl)) ?_
  rintro _ _ _ ⟨rfl, rfl⟩
  refine l_heap (H' := row b7 79 (tokC tt) :: _) ?_ (fun _ h => by rw [← htt]; exact h)
  refine l_nil ?_
  refine n_then ?_
  refine t_seq ?_
  refine t_seq ?_
  refine t_region ?_
  refine l_q rfl rfl rfl (q_fieldAddr rfl Tryz.underlying79 rfl rfl ti3 rfl rfl) ?_
  refine l_q rfl rfl rfl (q_load_row rfl Tryz.underlying3 rfl rfl (by rfl)) ?_
  refine l_q rfl rfl rfl (q_neq rfl rfl rfl) ?_
  refine l_nil ?_
  refine n_then ?_
  refine t_cond rfl (fun hc3 => ?_) (fun hc3 => ?_)
  · skip
    try simp at hc3
    have hk3 : ¬ tt.kind = 1 := by omega
    rw [if_neg hk3] at hR
    rw [← htt] at hR
    refine t_region ?_
    refine l_q rfl rfl rfl (q_move rfl rfl) ?_
    refine l_eP rfl rfl rfl (eff_callP rfl rfl rfl Tryz.func35 (by kernel_rfl) rfl (fun w hw => badF_calls b s p lv hs _ _ _ w hf hp (picks_st1 (row b 53 (prC s lv p.next)) hw))) ?_ ?_
    · skip
      rintro _ Jx _ ⟨hJx, rfl, rfl⟩
      refine np_then (?_)
      exact np_body fun w hw => .inr ⟨_, rfl, Jx, _, ⟨hL.trans hJx, rfl, _, _, hR, rfl⟩, subC_st hw⟩
    rintro _ _ _ ⟨⟩
  · skip
    try simp at hc3
    have hk3 : tt.kind = 1 := by omega
    rw [if_pos hk3] at hR
    refine t_skip ?_
    refine n_then ?_
    refine t_seq ?_
    refine t_region ?_
    refine l_q rfl rfl rfl (q_move rfl rfl) ?_
    refine l_e rfl rfl rfl (eff_call rfl rfl rfl Tryz.func36 (by kernel_rfl) rfl (fun w hw => stepF_calls b s hs p lv _ _ _ w hf hp (picks_st1 (row b 53 (prC s lv p.next)) hw))) ?_
    rintro _ J _ ⟨hJ, rfl, p, lv, hst55, hma55, hmb55, hp, rfl⟩
    have hL := hL.trans hJ
    rw [← hst55] at hR
    have hmb := hmb55 (by rw [htt]; omega)
    refine l_nil ?_
    refine n_then ?_
    refine t_seq ?_
    refine t_seq ?_
    refine t_region ?_
    refine l_q rfl rfl rfl (q_fieldAddr rfl Tryz.underlying59 rfl rfl ti9 rfl rfl) ?_
    refine l_q rfl rfl rfl (q_load_row rfl Tryz.underlying9 rfl rfl (by rfl)) ?_
    refine l_q rfl rfl rfl (quiet_call rfl rfl rfl Tryz.func79 (by kernel_rfl) rfl ((fun w _ => hasPrefix_pure x44.text [60, 60] w))) ?_
    refine l_nil ?_
    refine n_then ?_
    refine t_cond rfl (fun hc4 => ?_) (fun hc4 => ?_)
    · skip
      have h4 : stB x44.text [60, 60] = true := hc4
      rw [if_pos h4] at hR
      refine t_draw [5, 7, 9] [] [row b7 79 (tokC tt)] mo (by kernel_rfl) (fun _ _ _ _ _ h => h) ?_
      refine r_qf 0 (by kernel_rfl) rfl rfl rfl rfl (fun _ => q_fieldAddr rfl Tryz.underlying79 rfl rfl ti9 rfl rfl) ?_
      refine r_q0 1 (by kernel_rfl) rfl (Le.refl _) rfl rfl rfl (fun _ hI => q_load_row rfl Tryz.underlying9 rfl rfl (by rfl)) ?_
      refine r_qf 2 (by kernel_rfl) rfl rfl rfl rfl (fun _ => q_fieldAddr rfl Tryz.underlying79 rfl rfl ti4 rfl rfl) ?_
      refine r_q0 3 (by kernel_rfl) rfl (Le.refl _) rfl rfl rfl (fun _ hI => q_load_row rfl Tryz.underlying4 rfl rfl (by rfl)) ?_
      refine r_qf 4 (by kernel_rfl) rfl rfl rfl rfl (fun _ => q_fieldAddr rfl Tryz.underlying59 rfl rfl ti9 rfl rfl) ?_
      refine r_e0 5 (by kernel_rfl) (by kernel_rfl) rfl (Le.refl _) rfl rfl (e_storeS rfl ti9 rfl rfl (by first | exact ⟨rfl, rfl⟩ | assumption) rfl (by first | (simp only [List.set_cons_succ, List.set_cons_zero]; rfl) | rfl)) ?_
      rintro _ _ _ ⟨rfl, rfl⟩
      refine ⟨Le.refl _, .inr SubC.sub, ?_⟩
      refine r_qf 6 (by kernel_rfl) rfl rfl rfl rfl (fun _ => q_fieldAddr rfl Tryz.underlying59 rfl rfl ti9 rfl rfl) ?_
      refine r_e0 7 (by kernel_rfl) (by kernel_rfl) rfl (Le.refl _) rfl rfl (e_storeS rfl ti9 rfl rfl (by first | exact ⟨rfl, rfl⟩ | assumption) rfl (by first | (simp only [List.set_cons_succ, List.set_cons_zero]; rfl) | rfl)) ?_
      rintro _ _ _ ⟨rfl, rfl⟩
      refine ⟨Le.refl _, .inr SubC.sub, ?_⟩
      refine r_qf 8 (by kernel_rfl) rfl rfl rfl rfl (fun _ => q_fieldAddr rfl Tryz.underlying59 rfl rfl ti4 rfl rfl) ?_
      refine r_e0 9 (by kernel_rfl) (by kernel_rfl) rfl (Le.refl _) rfl rfl (e_storeS rfl ti4 rfl rfl (by first | exact ⟨rfl, rfl⟩ | assumption) rfl (by first | (simp only [List.set_cons_succ, List.set_cons_zero]; rfl) | rfl)) ?_
      rintro _ _ _ ⟨rfl, rfl⟩
      refine ⟨Le.refl _, .inr SubC.sub, ?_⟩
      refine r_heap (H' := row b3 59 (rdCell ⟨fd, [60, 60], [], tt.doc, tt.raw⟩) :: _) ?_ (fun _ h => h)
      refine r_end (by kernel_rfl) ?_
      refine n_then ?_
      refine t_seq ?_
      refine t_region ?_
      refine l_q rfl rfl rfl (q_load_rowA rfl Tryz.underlying59 ti59 rfl rfl rfl) ?_
      refine l_e0 rfl rfl ((by first | exact e_store_all rfl ti59 rfl rfl rfl (by first | exact chC_ones _ | exact pcC_ones _ | exact tokC_ones _ | exact rdCell_ones _ | simp [Value.oneCell', str, u8]) rfl | exact e_store_agg rfl ti59 rfl rfl rfl (by first | exact chC_ones _ | exact pcC_ones _ | exact tokC_ones _ | exact rdCell_ones _ | simp [Value.oneCell', str, u8]) rfl)) ?_
      rintro _ _ _ ⟨rfl, rfl⟩
      refine l_nil ?_
      refine n_then ?_
      refine t_ret ?_
      refine n_retGG (.inl rfl) rfl (by exact rg_row rfl Tryz.underlying59 ti59 rfl rfl (rg_nil)) (fun w' hw => ?_)
      -- leaf 0
      exact .inl ⟨_, rfl, J, _, ⟨hL, _, p, lv, hR, (by omega), hp, rfl, rfl⟩, subC_st hw⟩
    · skip
      have h4 : stB x44.text [60, 60] = false := hc4
      rw [if_neg (by rw [h4]; simp)] at hR
      refine t_region ?_
      refine l_q rfl rfl rfl (q_fieldAddr rfl Tryz.underlying79 rfl rfl ti9 rfl rfl) ?_
      refine l_q rfl rfl rfl (q_load_row rfl Tryz.underlying9 rfl rfl (by rfl)) ?_
      refine l_q rfl rfl rfl (q_fieldAddr rfl Tryz.underlying59 rfl rfl ti9 rfl rfl) ?_
      refine l_e0 rfl rfl (e_storeS rfl ti9 rfl rfl (by first | exact ⟨rfl, rfl⟩ | assumption) rfl (by first | (simp only [List.set_cons_succ, List.set_cons_zero]; rfl) | rfl)) ?_
      rintro _ _ _ ⟨rfl, rfl⟩
      refine l_heap (H' := row b3 59 (rdCell ⟨fd, x44.text, tt.text, [], false⟩) :: _) ?_ (fun _ h => h)
      refine l_nil ?_
      refine n_then ?_
      refine t_seq ?_
      refine t_region ?_
      refine l_q rfl rfl rfl (q_load_rowA rfl Tryz.underlying59 ti59 rfl rfl rfl) ?_
      refine l_e0 rfl rfl ((by first | exact e_store_all rfl ti59 rfl rfl rfl (by first | exact chC_ones _ | exact pcC_ones _ | exact tokC_ones _ | exact rdCell_ones _ | simp [Value.oneCell', str, u8]) rfl | exact e_store_agg rfl ti59 rfl rfl rfl (by first | exact chC_ones _ | exact pcC_ones _ | exact tokC_ones _ | exact rdCell_ones _ | simp [Value.oneCell', str, u8]) rfl)) ?_
      rintro _ _ _ ⟨rfl, rfl⟩
      refine l_nil ?_
      refine n_then ?_
      refine t_ret ?_
      refine n_retGG (.inl rfl) rfl (by exact rg_row rfl Tryz.underlying59 ti59 rfl rfl (rg_nil)) (fun w' hw => ?_)
      -- leaf 1
      exact .inl ⟨_, rfl, J, _, ⟨hL, _, p, lv, hR, (by omega), hp, rfl, rfl⟩, subC_st hw⟩
end Go.Tri

/-
  The parser: things read one behind the other.
-/
namespace Go.Tri
open Go.Proofs Go.RowKit
def RdrsV : Look → PS → List Rdr → Value → Prop := fun I _ l v => Sl I 5 v (l.map rdCell)
def TextsV : Look → PS → List (List UInt8) → Value → Prop := fun I _ l v => Sl I 1 v (l.map stC)
def boundV (f : FuncId) (b : Nat) : Value := .func (.func f) #[pAt b] #[]
theorem many_step {α : Type} {s : List UInt8} {bt : Tok → Bool} {m : PS → ReR α} {g : Nat} {l : List α} {p q : PS} {R : ReR (List α)} (h : R = manyN s bt m (g + 1) l p) (hn : nowP s p = .ok (headT s q) q) : (bt (headT s q) = true → R = bnd m (fun x r => manyN s bt m g (l ++ [x]) r) q) ∧ (bt (headT s q) = false → R = .ok l q) := by
  rw [manyN, bnd_ok hn] at h
  exact ⟨fun h1 => by rw [h, if_pos h1], fun h1 => by rw [h, if_neg (by rw [h1]; simp)]⟩
theorem many_bad {α : Type} {s : List UInt8} {bt : Tok → Bool} {m : PS → ReR α} {g : Nat} {l : List α} {p : PS} {R : ReR (List α)} {a e : Nat} (h : R = manyN s bt m (g + 1) l p) (hn : nowP s p = .bad a e) : R = .bad a e := by
  rw [h, manyN, bnd_bad hn]
def listC (v : Value) : NC := ⟨5, false, false, [], nilS', nilS', v⟩
def sevC (v : Value) : List NC → NC
  | [c] => if c.kind = 6 then listC v else c
  | _ => listC v
theorem several_at {I : Look} {v : Value} {ks : List Nd} {cs : List NC} (hv : Sl I 7 v (cs.map ncC)) (h : NdsAt I ks cs) : NdAt I (severalP ks) (sevC v cs) := by
  have hl := h.len
  match ks, cs, hl, h with
  | [], [], _, h => exact NdAt.kids hv h
  | [k], [c], _, h =>
    have h1 : NdAt I k c := by unfold NdsAt at h; exact h.1
    show NdAt I (if k.kind = 6 then ndK 5 [k] else k) (if c.kind = 6 then listC v else c)
    rw [h1.kind]
    split
    · exact NdAt.kids hv h
    · exact h1
  | k :: k2 :: ks, c :: c2 :: cs, _, h => exact NdAt.kids hv h
theorem sev_one {v : Value} {c : NC} {cs : List NC} (h : (decide ((cs.length : Int) = 1) && decide (((nth cs 0 nc0).kind : Int) ≠ 6)) = true) : sevC v cs = nth cs 0 nc0 ∧ 0 < cs.length := by
  rw [Bool.and_eq_true, decide_eq_true_eq, decide_eq_true_eq] at h
  match cs, h with
  | [c], h =>
    refine ⟨?_, by simp⟩
    show (if c.kind = 6 then listC v else c) = c
    rw [if_neg]
    have h2 : (c.kind : Int) ≠ 6 := h.2
    omega
theorem sev_many {v : Value} {cs : List NC} (h : (decide ((cs.length : Int) = 1) && decide (((nth cs 0 nc0).kind : Int) ≠ 6)) = false) : sevC v cs = listC v := by
  rw [Bool.and_eq_false_iff, decide_eq_false_iff_not, decide_eq_false_iff_not] at h
  match cs, h with
  | [], _ => rfl
  | [c], h =>
    show (if c.kind = 6 then listC v else c) = listC v
    rw [if_pos]
    rcases h with h | h
    · exact absurd rfl h
    · have h2 : ¬ ((c.kind : Int) ≠ 6) := h
      omega
  | _ :: _ :: _, _ => rfl
set_option maxRecDepth 10000 in
theorem manyR_calls (b : Nat) (s : List UInt8) (hs : s.length ≤ 65536) (p : PS) (lv : Value) (I : Look) (F : List HA) (w0 w : World) (R : ReR (List (Rdr))) (hR : R = redirsR s p) (hp : PSt s p lv I) (hw0 : St w0 I (row b 53 (prC s lv p.next) :: F) w) : CallsP Tryz.prog 185 [boundV 165 b, boundV 166 b].toArray w (PostP b s p I F RdrsV 0 R) (PanP I F R) := by
  have hL := Le.refl I
  unfold redirsR manyP at hR
  have hm2 := mu_le hp.1
  refine enter Tryz.func185 rfl Tryz.ntmps185 rfl (hw0.self) ?_
  refine t_seq ?_
  refine t_region ?_
  refine l_q rfl rfl rfl (q_assign rfl rfl) ?_
  refine l_nil ?_
  refine n_then ?_
  refine t_seq ?_
  refine t_region ?_
  refine l_q rfl rfl rfl (q_assign rfl rfl) ?_
  refine l_nil ?_
  refine n_then ?_
  refine t_seq ?_
  refine t_block ?_
  refine t_loopE (ι := PS × Value × Look × Value × List (Rdr) × Nat) (fun zz => Le I zz.2.2.1 ∧ PSt s zz.1 zz.2.1 zz.2.2.1 ∧ muP s zz.1 + zz.2.2.2.2.1.length ≤ muP s p ∧ muP s zz.1 < zz.2.2.2.2.2 ∧ R = manyN s (redirB) (redirR s) zz.2.2.2.2.2 zz.2.2.2.2.1 zz.1) (fun zz => muP s zz.1) (fun zz => [(5, zz.2.2.2.1)]) [(0, _), (1, _), (4, _)] (fun zz => zz.2.2.1) (fun zz => (tvec 59 5 rdCell zz.2.2.2.1 zz.2.2.2.2.1 :: row b 53 (prC s zz.2.1 zz.1.next) :: F)) (p, lv, I, .slice none 0 0, [], muP s p + 1) ?_ (sub_cons rfl sub_nil) (sub_cons rfl (sub_cons rfl (sub_cons rfl sub_nil))) (fun _ h => by dsimp only; exact subC_st (st_nilT 59 5 rdCell h)) ?_
  · try dsimp only
    exact ⟨hL, hp, Nat.le_refl _, Nat.lt_succ_self _, hR⟩
  rintro ⟨p, lv, J, v, l, g⟩ ⟨hL, hp, hmu, hg, hR⟩
  try dsimp only at *
  obtain ⟨g, rfl⟩ : ∃ g', g = g' + 1 := ⟨g - 1, by omega⟩
  refine t_seq ?_
  refine t_seq ?_
  refine t_region ?_
  refine l_q rfl rfl rfl (q_move rfl rfl) ?_
  refine l_eP rfl rfl rfl (eff_callBP (bl := [pAt b]) rfl rfl rfl rfl rfl Tryz.func165 (by kernel_rfl) rfl (fun w hw => redirected_calls b s hs p lv _ _ _ w _ rfl hp (picks_st1 (row b 53 (prC s lv p.next)) hw))) ?_ ?_
  · skip
    rintro _ Jx _ ⟨hJx, rfl, ax, ex, hbx, rfl⟩
    refine np_then (np_then (np_then (np_block (np_then (?_)))))
    exact np_body fun w hw => .inr ⟨_, rfl, Jx, _, ⟨hL.trans hJx, rfl, ax, ex, many_bad hR hbx, rfl⟩, subC_st hw⟩
  rintro v7 J _ ⟨hJ, x7, p, lv, he7, hmu7, hp, ⟨rfl, hf, rfl⟩, rfl⟩
  have hL := hL.trans hJ
  have hst := many_step hR he7
  refine l_nil ?_
  refine n_then ?_
  refine t_cond rfl (fun hc0 => ?_) (fun hc0 => ?_)
  · skip
    have hR := hst.1 hc0
    refine t_skip ?_
    refine n_then ?_
    refine t_block ?_
    refine t_region ?_
    refine l_q rfl rfl rfl (q_move rfl rfl) ?_
    refine l_q rfl rfl rfl (q_move rfl rfl) ?_
    refine l_eP rfl rfl rfl (eff_callBP (bl := [pAt b]) rfl rfl rfl rfl rfl Tryz.func166 (by kernel_rfl) rfl (fun w hw => redir_calls b s hs p lv _ _ _ w _ rfl hp (picks_st1 (row b 53 (prC s lv p.next)) hw))) ?_ ?_
    · skip
      rintro _ Jx _ ⟨hJx, rfl, ax, ex, hbx, rfl⟩
      refine np_block (np_then (np_block (np_then (?_))))
      exact np_body fun w hw => .inr ⟨_, rfl, Jx, _, ⟨hL.trans hJx, rfl, ax, ex, hR.trans (bnd_bad hbx), rfl⟩, subC_st hw⟩
    rintro v10 J _ ⟨hJ, x10, p, lv, he10, hmu10, hp, rfl, rfl⟩
    have hL := hL.trans hJ
    rw [bnd_ok he10] at hR
    refine l_e rfl rfl rfl (e_buildSlice1 rfl Tryz.underlying26 ti59 rfl rfl rfl (by first | exact One.cells (by assumption) | exact One.cells hone | rfl) rfl) ?_
    rintro _ _ _ ⟨b11, rfl, rfl, rfl⟩
    refine l_e rfl rfl rfl (e_appendT (f := rdCell) (c := x10) rfl Tryz.underlying26 ti59 rfl rfl rfl rfl rfl rfl rfl (by first | exact rdCell_ones _ | exact byC_ones _ | exact chC_ones _ | exact pcC_ones _ | simp [Value.oneCell', str, u8] | exact ones1 (by assumption)) (by simp only [maxLen]; omega) (by omega)) ?_
    rintro v12 _ _ ⟨rfl, rfl⟩
    refine l_one v12 (fun hone => ?_)
    refine l_q rfl rfl rfl (q_assign rfl rfl) ?_
    refine l_nil ?_
    refine n_block ?_
    refine n_roundE ((p, lv, J, v12, l ++ [x10], g)) ?_ ?_ (sub_cons rfl sub_nil) (sub_cons rfl (sub_cons rfl (sub_cons rfl sub_nil))) (fun _ h => by try dsimp only; exact subC_st h)
    · try dsimp only
      exact ⟨hL, hp, by rw [List.length_append, List.length_singleton]; omega, by omega, hR⟩
    · try dsimp only
      omega
  · skip
    have hR := hst.2 hc0
    refine t_exit ?_
    refine n_exit_then ?_
    refine n_exit_then ?_
    refine n_exit_block ?_
    refine n_then ?_
    refine t_seq ?_
    refine t_freezeT (f := rdCell) (l := l) v (fun _ => rfl) (fun Jf hJf hvf => ?_)
    refine t_region ?_
    refine l_q rfl rfl rfl (q_move rfl rfl) ?_
    refine l_q rfl rfl rfl (q_assign rfl rfl) ?_
    refine l_nil ?_
    refine n_then ?_
    refine t_ret ?_
    refine n_ret1 rfl rfl (fun w' hw => ?_)
    -- leaf 0
    exact .inl ⟨_, rfl, Jf, _, ⟨hL.trans hJf, l, p, lv, hR, by omega, hp.mono hJf, hvf, rfl⟩, subC_st hw⟩
set_option maxRecDepth 10000 in
theorem redirs_calls (b : Nat) (s : List UInt8) (hs : s.length ≤ 65536) : ParC 164 b s [] (redirsR s) RdrsV 0 := by
  intro p lv I F w0 w R hR hp hw0
  have hL := Le.refl I
  obtain ⟨M, hM⟩ : ∃ M, M = muP s p := ⟨_, rfl⟩
  refine enter Tryz.func164 rfl Tryz.ntmps164 rfl (hw0.self) ?_
  refine t_seq ?_
  refine t_region ?_
  refine l_q rfl rfl rfl (q_assign rfl rfl) ?_
  refine l_nil ?_
  refine n_then ?_
  refine t_seq ?_
  refine t_region ?_
  refine l_q rfl rfl rfl (q_move rfl rfl) ?_
  refine l_q rfl rfl rfl (q_makeFunc rfl rfl rfl) ?_
  refine l_q rfl rfl rfl (q_move rfl rfl) ?_
  refine l_q rfl rfl rfl (q_makeFunc rfl rfl rfl) ?_
  refine l_eP rfl rfl rfl (eff_callP rfl rfl rfl Tryz.func185 (by kernel_rfl) rfl (fun w hw => manyR_calls b s hs p lv _ _ _ w _ rfl hp (picks_st1 (row b 53 (prC s lv p.next)) hw))) ?_ ?_
  · skip
    rintro _ Jx _ ⟨hJx, rfl, ax, ex, hbx, rfl⟩
    rw [hbx] at hR
    refine np_then (?_)
    exact np_body fun w hw => .inr ⟨_, rfl, Jx, _, ⟨hL.trans hJx, rfl, ax, ex, hR, rfl⟩, subC_st hw⟩
  rintro v7 J _ ⟨hJ, x7, p, lv, he7, hmu7, hp, hv7, rfl⟩
  have hL := hL.trans hJ
  rw [he7] at hR
  refine l_q rfl rfl rfl (q_assign rfl rfl) ?_
  refine l_nil ?_
  refine n_then ?_
  refine t_ret ?_
  refine n_ret1 rfl rfl (fun w' hw => ?_)
  -- leaf 0
  exact .inl ⟨_, rfl, J, _, ⟨hL, _, p, lv, hR, (by omega), hp, hv7, rfl⟩, subC_st hw⟩
set_option maxRecDepth 10000 in
theorem fors1_calls (b b2 : Nat) (s : List UInt8) (hs : s.length ≤ 65536) (p : PS) (lv : Value) (I : Look) (F : List HA) (w0 w : World) (R : ReR Tok) (hR : R = nowP s p) (hp : PSt s p lv I) (hb2 : CellI I b2 0 (pAt b)) (hw0 : St w0 I (row b 53 (prC s lv p.next) :: F) w) : CallsP Tryz.prog 184 [pAt b2].toArray w (PostP b s p I F (AskV s (fun t => decide (t.kind = 1))) 0 R) (PanP I F R) := by
  have hL := Le.refl I
  refine enter Tryz.func184 rfl Tryz.ntmps184 rfl (hw0.self) ?_
  refine t_seq ?_
  refine t_region ?_
  refine l_q rfl rfl rfl (q_assign rfl rfl) ?_
  refine l_nil ?_
  refine n_then ?_
  refine t_seq ?_
  refine t_region ?_
  refine l_q rfl rfl rfl ((by first | exact q_load_row rfl Tryz.underlying50 rfl rfl (by rfl) | exact q_load rfl Tryz.underlying50 rfl rfl (rd_imm hb2))) ?_
  refine l_eP rfl rfl rfl (eff_callP rfl rfl rfl Tryz.func33 (by kernel_rfl) rfl (fun w hw => now_calls b s hs p lv _ _ _ w _ rfl hp (picks_st1 (row b 53 (prC s lv p.next)) hw))) ?_ ?_
  · skip
    rintro _ Jx _ ⟨hJx, rfl, ax, ex, hbx, rfl⟩
    rw [hbx] at hR
    refine np_then (?_)
    exact np_body fun w hw => .inr ⟨_, rfl, Jx, _, ⟨hL.trans hJx, rfl, ax, ex, hR, rfl⟩, subC_st hw⟩
  rintro v3 J _ ⟨hJ, x3, p, lv, he3, hmu3, hp, ⟨rfl, hf, rfl⟩, rfl⟩
  have hL := hL.trans hJ
  rw [he3] at hR
  refine l_q rfl rfl rfl (q_field rfl Tryz.underlying79 rfl Tryz.underlying3 rfl rfl rfl) ?_
  refine l_q rfl rfl rfl (q_eql rfl rfl rfl) ?_
  refine l_q rfl rfl rfl (q_assign rfl rfl) ?_
  refine l_nil ?_
  refine n_then ?_
  refine t_ret ?_
  refine n_ret1 rfl rfl (fun w' hw => ?_)
  -- leaf 0
  exact .inl ⟨_, rfl, J, _, ⟨hL, _, p, lv, hR, (by omega), hp, ⟨rfl, hf, congrArg Value.bool (by by_cases h : (headT s p).kind = 1 <;> simp [h] <;> omega)⟩, rfl⟩, subC_st hw⟩
set_option maxRecDepth 10000 in
theorem manyW_calls (b b2 : Nat) (s : List UInt8) (hs : s.length ≤ 65536) (p : PS) (lv : Value) (I : Look) (F : List HA) (w0 w : World) (R : ReR (List (List UInt8))) (hR : R = wordsR s p) (hp : PSt s p lv I) (hb2 : CellI I b2 0 (pAt b)) (hw0 : St w0 I (row b 53 (prC s lv p.next) :: F) w) : CallsP Tryz.prog 183 [.func (.func 184) #[] #[pAt b2], boundV 167 b].toArray w (PostP b s p I F TextsV 0 R) (PanP I F R) := by
  have hL := Le.refl I
  unfold wordsR manyP at hR
  have hm2 := mu_le hp.1
  have hb2 := hb2.mono hL
  refine enter Tryz.func183 rfl Tryz.ntmps183 rfl (hw0.self) ?_
  refine t_seq ?_
  refine t_region ?_
  refine l_q rfl rfl rfl (q_assign rfl rfl) ?_
  refine l_nil ?_
  refine n_then ?_
  refine t_seq ?_
  refine t_region ?_
  refine l_q rfl rfl rfl (q_assign rfl rfl) ?_
  refine l_nil ?_
  refine n_then ?_
  refine t_seq ?_
  refine t_block ?_
  refine t_loopE (ι := PS × Value × Look × Value × List (List UInt8) × Nat) (fun zz => Le I zz.2.2.1 ∧ PSt s zz.1 zz.2.1 zz.2.2.1 ∧ muP s zz.1 + zz.2.2.2.2.1.length ≤ muP s p ∧ muP s zz.1 < zz.2.2.2.2.2 ∧ R = manyN s (fun t => decide (t.kind = 1)) (wordR s) zz.2.2.2.2.2 zz.2.2.2.2.1 zz.1) (fun zz => muP s zz.1) (fun zz => [(5, zz.2.2.2.1)]) [(0, _), (1, _), (4, _)] (fun zz => zz.2.2.1) (fun zz => (tvec 9 1 stC zz.2.2.2.1 zz.2.2.2.2.1 :: row b 53 (prC s zz.2.1 zz.1.next) :: F)) (p, lv, I, .slice none 0 0, [], muP s p + 1) ?_ (sub_cons rfl sub_nil) (sub_cons rfl (sub_cons rfl (sub_cons rfl sub_nil))) (fun _ h => by dsimp only; exact subC_st (st_nilT 9 1 stC h)) ?_
  · try dsimp only
    exact ⟨hL, hp, Nat.le_refl _, Nat.lt_succ_self _, hR⟩
  rintro ⟨p, lv, J, v, l, g⟩ ⟨hL, hp, hmu, hg, hR⟩
  try dsimp only at *
  have hb2 := hb2.mono hL
  obtain ⟨g, rfl⟩ : ∃ g', g = g' + 1 := ⟨g - 1, by omega⟩
  refine t_seq ?_
  refine t_seq ?_
  refine t_region ?_
  refine l_q rfl rfl rfl (q_move rfl rfl) ?_
  refine l_eP rfl rfl rfl (eff_callCP (cs := [pAt b2]) rfl rfl rfl rfl rfl Tryz.func184 (by kernel_rfl) rfl (fun w hw => fors1_calls b b2 s hs p lv _ _ _ w _ rfl hp hb2 (picks_st1 (row b 53 (prC s lv p.next)) hw))) ?_ ?_
  · skip
    rintro _ Jx _ ⟨hJx, rfl, ax, ex, hbx, rfl⟩
    refine np_then (np_then (np_then (np_block (np_then (?_)))))
    exact np_body fun w hw => .inr ⟨_, rfl, Jx, _, ⟨hL.trans hJx, rfl, ax, ex, many_bad hR hbx, rfl⟩, subC_st hw⟩
  rintro v7 J _ ⟨hJ, x7, p, lv, he7, hmu7, hp, ⟨rfl, hf, rfl⟩, rfl⟩
  have hL := hL.trans hJ
  have hst := many_step hR he7
  have hb2 := hb2.mono hJ
  refine l_nil ?_
  refine n_then ?_
  refine t_cond rfl (fun hc0 => ?_) (fun hc0 => ?_)
  · skip
    have hR := hst.1 hc0
    refine t_skip ?_
    refine n_then ?_
    refine t_block ?_
    refine t_region ?_
    refine l_q rfl rfl rfl (q_move rfl rfl) ?_
    refine l_q rfl rfl rfl (q_move rfl rfl) ?_
    refine l_eP rfl rfl rfl (eff_callBP (bl := [pAt b]) rfl rfl rfl rfl rfl Tryz.func167 (by kernel_rfl) rfl (fun w hw => pword_calls b s hs p lv _ _ _ w _ rfl hp (picks_st1 (row b 53 (prC s lv p.next)) hw))) ?_ ?_
    · skip
      rintro _ Jx _ ⟨hJx, rfl, ax, ex, hbx, rfl⟩
      refine np_block (np_then (np_block (np_then (?_))))
      exact np_body fun w hw => .inr ⟨_, rfl, Jx, _, ⟨hL.trans hJx, rfl, ax, ex, hR.trans (bnd_bad hbx), rfl⟩, subC_st hw⟩
    rintro v10 J _ ⟨hJ, x10, p, lv, he10, hmu10, hp, ⟨rfl, htl10⟩, rfl⟩
    have hL := hL.trans hJ
    rw [bnd_ok he10] at hR
    have hb2 := hb2.mono hJ
    refine l_e rfl rfl rfl (e_buildSlice1 rfl Tryz.underlying25 ti9 rfl rfl rfl (by first | exact One.cells (by assumption) | exact One.cells hone | rfl) rfl) ?_
    rintro _ _ _ ⟨b11, rfl, rfl, rfl⟩
    refine l_e rfl rfl rfl (e_appendT (f := stC) (c := x10) rfl Tryz.underlying25 ti9 rfl rfl rfl rfl rfl rfl rfl (by first | exact stC_ones _ | exact byC_ones _ | exact chC_ones _ | exact pcC_ones _ | simp [Value.oneCell', str, u8] | exact ones1 (by assumption)) (by simp only [maxLen]; omega) (by omega)) ?_
    rintro v12 _ _ ⟨rfl, rfl⟩
    refine l_one v12 (fun hone => ?_)
    refine l_q rfl rfl rfl (q_assign rfl rfl) ?_
    refine l_nil ?_
    refine n_block ?_
    refine n_roundE ((p, lv, J, v12, l ++ [x10], g)) ?_ ?_ (sub_cons rfl sub_nil) (sub_cons rfl (sub_cons rfl (sub_cons rfl sub_nil))) (fun _ h => by try dsimp only; exact subC_st h)
    · try dsimp only
      exact ⟨hL, hp, by rw [List.length_append, List.length_singleton]; omega, by omega, hR⟩
    · try dsimp only
      omega
  · skip
    have hR := hst.2 hc0
    refine t_exit ?_
    refine n_exit_then ?_
    refine n_exit_then ?_
    refine n_exit_block ?_
    refine n_then ?_
    refine t_seq ?_
    refine t_freezeT (f := stC) (l := l) v (fun _ => rfl) (fun Jf hJf hvf => ?_)
    refine t_region ?_
    refine l_q rfl rfl rfl (q_move rfl rfl) ?_
    refine l_q rfl rfl rfl (q_assign rfl rfl) ?_
    refine l_nil ?_
    refine n_then ?_
    refine t_ret ?_
    refine n_ret1 rfl rfl (fun w' hw => ?_)
    -- leaf 0
    exact .inl ⟨_, rfl, Jf, _, ⟨hL.trans hJf, l, p, lv, hR, by omega, hp.mono hJf, hvf, rfl⟩, subC_st hw⟩
set_option maxRecDepth 10000 in
theorem several_pure (v : Value) (cs : List NC) (w : World) (h1 : cs.length ≤ 1000000) (ho : ∀ u ∈ ncC (nth cs 0 nc0), u.oneCell' = true) (hv : Sl (look w) 7 v (cs.map ncC)) : Pure Tryz.prog 37 [v] w (.agg (ncC (sevC v cs)).toArray) := by
  refine enter Tryz.func37 rfl Tryz.ntmps37 rfl (St.start w (look w) (Le.refl _)) ?_
  refine t_seq ?_
  refine t_region ?_
  refine l_e rfl rfl rfl (e_alloc rfl ti29 rfl) ?_
  rintro _ _ _ ⟨b2, rfl, rfl, rfl⟩
  refine l_nil ?_
  refine n_then ?_
  refine t_seq ?_
  refine t_seq ?_
  refine t_qreg ?_
  refine s_q rfl rfl rfl (q_move rfl rfl) ?_
  refine s_q rfl rfl rfl ((by first | exact q_lenV rfl Tryz.underlying27 rfl | exact q_len rfl Tryz.underlying27 rfl (Sl.lenOf hv (List.length_map _)))) ?_
  refine s_q rfl rfl rfl (q_eql rfl rfl rfl) ?_
  refine s_q rfl rfl rfl (q_move rfl rfl) ?_
  refine s_and2 5 3 6 12 11 _ _ rfl rfl rfl rfl rfl rfl (fun h12 => by
      try simp at h12
      have hl1 : 0 < cs.length := by omega
      refine s_g rfl rfl rfl rfl rfl rfl (q_move rfl rfl) ?_
      refine s_g rfl rfl rfl rfl rfl rfl ((by first | exact q_indexAddrVN rfl Tryz.underlying27 ti29 rfl rfl (by omega) | exact q_indexAddrN rfl Tryz.underlying27 ti29 rfl rfl (Sl.shape hv (List.length_map _)) (by omega) | exact q_indexAddrV rfl Tryz.underlying27 ti29 rfl rfl (by omega) | exact q_indexAddr rfl Tryz.underlying27 ti29 rfl rfl (Sl.shape hv (List.length_map _)) (by omega))) ?_
      refine s_g rfl rfl rfl rfl rfl rfl (q_fieldAddr rfl Tryz.underlying29 rfl rfl ti3 rfl rfl) ?_
      refine s_g rfl rfl rfl rfl rfl rfl ((by first | exact q_load_row rfl Tryz.underlying3 rfl rfl (by rfl) | exact q_load rfl Tryz.underlying3 rfl rfl (hv.rd (i := 0) (j := 0) (map_getD cs ncC nc0 (by omega)) rfl))) ?_
      refine s_g rfl rfl rfl rfl rfl rfl (q_neq rfl rfl rfl) ?_
      exact s_val rfl
    ) (wanted_n rfl) rfl rfl rfl ?_
  refine s_done ?_
  refine n_then ?_
  refine t_cond rfl (fun hc0 => ?_) (fun hc0 => ?_)
  · skip
    obtain ⟨hs1, hs2⟩ := sev_one (v := v) (c := nc0) hc0
    refine t_seq ?_
    refine t_region ?_
    refine l_q rfl rfl rfl (q_move rfl rfl) ?_
    refine l_q rfl rfl rfl ((by first | exact q_indexAddrVN rfl Tryz.underlying27 ti29 rfl rfl (by omega) | exact q_indexAddrN rfl Tryz.underlying27 ti29 rfl rfl (Sl.shape hv (List.length_map _)) (by omega) | exact q_indexAddrV rfl Tryz.underlying27 ti29 rfl rfl (by omega) | exact q_indexAddr rfl Tryz.underlying27 ti29 rfl rfl (Sl.shape hv (List.length_map _)) (by omega))) ?_
    refine l_q rfl rfl rfl ((by first | exact q_load_rowA rfl Tryz.underlying29 ti29 rfl rfl rfl | exact q_load_agg rfl Tryz.underlying29 ti29 rfl rfl (hv.rds (i := 0) (map_getD cs ncC nc0 (by omega))))) ?_
    refine l_e0 rfl rfl ((by first | exact e_store_all rfl ti29 rfl rfl rfl (by first | exact chC_ones _ | exact pcC_ones _ | exact ho | exact ncC_ones' (c := listC v) nil_one nil_one hv.one | simp [Value.oneCell', str, u8]) rfl | exact e_store_agg rfl ti29 rfl rfl rfl (by first | exact chC_ones _ | exact pcC_ones _ | exact ho | exact ncC_ones' (c := listC v) nil_one nil_one hv.one | simp [Value.oneCell', str, u8]) rfl)) ?_
    rintro _ _ _ ⟨rfl, rfl⟩
    refine l_nil ?_
    refine n_then ?_
    refine t_ret ?_
    refine n_ret_then ?_
    refine n_retGG (.inl rfl) rfl (by exact rg_row rfl Tryz.underlying29 ti29 rfl rfl (rg_nil)) (fun w' hw => ?_)
    -- leaf 0
    refine ⟨?_, hw.below⟩
    rw [hs1]; rfl
  · skip
    have hs1 := sev_many (v := v) hc0
    refine t_skip ?_
    refine n_then ?_
    refine t_seq ?_
    refine t_region ?_
    refine l_q rfl rfl rfl (q_move rfl rfl) ?_
    refine l_q rfl rfl rfl (q_build (pl := [(_, _), (_, _), (_, _), (_, _), (_, _), (_, _), (_, _)]) (cs := (ncC (listC v)).toArray) rfl Tryz.underlying29 ti29 ⟨rfl, ⟨_, _, ti3⟩, rfl, ⟨_, _, ti4⟩, rfl, ⟨_, _, ti4⟩, rfl, ⟨_, _, ti9⟩, rfl, ⟨_, _, ti25⟩, rfl, ⟨_, _, ti26⟩, rfl, ⟨_, _, ti27⟩, trivial⟩ rfl (by obtain ⟨A, c, h⟩ := Sl.lenOf hv rfl; rw [h]; rfl)) ?_
    refine l_e0 rfl rfl ((by first | exact e_store_all rfl ti29 rfl rfl rfl (by first | exact chC_ones _ | exact pcC_ones _ | exact ho | exact ncC_ones' (c := listC v) nil_one nil_one hv.one | simp [Value.oneCell', str, u8]) rfl | exact e_store_agg rfl ti29 rfl rfl rfl (by first | exact chC_ones _ | exact pcC_ones _ | exact ho | exact ncC_ones' (c := listC v) nil_one nil_one hv.one | simp [Value.oneCell', str, u8]) rfl)) ?_
    rintro _ _ _ ⟨rfl, rfl⟩
    refine l_nil ?_
    refine n_then ?_
    refine t_ret ?_
    refine n_retGG (.inl rfl) rfl (by exact rg_row rfl Tryz.underlying29 ti29 rfl rfl (rg_nil)) (fun w' hw => ?_)
    -- leaf 1
    refine ⟨?_, hw.below⟩
    rw [hs1]; rfl
end Go.Tri
