/-
 The reference parser: filled, the token at hand.
-/
import Derived.Test.YthjgbalcngkjjaaGreatDoorSA5
import Derived.Test.YthjgbalcngkjjaaGreatDoorQC4
import Derived.Test.YthjgbalcngkjjaaGreatDoorPHc
import Derived.Test.YthjgbalcngkjjaaGreatDoorQB2
import Derived.Test.YthjgbalcngkjjaaGreatDoorPNum
namespace Go.Tri
open Go.Proofs Go.RowKit
set_option maxRecDepth 10000
def CZ (s : List UInt8) (lv : Value) (i n : Nat) : List Value := [Bj s, lv, .int .i64 (i : Int), .int .i64 (n : Int), .int .i64 0, .int .i64 0]
def GU (s : List UInt8) (p : PS) (lv : Value) (i : Nat) (I : AU) : Prop := S8 s p ∧ (∃ T : List CX, Sl I 5 lv (T.map BZ) ∧ T.drop i = p.line ∧ i ≤ T.length ∧ T.length ≤ s.length) ∧ ∀ t ∈ p.line, Qt t
theorem GU.mono {s : List UInt8} {p : PS} {lv : Value} {i : Nat} {I J : AU} (h : GU s p lv i I) (Ec : Le I J) : GU s p lv i J := by
 obtain ⟨h1, ⟨T, h2, h3⟩, h4⟩ := h; exact ⟨h1, ⟨T, h2.mono Ec, h3⟩, h4⟩
theorem GU.step {s : List UInt8} {p : PS} {lv : Value} {i : Nat} {I : AU} (h : GU s p lv i I) (hk : (AP s p).kind ≠ 0) : GU s (BE p) lv (i + 1) I := by
 obtain ⟨h1, ⟨T, h2, h3, h4, h5⟩, h6⟩ := h
 have hl := NV hk
 refine ⟨h1.step, ⟨T, h2, ?_, ?_, h5⟩, fun t ht => h6 t (List.mem_of_mem_drop ht)⟩
 ·show T.drop (i + 1) = p.line.drop 1
  rw [← h3, List.drop_drop]
 ·rw [← h3] at hl
  have := List.length_pos_iff.2 hl
  rw [List.length_drop] at this; omega
theorem GU.len {s : List UInt8} {p : PS} {lv : Value} {i : Nat} {I : AU} (h : GU s p lv i I) : i ≤ s.length ∧ p.next ≤ s.length := by
 obtain ⟨h1, ⟨T, h2, h3, h4, h5⟩, h6⟩ := h; exact ⟨by omega, h1.1⟩
theorem Qo {s : List UInt8} {p : PS} (h : ∀ t ∈ p.line, Qt t) : Qt (AP s p) := by
 cases hl : p.line with
 | nil => rw [F4 hl]; exact ⟨fun h => (by cases h), fun h => (by cases h)⟩
 | cons t r => rw [Db hl]; exact h t (by rw [hl]; exact List.mem_cons_self)
def Kl {α : Type} (b : Nat) (s : List UInt8) (p : PS) (I : AU) (F : List HA) (V : AU → PS → α → Value → Prop) (δ : Nat) (R : CC α) (v : Value) (I' : AU) (H' : List HA) : Prop :=
 Le I I' ∧ ∃ x q lv' i', R = .ok x q ∧ Bp s q + δ ≤ Bp s p ∧ GU s q lv' i' I' ∧ V I' q x v ∧ H' = row b 71 (CZ s lv' i' q.next) :: F
def FX {α : Type} (f : FuncId) (b : Nat) (s : List UInt8) (args : List Value) (m : PS → CC α) (V : AU → PS → α → Value → Prop) (δ : Nat) : Prop :=
 ∀ (p : PS) (lv : Value) (i : Nat) (I : AU) (F : List HA) (w0 w : World) (R : CC α), R = m p → (∃ x q, R = .ok x q) → GU s p lv i I → St w0 I (row b 71 (CZ s lv i p.next) :: F) w →
  Calls Tryz.prog f (FK b :: args).toArray w (fun e w' => ∃ v, e = .returned v ∧ ∃ I' H', Kl b s p I F V δ R v I' H' ∧ St w I' H' w')
theorem Az {α β : Type} {m : PS → CC α} {f : α → PS → CC β} {p : PS} {R : CC β} (Bb : ∃ x q, R = .ok x q) (hR : R = Cf m f p) : ∃ x q, m p = .ok x q := by
 obtain ⟨x, q, rfl⟩ := Bb; unfold Cf at hR
 cases hm : m p with
 | ok y r => exact ⟨y, r, rfl⟩
 | bad a e => rw [hm] at hR; cases hR
theorem SA {k : Nat} {x : List UInt8} {t : CX} : (decide ((t.kind : Int) = (k : Int)) && decide (t.text = x)) = decide (t.kind = k ∧ t.text = x) := by
 rw [Bool.eq_iff_iff]; simp only [Bool.and_eq_true, decide_eq_true_eq]
 constructor <;> (rintro ⟨h1, h2⟩; exact ⟨by omega, h2⟩)
theorem EH {x : List UInt8} {t : CX} : decide (t.kind = 2 ∧ t.text = x) = C8 x t := by unfold C8; simp
theorem Eh {x : List UInt8} {t : CX} : decide (t.kind = 1 ∧ t.text = x) = Bu x t := by unfold Bu; simp
theorem T1 {t : CX} (h : Qt t) : decide (t.kind = 3 ∧ t.text = [10]) = decide (t.kind = 3) := by
 by_cases h3 : t.kind = 3
 ·simp [h3, h.1 h3]
 ·simp [h3]
theorem Qa {T : List CX} {i : Nat} {t : CX} (h : T[i]? = some t) : (T.map BZ)[i]? = some (BZ t) := by rw [List.getElem?_map, h]; try rfl
theorem Pa {T r : List CX} {i : Nat} {t : CX} (h : T.drop i = t :: r) : T[i]? = some t := by
 have := List.getElem?_drop (xs := T) (i := i) (j := 0)
 rw [h] at this
 simpa using this.symm
set_option maxHeartbeats 1000000 in
theorem TF (b : Nat) (s : List UInt8) (hs : s.length ≤ 65536) : FX 47 b s [] (Sj s) (fun _ q _ v => v = .tuple #[] ∧ CH s q) 0 := by
 intro p lv i I F w0 w R hR Bb hp CE
 have hL := Le.refl I
 obtain ⟨M, hM⟩ : ∃ M, M = Bp s p := ⟨_, rfl⟩; unfold Sj at hR; refine enter Tryz.func47 rfl Tryz.ntmps47 rfl (CE.self) (AR (A8 (ι := PS × Value × Nat × AU × Nat) (fun zz => Le I zz.2.2.2.1 ∧ GU s zz.1 zz.2.1 zz.2.2.1 zz.2.2.2.1 ∧ Bp s zz.1 ≤ Bp s p ∧ s.length - zz.1.next < zz.2.2.2.2 ∧ R = HJ s zz.2.2.2.2 zz.1) (fun zz => s.length - zz.1.next) (fun zz => []) [(0, _)] (fun zz => zz.2.2.2.1) (fun zz => (row b 71 (CZ s zz.2.1 zz.2.2.1 zz.1.next) :: F)) (p, lv, i, I, s.length - p.next + 1) ?_ (AW) (AB rfl) (fun _ h => AA h) ?_))
 ·dsimp only; exact ⟨hL, hp, Nat.le_refl _, Nat.lt_succ_self _, hR⟩
 rintro ⟨p, lv, i, J, g⟩ ⟨hL, hp, I4, hg, hR⟩; dsimp only at *; obtain ⟨hp1, ⟨T, hT, PI, hTi, hTl⟩, hp3⟩ := id hp; refine AN (AN (CI mo (by kernel_rfl) (fun _ _ _ _ _ h => h) (AK 3 rfl (sq rfl (AZ rfl rfl (by rfl)) ?_)))); refine AK 2 rfl ?_
 refine BA 10 5 11 22 21 _ _ rfl rfl rfl rfl rfl rfl (fun Vp => by
   simp at Vp
   refine AJ 3 rfl (sg rfl (AZ rfl rfl (by rfl)) ?_); refine AJ 3 rfl (sg rfl (AZ rfl rfl (by rfl)) ?_); refine sg rfl ((by exact CN rfl Dx rfl (Sl.lenOf hT (List.length_map _)))) ?_; refine AJ 1 rfl ?_; exact Ao rfl
  ) (AM rfl) rfl rfl rfl ?_
 refine AK 1 rfl ?_
 refine BA 10 17 23 34 33 _ _ rfl rfl rfl rfl rfl rfl (fun Jm => by
   simp at Jm
   refine AJ 3 rfl (sg rfl (AZ rfl rfl (by rfl)) ?_); refine AJ 3 rfl (sg rfl (AZ rfl rfl (by rfl)) ?_); refine sg rfl (Ap rfl CW rfl) (AJ 1 rfl ?_); exact Ao rfl
  ) (AM rfl) rfl rfl rfl ?_
 refine Cy (AF rfl (fun hc0 => ?_) (fun hc0 => ?_))
 ·have hc : p.line = [] ∧ p.next < s.length := by
   have h := hc0
   simp only [Bool.and_eq_true, decide_eq_true_eq] at h; refine ⟨?_, by omega⟩; rw [← PI]; exact List.drop_eq_nil_of_le (by omega)
  obtain ⟨g, rfl⟩ : ∃ g', g = g' + 1 := ⟨g - 1, by omega⟩; rw [HJ, if_pos hc] at hR; refine Al (AR (AN (DH [8] [] [row b 71 (CZ s lv i p.next)] mo (by kernel_rfl) (fun _ _ _ _ _ h => h) (Bg [0, 1, 2] (by kernel_rfl) rfl rfl rfl (IC 3 (by kernel_rfl) rfl rfl (AZ rfl rfl (by rfl)) ?_))))); refine Bg [4, 5, 6] (by kernel_rfl) rfl rfl rfl (IC 7 (by kernel_rfl) rfl rfl (AZ rfl rfl (by rfl)) ?_); refine re 8 (by kernel_rfl) rfl (Le.refl _) rfl (ec rfl rfl rfl (fun w hw => Sw s (p.next : Int) _ _ _ w (by omega) hw)) ?_; rintro _ J _ ⟨hJ, rfl, vl44, rfl, ADd, AIc⟩; refine ⟨hJ, .inr CY.sub, ?_⟩
  have hL := hL.trans hJ
  refine Bg [9, 10, 11, 12, 13, 14, 15, 16, 17] (by kernel_rfl) rfl rfl rfl (D3 (by kernel_rfl) (Ai (AN (Ar rfl (AF rfl (fun BI => ?_) (fun BI => ?_))))))
  ·simp at BI
   exfalso
   rw [if_neg (by omega)] at hR; obtain ⟨_, _, h9⟩ := Bb; rw [hR] at h9
   cases h9
  ·simp at BI
   have he : (B9 s p.next).err = 0 := by omega
   rw [if_pos he] at hR
   have XJ := VU hp1 hc he
   refine Al (tr (AC 4 rfl ?_)); refine An rfl rfl (Ac rfl UM rfl rfl (by exact ADd.one) rfl (by rfl)) ?_; rintro _ _ _ ⟨rfl, rfl⟩; refine AI (H' := row b 71 [Bj s, vl44, .int .i64 (i : Int), .int .i64 (p.next : Int), .int .i64 0, .int .i64 0] :: _) ?_ (fun _ h => h); refine BQ (AC 3 rfl ?_); refine An rfl rfl (Ac rfl B0 rfl rfl (by exact ⟨rfl, rfl⟩) rfl (by (simp only [List.set_cons_succ, List.set_cons_zero]; try rfl))) ?_; rintro _ _ _ ⟨rfl, rfl⟩; refine AI (H' := row b 71 [Bj s, vl44, .int .i64 0, .int .i64 (p.next : Int), .int .i64 0, .int .i64 0] :: _) ?_ (fun _ h => h); refine ln (AH (AC 4 rfl ?_)); refine An rfl rfl (Ac rfl B0 rfl rfl (by exact ⟨rfl, rfl⟩) rfl (by (simp only [List.set_cons_succ, List.set_cons_zero]; try rfl))) ?_; rintro _ _ _ ⟨rfl, rfl⟩; refine AI (H' := row b 71 (CZ s vl44 0 (B9 s p.next).fin) :: _) ?_ (fun _ h => h); refine BX (AV (Ak ((⟨(B9 s p.next).toks, (B9 s p.next).fin⟩, vl44, 0, J, g)) ?_ ?_ (AW) (AB rfl) (fun _ h => by dsimp only; exact AA h)))
   ·dsimp only; exact ⟨hL, ⟨XJ.1, ⟨_, ADd, List.drop_zero, Nat.zero_le _, XJ.1.2.2⟩, AIc⟩, Nat.le_trans XJ.2.1 I4, by have := XJ.2.2; omega, hR⟩
   ·dsimp only; exact XJ.2.2
 ·have hc : CH s p := fun ⟨h1, h2⟩ => by
   have h := hc0
   have h3 : T.length ≤ i := by rw [← PI] at h1; exact List.drop_eq_nil_iff.1 h1
   rw [decide_eq_true (show (T.length : Int) ≤ (i : Int) by omega), decide_eq_true (show (p.next : Int) < (s.length : Int) by omega)] at h
   cases h
  have hR : R = .ok () p := by rw [hR, MC hc]
  refine BB (AG (AG (AQ (Cm rfl (fun w' hw => ?_))))); exact ⟨_, rfl, J, _, ⟨hL, (), p, lv, i, hR, (by omega), hp, ⟨rfl, hc⟩, rfl⟩, AA hw⟩
theorem DW (b : Nat) (s : List UInt8) (hs : s.length ≤ 65536) : FX 24 b s [] (C4 s) (AJJ s) 0 := by
 intro p lv i I F w0 w R hR Bb hp CE
 have hL := Le.refl I
 obtain ⟨M, hM⟩ : ∃ M, M = Bp s p := ⟨_, rfl⟩; unfold C4 at hR; refine enter Tryz.func24 rfl Tryz.ntmps24 rfl (CE.self) (tr (le rfl (Ah rfl BL rfl) ?_)); rintro _ _ _ ⟨b2, rfl, rfl, rfl⟩; refine AI (H' := row b2 73 (BZ BV) :: _) ?_ (fun _ h => h); refine BQ (AC 1 rfl (Bw rfl rfl rfl rfl (fun w hw => TF b s hs p lv i _ _ _ w _ rfl (Az Bb hR) hp (AD (row b 71 (CZ s lv i p.next)) hw)) ?_)); rintro v4 J _ ⟨hJ, x4, p, lv, i, he4, ANn, hp, ⟨rfl, hf⟩, rfl⟩
 have hL := hL.trans hJ
 rw [AY he4] at hR
 have BH := hp.len
 obtain ⟨hp1, ⟨T, hT, PI, hTi, hTl⟩, hp3⟩ := id hp; refine Gb (AN (CI mo (by kernel_rfl) (fun _ _ _ _ _ h => h) (AK 3 rfl (sq rfl (AZ rfl rfl (by rfl)) ?_)))); refine AK 2 rfl ?_
 refine Bf 10 5 10 21 20 _ _ rfl rfl rfl rfl rfl rfl (fun h21 => by
   simp at h21
   refine AJ 3 rfl (sg rfl (AZ rfl rfl (by rfl)) ?_); refine AJ 3 rfl (sg rfl (AZ rfl rfl (by rfl)) ?_); refine sg rfl ((by exact CN rfl Dx rfl (Sl.lenOf hT (List.length_map _)))) ?_; refine AJ 1 rfl ?_; exact Ao rfl
  ) (AM rfl) rfl rfl rfl ?_
 refine Cy (AF rfl (fun hc0 => ?_) (fun hc0 => ?_))
 ·have Jj : p.line = [] := by
   rw [← PI]
   have h := hc0
   simp at h
   exact List.drop_eq_nil_of_le (by omega)
  have hh := F4 (s := s) Jj
  refine tr (AC 3 rfl (lq rfl (AZ rfl rfl (by rfl)) ?_)); refine lq rfl (Ap rfl CW rfl) (lq rfl (A6 (pl := [(_, _), (_, _), (_, _), (_, _), (_, _)]) (cs := (BZ (PR s)).toArray) rfl Cz BL ⟨rfl, ⟨_, _, B0⟩, rfl, ⟨_, _, CU⟩, rfl, ⟨_, _, B0⟩, rfl, ⟨_, _, CU⟩, rfl, ⟨_, _, De⟩, trivial⟩ rfl rfl) (An rfl rfl ((by exact AE rfl BL rfl rfl rfl (by exact A4 _) rfl)) ?_)); rintro _ _ _ ⟨rfl, rfl⟩; refine ln (Aq (Ag (A3 (.inl rfl) rfl (by exact BK rfl Cz BL rfl rfl (BJ)) (fun w' hw => ?_)))); exact ⟨_, rfl, J, _, ⟨hL, _, p, lv, i, hR, (by omega), hp, ⟨rfl, hf, by rw [hh]; try rfl⟩, rfl⟩, AA hw⟩
 ·have AFH : ¬ p.line = [] := fun h1 => by
   rw [← PI] at h1
   have h3 : T.length ≤ i := List.drop_eq_nil_iff.1 h1
   have h := hc0
   rw [decide_eq_true (show (T.length : Int) ≤ (i : Int) by omega)] at h
   simp at h
  obtain ⟨t0, r0, Jj⟩ := Er AFH
  have hh := Db (s := s) Jj
  have hTn := Pa (PI.trans Jj)
  have SN : i < T.length := (List.getElem?_eq_some_iff.1 hTn).1
  refine Al (AN (DH [10] [] [row b 71 (CZ s lv i p.next)] mo (by kernel_rfl) (fun _ _ _ _ _ h => h) (Bg [0, 1, 2] (by kernel_rfl) rfl rfl rfl (IC 3 (by kernel_rfl) rfl rfl (AZ rfl rfl (by rfl)) ?_)))); refine Bg [4, 5, 6] (by kernel_rfl) rfl rfl rfl (IC 7 (by kernel_rfl) rfl rfl (AZ rfl rfl (by rfl)) ?_); refine IC 8 (by kernel_rfl) rfl rfl ((by exact A5 rfl Dx BL rfl rfl (Sl.shape hT (List.length_map _)) (by omega))) ?_; refine IC 9 (by kernel_rfl) rfl rfl ((by exact Bc rfl Cz BL rfl rfl (hT.rds (Qa hTn)))) ?_; refine Eu 10 (by kernel_rfl) (by kernel_rfl) rfl (Le.refl _) rfl rfl ((by exact AE rfl BL rfl rfl rfl (by exact A4 _) rfl)) ?_; rintro _ _ _ ⟨rfl, rfl⟩; refine ⟨Le.refl _, .inr CY.sub, ?_⟩; refine D3 (by kernel_rfl) (Ai (Aq (A3 (.inl rfl) rfl (by exact BK rfl Cz BL rfl rfl (BJ)) (fun w' hw => ?_)))); exact ⟨_, rfl, J, _, ⟨hL, _, p, lv, i, hR, (by omega), hp, ⟨rfl, hf, by rw [hh]; try rfl⟩, rfl⟩, AA hw⟩
end Go.Tri

namespace Go.Tri
open Go.Proofs Go.RowKit
set_option maxRecDepth 10000
theorem SS (b : Nat) (s : List UInt8) (p : PS) (lv : Value) (i : Nat) (w : World) (hs : s.length ≤ 65536) (hf : CH s p) (hp : GU s p lv i (BF w)) (hb : KP (BF w) b (CZ s lv i p.next)) : Cw Tryz.prog 47 [FK b] w (.tuple #[]) := by
 obtain ⟨hp1, ⟨T, hT, PI, hTi, hTl⟩, hp3⟩ := id hp; refine enter Tryz.func47 rfl Tryz.ntmps47 rfl (St.start w (BF w) (Le.refl _)) (AR (A8 (ι := Unit) (fun _ => True) (fun _ => 0) (fun _ => []) [(0, _)] (fun _ => BF w) (fun _ => []) () ?_ (AW) (AB rfl) (fun _ h => AA h) ?_))
 ·dsimp only
  all_goals trivial
 rintro _ _; refine AN (AN (CI mo (by kernel_rfl) (fun _ _ _ _ _ h => h) (AK 3 rfl (sq rfl ((by exact B1 rfl rfl (B2 (hb 5 _ rfl)))) ?_)))); refine AK 2 rfl ?_
 refine BA 10 5 11 22 21 _ _ rfl rfl rfl rfl rfl rfl (fun Vp => by
   simp at Vp
   refine AJ 3 rfl (sg rfl ((by exact B1 rfl rfl (B2 (hb 2 _ rfl)))) ?_); refine AJ 3 rfl (sg rfl ((by exact B1 rfl rfl (B2 (hb 1 _ rfl)))) ?_); refine sg rfl ((by exact CN rfl Dx rfl (Sl.lenOf hT (List.length_map _)))) ?_; refine AJ 1 rfl ?_; exact Ao rfl
  ) (AM rfl) rfl rfl rfl ?_
 refine AK 1 rfl ?_
 refine BA 10 17 23 34 33 _ _ rfl rfl rfl rfl rfl rfl (fun Jm => by
   simp at Jm
   refine AJ 3 rfl (sg rfl ((by exact B1 rfl rfl (B2 (hb 3 _ rfl)))) ?_); refine AJ 3 rfl (sg rfl ((by exact B1 rfl rfl (B2 (hb 0 _ rfl)))) ?_); refine sg rfl (Ap rfl CW rfl) (AJ 1 rfl ?_); exact Ao rfl
  ) (AM rfl) rfl rfl rfl ?_
 refine Cy (AF rfl (fun hc0 => ?_) (fun hc0 => ?_))
 ·exfalso
  have h := hc0
  simp only [Bool.and_eq_true, decide_eq_true_eq] at h; refine hf ⟨?_, by omega⟩; rw [← PI]; exact List.drop_eq_nil_of_le (by omega)
 ·refine BB (AG (AG (AQ (Cm rfl (fun w' hw => ?_))))); exact ⟨rfl, hw.below⟩
theorem EM (b : Nat) (s : List UInt8) (p : PS) (lv : Value) (i : Nat) (w : World) (hs : s.length ≤ 65536) (hf : CH s p) (hp : GU s p lv i (BF w)) (hb : KP (BF w) b (CZ s lv i p.next)) : Cw Tryz.prog 24 [FK b] w (.agg (BZ (AP s p)).toArray) := by
 obtain ⟨hp1, ⟨T, hT, PI, hTi, hTl⟩, hp3⟩ := id hp; refine enter Tryz.func24 rfl Tryz.ntmps24 rfl (St.start w (BF w) (Le.refl _)) (tr (le rfl (Ah rfl BL rfl) ?_)); rintro _ _ _ ⟨b2, rfl, rfl, rfl⟩; refine AI (H' := row b2 73 (BZ BV) :: _) ?_ (fun _ h => h); refine BQ (AC 1 rfl (lq rfl (qc rfl rfl rfl ((fun w hw => SS b s p lv i w hs hf (hp.mono hw.le) (hb.mono hw.le)))) (Gb (AN (CI mo (by kernel_rfl) (fun _ _ _ _ _ h => h) (AK 3 rfl (sq rfl ((by exact B1 rfl rfl (B2 (hb 5 _ rfl)))) ?_))))))); refine AK 2 rfl ?_
 refine Bf 10 5 10 21 20 _ _ rfl rfl rfl rfl rfl rfl (fun h21 => by
   simp at h21
   refine AJ 3 rfl (sg rfl ((by exact B1 rfl rfl (B2 (hb 2 _ rfl)))) ?_); refine AJ 3 rfl (sg rfl ((by exact B1 rfl rfl (B2 (hb 1 _ rfl)))) ?_); refine sg rfl ((by exact CN rfl Dx rfl (Sl.lenOf hT (List.length_map _)))) ?_; refine AJ 1 rfl ?_; exact Ao rfl
  ) (AM rfl) rfl rfl rfl ?_
 refine Cy (AF rfl (fun hc0 => ?_) (fun hc0 => ?_))
 ·have Jj : p.line = [] := by
   rw [← PI]
   have h := hc0
   simp at h
   exact List.drop_eq_nil_of_le (by omega)
  have hh := F4 (s := s) Jj
  refine tr (AC 3 rfl (lq rfl ((by exact B1 rfl rfl (B2 (hb 0 _ rfl)))) ?_)); refine lq rfl (Ap rfl CW rfl) (lq rfl (A6 (pl := [(_, _), (_, _), (_, _), (_, _), (_, _)]) (cs := (BZ (PR s)).toArray) rfl Cz BL ⟨rfl, ⟨_, _, B0⟩, rfl, ⟨_, _, CU⟩, rfl, ⟨_, _, B0⟩, rfl, ⟨_, _, CU⟩, rfl, ⟨_, _, De⟩, trivial⟩ rfl rfl) (An rfl rfl ((by exact AE rfl BL rfl rfl rfl (by exact A4 _) rfl)) ?_)); rintro _ _ _ ⟨rfl, rfl⟩; refine ln (Aq (Ag (A3 (.inl rfl) rfl (by exact BK rfl Cz BL rfl rfl (BJ)) (fun w' hw => ?_)))); refine ⟨?_, hw.below⟩
  rw [hh]; try rfl
 ·have AFH : ¬ p.line = [] := fun h1 => by
   rw [← PI] at h1
   have h3 : T.length ≤ i := List.drop_eq_nil_iff.1 h1
   have h := hc0
   rw [decide_eq_true (show (T.length : Int) ≤ (i : Int) by omega)] at h
   simp at h
  obtain ⟨t0, r0, Jj⟩ := Er AFH
  have hh := Db (s := s) Jj
  have hTn := Pa (PI.trans Jj)
  have SN : i < T.length := (List.getElem?_eq_some_iff.1 hTn).1
  refine Al (AN (DH [10] [] [] mo (by kernel_rfl) (fun _ _ _ _ _ h => h) (Bg [0, 1, 2] (by kernel_rfl) rfl rfl rfl (IC 3 (by kernel_rfl) rfl rfl ((by exact B1 rfl rfl (B2 (hb 1 _ rfl)))) ?_)))); refine Bg [4, 5, 6] (by kernel_rfl) rfl rfl rfl (IC 7 (by kernel_rfl) rfl rfl ((by exact B1 rfl rfl (B2 (hb 2 _ rfl)))) ?_); refine IC 8 (by kernel_rfl) rfl rfl ((by exact A5 rfl Dx BL rfl rfl (Sl.shape hT (List.length_map _)) (by omega))) ?_; refine IC 9 (by kernel_rfl) rfl rfl ((by exact Bc rfl Cz BL rfl rfl (hT.rds (Qa hTn)))) ?_; refine Eu 10 (by kernel_rfl) (by kernel_rfl) rfl (Le.refl _) rfl rfl ((by exact AE rfl BL rfl rfl rfl (by exact A4 _) rfl)) ?_; rintro _ _ _ ⟨rfl, rfl⟩; refine ⟨Le.refl _, .inr CY.sub, ?_⟩; refine D3 (by kernel_rfl) (Ai (Aq (A3 (.inl rfl) rfl (by exact BK rfl Cz BL rfl rfl (BJ)) (fun w' hw => ?_)))); refine ⟨?_, hw.below⟩
  rw [hh]; try rfl
theorem Da (b : Nat) (s : List UInt8) (p : PS) (lv : Value) (i : Nat) (k : Nat) (x : List UInt8) (B : CX → Bool) (hB : ∀ t, Qt t → decide (t.kind = k ∧ t.text = x) = B t) (w : World) (hs : s.length ≤ 65536) (hf : CH s p) (hp : GU s p lv i (BF w)) (hb : KP (BF w) b (CZ s lv i p.next)) : Cw Tryz.prog 26 [FK b, .int .i64 (k : Int), Bj x] w (.bool (B (AP s p))) := by
 refine enter Tryz.func26 rfl Tryz.ntmps26 rfl (St.start w (BF w) (Le.refl _)) (Ar rfl (tr (AC 1 rfl (lq rfl (qc rfl rfl rfl ((fun w hw => EM b s p lv i w hs hf (hp.mono hw.le) (hb.mono hw.le)))) (le rfl (Ah rfl BL rfl) ?_))))); rintro _ _ _ ⟨b7, rfl, rfl, rfl⟩; refine An rfl rfl ((by exact AE rfl BL rfl rfl rfl (by exact A4 _) rfl)) ?_; rintro _ _ _ ⟨rfl, rfl⟩; refine AI (H' := row b7 73 (BZ (AP s p)) :: _) ?_ (fun _ h => h); refine Gb (Dw (AK 3 rfl (sq rfl ((by exact B1 rfl rfl (B2 (hb 5 _ rfl)))) ?_))); refine AK 2 rfl ?_
 refine BA 4 5 15 20 19 _ _ rfl rfl rfl rfl rfl rfl (fun YR => by
   simp at YR
   refine AJ 1 rfl (sg rfl ((by exact AZ rfl rfl (by rfl))) ?_); refine AJ 2 rfl ?_; exact Ao rfl
  ) (AM rfl) rfl rfl rfl ?_
 refine AK 1 rfl ?_
 refine BA 4 11 21 26 25 _ _ rfl rfl rfl rfl rfl rfl (fun YZ => by
   simp at YZ
   refine AJ 1 rfl (sg rfl ((by exact AZ rfl rfl (by rfl))) ?_); refine AJ 1 rfl (sg rfl (BM rfl rfl rfl) ?_); exact Ao rfl
  ) (AM rfl) rfl rfl rfl ?_
 refine AK 1 rfl (Cy (Aq (A1 rfl rfl (fun w' hw => ?_)))); refine ⟨?_, hw.below⟩; exact congrArg Ending.returned (congrArg Value.bool (show _ = B (AP s p) by rw [← hB _ (Qo hp.2.2), ← SA]; try rfl))
theorem ED (b : Nat) (s : List UInt8) (hs : s.length ≤ 65536) (k : Nat) (x : List UInt8) (B : CX → Bool) (hB : ∀ t, Qt t → decide (t.kind = k ∧ t.text = x) = B t) : FX 26 b s [.int .i64 (k : Int), Bj x] (C4 s) (Ws s B) 0 := by
 intro p lv i I F w0 w R hR Bb hp CE
 have hL := Le.refl I
 obtain ⟨M, hM⟩ : ∃ M, M = Bp s p := ⟨_, rfl⟩; refine enter Tryz.func26 rfl Tryz.ntmps26 rfl (CE.self) (Ar rfl (tr (AC 1 rfl (Bw rfl rfl rfl rfl (fun w hw => DW b s hs p lv i _ _ _ w _ rfl (hR ▸ Bb) hp (AD (row b 71 (CZ s lv i p.next)) hw)) ?_)))); rintro v9 J _ ⟨hJ, x9, p, lv, i, OY, Nz, hp, ⟨rfl, hf, rfl⟩, rfl⟩
 have hL := hL.trans hJ
 rw [OY] at hR; refine le rfl (Ah rfl BL rfl) ?_; rintro _ _ _ ⟨b7, rfl, rfl, rfl⟩; refine An rfl rfl ((by exact AE rfl BL rfl rfl rfl (by exact A4 _) rfl)) ?_; rintro _ _ _ ⟨rfl, rfl⟩; refine AI (H' := row b7 73 (BZ (AP s p)) :: _) ?_ (fun _ h => h); refine Gb (Dw (AK 3 rfl (sq rfl (AZ rfl rfl (by rfl)) ?_))); refine AK 2 rfl ?_
 refine BA 4 5 15 20 19 _ _ rfl rfl rfl rfl rfl rfl (fun YR => by
   simp at YR
   refine AJ 1 rfl (sg rfl (AZ rfl rfl (by rfl)) ?_); refine AJ 2 rfl ?_; exact Ao rfl
  ) (AM rfl) rfl rfl rfl ?_
 refine AK 1 rfl ?_
 refine BA 4 11 21 26 25 _ _ rfl rfl rfl rfl rfl rfl (fun YZ => by
   simp at YZ
   refine AJ 1 rfl (sg rfl (AZ rfl rfl (by rfl)) ?_); refine AJ 1 rfl (sg rfl (BM rfl rfl rfl) ?_); exact Ao rfl
  ) (AM rfl) rfl rfl rfl ?_
 refine AK 1 rfl (Cy (Aq (A1 rfl rfl (fun w' hw => ?_)))); exact ⟨_, rfl, J, _, ⟨hL, _, p, lv, i, hR, (by omega), hp, ⟨rfl, hf, (congrArg Value.bool (show _ = B (AP s p) by rw [← hB _ (Qo hp.2.2), ← SA]; try rfl))⟩, rfl⟩, AA hw⟩
theorem C6 (b : Nat) (s : List UInt8) (hs : s.length ≤ 65536) (k : Nat) (x : List UInt8) (B : CX → Bool) (hB : ∀ t, Qt t → decide (t.kind = k ∧ t.text = x) = B t) (UR : ∀ t, B t = true → t.kind ≠ 0) : FX 98 b s [.int .i64 (k : Int), Bj x] (Ep s B) ZN 1 := by
 intro p lv i I F w0 w R hR Bb hp CE
 have hL := Le.refl I
 obtain ⟨M, hM⟩ : ∃ M, M = Bp s p := ⟨_, rfl⟩; unfold Ep at hR; refine enter Tryz.func98 rfl Tryz.ntmps98 rfl (CE.self) (tr (AC 3 rfl (Bw rfl rfl rfl rfl (fun w hw => ED b s hs k x B hB p lv i _ _ _ w _ rfl (Az Bb hR) hp (AD (row b 71 (CZ s lv i p.next)) hw)) ?_))); rintro v9 J _ ⟨hJ, x9, p, lv, i, OY, Nz, hp, ⟨rfl, hf, rfl⟩, rfl⟩
 have hL := hL.trans hJ
 rw [AY OY] at hR
 have BH := hp.len
 refine ln (AF rfl (fun hc0 => ?_) (fun hc0 => ?_))
 ·have Bs : B (AP s p) = true := hc0
  rw [if_pos Bs] at hR; refine AH (AC 3 rfl (lq rfl (AZ rfl rfl (by rfl)) ?_)); refine lq rfl (AX rfl rfl rfl (by omega)) ?_; refine AC 2 rfl ?_; refine An rfl rfl (Ac rfl B0 rfl rfl (by exact ⟨rfl, rfl⟩) rfl (by rfl)) ?_; rintro _ _ _ ⟨rfl, rfl⟩
  have EX := CP (s := s) (p := p) (UR _ Bs)
  have hp := hp.step (UR _ Bs)
  refine AI (H' := row b 71 (CZ s lv (i + 1) (BE p).next) :: _) ?_ (fun _ h => h); obtain ⟨p, Fr⟩ : ∃ z, z = BE p := ⟨_, rfl⟩; rw [← Fr] at EX hp hR ⊢; obtain ⟨i, Fm⟩ : ∃ z, z = i + 1 := ⟨_, rfl⟩; rw [← Fm] at hp ⊢
  have BH := hp.len
  refine BX (Cm rfl (fun w' hw => ?_)); exact ⟨_, rfl, J, _, ⟨hL, _, p, lv, i, hR, (by omega), hp, rfl, rfl⟩, AA hw⟩
 ·have Bs : ¬ B (AP s p) = true := by rw [hc0]; simp
  rw [if_neg Bs] at hR
  exfalso
  obtain ⟨_, _, h9⟩ := Bb; rw [hR] at h9
  cases h9
theorem Cr (b : Nat) (s : List UInt8) (hs : s.length ≤ 65536) : FX 23 b s [] (Dj s) (YW s) 0 := by
 intro p lv i I F w0 w R hR Bb hp CE
 have hL := Le.refl I
 obtain ⟨M, hM⟩ : ∃ M, M = Bp s p := ⟨_, rfl⟩; unfold Dj at hR; refine enter Tryz.func23 rfl Tryz.ntmps23 rfl (CE.self) (AR (A8 (ι := PS × Value × Nat × AU × Nat) (fun zz => Le I zz.2.2.2.1 ∧ GU s zz.1 zz.2.1 zz.2.2.1 zz.2.2.2.1 ∧ Bp s zz.1 ≤ Bp s p ∧ Bp s zz.1 < zz.2.2.2.2 ∧ R = Jh s zz.2.2.2.2 zz.1) (fun zz => Bp s zz.1) (fun zz => []) [(0, _)] (fun zz => zz.2.2.2.1) (fun zz => (row b 71 (CZ s zz.2.1 zz.2.2.1 zz.1.next) :: F)) (p, lv, i, I, Bp s p + 1) ?_ (AW) (AB rfl) (fun _ h => AA h) ?_))
 ·dsimp only; exact ⟨hL, hp, Nat.le_refl _, Nat.lt_succ_self _, hR⟩
 rintro ⟨p, lv, i, J, g⟩ ⟨hL, hp, I4, hg, hR⟩; dsimp only at *; refine AN (tr (AC 1 rfl ?_)); obtain ⟨g, rfl⟩ : ∃ g', g = g' + 1 := ⟨g - 1, by omega⟩; rw [Jh] at hR; refine Bw rfl rfl rfl rfl (fun w hw => ED b s hs 3 [10] (fun t => decide (t.kind = 3)) (fun _ h => T1 h) p lv i _ _ _ w _ rfl (Az Bb hR) hp (AD (row b 71 (CZ s lv i p.next)) hw)) ?_; rintro v3 J _ ⟨hJ, x3, p, lv, i, he3, AHF, hp, ⟨rfl, hf, rfl⟩, rfl⟩
 have hL := hL.trans hJ
 rw [AY he3] at hR
 have BH := hp.len
 refine ln (AF rfl (fun hc0 => ?_) (fun hc0 => ?_))
 ·have hk : (AP s p).kind = 3 := of_decide_eq_true hc0
  rw [if_pos hk] at hR; refine Al (AR (AH (AC 3 rfl (lq rfl (AZ rfl rfl (by rfl)) ?_)))); refine lq rfl (AX rfl rfl rfl (by omega)) ?_; refine AC 2 rfl ?_; refine An rfl rfl (Ac rfl B0 rfl rfl (by exact ⟨rfl, rfl⟩) rfl (by rfl)) ?_; rintro _ _ _ ⟨rfl, rfl⟩
  have EX := CP (s := s) (p := p) (by omega)
  have hp := hp.step (by omega)
  refine AI (H' := row b 71 (CZ s lv (i + 1) (BE p).next) :: _) ?_ (fun _ h => h); obtain ⟨p, Fr⟩ : ∃ z, z = BE p := ⟨_, rfl⟩; rw [← Fr] at EX hp hR ⊢; obtain ⟨i, Fm⟩ : ∃ z, z = i + 1 := ⟨_, rfl⟩; rw [← Fm] at hp ⊢
  have BH := hp.len
  refine BX (AV (Ak ((p, lv, i, J, g)) ?_ ?_ (AW) (AB rfl) (fun _ h => by dsimp only; exact AA h)))
  ·dsimp only; exact ⟨hL, hp, by omega, by omega, hR⟩
  ·dsimp only
   omega
 ·have hk : ¬ (AP s p).kind = 3 := of_decide_eq_false hc0
  rw [if_neg hk] at hR; refine BB (AG (AG (AQ (Cm rfl (fun w' hw => ?_))))); exact ⟨_, rfl, J, _, ⟨hL, _, p, lv, i, hR, (by omega), hp, ⟨rfl, hf, hk⟩, rfl⟩, AA hw⟩
theorem It (b : Nat) (s : List UInt8) (hs : s.length ≤ 65536) (p : PS) (lv : Value) (i : Nat) (I : AU) (F : List HA) (w0 w : World) (hf : CH s p) (hk : (AP s p).kind ≠ 0) (hp : GU s p lv i I) (CE : St w0 I (row b 71 (CZ s lv i p.next) :: F) w) : Calls Tryz.prog 49 [FK b].toArray w (fun e w' => ∃ v, e = .returned v ∧ ∃ I' H', (Le I I' ∧ v = .agg (BZ (AP s p)).toArray ∧ GU s (BE p) lv (i + 1) I' ∧ H' = row b 71 (CZ s lv (i + 1) (BE p).next) :: F) ∧ St w I' H' w') := by
 have BH := hp.len
 refine enter Tryz.func49 rfl Tryz.ntmps49 rfl (CE.self) (tr (le rfl (Ah rfl BL rfl) ?_)); rintro _ _ _ ⟨b2, rfl, rfl, rfl⟩; refine AI (H' := row b2 73 (BZ BV) :: _) ?_ (fun _ h => h); refine BQ (AC 1 rfl (lq rfl (qc rfl rfl rfl ((fun w hw => EM b s p lv i w hs hf (hp.mono hw.le) (Bn hw)))) (le rfl (Ah rfl BL rfl) ?_))); rintro _ _ _ ⟨b3, rfl, rfl, rfl⟩; refine An rfl rfl ((by exact AE rfl BL rfl rfl rfl (by exact A4 _) rfl)) ?_; rintro _ _ _ ⟨rfl, rfl⟩; refine AI (H' := row b3 73 (BZ (AP s p)) :: _) ?_ (fun _ h => h); refine BQ (AC 3 rfl (lq rfl (AZ rfl rfl (by rfl)) ?_)); refine lq rfl (AX rfl rfl rfl (by omega)) ?_; refine AC 2 rfl ?_; refine An rfl rfl (Ac rfl B0 rfl rfl (by exact ⟨rfl, rfl⟩) rfl (by rfl)) ?_; rintro _ _ _ ⟨rfl, rfl⟩; refine AI (H' := row b 71 (CZ s lv (i + 1) (BE p).next) :: _) ?_ (fun _ h => h); refine BQ (lq rfl (Af rfl Cz BL rfl rfl rfl) (An rfl rfl ((by exact AE rfl BL rfl rfl rfl (by exact A4 _) rfl)) ?_)); rintro _ _ _ ⟨rfl, rfl⟩; refine ln (Aq (A3 (.inl rfl) rfl (by exact BK rfl Cz BL rfl rfl (BJ)) (fun w' hw => ?_))); exact ⟨_, rfl, I, _, ⟨Le.refl _, rfl, hp.step hk, rfl⟩, AA hw⟩
end Go.Tri

namespace Go.Tri
open Go.Proofs Go.RowKit
set_option maxRecDepth 10000
def Om : List (List UInt8) := [[33], [123], [125], [99, 97, 115, 101], [100, 111], [100, 111, 110, 101], [101, 108, 105, 102], [101, 108, 115, 101], [101, 115, 97, 99], [102, 105], [102, 111, 114], [105, 102], [105, 110], [116, 104, 101, 110], [117, 110, 116, 105, 108], [119, 104, 105, 108, 101]]
theorem Vk (t : List UInt8) : Dy Dp t = decide (t ∈ Om) := by
 rw [Z0]; exact decide_eq_decide.2 ⟨fun h => (by decide : ∀ x ∈ AAl, x ∈ Om) t h, fun h => (by decide : ∀ x ∈ Om, x ∈ AAl) t h⟩
theorem SC {t : CX} (h2 : t.kind = 2) (h : t.text ∈ I8) : Cj t = true := by
 unfold Cj; rw [RS, decide_eq_true h2, decide_eq_true h, Bool.true_and, Bool.or_true]
theorem VS {t : CX} (h4 : ¬ t.kind = 4) (h : t.kind = 2 → t.text ∉ I8) : Cj t = false := by
 unfold Cj; rw [decide_eq_false h4, Bool.false_or, RS]
 by_cases h2 : t.kind = 2
 ·rw [decide_eq_false (h h2), Bool.and_false]
 ·rw [decide_eq_false h2, Bool.false_and]
theorem P7 {α : Type} {l : List α} {m : Nat} {t d : α} (h : m < l.length) : t ∈ l.take (m + 1) ↔ t ∈ l.take m ∨ t = nth l m d := by rw [D2 d h, List.mem_append, List.mem_singleton]
theorem JN (t : List UInt8) (w : World) : Cw Tryz.prog 79 [Bj t] w (.bool (Dy Dp t)) := by
 refine enter Tryz.func79 rfl Tryz.ntmps79 rfl (St.start w (BF w) (Le.refl _)) (Ar rfl (tr (le rfl (Cb (vs := [_, _, _, _, _, _, _, _, _, _, _, _, _, _, _, _]) (css := [Bo [33], Bo [123], Bo [125], Bo [99, 97, 115, 101], Bo [100, 111], Bo [100, 111, 110, 101], Bo [101, 108, 105, 102], Bo [101, 108, 115, 101], Bo [101, 115, 97, 99], Bo [102, 105], Bo [102, 111, 114], Bo [105, 102], Bo [105, 110], Bo [116, 104, 101, 110], Bo [117, 110, 116, 105, 108], Bo [119, 104, 105, 108, 101]]) rfl CD CU rfl rfl rfl rfl (rfl) (by simp [Bo])) ?_))); rintro _ _ _ ⟨b5, rfl, rfl, rfl⟩; refine AI (H' := BO 9 1 Bo (.slice (some ⟨b5, 0, none⟩) 16 16) Om :: _) ?_ (fun _ h => A7 h rfl (by decide)); refine BG (f := Bo) (l := Om) (.slice (some ⟨b5, 0, none⟩) 16 16) (fun _ => rfl) (fun Jo VX JT => ?_); refine Ae rfl (AN (Ar rfl (AR (A8 (ι := Nat) (fun zz => zz ≤ 16 ∧ t ∉ Om.take zz) (fun zz => 16 - zz) (fun zz => [(4, .int .i64 (zz : Int))]) [(0, _), (3, _)] (fun zz => Jo) (fun zz => []) 0 ?_ (AB rfl) (AB rfl) (fun _ h => AA h) ?_))))
 ·exact ⟨Nat.zero_le _, fun h => by simp at h⟩
 rintro m ⟨ARj, ET⟩; dsimp only at *; refine AN (tr (AC 2 rfl ?_)); refine lq rfl ((by exact CN rfl CD rfl (Sl.lenOf (n := 16) JT rfl))) ?_; refine Ae rfl (AF rfl (fun HB => ?_) (fun HB => ?_))
 ·simp at HB
  have hm : m < 16 := by omega
  refine Al (AN (AR (tr (AC 2 rfl ?_)))); refine lq rfl ((by exact A5 rfl CD CU rfl rfl (Sl.shape (n := 16) JT rfl) (by omega))) ?_; refine lq rfl ((by exact B1 rfl rfl (Iw (i := m) JT (show m < Om.length from hm)))) ?_; refine AC 1 rfl (lq rfl (BM rfl rfl rfl) (ln (AF rfl (fun BI => ?_) (fun BI => ?_))))
  ·simp at BI
   refine Ar rfl (C0 (A1 rfl rfl (fun w' hw => ?_))); refine ⟨?_, (hw.less VX).below⟩; rw [Vk, decide_eq_true (by rw [← BI]; exact DG (show m < Om.length from hm))]
  ·simp at BI
   refine Au (AV (Ai (AH (AC 1 rfl (lq rfl (AX rfl rfl rfl (by omega)) ?_))))); refine Ax rfl (Ak (m + 1) ?_ ?_ (AB rfl) (AB rfl) (fun _ h => by dsimp only; exact AA h))
   ·refine ⟨by omega, fun h => ?_⟩; rcases (P7 (d := []) (show m < Om.length from hm)).1 h with h | h
    ·exact ET h
    ·exact BI h.symm
   ·omega
 ·simp at HB
  have hm : m = 16 := by omega
  subst hm
  have X4 : t ∉ Om := by exact ET
  refine BB (AG (AG (AQ (Ai (Ar rfl (Aq (A1 rfl rfl (fun w' hw => ?_)))))))); refine ⟨?_, (hw.less VX).below⟩; rw [Vk, decide_eq_false X4]
theorem H5 (b : Nat) (s : List UInt8) (p : PS) (lv : Value) (i : Nat) (w : World) (hs : s.length ≤ 65536) (hf : CH s p) (hp : GU s p lv i (BF w)) (hb : KP (BF w) b (CZ s lv i p.next)) : Cw Tryz.prog 103 [FK b] w (.bool (Cj (AP s p))) := by
 refine enter Tryz.func103 rfl Tryz.ntmps103 rfl (St.start w (BF w) (Le.refl _)) (Ar rfl (tr (AC 1 rfl (lq rfl (qc rfl rfl rfl ((fun w hw => EM b s p lv i w hs hf (hp.mono hw.le) (hb.mono hw.le)))) (le rfl (Ah rfl BL rfl) ?_))))); rintro _ _ _ ⟨b3, rfl, rfl, rfl⟩; refine An rfl rfl ((by exact AE rfl BL rfl rfl rfl (by exact A4 _) rfl)) ?_; rintro _ _ _ ⟨rfl, rfl⟩; refine AI (H' := row b3 73 (BZ (AP s p)) :: _) ?_ (fun _ h => h); refine K6 (AC 3 rfl (lq rfl ((by exact B1 rfl rfl (B2 (hb 5 _ rfl)))) ?_)); refine Ae rfl (AF rfl (fun hc0 => ?_) (fun hc0 => ?_))
 ·simp at hc0
 ·simp at hc0
  refine Al (AN (tr (AC 1 rfl (lq rfl ((by exact AZ rfl rfl (by rfl))) ?_)))); refine Ae rfl (AF rfl (fun BI => ?_) (fun BI => ?_))
  ·simp at BI
   have Th : (AP s p).kind = 4 := by omega
   refine Ar rfl (C0 (A1 rfl rfl (fun w' hw => ?_))); refine ⟨?_, hw.below⟩
   have hrt : Cj (AP s p) = true := by unfold Cj; rw [decide_eq_true Th]; try rfl
   rw [hrt]
  ·simp at BI
   have Th : ¬ (AP s p).kind = 4 := by omega
   refine Al (tr (le rfl (Cb (vs := [_, _, _, _, _, _, _, _, _]) (css := [Bo [60], Bo [62], Bo [62, 124], Bo [62, 62], Bo [60, 60], Bo [60, 60, 45], Bo [60, 38], Bo [62, 38], Bo [60, 62]]) rfl CD CU rfl rfl rfl rfl (rfl) (by simp [Bo])) ?_)); rintro _ _ _ ⟨b16, rfl, rfl, rfl⟩; refine AI (H' := BO 9 1 Bo (.slice (some ⟨b16, 0, none⟩) 9 9) I8 :: _) ?_ (fun _ h => A7 h rfl (by decide)); refine BG (f := Bo) (l := I8) (.slice (some ⟨b16, 0, none⟩) 9 9) (fun _ => rfl) (fun Jo VX JT => ?_); refine Ae rfl (AN (Ar rfl (AR (A8 (ι := Nat) (fun zz => zz ≤ 9 ∧ ((AP s p).kind = 2 → (AP s p).text ∉ I8.take zz)) (fun zz => 9 - zz) (fun zz => [(5, .int .i64 (zz : Int))]) [(0, _), (3, _), (12, _), (15, _), (4, _)] (fun zz => Jo) (fun zz => [row b3 73 (BZ (AP s p))]) 0 ?_ (AB rfl) (AB rfl) (fun _ h => AA h) ?_))))
   ·exact ⟨Nat.zero_le _, fun _ h => by simp at h⟩
   rintro m ⟨hm9, ET⟩; dsimp only at *; refine AN (tr (AC 2 rfl ?_)); refine lq rfl ((by exact CN rfl CD rfl (Sl.lenOf (n := 9) JT rfl))) ?_; refine Ae rfl (AF rfl (fun TV => ?_) (fun TV => ?_))
   ·simp at TV
    have hm : m < 9 := by omega
    refine Al (AN (AR (AN (CI mo (by kernel_rfl) (fun _ _ _ _ _ h => h) (AK 1 rfl (sq rfl ((by exact AZ rfl rfl (by rfl))) ?_)))))); refine AK 2 rfl ?_
    refine BA 7 3 26 34 33 _ _ rfl rfl rfl rfl rfl rfl (fun Jm => by
      simp at Jm
      refine AJ 1 rfl (sg rfl ((by exact AZ rfl rfl (by rfl))) ?_); refine AJ 2 rfl ?_; refine sg rfl ((by exact A5 rfl CD CU rfl rfl (Sl.shape (n := 9) JT rfl) (by omega))) ?_; refine sg rfl ((by exact B1 rfl rfl (Iw (i := m) JT (show m < I8.length from hm)))) ?_; refine sg rfl (BM rfl rfl rfl) ?_; exact Ao rfl
     ) (AM rfl) rfl rfl rfl ?_
    refine Cy (AF rfl (fun Bd => ?_) (fun Bd => ?_))
    ·have hrt : Cj (AP s p) = true := by
      have h9 := Bd
      rw [Bool.and_eq_true, decide_eq_true_eq, decide_eq_true_eq] at h9; exact SC (by omega) (by rw [h9.2]; exact DG (show m < I8.length from hm))
     refine Ar rfl (C0 (A1 rfl rfl (fun w' hw => ?_))); refine ⟨?_, (hw.less VX).below⟩; rw [hrt]
    ·have EZ : ¬ ((AP s p).kind = 2 ∧ (AP s p).text = nth I8 m []) := fun ⟨h2, h3⟩ => by
      have h9 := Bd
      rw [decide_eq_true (show ((AP s p).kind : Int) = 2 by omega), decide_eq_true h3] at h9
      cases h9
     refine Au (AV (Ai (AH (AC 1 rfl (lq rfl (AX rfl rfl rfl (by omega)) ?_))))); refine Ax rfl (Ak (m + 1) ?_ ?_ (AB rfl) (AB rfl) (fun _ h => by dsimp only; exact AA h))
     ·refine ⟨by omega, fun h2 h => ?_⟩; rcases (P7 (d := []) (show m < I8.length from hm)).1 h with h | h
      ·exact ET h2 h
      ·exact EZ ⟨h2, h⟩
     ·omega
   ·simp at TV
    have hm : m = 9 := by omega
    subst hm
    have hrf : Cj (AP s p) = false := VS Th ET
    refine BB (AG (AG (AQ (Ai (Ar rfl (Aq (A1 rfl rfl (fun w' hw => ?_)))))))); refine ⟨?_, (hw.less VX).below⟩; rw [hrf]
set_option maxHeartbeats 1000000 in
theorem H0 (b : Nat) (s : List UInt8) (hs : s.length ≤ 65536) : FX 103 b s [] (C4 s) (Ws s Cj) 0 := by
 intro p lv i I F w0 w R hR Bb hp CE
 have hL := Le.refl I
 obtain ⟨M, hM⟩ : ∃ M, M = Bp s p := ⟨_, rfl⟩; refine enter Tryz.func103 rfl Tryz.ntmps103 rfl (CE.self) (Ar rfl (tr (AC 1 rfl (Bw rfl rfl rfl rfl (fun w hw => DW b s hs p lv i _ _ _ w _ rfl (hR ▸ Bb) hp (AD (row b 71 (CZ s lv i p.next)) hw)) ?_)))); rintro v7 J _ ⟨hJ, x7, p, lv, i, UT, SH, hp, ⟨rfl, hf, rfl⟩, rfl⟩
 have hL := hL.trans hJ
 rw [UT] at hR; refine le rfl (Ah rfl BL rfl) ?_; rintro _ _ _ ⟨b3, rfl, rfl, rfl⟩; refine An rfl rfl ((by exact AE rfl BL rfl rfl rfl (by exact A4 _) rfl)) ?_; rintro _ _ _ ⟨rfl, rfl⟩; refine AI (H' := row b3 73 (BZ (AP s p)) :: _) ?_ (fun _ h => h); refine K6 (AC 3 rfl (lq rfl ((by exact AZ rfl rfl (by rfl))) ?_)); refine Ae rfl (AF rfl (fun hc0 => ?_) (fun hc0 => ?_))
 ·simp at hc0
 ·simp at hc0
  refine Al (AN (tr (AC 1 rfl (lq rfl ((by exact AZ rfl rfl (by rfl))) ?_)))); refine Ae rfl (AF rfl (fun BI => ?_) (fun BI => ?_))
  ·simp at BI
   have Th : (AP s p).kind = 4 := by omega
   refine Ar rfl (C0 (A1 rfl rfl (fun w' hw => ?_)))
   have hrt : Cj (AP s p) = true := by unfold Cj; rw [decide_eq_true Th]; try rfl
   exact ⟨_, rfl, J, _, ⟨hL, _, p, lv, i, hR, (by omega), hp, ⟨rfl, hf, congrArg Value.bool hrt.symm⟩, rfl⟩, AA hw⟩
  ·simp at BI
   have Th : ¬ (AP s p).kind = 4 := by omega
   refine Al (tr (le rfl (Cb (vs := [_, _, _, _, _, _, _, _, _]) (css := [Bo [60], Bo [62], Bo [62, 124], Bo [62, 62], Bo [60, 60], Bo [60, 60, 45], Bo [60, 38], Bo [62, 38], Bo [60, 62]]) rfl CD CU rfl rfl rfl rfl (rfl) (by simp [Bo])) ?_)); rintro _ _ _ ⟨b16, rfl, rfl, rfl⟩; refine AI (H' := BO 9 1 Bo (.slice (some ⟨b16, 0, none⟩) 9 9) I8 :: _) ?_ (fun _ h => A7 h rfl (by decide)); refine BG (f := Bo) (l := I8) (.slice (some ⟨b16, 0, none⟩) 9 9) (fun _ => rfl) (fun Jo VX JT => ?_)
   have hL2 := hL.trans VX
   refine Ae rfl (AN (Ar rfl (AR (A8 (ι := Nat) (fun zz => zz ≤ 9 ∧ ((AP s p).kind = 2 → (AP s p).text ∉ I8.take zz)) (fun zz => 9 - zz) (fun zz => [(5, .int .i64 (zz : Int))]) [(0, _), (3, _), (12, _), (15, _), (4, _)] (fun zz => Jo) (fun zz => (row b3 73 (BZ (AP s p)) :: row b 71 (CZ s lv i p.next) :: F)) 0 ?_ (AB rfl) (AB rfl) (fun _ h => AA h) ?_))))
   ·exact ⟨Nat.zero_le _, fun _ h => by simp at h⟩
   rintro m ⟨hm9, ET⟩; dsimp only at *; refine AN (tr (AC 2 rfl ?_)); refine lq rfl ((by exact CN rfl CD rfl (Sl.lenOf (n := 9) JT rfl))) ?_; refine Ae rfl (AF rfl (fun TV => ?_) (fun TV => ?_))
   ·simp at TV
    have hm : m < 9 := by omega
    refine Al (AN (AR (AN (CI mo (by kernel_rfl) (fun _ _ _ _ _ h => h) (AK 1 rfl (sq rfl ((by exact AZ rfl rfl (by rfl))) ?_)))))); refine AK 2 rfl ?_
    refine BA 7 3 26 34 33 _ _ rfl rfl rfl rfl rfl rfl (fun Jm => by
      simp at Jm
      refine AJ 1 rfl (sg rfl ((by exact AZ rfl rfl (by rfl))) ?_); refine AJ 2 rfl ?_; refine sg rfl ((by exact A5 rfl CD CU rfl rfl (Sl.shape (n := 9) JT rfl) (by omega))) ?_; refine sg rfl ((by exact B1 rfl rfl (Iw (i := m) JT (show m < I8.length from hm)))) ?_; refine sg rfl (BM rfl rfl rfl) ?_; exact Ao rfl
     ) (AM rfl) rfl rfl rfl ?_
    refine Cy (AF rfl (fun Bd => ?_) (fun Bd => ?_))
    ·have hrt : Cj (AP s p) = true := by
      have h9 := Bd
      rw [Bool.and_eq_true, decide_eq_true_eq, decide_eq_true_eq] at h9; exact SC (by omega) (by rw [h9.2]; exact DG (show m < I8.length from hm))
     refine Ar rfl (C0 (A1 rfl rfl (fun w' hw => ?_))); exact ⟨_, rfl, Jo, _, ⟨hL2, _, p, lv, i, hR, (by omega), hp.mono VX, ⟨rfl, hf, congrArg Value.bool hrt.symm⟩, rfl⟩, AA hw⟩
    ·have EZ : ¬ ((AP s p).kind = 2 ∧ (AP s p).text = nth I8 m []) := fun ⟨h2, h3⟩ => by
      have h9 := Bd
      rw [decide_eq_true (show ((AP s p).kind : Int) = 2 by omega), decide_eq_true h3] at h9
      cases h9
     refine Au (AV (Ai (AH (AC 1 rfl (lq rfl (AX rfl rfl rfl (by omega)) ?_))))); refine Ax rfl (Ak (m + 1) ?_ ?_ (AB rfl) (AB rfl) (fun _ h => by dsimp only; exact AA h))
     ·refine ⟨by omega, fun h2 h => ?_⟩; rcases (P7 (d := []) (show m < I8.length from hm)).1 h with h | h
      ·exact ET h2 h
      ·exact EZ ⟨h2, h⟩
     ·omega
   ·simp at TV
    have hm : m = 9 := by omega
    subst hm
    have hrf : Cj (AP s p) = false := VS Th ET
    refine BB (AG (AG (AQ (Ai (Ar rfl (Aq (A1 rfl rfl (fun w' hw => ?_)))))))); exact ⟨_, rfl, Jo, _, ⟨hL2, _, p, lv, i, hR, (by omega), hp.mono VX, ⟨rfl, hf, congrArg Value.bool hrf.symm⟩, rfl⟩, AA hw⟩
set_option maxHeartbeats 1000000 in
theorem KL (b : Nat) (s : List UInt8) (p : PS) (lv : Value) (i : Nat) (w : World) (hs : s.length ≤ 65536) (hf : CH s p) (hp : GU s p lv i (BF w)) (hb : KP (BF w) b (CZ s lv i p.next)) : Cw Tryz.prog 126 [FK b] w (.bool (E5 (AP s p))) := by
 refine enter Tryz.func126 rfl Tryz.ntmps126 rfl (St.start w (BF w) (Le.refl _)) (Ar rfl (tr (AC 1 rfl (lq rfl (qc rfl rfl rfl ((fun w hw => EM b s p lv i w hs hf (hp.mono hw.le) (hb.mono hw.le)))) (le rfl (Ah rfl BL rfl) ?_))))); rintro _ _ _ ⟨b3, rfl, rfl, rfl⟩; refine An rfl rfl ((by exact AE rfl BL rfl rfl rfl (by exact A4 _) rfl)) ?_; rintro _ _ _ ⟨rfl, rfl⟩; refine AI (H' := row b3 73 (BZ (AP s p)) :: _) ?_ (fun _ h => h); refine K6 (AC 3 rfl (lq rfl ((by exact B1 rfl rfl (B2 (hb 5 _ rfl)))) ?_)); refine Ae rfl (AF rfl (fun hc0 => ?_) (fun hc0 => ?_))
 ·simp at hc0
 ·simp at hc0
  refine Al (AN (tr (AC 1 rfl (lq rfl ((by exact AZ rfl rfl (by rfl))) ?_)))); refine Ae rfl (AF rfl (fun BI => ?_) (fun BI => ?_))
  ·simp at BI
   have GO : (AP s p).kind = 1 := by omega
   have hbe : E5 (AP s p) = !Dy G4 (AP s p).text := by
    unfold E5 C8 Cj
    rw [decide_eq_true GO, decide_eq_false (show ¬ (AP s p).kind = 2 by omega), decide_eq_false (show ¬ (AP s p).kind = 4 by omega)]; simp
   refine AN (tr (AC 1 rfl (lq rfl ((by exact AZ rfl rfl (by rfl))) ?_))); refine ln (AR (Bh (ι := Bool) (fun zz => zz = Dy G4 (AP s p).text) (fun zz => [(16, .bool zz)]) [(0, _), (2, _), (3, _), (10, _), (13, _), (15, _)] (fun zz => BF w) (fun zz => [row b3 73 (BZ (AP s p))]) (AB rfl) ?_ ?_))
   ·refine tr (lq rfl (BM rfl rfl rfl) (Ae rfl (AF rfl (fun BU => ?_) (fun BU => ?_))))
    ·simp at BU
     refine Au (Av (_) ?_ (AB rfl) (AB rfl) (fun _ h => by dsimp only; exact AA h))
     ·have h9 : (AP s p).text = [125] := BU
      rw [Fb, decide_eq_true h9, h9]; decide
    ·simp at BU
     refine tr (lq rfl (BM rfl rfl rfl) (Ae rfl (AF rfl (fun Bd => ?_) (fun Bd => ?_))))
     ·simp at Bd
      refine Au (Av (_) ?_ (AB rfl) (AB rfl) (fun _ h => by dsimp only; exact AA h))
      ·have h9 : (AP s p).text = [100, 111] := Bd
       rw [Fb, decide_eq_true h9, h9]; decide
     ·simp at Bd
      refine tr (lq rfl (BM rfl rfl rfl) (Ae rfl (AF rfl (fun Cg => ?_) (fun Cg => ?_))))
      ·simp at Cg
       refine Au (Av (_) ?_ (AB rfl) (AB rfl) (fun _ h => by dsimp only; exact AA h))
       ·have h9 : (AP s p).text = [100, 111, 110, 101] := Cg
        rw [Fb, decide_eq_true h9, h9]; decide
      ·simp at Cg
       refine tr (lq rfl (BM rfl rfl rfl) (Ae rfl (AF rfl (fun C1 => ?_) (fun C1 => ?_))))
       ·simp at C1
        refine Au (Av (_) ?_ (AB rfl) (AB rfl) (fun _ h => by dsimp only; exact AA h))
        ·have h9 : (AP s p).text = [101, 108, 105, 102] := C1
         rw [Fb, decide_eq_true h9, h9]; decide
       ·simp at C1
        refine tr (lq rfl (BM rfl rfl rfl) (Ae rfl (AF rfl (fun Dd => ?_) (fun Dd => ?_))))
        ·simp at Dd
         refine Au (Av (_) ?_ (AB rfl) (AB rfl) (fun _ h => by dsimp only; exact AA h))
         ·have h9 : (AP s p).text = [101, 108, 115, 101] := Dd
          rw [Fb, decide_eq_true h9, h9]; decide
        ·simp at Dd
         refine tr (lq rfl (BM rfl rfl rfl) (Ae rfl (AF rfl (fun EW => ?_) (fun EW => ?_))))
         ·simp at EW
          refine Au (Av (_) ?_ (AB rfl) (AB rfl) (fun _ h => by dsimp only; exact AA h))
          ·have h9 : (AP s p).text = [101, 115, 97, 99] := EW
           rw [Fb, decide_eq_true h9, h9]; decide
         ·simp at EW
          refine tr (lq rfl (BM rfl rfl rfl) (Ae rfl (AF rfl (fun HF => ?_) (fun HF => ?_))))
          ·simp at HF
           refine Au (Av (_) ?_ (AB rfl) (AB rfl) (fun _ h => by dsimp only; exact AA h))
           ·have h9 : (AP s p).text = [102, 105] := HF
            rw [Fb, decide_eq_true h9, h9]; decide
          ·simp at HF
           refine tr (lq rfl (BM rfl rfl rfl) (Ae rfl (AF rfl (fun J0 => ?_) (fun J0 => ?_))))
           ·simp at J0
            refine Au (Av (_) ?_ (AB rfl) (AB rfl) (fun _ h => by dsimp only; exact AA h))
            ·have h9 : (AP s p).text = [105, 110] := J0
             rw [Fb, decide_eq_true h9, h9]; decide
           ·simp at J0
            refine AH (lq rfl (BM rfl rfl rfl) (Ax rfl (Av (_) ?_ (AB rfl) (AB rfl) (fun _ h => by dsimp only; exact AA h))))
            ·rw [Fb]; refine decide_eq_decide.2 ?_
             have h9 : True := trivial
             simp only [ADv, List.mem_cons, List.not_mem_nil, or_false]
             constructor
             ·intro h; simp [h]
             ·intro h; rcases h with h | h | h | h | h | h | h | h | h
              all_goals first | exact h | exact absurd h (by assumption)
   rintro z hz; dsimp only at *; refine AF rfl (fun GH => ?_) (fun GH => ?_)
   ·refine Ar rfl (C0 (A1 rfl rfl (fun w' hw => ?_))); refine ⟨?_, hw.below⟩
    rw [hbe, ← hz, GH]; try rfl
   ·refine Au (AV (Ai (Ar rfl (C0 (A1 rfl rfl (fun w' hw => ?_)))))); refine ⟨?_, hw.below⟩
    rw [hbe, ← hz, GH]; try rfl
  ·simp at BI
   have GO : ¬ (AP s p).kind = 1 := by omega
   refine Al (tq (AK 1 rfl (sq rfl (qc rfl rfl rfl ((fun w hw => H5 b s p lv i w hs hf (hp.mono hw.le) (hb.mono hw.le)))) (AK 1 rfl ?_))))
   refine Bf 8 2 28 37 36 _ _ rfl rfl rfl rfl rfl rfl (fun h37 => by
     refine AJ 1 rfl (sg rfl ((by exact AZ rfl rfl (by rfl))) ?_); refine AJ 2 rfl ?_
     refine BA 3 6 32 36 35 _ _ rfl rfl rfl rfl rfl rfl (fun h36 => by
       simp at h36
       refine AJ 1 rfl (sg rfl ((by exact AZ rfl rfl (by rfl))) ?_); refine sg rfl (BM rfl rfl rfl) ?_; exact Ao rfl
      ) (Be rfl rfl rfl rfl) rfl rfl rfl ?_
     exact Ao rfl
    ) (AM rfl) rfl rfl rfl ?_
   refine AK 1 rfl (Cy (Aq (A1 rfl rfl (fun w' hw => ?_)))); refine ⟨?_, hw.below⟩; refine congrArg (fun z => Ending.returned (Value.bool z)) ?_; unfold E5; rw [decide_eq_false GO, Bool.false_and, Bool.false_or, ← IK, Bool.or_comm]
end Go.Tri

namespace Go.Tri
open Go.Proofs Go.RowKit
set_option maxRecDepth 10000
open Go.Sort
theorem AHK (s : List UInt8) (i : Nat) : (!Fe (nth s i 0) && (decide ((i : Int) = 0) || !DQ (nth s i 0))) = !TS s i := by
 unfold TS
 by_cases h1 : (i : Int) = 0 <;> cases Fe (nth s i 0) <;> cases DQ (nth s i 0) <;> simp [h1] <;> omega
theorem Qn (c : UInt8) (w : World) : Cw Tryz.prog 128 [u8 c] w (.bool (Fe c)) := by
 refine enter Tryz.func128 rfl Tryz.ntmps128 rfl (St.start w (BF w) (Le.refl _)) (Ar rfl (tq (AK 3 rfl ?_)))
 refine BA 2 2 5 8 7 _ _ rfl rfl rfl rfl rfl rfl (fun h8 => by
   simp at h8
   refine AJ 2 rfl ?_; exact Ao rfl
  ) (AM rfl) rfl rfl rfl ?_
 refine AK 1 rfl ?_
 refine Bf 6 6 9 16 15 _ _ rfl rfl rfl rfl rfl rfl (fun V5 => by
   simp at V5
   refine AJ 3 rfl ?_
   refine BA 2 9 12 15 14 _ _ rfl rfl rfl rfl rfl rfl (fun h15 => by
     simp at h15
     refine AJ 2 rfl ?_; exact Ao rfl
    ) (Be rfl rfl rfl rfl) rfl rfl rfl ?_
   exact Ao rfl
  ) (AM rfl) rfl rfl rfl ?_
 refine AK 1 rfl ?_
 refine Bf 2 14 17 20 19 _ _ rfl rfl rfl rfl rfl rfl (fun YR => by
   simp at YR
   refine AJ 1 rfl (sg rfl (Aw rfl rfl rfl rfl) ?_); exact Ao rfl
  ) (AM rfl) rfl rfl rfl ?_
 refine AK 1 rfl (Cy (Aq (A1 rfl rfl (fun w' hw => ?_)))); refine ⟨?_, hw.below⟩
 rfl
theorem S6 (c : UInt8) (w : World) : Cw Tryz.prog 129 [u8 c] w (.bool (DQ c)) := by
 refine enter Tryz.func129 rfl Tryz.ntmps129 rfl (St.start w (BF w) (Le.refl _)) (Ar rfl (tq (AK 3 rfl ?_)))
 refine BA 2 2 5 8 7 _ _ rfl rfl rfl rfl rfl rfl (fun h8 => by
   simp at h8
   refine AJ 2 rfl ?_; exact Ao rfl
  ) (AM rfl) rfl rfl rfl ?_
 refine AK 1 rfl (Cy (Aq (A1 rfl rfl (fun w' hw => ?_)))); refine ⟨?_, hw.below⟩
 rfl
theorem OM (s : List UInt8) (w : World) (hs : s.length ≤ 4611686018427387904) : Cw Tryz.prog 105 [Bj s] w (.bool (FSt s)) := by
 refine enter Tryz.func105 rfl Tryz.ntmps105 rfl (St.start w (BF w) (Le.refl _)) (Ar rfl (AN (Ar rfl (AR (A8 (ι := Nat) (fun i => i ≤ s.length ∧ ∀ k, k < i → TS s k = true) (fun i => s.length - i) (fun i => [(3, .int .i64 (i : Int))]) [(0, _)] (fun i => BF w) (fun i => []) 0 ?_ (AB rfl) (AB rfl) (fun _ h => AA h) ?_)))))
 ·exact ⟨Nat.zero_le _, fun k hk => absurd hk (Nat.not_lt_zero _)⟩
 rintro i ⟨hi, Bb⟩; refine AN (tr (AC 2 rfl (lq rfl (Ap rfl CW rfl) (Ae rfl (AF rfl (fun hc0 => ?_) (fun hc0 => ?_))))))
 ·simp at hc0
  refine Al (AN (AR (tq (AK 2 rfl (sq rfl ((by exact BP rfl CW rfl rfl (by omega))) ?_))))); refine sq rfl (qc rfl rfl rfl ((fun w _ => Qn _ w))) (AK 2 rfl ?_)
  refine BA 9 5 15 25 24 _ _ rfl rfl rfl rfl rfl rfl (fun h25 => by
    simp at h25
    refine AJ 3 rfl ?_
    refine Bf 5 8 18 24 23 _ _ rfl rfl rfl rfl rfl rfl (fun P8 => by
      simp at P8
      refine AJ 2 rfl (sg rfl ((by exact BP rfl CW rfl rfl (by omega))) ?_); refine sg rfl (qc rfl rfl rfl ((fun w _ => S6 _ w))) (AJ 1 rfl ?_); exact Ao rfl
     ) (Be rfl rfl rfl rfl) rfl rfl rfl ?_
    exact Ao rfl
   ) (AM rfl) rfl rfl rfl ?_
  refine Cy (AF rfl (fun BI => ?_) (fun BI => ?_))
  ·have Tx : TS s i = false := by have := AHK s i; rw [show _ = true from BI] at this; simpa using this
   refine Ar rfl (C0 (A1 rfl rfl (fun w' hw => ?_))); refine ⟨?_, hw.below⟩; rw [ML (by omega) Tx]
  ·have Tx : TS s i = true := by have := AHK s i; rw [show _ = false from BI] at this; simpa using this
   refine Au (AV (Ai (AH (AC 1 rfl (lq rfl (AX rfl rfl rfl (by omega)) ?_))))); refine Ax rfl (Ak (i + 1) ?_ ?_ (AB rfl) (AB rfl) (fun _ h => by dsimp only; exact AA h))
   ·refine ⟨by omega, fun k hk => ?_⟩; rcases Nat.lt_succ_iff_lt_or_eq.1 hk with h | rfl
    ·exact Bb k h
    ·exact Tx
   ·omega
 ·simp at hc0
  refine BB (AG (AG (AQ (Ai (tr (AC 1 rfl (lq rfl (C7 rfl rfl rfl) (Ae rfl (Aq ?_))))))))); refine A1 rfl rfl (fun w' hw => ?_); refine ⟨?_, hw.below⟩; rw [Pn fun k hk => Bb k (by omega)]
theorem QB (s : List UInt8) (w : World) (hs : s.length ≤ 4611686018427387904) : Cw Tryz.prog 127 [Bj s] w (Lt s) := by
 refine enter Tryz.func127 rfl Tryz.ntmps127 rfl (St.start w (BF w) (Le.refl _)) (Ar rfl (Ar rfl (Ar rfl (Bh (ι := Bool × List UInt8) (fun zz => zz.1 = IT s ∧ zz.2 = GZ s ∧ zz.2.length ≤ s.length) (fun zz => [(4, .bool zz.1), (5, Bj zz.2)]) [(0, _), (2, _), (3, _)] (fun zz => BF w) (fun zz => []) (AB rfl) ?_ ?_))))
 ·refine tq (AK 1 rfl (sq rfl (C7 rfl rfl rfl) (AK 1 rfl ?_)))
  refine BA 8 2 13 22 21 _ _ rfl rfl rfl rfl rfl rfl (fun Vp => by
    simp at Vp
    have Ik : 0 < s.length := List.length_pos_iff.2 (by simpa using Vp)
    refine AJ 1 rfl (sg rfl ((by exact BP rfl CW rfl rfl (by omega))) ?_); refine sg rfl (Aw rfl rfl rfl rfl) (AJ 1 rfl ?_)
    refine Bf 3 6 17 21 20 _ _ rfl rfl rfl rfl rfl rfl (fun h21 => by
      simp at h21
      refine AJ 1 rfl (sg rfl ((by exact BP rfl CW rfl rfl (by omega))) ?_); refine sg rfl (Aw rfl rfl rfl rfl) ?_; exact Ao rfl
     ) (Be rfl rfl rfl rfl) rfl rfl rfl ?_
    exact Ao rfl
   ) (AM rfl) rfl rfl rfl ?_
  refine Cy (AF rfl (fun hc0 => ?_) (fun hc0 => ?_))
  ·have Ik : 0 < s.length := by have : signed s = true := hc0; unfold signed at this; rw [Bool.and_eq_true, decide_eq_true_eq] at this; exact List.length_pos_iff.2 this.1
   refine tr (AC 1 rfl (lq rfl ((by exact BP rfl CW rfl rfl (by omega))) ?_)); refine lq rfl (Aw rfl rfl rfl rfl) (Ae rfl (AH (AC 1 rfl (lq rfl (Cp rfl CW rfl rfl (by omega)) ?_)))); refine Ax rfl (Av ((decide (nth s 0 0 = 45), s.drop 1)) ?_ (AB rfl) (AB rfl) (fun _ h => by dsimp only; exact AA h))
   ·dsimp only; exact ⟨by unfold IT; rw [show signed s = true from hc0, Bool.true_and], by unfold GZ; rw [show signed s = true from hc0, if_pos rfl], by rw [List.length_drop]; omega⟩
  ·refine Au (Av ((false, s)) ?_ (AB rfl) (AB rfl) (fun _ h => by dsimp only; exact AA h))
   ·dsimp only; exact ⟨by unfold IT; rw [show signed s = false from hc0, Bool.false_and], by unfold GZ; rw [show signed s = false from hc0, if_neg (by simp)], Nat.le_refl _⟩
 rintro ⟨mi, t⟩ ⟨hmi, ht, XR⟩; dsimp only at *; refine AN (tr (AC 1 rfl (lq rfl (BM rfl rfl rfl) (ln (AF rfl (fun BI => ?_) (fun BI => ?_))))))
 ·have BI : t = [] := of_decide_eq_true BI
  refine Ar rfl (C0 (Dt rfl rfl rfl (fun w' hw => ?_))); refine ⟨?_, hw.below⟩; rw [FN (Wv (by rw [← ht, BI]))]
 ·have BI : t ≠ [] := of_decide_eq_false BI
  refine Al (Ar rfl (Ar rfl (AN (Ar rfl (AR (A8 (ι := Nat × Nat) (fun zz => zz.1 ≤ t.length ∧ Em 0 (t.take zz.1) = some zz.2 ∧ zz.2 ≤ 9223372036854775808) (fun zz => t.length - zz.1) (fun zz => [(8, .int .i64 (zz.1 : Int)), (7, .int .i64 (-(zz.2 : Int)))]) [(4, _), (5, _), (0, _), (29, _), (6, _)] (fun zz => BF w) (fun zz => []) (0, 0) ?_ (AB rfl) (AB rfl) (fun _ h => AA h) ?_))))))
  ·dsimp only; exact ⟨Nat.zero_le _, rfl, Nat.zero_le _⟩
  rintro ⟨i, v⟩ ⟨hi, hv, hvb⟩; dsimp only at *; refine AN (tr (AC 2 rfl (lq rfl (Ap rfl CW rfl) (Ae rfl (AF rfl (fun BU => ?_) (fun BU => ?_))))))
  ·simp at BU
   refine Al (AN (AR (AN (tq (AK 2 rfl (sq rfl ((by exact BP rfl CW rfl rfl (by omega))) ?_)))))); refine AK 2 rfl ?_
   refine Bf 4 4 40 45 44 _ _ rfl rfl rfl rfl rfl rfl (fun h45 => by
     simp at h45
     refine AJ 2 rfl (sg rfl ((by exact BP rfl CW rfl rfl (by omega))) ?_); refine AJ 1 rfl ?_; exact Ao rfl
    ) (AM rfl) rfl rfl rfl ?_
   refine Cy (AF rfl (fun Bd => ?_) (fun Bd => ?_))
   ·refine Ar rfl (C0 (Dt rfl rfl rfl (fun w' hw => ?_))); refine ⟨?_, hw.below⟩
    have Nt : DQ (nth t i 0) = false := by have := PL (nth t i 0); rw [show _ = true from Bd] at this; simpa using this
    subst ht; rw [FN (Zg (i := i) (by omega) Nt)]
   ·refine Al (AN ?_)
    have hdg : DQ (nth t i 0) = true := by have := PL (nth t i 0); rw [show _ = false from Bd] at this; simpa using this
    have ARO := (IA _).1 hdg
    have hv2 := W7 (t := t) (i := i) (by omega) hv
    rw [hdg, if_pos rfl] at hv2; refine AH (AC 2 rfl (lq rfl ((by exact BP rfl CW rfl rfl (by omega))) ?_)); refine lq rfl (Z7 48 rfl rfl rfl (by omega)) ?_; refine lq rfl (N2 (r := (((nth t i 0).toNat - 48 : Nat) : Int)) rfl un5 un2 rfl (IntWalk.i64_in _ (by omega))) ?_; refine Ae rfl (AN (tr (AC 3 rfl (lq rfl (AX rfl rfl rfl (by omega)) ?_)))); refine lq rfl (Ks rfl rfl rfl (by decide) (by rw [Lx _ (by omega)]; omega)) ?_; refine Ae rfl (AF rfl (fun Cg => ?_) (fun Cg => ?_))
    ·have h4 := of_decide_eq_true Cg
     rw [Lx _ (by omega)] at h4
     have h5 := Wh h4 (by omega)
     refine Ar rfl (C0 (Dt rfl rfl rfl (fun w' hw => ?_))); refine ⟨?_, hw.below⟩; subst ht; rw [FN (Z8 (i := i + 1) hv2 rfl h5)]
    ·have h4 := of_decide_eq_false Cg
     rw [Lx _ (by omega)] at h4
     have h5 := WP h4 (by omega)
     refine Al (AH (AC 1 rfl (lq rfl (ACN rfl rfl rfl (by omega)) ?_))); refine AC 1 rfl (lq rfl (Fa rfl rfl rfl (by omega)) ?_); refine Ax rfl (AV (Ai (AH (AC 1 rfl (lq rfl (AX rfl rfl rfl (by omega)) ?_))))); refine Ax rfl (Ak ((i + 1, v * 10 + ((nth t i 0).toNat - 48))) ?_ ?_ (FI rfl (Bl rfl (by congr 1; omega) (AW))) (AB rfl) (fun _ h => by dsimp only; exact AA h))
     ·dsimp only; exact ⟨by omega, hv2, by omega⟩
     ·dsimp only
      omega
  ·simp at BU
   refine BB (AG (AG (AQ (Ai (AN (Ar rfl ?_)))))); rw [List.take_of_length_le (by omega)] at hv; subst ht
   have hat := ABf BI hv
   rw [← hmi] at hat; refine AF rfl (fun C1 => ?_) (fun C1 => ?_)
   ·rw [show mi = true from C1, if_pos rfl, if_pos (show v ≤ GA from hvb)] at hat; refine Ar rfl (C0 (Dt rfl rfl rfl (fun w' hw => ?_))); refine ⟨?_, hw.below⟩; rw [JV hat]
   ·rw [show mi = false from C1, if_neg (by simp)] at hat; refine Al (AN (Ar rfl (AF rfl (fun Dd => ?_) (fun Dd => ?_))))
    ·have h6 := of_decide_eq_true Dd
     rw [if_neg (by unfold GA; omega)] at hat; refine Ar rfl (C0 (Dt rfl rfl rfl (fun w' hw => ?_))); refine ⟨?_, hw.below⟩; rw [FN hat]
    ·have h6 := of_decide_eq_false Dd
     rw [if_pos (by unfold GA; omega)] at hat; refine Al (tr (AC 1 rfl (lq rfl (VF rfl rfl (by omega)) ?_))); refine Ae rfl (Aq (Dt rfl rfl rfl (fun w' hw => ?_))); refine ⟨?_, hw.below⟩; rw [JV hat, Int.neg_neg]
end Go.Tri

namespace Go.Tri
open Go.Proofs Go.RowKit
set_option maxRecDepth 10000
theorem YE {t : List UInt8} : JI t = ((ER t).isSome && !decide ((9 : Int) < (ER t).getD 0)) := by
 unfold JI
 cases ER t with
 | none => rfl
 | some v =>
  show decide (v ≤ 9) = (true && !decide (9 < v))
  rw [Bool.true_and, ← decide_not]; exact decide_eq_decide.2 (by omega)
theorem VM {t : CX} (h : Cj t = true) (h4 : ¬ t.kind = 4) : t.kind = 2 := by
 unfold Cj at h; rw [decide_eq_false h4, Bool.false_or, Bool.and_eq_true, decide_eq_true_eq] at h; exact h.1
set_option maxHeartbeats 1000000 in
theorem K7 (b : Nat) (s : List UInt8) (hs : s.length ≤ 65536) : ∀ (p : PS) (lv : Value) (i : Nat) (I : AU) (F : List HA) (w0 w : World) (R : CC EK), R = Iu s p → (∃ x q, R = .ok x q) → CH s p → Cj (AP s p) = true → GU s p lv i I → St w0 I (row b 71 (CZ s lv i p.next) :: F) w → Calls Tryz.prog 104 [FK b].toArray w (fun e w' => ∃ v, e = .returned v ∧ ∃ I' H', Kl b s p I F AJq 1 R v I' H' ∧ St w I' H' w') := by
 intro p lv i I F w0 w R hR Bb hf hrb hp CE
 have hL := Le.refl I
 have BH := hp.len
 unfold Iu at hR; rw [AY (CT hf)] at hR
 have XR := Dq hp.1
 obtain ⟨M, hM⟩ : ∃ M, M = Bp s p := ⟨_, rfl⟩; refine enter Tryz.func104 rfl Tryz.ntmps104 rfl (CE.self) (tr (le rfl (Ah rfl D1 rfl) ?_)); rintro _ _ _ ⟨b2, rfl, rfl, rfl⟩; refine AI (H' := row b2 37 (BT ⟨0, [], [], [], false⟩) :: _) ?_ (fun _ h => h); refine BQ (lq rfl (A6 (pl := [(_, _), (_, _), (_, _), (_, _), (_, _)]) (cs := (BT ⟨-1, [], [], [], false⟩).toArray) rfl Kf D1 ⟨rfl, ⟨_, _, B0⟩, rfl, ⟨_, _, CU⟩, rfl, ⟨_, _, CU⟩, rfl, ⟨_, _, CU⟩, rfl, ⟨_, _, De⟩, trivial⟩ rfl rfl) (le rfl (Ah rfl D1 rfl) ?_)); rintro _ _ _ ⟨b3, rfl, rfl, rfl⟩; refine An rfl rfl ((by exact AE rfl D1 rfl rfl rfl (by exact C2 _) rfl)) ?_; rintro _ _ _ ⟨rfl, rfl⟩; refine AI (H' := row b3 37 (BT ⟨-1, [], [], [], false⟩) :: _) ?_ (fun _ h => h); refine ln (Bh (ι := PS × Value × Nat × AU × Int) (fun zz => Le I zz.2.2.2.1 ∧ GU s zz.1 zz.2.1 zz.2.2.1 zz.2.2.2.1 ∧ CH s zz.1 ∧ Cj (AP s zz.1) = true ∧ ¬ (AP s zz.1).kind = 4 ∧ Bp s zz.1 ≤ M ∧ R = Kb s zz.2.2.2.2 zz.1) (fun zz => []) [(0, _), (2, _), (3, _)] (fun zz => zz.2.2.2.1) (fun zz => (row b3 37 (BT ⟨zz.2.2.2.2, [], [], [], false⟩) :: row b2 37 (BT ⟨0, [], [], [], false⟩) :: row b 71 (CZ s zz.2.1 zz.2.2.1 zz.1.next) :: F)) (AB rfl) ?_ ?_)
 ·refine tr (AC 1 rfl (lq rfl (qc rfl rfl rfl ((fun w hw => EM b s p lv i w hs hf (hp.mono hw.le) (Bn hw)))) (lq rfl (DT rfl Cz rfl Li rfl rfl rfl) (Ae rfl (AF rfl (fun HB => ?_) (fun HB => ?_))))))
  ·simp at HB
   have GM : (AP s p).kind = 4 := by omega
   rw [if_pos GM] at hR; refine tr (AC 1 rfl (lq rfl (qc rfl rfl rfl ((fun w hw => EM b s p lv i w hs hf (hp.mono hw.le) (Bn hw)))) (lq rfl (DT rfl Cz rfl CW rfl rfl rfl) (lq rfl (qc rfl rfl rfl ((fun w _ => QB (AP s p).text w (by omega)))) ?_)))); refine Ae rfl (AN (tq (AK 3 rfl ?_)))
   refine Bf 2 2 21 24 23 _ _ rfl rfl rfl rfl rfl rfl (fun P8 => by
     simp at P8
     refine AJ 2 rfl ?_; exact Ao rfl
    ) (AM rfl) rfl rfl rfl ?_
   refine Cy (AF rfl (fun BI => ?_) (fun BI => ?_))
   ·have ET : ¬ JI (AP s p).text = true := by
     rw [YE]
     have h9 := BI
     intro h8; rw [Bool.and_eq_true] at h8; rw [h8.1] at h9; rw [Bool.not_eq_true'] at h8; rw [h8.2] at h9
     cases h9
    rw [if_neg ET] at hR
    exfalso
    obtain ⟨_, _, h9⟩ := Bb; rw [hR] at h9
    cases h9
   ·have ET : JI (AP s p).text = true := by
     rw [YE]
     have h9 := BI
     rw [Bool.or_eq_false_iff, Bool.not_eq_false'] at h9
     rw [h9.1, h9.2]; try rfl
    rw [if_pos ET] at hR; refine Al (tr (AC 2 rfl ?_)); refine An rfl rfl (Ac rfl B0 rfl rfl (by exact ⟨rfl, rfl⟩) rfl (by rfl)) ?_; rintro _ _ _ ⟨rfl, rfl⟩; refine AI (H' := row b3 37 (BT ⟨(ABT (AP s p).text), [], [], [], false⟩) :: _) ?_ (fun _ h => h); obtain ⟨fd, hfd⟩ : ∃ z, z = ABT (AP s p).text := ⟨_, rfl⟩; rw [← hfd] at hR ⊢; refine BQ (AC 3 rfl (lq rfl (AZ rfl rfl (by rfl)) ?_)); refine lq rfl (AX rfl rfl rfl (by omega)) ?_; refine AC 2 rfl ?_; refine An rfl rfl (Ac rfl B0 rfl rfl (by exact ⟨rfl, rfl⟩) rfl (by rfl)) ?_; rintro _ _ _ ⟨rfl, rfl⟩
    have EX := CP (s := s) (p := p) (by omega)
    have hp := hp.step (by omega)
    refine AI (H' := row b 71 (CZ s lv (i + 1) (BE p).next) :: _) ?_ (fun _ h => h); obtain ⟨p, Fr⟩ : ∃ z, z = BE p := ⟨_, rfl⟩; rw [← Fr] at EX hp hR ⊢; obtain ⟨i, Fm⟩ : ∃ z, z = i + 1 := ⟨_, rfl⟩; rw [← Fm] at hp ⊢
    have BH := hp.len
    refine BQ (AC 1 rfl (Bw rfl rfl rfl rfl (fun w hw => H0 b s hs p lv i _ _ _ w _ rfl (Az Bb hR) hp (AD (row b 71 (CZ s lv i p.next)) hw)) ?_)); rintro v38 J _ ⟨hJ, x38, p, lv, i, Un, Xl, hp, ⟨rfl, hf, rfl⟩, rfl⟩
    have hL := hL.trans hJ
    rw [AY Un] at hR
    have BH := hp.len
    refine Dl 7 (AK 2 rfl ?_)
    refine Bf 4 3 40 45 44 _ _ rfl rfl rfl rfl rfl rfl (fun h45 => by
      simp at h45
      refine AJ 1 rfl (sg rfl (qc rfl rfl rfl ((fun w hw => EM b s p lv i w hs hf (hp.mono hw.le) (Bn hw)))) (sg rfl (DT rfl Cz rfl Li rfl rfl rfl) (AJ 1 rfl ?_))); exact Ao rfl
     ) (AM rfl) rfl rfl rfl ?_
    refine Hb (ln (AF rfl (fun BU => ?_) (fun BU => ?_)))
    ·have hnk : ¬ ((AP s p).kind = 2 ∧ Cj (AP s p) = true) := fun ⟨h2, h3⟩ => by
      have h9 := BU
      rw [h3, decide_eq_false (show ¬ ((AP s p).kind : Int) = 4 by omega)] at h9
      cases h9
     rw [if_neg hnk] at hR
     exfalso
     obtain ⟨_, _, h9⟩ := Bb; rw [hR] at h9
     cases h9
    ·have hrb : Cj (AP s p) = true := by
      have h9 := BU
      rw [Bool.or_eq_false_iff, Bool.not_eq_false'] at h9; exact h9.1
     have Th : ¬ (AP s p).kind = 4 := by
      have h9 := BU
      rw [Bool.or_eq_false_iff, decide_eq_false_iff_not] at h9
      omega
     rw [if_pos ⟨VM hrb Th, hrb⟩] at hR; refine Au (Av ((p, lv, i, J, fd)) ?_ (AW) (AB rfl) (fun _ h => by dsimp only; exact AA h))
     ·dsimp only; exact ⟨hL, hp, hf, hrb, Th, by omega, hR⟩
  ·simp at HB
   have Th : ¬ (AP s p).kind = 4 := by omega
   rw [if_neg Th] at hR; refine Au (Av ((p, lv, i, I, -1)) ?_ (AW) (AB rfl) (fun _ h => by dsimp only; exact AA h))
   ·dsimp only; exact ⟨hL, hp, hf, hrb, Th, by omega, hR⟩
 rintro ⟨p, lv, i, J, fd⟩ ⟨hL, hp, hf, hrb, Th, I4, hR⟩; dsimp only at *
 have BH := hp.len
 unfold Kb at hR; obtain ⟨o, ho⟩ : ∃ z, z = AP s p := ⟨_, rfl⟩
 have OZ : o.kind = 2 := by rw [ho]; exact VM hrb Th
 have hoK : o.text ∈ FY := by rw [ho] at OZ ⊢; exact (Qo hp.2.2).2 OZ
 refine tr (AC 1 rfl (Bw rfl rfl rfl rfl (fun w hw => It b s hs p lv i _ _ _ w hf (by rw [← ho]; omega) hp (AD (row b 71 (CZ s lv i p.next)) hw)) ?_)); rintro _ J _ ⟨hJ, rfl, hp, rfl⟩
 have hL := hL.trans hJ
 rw [AY (FM hf), ← ho] at hR; rw [← ho]
 have EX := CP (s := s) (p := p) (by rw [← ho]; omega)
 obtain ⟨p, Fr⟩ : ∃ z, z = BE p := ⟨_, rfl⟩; rw [← Fr] at EX hp hR ⊢; obtain ⟨i, Fm⟩ : ∃ z, z = i + 1 := ⟨_, rfl⟩; rw [← Fm] at hp ⊢
 have BH := hp.len
 refine lq rfl (DT rfl Cz rfl CW rfl rfl rfl) (AC 1 rfl ?_); refine An rfl rfl (Ac rfl CU rfl rfl (by exact ⟨rfl, rfl⟩) rfl (by rfl)) ?_; rintro _ _ _ ⟨rfl, rfl⟩; refine AI (H' := row b3 37 (BT ⟨fd, o.text, [], [], false⟩) :: _) ?_ (fun _ h => h); refine BQ (AC 1 rfl (Bw rfl rfl rfl rfl (fun w hw => DW b s hs p lv i _ _ _ w _ rfl (Az Bb hR) hp (AD (row b 71 (CZ s lv i p.next)) hw)) ?_)); rintro v54 J _ ⟨hJ, x54, p, lv, i, AFg, AIB, hp, ⟨rfl, hf, rfl⟩, rfl⟩
 have hL := hL.trans hJ
 rw [AY AFg] at hR
 have BH := hp.len
 refine le rfl (Ah rfl BL rfl) ?_; rintro _ _ _ ⟨b6, rfl, rfl, rfl⟩; refine An rfl rfl ((by exact AE rfl BL rfl rfl rfl (by exact A4 _) rfl)) ?_; rintro _ _ _ ⟨rfl, rfl⟩; obtain ⟨t, ht⟩ : ∃ z, z = AP s p := ⟨_, rfl⟩; rw [← ht] at hR ⊢; refine AI (H' := row b6 73 (BZ t) :: _) ?_ (fun _ h => h); refine Gb (tq (AK 3 rfl (sq rfl (AZ rfl rfl (by rfl)) ?_))); refine AK 2 rfl ?_
 refine Bf 3 5 60 64 63 _ _ rfl rfl rfl rfl rfl rfl (fun h64 => by
   simp at h64
   refine AJ 1 rfl (sg rfl (AZ rfl rfl (by rfl)) ?_); refine AJ 1 rfl ?_; exact Ao rfl
  ) (AM rfl) rfl rfl rfl ?_
 refine Cy (AF rfl (fun Bd => ?_) (fun Bd => ?_))
 ·have hnk : ¬ t.kind = 1 := fun h1 => by
   have h9 := Bd
   rw [decide_eq_false (show ¬ ((t.kind : Int) ≠ 1) by omega)] at h9
   cases h9
  rw [if_neg hnk] at hR
  exfalso
  obtain ⟨_, _, h9⟩ := Bb; rw [hR] at h9
  cases h9
 ·have GO : t.kind = 1 := by
   have h9 := Bd
   rw [Bool.or_eq_false_iff] at h9
   have h8 := of_decide_eq_false h9.2
   omega
  rw [if_pos GO] at hR; refine Al (tr (AC 3 rfl (lq rfl (AZ rfl rfl (by rfl)) ?_))); refine lq rfl (AX rfl rfl rfl (by omega)) ?_; refine AC 2 rfl ?_; refine An rfl rfl (Ac rfl B0 rfl rfl (by exact ⟨rfl, rfl⟩) rfl (by rfl)) ?_; rintro _ _ _ ⟨rfl, rfl⟩
  have EX := CP (s := s) (p := p) (by rw [← ht]; omega)
  have hp := hp.step (by rw [← ht]; omega)
  refine AI (H' := row b 71 (CZ s lv (i + 1) (BE p).next) :: _) ?_ (fun _ h => h); obtain ⟨p, Fr⟩ : ∃ z, z = BE p := ⟨_, rfl⟩; rw [← Fr] at EX hp hR ⊢; obtain ⟨i, Fm⟩ : ∃ z, z = i + 1 := ⟨_, rfl⟩; rw [← Fm] at hp ⊢
  have BH := hp.len
  refine BQ (AC 1 rfl (lq rfl (AZ rfl rfl (by rfl)) ?_)); refine AC 1 rfl ?_; refine An rfl rfl (Ac rfl CU rfl rfl (by exact ⟨rfl, rfl⟩) rfl (by rfl)) ?_; rintro _ _ _ ⟨rfl, rfl⟩; refine AI (H' := row b3 37 (BT ⟨fd, o.text, t.text, [], false⟩) :: _) ?_ (fun _ h => h); refine Gb (tq (AK 1 rfl (sq rfl (AZ rfl rfl (by rfl)) ?_))); refine sq rfl (BM rfl rfl rfl) (AK 1 rfl ?_)
  refine Bf 3 3 81 85 84 _ _ rfl rfl rfl rfl rfl rfl (fun h85 => by
    simp at h85
    refine AJ 1 rfl (sg rfl (AZ rfl rfl (by rfl)) ?_); refine sg rfl (BM rfl rfl rfl) ?_; exact Ao rfl
   ) (AM rfl) rfl rfl rfl ?_
  refine Cy (AF rfl (fun Cg => ?_) (fun Cg => ?_))
  ·have Ho : EY o.text [60, 60] = true := by rw [Nh hoK]; exact Cg
   rw [if_pos Ho] at hR; refine tr (AC 1 rfl ?_); refine An rfl rfl (Ac rfl CU rfl rfl (by exact ⟨rfl, rfl⟩) rfl (by rfl)) ?_; rintro _ _ _ ⟨rfl, rfl⟩; refine AI (H' := row b3 37 (BT ⟨fd, [60, 60], t.text, [], false⟩) :: _) ?_ (fun _ h => h); refine BQ (AC 1 rfl ?_); refine An rfl rfl (Ac rfl CU rfl rfl (by exact ⟨rfl, rfl⟩) rfl (by rfl)) ?_; rintro _ _ _ ⟨rfl, rfl⟩; refine AI (H' := row b3 37 (BT ⟨fd, [60, 60], [], [], false⟩) :: _) ?_ (fun _ h => h); refine BQ (AC 1 rfl (lq rfl (AZ rfl rfl (by rfl)) ?_)); refine AC 1 rfl ?_; refine An rfl rfl (Ac rfl CU rfl rfl (by exact ⟨rfl, rfl⟩) rfl (by rfl)) ?_; rintro _ _ _ ⟨rfl, rfl⟩; refine AI (H' := row b3 37 (BT ⟨fd, [60, 60], [], t.doc, false⟩) :: _) ?_ (fun _ h => h); refine ln (AH (AC 1 rfl (lq rfl (AZ rfl rfl (by rfl)) ?_))); refine AC 1 rfl ?_; refine An rfl rfl (Ac rfl De rfl rfl (by exact ⟨rfl, rfl⟩) rfl (by rfl)) ?_; rintro _ _ _ ⟨rfl, rfl⟩; refine AI (H' := row b3 37 (BT ⟨fd, [60, 60], [], t.doc, t.raw⟩) :: _) ?_ (fun _ h => h); refine BQ (lq rfl (Af rfl Kf D1 rfl rfl rfl) (An rfl rfl ((by exact AE rfl D1 rfl rfl rfl (by exact C2 _) rfl)) ?_)); rintro _ _ _ ⟨rfl, rfl⟩; refine ln (Aq (A3 (.inl rfl) rfl (by exact BK rfl Kf D1 rfl rfl (BJ)) (fun w' hw => ?_))); exact ⟨_, rfl, J, _, ⟨hL, _, p, lv, i, hR, (by omega), hp, rfl, rfl⟩, AA hw⟩
  ·have Ho : EY o.text [60, 60] = false := by rw [Nh hoK]; exact Cg
   rw [if_neg (by rw [Ho]; simp)] at hR; refine Al (tr (lq rfl (Af rfl Kf D1 rfl rfl rfl) (An rfl rfl ((by exact AE rfl D1 rfl rfl rfl (by exact C2 _) rfl)) ?_))); rintro _ _ _ ⟨rfl, rfl⟩; refine ln (Aq (A3 (.inl rfl) rfl (by exact BK rfl Kf D1 rfl rfl (BJ)) (fun w' hw => ?_))); exact ⟨_, rfl, J, _, ⟨hL, _, p, lv, i, hR, (by omega), hp, rfl, rfl⟩, AA hw⟩
end Go.Tri

namespace Go.Tri
open Go.Proofs Go.RowKit
set_option maxRecDepth 10000
def AMK : AU → PS → List EK → Value → Prop := fun I _ x v => Sl I 5 v (x.map BT)
set_option maxHeartbeats 1000000 in
theorem Of (b : Nat) (s : List UInt8) (hs : s.length ≤ 65536) : FX 102 b s [] (Gh s) AMK 0 := by
 intro p lv i I F w0 w R hR Bb hp CE
 have hL := Le.refl I
 obtain ⟨M, hM⟩ : ∃ M, M = Bp s p := ⟨_, rfl⟩; unfold Gh O1 at hR
 have Qi := FD hp.1
 refine enter Tryz.func102 rfl Tryz.ntmps102 rfl (CE.self) (Ar rfl (Ar rfl (AN (AR (A8 (ι := PS × Value × Nat × AU × Nat × List EK × Value) (fun zz => Le I zz.2.2.2.1 ∧ GU s zz.1 zz.2.1 zz.2.2.1 zz.2.2.2.1 ∧ zz.2.2.2.2.2.1.length + Bp s zz.1 ≤ M ∧ Bp s zz.1 < zz.2.2.2.2.1 ∧ R = Gt s Cj (Iu s) zz.2.2.2.2.1 zz.2.2.2.2.2.1 zz.1) (fun zz => Bp s zz.1) (fun zz => [(3, zz.2.2.2.2.2.2)]) [(0, _), (2, _)] (fun zz => zz.2.2.2.1) (fun zz => (BO 37 5 BT zz.2.2.2.2.2.2 zz.2.2.2.2.2.1 :: row b 71 (CZ s zz.2.1 zz.2.2.1 zz.1.next) :: F)) (p, lv, i, I, Bp s p + 1, [], .slice none 0 0) ?_ (AB rfl) (AB rfl) (fun _ h => AA (CS 37 5 BT h)) ?_)))))
 ·dsimp only; exact ⟨hL, hp, by simp; omega, Nat.lt_succ_self _, hR⟩
 rintro ⟨p, lv, i, J, g, l, tv⟩ ⟨hL, hp, I4, hg, hR⟩; dsimp only at *; refine AN (tr (AC 1 rfl ?_)); obtain ⟨g, rfl⟩ : ∃ g', g = g' + 1 := ⟨g - 1, by omega⟩; rw [Gt] at hR; refine Bw rfl rfl rfl rfl (fun w hw => H0 b s hs p lv i _ _ _ w _ rfl (Az Bb hR) hp (AD (row b 71 (CZ s lv i p.next)) hw)) ?_; rintro v5 J _ ⟨hJ, x5, p, lv, i, he5, AGW, hp, ⟨rfl, hf, rfl⟩, rfl⟩
 have hL := hL.trans hJ
 rw [AY he5] at hR
 have BH := hp.len
 refine ln (AF rfl (fun hc0 => ?_) (fun hc0 => ?_))
 ·rw [if_pos hc0] at hR; refine Al (AR (AH (AC 2 rfl (Bw rfl rfl rfl rfl (fun w hw => K7 b s hs p lv i _ _ _ w _ rfl (Az Bb hR) hf hc0 hp (AD (row b 71 (CZ s lv i p.next)) hw)) ?_)))); rintro v8 J _ ⟨hJ, x8, p, lv, i, he8, ADy, hp, rfl, rfl⟩
  have hL := hL.trans hJ
  rw [AY he8] at hR
  have BH := hp.len
  refine le rfl (AS rfl GX D1 rfl rfl rfl (by rfl) rfl) ?_; rintro _ _ _ ⟨b9, rfl, rfl, rfl⟩; refine le rfl (Ba (f := BT) (c := x8) rfl GX D1 rfl rfl rfl rfl rfl rfl rfl (C2 _) (by simp only [maxLen]; omega) (by omega)) ?_; rintro v10 _ _ ⟨rfl, rfl⟩; refine FV v10 (fun Df => ?_); refine Ax rfl (AV (Ak ((p, lv, i, J, g, l ++ [x8], v10)) ?_ ?_ (AB rfl) (AB rfl) (fun _ h => by dsimp only; exact AA h)))
  ·dsimp only; exact ⟨hL, hp, by simp; omega, by omega, hR⟩
  ·dsimp only
   omega
 ·rw [if_neg (by rw [hc0]; simp)] at hR; refine BB (AG (AG (AQ (Ai (AN (CG (f := BT) (l := l) tv (fun _ => rfl) (fun Jf B4 Ck => ?_))))))); refine AH (Ae rfl (Aq (A1 rfl rfl (fun w' hw => ?_))))
  have hL := hL.trans B4
  have hp := hp.mono B4
  exact ⟨_, rfl, Jf, _, ⟨hL, _, p, lv, i, hR, (by omega), hp, Ck, rfl⟩, AA hw⟩
end Go.Tri

namespace Go.Tri
open Go.Proofs Go.RowKit
set_option maxRecDepth 10000
theorem ABW {w0 : World} {I : AU} {H : List HA} {v : Value} {T : TypeId} {l : List NC} {i : Nat} [hm : GK v T 7 l.length (l.map A2).flatten H] (h : i < l.length) : XH w0 I H (GN v).block ((GN v).off + i * 7) (A2 (nth l i DB)) := Rs DB (fun _ => rfl) h
theorem W5 {nt : Bool} {l : List Nd} (h : l.length = 1) (hn : nt = false) : LA nt l = nth l 0 KK := by
 subst hn
 match l, h with
 | [x], _ => rfl
theorem W9 {nt : Bool} {l : List Nd} (h : ¬ (l.length = 1 ∧ nt = false)) : LA nt l = .mk 2 nt false [] [] [] l := by
 unfold LA
 split
 ·exact absurd ⟨rfl, rfl⟩ h
 ·rfl
theorem A0.nth0 {I : AU} {ks : List Nd} {cs : List NC} (h : A0 I ks cs) (hi : 0 < ks.length) : Bm I (nth ks 0 KK) (nth cs 0 DB) := by
 match ks, cs, h, hi with
 | k :: ks, c :: cs, h, _ => unfold A0 at h; exact h.1
set_option maxHeartbeats 2000000 in
theorem MH (b : Nat) (s : List UInt8) (hs : s.length ≤ 65536) (lev : Nat) (Kj : lev ≤ 1000) (C : PS → CC Nd) (hC : FX 64 b s [.int .i64 (lev : Int)] C Fy 1) : FX 48 b s [.int .i64 (lev : Int)] (LP s C) Fy 1 := by
 intro p lv i I F w0 w R hR Bb hp CE
 have hL := Le.refl I
 obtain ⟨M, hM⟩ : ∃ M, M = Bp s p := ⟨_, rfl⟩; unfold LP at hR
 have Qi := FD hp.1
 refine enter Tryz.func48 rfl Tryz.ntmps48 rfl (CE.self) (tr (le rfl (Ah rfl Ab rfl) ?_)); rintro _ _ _ ⟨b4, rfl, rfl, rfl⟩; refine AI (H' := row b4 26 (A2 DB) :: _) ?_ (fun _ h => h); refine BQ (AC 1 rfl (Bw rfl rfl rfl rfl (fun w hw => ED b s hs 1 [33] (Bu [33]) (fun _ _ => Eh) p lv i _ _ _ w _ rfl (Az Bb hR) hp (AD (row b 71 (CZ s lv i p.next)) hw)) ?_)); rintro v8 J _ ⟨hJ, x8, p, lv, i, he8, ADy, hp, ⟨rfl, hf, rfl⟩, rfl⟩
 have hL := hL.trans hJ
 rw [AY he8] at hR
 have BH := hp.len
 obtain ⟨nt, hnt⟩ : ∃ z, z = Bu [33] (AP s p) := ⟨_, rfl⟩; rw [← hnt] at hR ⊢; refine Ae rfl (Bh (ι := PS × Value × Nat × AU) (fun zz => Le I zz.2.2.2 ∧ GU s zz.1 zz.2.1 zz.2.2.1 zz.2.2.2 ∧ Bp s zz.1 ≤ M ∧ R = Cf C (fun n r => Cf (KJ s C (Bp s r + 1) [n]) (fun l r => .ok (LA nt l) r) r) zz.1) (fun zz => []) [(0, _), (1, _), (4, _), (5, _)] (fun zz => zz.2.2.2) (fun zz => (row b4 26 (A2 DB) :: row b 71 (CZ s zz.2.1 zz.2.2.1 zz.1.next) :: F)) (AB rfl) ?_ ?_)
 ·refine Ar rfl (AF rfl (fun hc0 => ?_) (fun hc0 => ?_))
  ·have hc0 : nt = true := hc0
   rw [if_pos hc0] at hR; refine AH (AC 3 rfl (lq rfl (AZ rfl rfl (by rfl)) ?_)); refine lq rfl (AX rfl rfl rfl (by omega)) ?_; refine AC 2 rfl ?_; refine An rfl rfl (Ac rfl B0 rfl rfl (by exact ⟨rfl, rfl⟩) rfl (by rfl)) ?_; rintro _ _ _ ⟨rfl, rfl⟩
   have EX := CP (s := s) (p := p) (Cc (hnt.symm.trans hc0))
   have hp := hp.step (Cc (hnt.symm.trans hc0))
   refine AI (H' := row b 71 (CZ s lv (i + 1) (BE p).next) :: _) ?_ (fun _ h => h); obtain ⟨p, Fr⟩ : ∃ z, z = BE p := ⟨_, rfl⟩; rw [← Fr] at EX hp hR ⊢; obtain ⟨i, Fm⟩ : ∃ z, z = i + 1 := ⟨_, rfl⟩; rw [← Fm] at hp ⊢
   have BH := hp.len
   refine BX (Av ((p, lv, i, J)) ?_ (AW) (AB rfl) (fun _ h => by dsimp only; exact AA h))
   ·dsimp only; exact ⟨hL, hp, by omega, hR⟩
  ·have hc0 : nt = false := hc0
   rw [if_neg (by rw [hc0]; simp)] at hR; refine Au (Av ((p, lv, i, J)) ?_ (AW) (AB rfl) (fun _ h => by dsimp only; exact AA h))
   ·dsimp only; exact ⟨hL, hp, by omega, hR⟩
 rintro ⟨p, lv, i, J⟩ ⟨hL, hp, I4, hR⟩; dsimp only at *; refine tr (AC 2 rfl (Bw rfl rfl rfl rfl (fun w hw => hC p lv i _ _ _ w _ rfl (Az Bb hR) hp (AD (row b 71 (CZ s lv i p.next)) hw)) ?_)); rintro v19 J _ ⟨hJ, x19, p, lv, i, Xx, ADB, hp, ⟨c19, rfl, AFJ⟩, rfl⟩
 have hL := hL.trans hJ
 rw [AY Xx] at hR
 have BH := hp.len
 have XB := Bb
 obtain ⟨L, Q, hN⟩ := Az Bb hR; rw [AY hN] at hR
 have hR0 := hR
 clear hR
 obtain ⟨R1, XS⟩ : ∃ z, z = CC.ok L Q := ⟨_, rfl⟩
 have Bb : ∃ x q, R1 = .ok x q := ⟨_, _, XS⟩
 have hR := XS.trans hN.symm
 refine le rfl (AS rfl CJ Ab rfl rfl rfl (by rfl) rfl) ?_; rintro _ _ _ ⟨b20, rfl, rfl, rfl⟩; refine AI (H' := BO 26 7 A2 (.slice (some ⟨b20, 0, none⟩) 1 1) [c19] :: _) ?_ (fun _ h => A7 h rfl (by decide)); refine Ae rfl (AN (AR (A8 (ι := PS × Value × Nat × AU × Nat × List Nd × List NC × Value) (fun zz => Le I zz.2.2.2.1 ∧ GU s zz.1 zz.2.1 zz.2.2.1 zz.2.2.2.1 ∧ A0 zz.2.2.2.1 zz.2.2.2.2.2.1 zz.2.2.2.2.2.2.1 ∧ 1 ≤ zz.2.2.2.2.2.1.length ∧ zz.2.2.2.2.2.1.length + Bp s zz.1 ≤ M ∧ Bp s zz.1 < zz.2.2.2.2.1 ∧ R1 = KJ s C zz.2.2.2.2.1 zz.2.2.2.2.2.1 zz.1) (fun zz => Bp s zz.1) (fun zz => [(6, zz.2.2.2.2.2.2.2)]) [(0, _), (1, _), (4, _), (5, _)] (fun zz => zz.2.2.2.1) (fun zz => (BO 26 7 A2 zz.2.2.2.2.2.2.2 zz.2.2.2.2.2.2.1 :: row b4 26 (A2 DB) :: row b 71 (CZ s zz.2.1 zz.2.2.1 zz.1.next) :: F)) (p, lv, i, J, Bp s p + 1, [x19], [c19], (.slice (some ⟨b20, 0, none⟩) 1 1)) ?_ (AB rfl) (AB rfl) (fun _ h => AA h) ?_)))
 ·dsimp only; exact ⟨hL, hp, A0.one AFJ, Nat.le_refl _, by simp; omega, Nat.lt_succ_self _, hR⟩
 rintro ⟨p, lv, i, J, g, l, cs, tv⟩ ⟨hL, hp, Fg, hl1, I4, hg, hR⟩; dsimp only at *
 have EP := Fg.len
 refine AN (tr (AC 3 rfl (lq rfl (AZ rfl rfl (by rfl)) ?_))); refine AC 2 rfl (Gp (t := 26) rfl (fun Ik => ?_) (fun Ik => ?_))
 ·simp at Ik
  refine H9 (Be rfl rfl rfl rfl) rfl rfl (Gc rfl rfl) ?_; obtain ⟨g, rfl⟩ : ∃ g', g = g' + 1 := ⟨g - 1, by omega⟩; rw [KJ] at hR; refine Zh (Be rfl rfl rfl rfl) rfl rfl (ec rfl rfl rfl (fun w hw => ED b s hs 2 [124] (C8 [124]) (fun _ _ => EH) p lv i _ _ _ w _ rfl (Az Bb hR) hp (AD (row b 71 (CZ s lv i p.next)) hw))) ?_; rintro v28 J _ ⟨hJ, x28, p, lv, i, AFD, AGh, hp, ⟨rfl, hf, rfl⟩, rfl⟩
  have hL := hL.trans hJ
  rw [AY AFD] at hR
  have BH := hp.len
  have Fg := Fg.mono hJ
  refine lq rfl (E6 rfl rfl rfl rfl) (ln (AF rfl (fun BI => ?_) (fun BI => ?_)))
  ·rw [if_pos BI] at hR; refine Al (AR (tr (AC 3 rfl (lq rfl (AZ rfl rfl (by rfl)) ?_)))); refine lq rfl (AX rfl rfl rfl (by omega)) ?_; refine AC 2 rfl ?_; refine An rfl rfl (Ac rfl B0 rfl rfl (by exact ⟨rfl, rfl⟩) rfl (by rfl)) ?_; rintro _ _ _ ⟨rfl, rfl⟩
   have EX := CP (s := s) (p := p) (Bq BI)
   have hp := hp.step (Bq BI)
   refine AI (H' := row b 71 (CZ s lv (i + 1) (BE p).next) :: _) ?_ (fun _ h => h); obtain ⟨p, Fr⟩ : ∃ z, z = BE p := ⟨_, rfl⟩; rw [← Fr] at EX hp hR ⊢; obtain ⟨i, Fm⟩ : ∃ z, z = i + 1 := ⟨_, rfl⟩; rw [← Fm] at hp ⊢
   have BH := hp.len
   refine BQ (AC 1 rfl (Bw rfl rfl rfl rfl (fun w hw => Cr b s hs p lv i _ _ _ w _ rfl (Az Bb hR) hp (AD (row b 71 (CZ s lv i p.next)) hw)) ?_)); rintro v38 J _ ⟨hJ, x38, p, lv, i, Un, Xl, hp, ⟨rfl, hf, hk⟩, rfl⟩
   have hL := hL.trans hJ
   rw [AY Un] at hR
   have BH := hp.len
   have Fg := Fg.mono hJ
   refine ln (AH (AC 3 rfl (Bw rfl rfl rfl rfl (fun w hw => hC p lv i _ _ _ w _ rfl (Az Bb hR) hp (AD (row b 71 (CZ s lv i p.next)) hw)) ?_))); rintro v42 J _ ⟨hJ, x42, p, lv, i, Yo, ACV, hp, ⟨c42, rfl, AAA⟩, rfl⟩
   have hL := hL.trans hJ
   rw [AY Yo] at hR
   have BH := hp.len
   have Fg := Fg.mono hJ
   refine le rfl (AS rfl CJ Ab rfl rfl rfl (by rfl) rfl) ?_; rintro _ _ _ ⟨b43, rfl, rfl, rfl⟩; refine le rfl (Ba (f := A2) (c := c42) rfl CJ Ab rfl rfl rfl rfl rfl rfl rfl AAA.ones (by simp only [maxLen]; omega) (by omega)) ?_; rintro v44 _ _ ⟨rfl, rfl⟩; refine FV v44 (fun Df => ?_); refine Ax rfl (AV (Ak ((p, lv, i, J, g, l ++ [x42], cs ++ [c42], v44)) ?_ ?_ (AB rfl) (AB rfl) (fun _ h => by dsimp only; exact AA h)))
   ·dsimp only; exact ⟨hL, hp, A0.snoc AAA Fg, by simp, by simp; omega, by omega, hR⟩
   ·dsimp only
    omega
  ·rw [if_neg (by rw [BI]; simp)] at hR; rw [XS] at hR
   obtain ⟨rfl, rfl⟩ : l = L ∧ p = Q := by cases hR; exact ⟨rfl, rfl⟩
   have hR := hR0
   refine BB (AG (AG (AQ (Ai (AN (tq (AK 1 rfl ?_))))))); refine sq rfl ((by exact Eq rfl CJ rfl)) ?_; refine AK 2 rfl ?_
   refine BA 2 3 48 51 50 _ _ rfl rfl rfl rfl rfl rfl (fun h51 => by
     simp at h51
     refine AJ 2 rfl ?_; exact Ao rfl
    ) (AM rfl) rfl rfl rfl ?_
   refine Cy (AF rfl (fun BU => ?_) (fun BU => ?_))
   ·have h1 : l.length = 1 ∧ nt = false := by
     have h9 := BU
     rw [Bool.and_eq_true, decide_eq_true_eq] at h9; exact ⟨by omega, by simpa using h9.2⟩
    rw [W5 h1.1 h1.2] at hR
    have EL := Fg.nth0 (by omega)
    refine tr (AC 1 rfl ?_); refine lq rfl ((by exact LX rfl CJ Ab rfl rfl (by omega))) ?_; refine lq rfl ((by exact Bc rfl BR Ab rfl rfl (ABW (l := cs) (i := 0) (by omega)))) ?_; refine An rfl rfl ((by exact AE rfl Ab rfl rfl rfl (by exact EL.ones) rfl)) ?_; rintro _ _ _ ⟨rfl, rfl⟩; refine AI (H' := row b4 26 (A2 (nth cs 0 DB)) :: _) ?_ (fun _ h => h); refine ln (Aq (Ag (A3 (.inl rfl) rfl (by exact BK rfl BR Ab rfl rfl (BJ)) (fun w' hw => ?_)))); exact ⟨_, rfl, J, _, ⟨hL, _, p, lv, i, hR, (by omega), hp, ⟨_, rfl, EL⟩, rfl⟩, AA hw⟩
   ·have h1 : ¬ (l.length = 1 ∧ nt = false) := fun ⟨h2, h3⟩ => by
     have h9 := BU
     rw [decide_eq_true (show (cs.length : Int) = 1 by omega), h3] at h9
     cases h9
    rw [W9 h1] at hR; refine Al (AN (CG (f := A2) (l := cs) tv (fun _ => rfl) (fun Jf B4 Ck => ?_)))
    have hL := hL.trans B4
    have hp := hp.mono B4
    have Fg := Fg.mono B4
    refine AH (AC 2 rfl (lq rfl (A6 (pl := [(_, _), (_, _), (_, _), (_, _), (_, _), (_, _), (_, _)]) (cs := (A2 ⟨2, nt, false, [], AO, AO, tv⟩).toArray) rfl BR Ab ⟨rfl, ⟨_, _, B0⟩, rfl, ⟨_, _, De⟩, rfl, ⟨_, _, De⟩, rfl, ⟨_, _, CU⟩, rfl, ⟨_, _, EE⟩, rfl, ⟨_, _, El⟩, rfl, ⟨_, _, D6⟩, trivial⟩ rfl (by obtain ⟨A, c, h⟩ := Sl.lenOf Ck rfl; rw [h]; try rfl)) ?_)); refine An rfl rfl ((by exact AE rfl Ab rfl rfl rfl (by exact (Bm.kids (k := 2) (nt := nt) Ck Fg).ones) rfl)) ?_; rintro _ _ _ ⟨rfl, rfl⟩; refine AI (H' := row b4 26 (A2 ⟨2, nt, false, [], AO, AO, tv⟩) :: _) ?_ (fun _ h => h); refine ln (Aq (A3 (.inl rfl) rfl (by exact BK rfl BR Ab rfl rfl (BJ)) (fun w' hw => ?_))); exact ⟨_, rfl, Jf, _, ⟨hL, _, p, lv, i, hR, (by omega), hp, ⟨_, rfl, Bm.kids Ck Fg⟩, rfl⟩, AA hw⟩
 ·simp at Ik
end Go.Tri
