/-
 A builder of texts.
-/
import Derived.Test.YthjgbalcngkjjaaGreatDoorQA7
import Derived.Test.YthjgbalcngkjjaaGreatDoorTriZ
import Derived.Test.YthjgbalcngkjjaaGreatDoorPLex5
import Derived.Test.YthjgbalcngkjjaaGreatDoorPNum
import Derived.Test.YthjgbalcngkjjaaGreatDoorPLex12
import Derived.Lib.SmallJoins
namespace Go.Tri
open Go.Proofs Go.RowKit
set_option maxRecDepth 10000
theorem Mm (b : Nat) (p : Option Addr) (vb : Value) (I : AU) (F : List HA) (w0 w : World) (hp : p = none ∨ p = some ⟨b, 0, none⟩) (CE : St w0 I (row b 42 [.pointer p, vb] :: F) w) : Calls Tryz.prog 60 [.pointer (some ⟨b, 0, none⟩)].toArray w (fun e w' => ∃ v, e = .returned v ∧ ∃ I' H', (I = I' ∧ H' = row b 42 [.pointer (some ⟨b, 0, none⟩), vb] :: F) ∧ St w I' H' w') := by
 refine enter Tryz.func60 rfl Tryz.ntmps60 rfl (CE.self) (tr (AC 3 rfl (lq rfl (AZ rfl rfl (by rfl)) ?_))); refine lq rfl (N5 rfl (by kernel_rfl) rfl rfl) (ln (AF rfl (fun hc0 => ?_) (fun hc0 => ?_)))
 ·have WN : p = none := Option.isNone_iff_eq_none.1 hc0
  subst WN; refine AH (AC 2 rfl (lq rfl (NK rfl WH Vq QP rfl rfl rfl) (lq rfl (IJ rfl rfl rfl Tryz.func74 (by kernel_rfl) rfl (by kernel_rfl) (show Extern.find _ = some Extern.AbiNoEscape.same by kernel_rfl) (fun w => Lib.run_noEscape w _)) ?_))); refine lq rfl (K1 rfl Vq WH QP rfl (by kernel_rfl)) (AC 2 rfl ?_); refine An rfl rfl (Ac rfl AEd rfl rfl (by exact ⟨rfl, rfl⟩) rfl (by rfl)) ?_; rintro _ _ _ ⟨rfl, rfl⟩; refine BX (Cm rfl (fun w' hw => ?_)); exact ⟨_, rfl, I, _, ⟨rfl, rfl⟩, (show St w I (row b 42 [.pointer (some ⟨b, 0, none⟩), vb] :: F) w' from hw)⟩
 ·have WN : p = some ⟨b, 0, none⟩ := by rcases hp with rfl | h; cases hc0; exact h
  subst WN; refine tr (AC 3 rfl (lq rfl (AZ rfl rfl (by rfl)) ?_)); refine AC 1 rfl (lq rfl (MT rfl WH QP rfl rfl) (ln (AF rfl (fun BI => ?_) (fun BI => ?_))))
  ·simp at BI
  ·simp at BI
   refine Au (Cm rfl (fun w' hw => ?_)); exact ⟨_, rfl, I, _, ⟨rfl, rfl⟩, (show St w I (row b 42 [.pointer (some ⟨b, 0, none⟩), vb] :: F) w' from hw)⟩
theorem LY (b : Nat) (p : Option Addr) (vb : Value) (l s : List UInt8) (I : AU) (F : List HA) (w0 w : World) (hp : p = none ∨ p = some ⟨b, 0, none⟩) (hl : l.length + s.length ≤ 140737488355000) (CE : St w0 I (row b 42 [.pointer p, vb] :: BO 5 1 Fo vb l :: F) w) : Calls Tryz.prog 42 [.pointer (some ⟨b, 0, none⟩), Bj s].toArray w (fun e w' => ∃ v, e = .returned v ∧ ∃ I' H', (v = .tuple #[.int .i64 (s.length : Int), .nilIface] ∧ I = I' ∧ ∃ vb', H' = row b 42 [.pointer (some ⟨b, 0, none⟩), vb'] :: BO 5 1 Fo vb' (l ++ s) :: F) ∧ St w I' H' w') := by
 refine enter Tryz.func42 rfl Tryz.ntmps42 rfl (CE.self) (Ar rfl (tr (AC 1 rfl (Bw rfl rfl rfl rfl (fun w hw => Mm b p vb _ _ _ w hp (AD (row b 42 [.pointer p, vb]) hw)) ?_)))); rintro _ _ _ ⟨rfl, rfl⟩; refine BQ (AC 4 rfl (lq rfl (AZ rfl rfl (by rfl)) ?_)); refine AC 1 rfl ?_; refine le rfl (SE rfl HE CW UY rfl rfl rfl (by simp only [maxLen]; omega) (by omega)) ?_; rintro v14 _ _ ⟨rfl, rfl⟩; refine FV v14 (fun Df => ?_); refine AC 2 rfl ?_; refine An rfl rfl (Ac rfl AEA rfl rfl (by assumption) rfl (by (simp only [List.set_cons_succ, List.set_cons_zero]; try rfl))) ?_; rintro _ _ _ ⟨rfl, rfl⟩; refine BQ (AC 1 rfl (lq rfl (Ap rfl CW rfl) (Ae rfl (Aq (Dt rfl rfl rfl (fun w' hw => ?_))))))
 have hw2 : St w I (row b 42 [.pointer (some ⟨b, 0, none⟩), v14] :: BO 5 1 Fo v14 (l ++ s) :: F) w' := hw
 exact ⟨_, rfl, I, _, ⟨rfl, rfl, v14, rfl⟩, hw2⟩
theorem J4 (b : Nat) (p : Value) (vb : Value) (l : List UInt8) (I : AU) (F : List HA) (w0 w : World) (Bb : Hu vb l) (hl : l.length ≤ 9223372036854775807) (CE : St w0 I (row b 42 [p, vb] :: BO 5 1 Fo vb l :: F) w) : Calls Tryz.prog 11 [.pointer (some ⟨b, 0, none⟩)].toArray w (fun e w' => ∃ v, e = .returned v ∧ ∃ I' H', (v = Bj l ∧ I = I' ∧ H' = F) ∧ St w I' H' w') := by
 refine enter Tryz.func11 rfl Tryz.ntmps11 rfl (CE.self) (Ar rfl (AN (DH [10] [] [row b 42 [p, vb]] mo (by kernel_rfl) (fun _ _ _ _ _ h => h) (Bg [0, 1, 2] (by kernel_rfl) rfl rfl rfl (IC 3 (by kernel_rfl) rfl rfl (AZ rfl rfl (by rfl)) ?_))))); refine IC 4 (by kernel_rfl) rfl rfl (Mc (ty := 0) rfl rfl Bb) (Bg [5, 6, 7] (by kernel_rfl) rfl rfl rfl (IC 8 (by kernel_rfl) rfl rfl (AZ rfl rfl (by rfl)) ?_)); refine IC 9 (by kernel_rfl) rfl rfl ((by exact Eq rfl HE rfl)) ?_; refine re 10 (by kernel_rfl) rfl (Le.refl _) rfl (Jc rfl AHI (by kernel_rfl) rfl rfl rfl Bb (by omega)) ?_; rintro _ _ _ ⟨rfl, rfl, rfl⟩; refine ⟨Le.refl _, .inr CY.sub, ?_⟩; refine Bg [11] (by kernel_rfl) rfl rfl rfl (D3 (by kernel_rfl) (Ai (Aq (A1 rfl rfl (fun w' hw => ?_))))); exact ⟨_, rfl, I, _, ⟨rfl, rfl, rfl⟩, AA hw⟩
end Go.Tri

namespace Go.Tri
open Go.Proofs Go.RowKit
set_option maxRecDepth 10000
theorem Zm (l : List UInt8) (w : World) (hl : l.length ≤ 1000000000) (hG : FC (BF w)) : Cw Tryz.prog 89 [Bj l, Bj [10]] w (.tuple #[Bj (l.take (Bz l)), Bj (Lib.cut l [10]).2.1, .bool (DX l 10)]) := by
 obtain ⟨m, hm⟩ := hG.cell
 have Lj := DC l
 refine (Tryz.strings_Cut ⟨l.toArray⟩ ⟨#[10]⟩ m w (by omega) hm).mono fun e w' ⟨h1, n, h2⟩ => ?_
 subst h2; refine ⟨?_, below_drewN (Below.refl _ w) n⟩; rw [h1]
 have e0 : (⟨l.toArray⟩ : ByteArray).data.toList = l := by simp
 have e9 : (⟨#[10]⟩ : ByteArray).data.toList = [10] := rfl
 rw [e0, e9]
 have e1 : (Lib.cut l [10]).1 = l.take (Bz l) := by
  unfold Lib.cut Bz; rw [index_one]
  split
  ·rfl
  ·rw [List.take_length]
 have e2 : (Lib.cut l [10]).2.2 = DX l 10 := by
  unfold Lib.cut; rw [index_one, ← Dn]
  split
  ·rename_i h; rw [decide_eq_true h]
  ·rename_i h; rw [decide_eq_false h]
 rw [e1, e2]; try rfl
theorem Ol (l : List UInt8) (w : World) : Cw Tryz.prog 90 [Bj l, Bj [9]] w (Bj (Lib.trimLeftB l 9)) := by
 refine (Tryz.strings_TrimLeft_one ⟨l.toArray⟩ 9 (by decide) w).mono fun e w' ⟨h1, h2⟩ => ?_
 subst h2; exact ⟨h1, Below.refl _ _⟩
def Yc (i : Nat) (r : Hw) (dd : List UInt8) (ok : Bool) (i' : Nat) : Prop := match r with
 | some x => ok = true ∧ dd = x.1 ∧ i' = i + x.2
 | none => ok = false ∧ dd = []
theorem Yc.t {i i' : Nat} {r : Hw} {dd : List UInt8} {ok : Bool} (h : Yc i r dd ok i') (Bb : ok = true) : ∃ k, r = some (dd, k) ∧ i' = i + k := by
 cases r with
 | some x => exact ⟨x.2, by rw [h.2.1], h.2.2⟩
 | none => rw [h.1] at Bb; cases Bb
theorem Yc.f {i i' : Nat} {r : Hw} {dd : List UInt8} {ok : Bool} (h : Yc i r dd ok i') (Bb : ok = false) : r = none := by
 cases r with
 | some x => rw [h.1] at Bb; cases Bb
 | none => rfl
def AKo (f : FuncId) (T : TypeId) (b : Nat) (s : List UInt8) (i : Nat) (args : List Value) (r : Hw) (I : AU) (F : List HA) (w : World) : Prop :=
 Calls Tryz.prog f (.pointer (some ⟨b, 0, none⟩) :: args).toArray w (fun e w' => ∃ v, e = .returned v ∧ ∃ I' H', (I = I' ∧ ∃ dd ok i', v = .tuple #[Bj dd, .bool ok] ∧ Yc i r dd ok i' ∧ i' ≤ s.length ∧ H' = row b T (Ew s i' 0 0) :: F) ∧ St w I' H' w')
theorem Wb (s : List UInt8) (w : World) (hs : s.length ≤ 1000000000) : Cw Tryz.prog 67 [Bj s] w (.tuple #[Bj (DN s), .bool (EG s DF)]) := by
 refine enter Tryz.func67 rfl Tryz.ntmps67 rfl (St.start w (BF w) (Le.refl _)) (Ar rfl (Ar rfl (AN (Ar rfl (AR (A8 (ι := Nat × Value × List UInt8) (fun zz => zz.1 ≤ s.length + 1 ∧ DN s = zz.2.2 ++ DN (s.drop zz.1) ∧ zz.2.2.length ≤ zz.1) (fun zz => s.length + 1 - zz.1) (fun zz => [(5, .int .i64 (zz.1 : Int)), (4, zz.2.1)]) [(0, _), (2, _), (3, _)] (fun zz => BF w) (fun zz => [BO 5 1 Fo zz.2.1 zz.2.2]) (0, .slice none 0 0, []) ?_ (AB rfl) (AB rfl) (fun _ h => CS 5 1 Fo h) ?_))))))
 ·dsimp only; exact ⟨by omega, by simp, Nat.le_refl _⟩
 rintro ⟨i, v, l⟩ ⟨hi, hb, hl⟩; dsimp only at *; refine AN (tr (AC 2 rfl (lq rfl (Ap rfl CW rfl) (Ae rfl (AF rfl (fun hc0 => ?_) (fun hc0 => ?_))))))
 ·simp at hc0
  refine Al (AN (AR (tr (AC 2 rfl (lq rfl ((by exact BP rfl CW rfl rfl (by omega))) ?_))))); refine Ae rfl (AR (tq (AK 1 rfl (sq rfl (Aw rfl rfl rfl rfl) (AK 1 rfl ?_)))))
  refine Bf 2 2 23 26 25 _ _ rfl rfl rfl rfl rfl rfl (fun YZ => by
    simp at YZ
    refine AJ 1 rfl (sg rfl (Aw rfl rfl rfl rfl) ?_); exact Ao rfl
   ) (AM rfl) rfl rfl rfl ?_
  refine AK 1 rfl (Cy (AF rfl (fun BI => ?_) (fun BI => ?_)))
  ·have hq : nth s i 0 = 39 ∨ nth s i 0 = 34 := by have h1 : (decide (nth s i 0 = 39) || decide (nth s i 0 = 34)) = true := BI; simpa using h1
   refine Au (AV (AV (Ai (AH (AC 1 rfl (lq rfl (AX rfl rfl rfl (by omega)) ?_)))))); refine Ax rfl (Ak ((i + 1, v, l)) ?_ ?_ (AB rfl) (AB rfl) (fun _ h => by dsimp only; exact AA h))
   ·dsimp only; exact ⟨by omega, by rw [hb, AAK (by omega) hq], by omega⟩
   ·dsimp only
    show s.length + 1 - (i + 1) < s.length + 1 - i; omega
  ·have hq : ¬ (nth s i 0 = 39 ∨ nth s i 0 = 34) := by have h1 : (decide (nth s i 0 = 39) || decide (nth s i 0 = 34)) = false := BI; simpa using h1
   refine tr (AC 1 rfl (lq rfl (Aw rfl rfl rfl rfl) (Ae rfl (AF rfl (fun BU => ?_) (fun BU => ?_)))))
   ·simp only [decide_eq_true_eq] at BU
    have BU : nth s i 0 = 92 := BU
    refine tr (AC 1 rfl (lq rfl (AX rfl rfl rfl (by omega)) ?_)); refine Ae rfl (tr (AC 2 rfl (lq rfl (Ap rfl CW rfl) (Ae rfl (AF rfl (fun Bd => ?_) (fun Bd => ?_))))))
    ·simp at Bd
     refine AH (AC 3 rfl (lq rfl ((by exact DL rfl CW rfl rfl (by omega))) ?_)); refine le rfl (AS rfl HE UY rfl rfl rfl (by rfl) rfl) ?_; rintro _ _ _ ⟨b40, rfl, rfl, rfl⟩; refine le rfl (Ba (f := Fo) (c := nth s (i + 1) 0) rfl HE UY rfl rfl rfl rfl rfl rfl rfl (by exact JD _) (by simp only [maxLen]; omega) (by omega)) ?_; rintro v41 _ _ ⟨rfl, rfl⟩; refine Ax rfl (AV (AV (Ai (AH (AC 1 rfl (lq rfl (AX rfl rfl rfl (by omega)) ?_)))))); refine Ax rfl (Ak ((i + 2, v41, l ++ [nth s (i + 1) 0])) ?_ ?_ (AB rfl) (AB rfl) (fun _ h => by dsimp only; exact AA h))
     ·dsimp only; refine ⟨by omega, by rw [hb, Sc (by omega) BU]; simp, by simp; omega⟩
     ·dsimp only
      show s.length + 1 - (i + 2) < s.length + 1 - i; omega
    ·simp at Bd
     refine Au (AV (AV (Ai (AH (AC 1 rfl (lq rfl (AX rfl rfl rfl (by omega)) ?_)))))); refine Ax rfl (Ak ((i + 2, v, l)) ?_ ?_ (AB rfl) (AB rfl) (fun _ h => by dsimp only; exact AA h))
     ·dsimp only; refine ⟨by omega, by rw [hb, SQ (by omega) (by omega) BU, List.drop_of_length_le (by omega), JZ], by omega⟩
     ·dsimp only
      show s.length + 1 - (i + 2) < s.length + 1 - i; omega
   ·simp only [decide_eq_false_iff_not] at BU
    have BU : ¬ nth s i 0 = 92 := BU
    refine AH (AC 2 rfl (le rfl (AS rfl HE UY rfl rfl rfl (by rfl) rfl) ?_)); rintro _ _ _ ⟨b18, rfl, rfl, rfl⟩; refine le rfl (Ba (f := Fo) (c := nth s i 0) rfl HE UY rfl rfl rfl rfl rfl rfl rfl (by exact JD _) (by simp only [maxLen]; omega) (by omega)) ?_; rintro v19 _ _ ⟨rfl, rfl⟩; refine Ax rfl (AV (AV (Ai (AH (AC 1 rfl (lq rfl (AX rfl rfl rfl (by omega)) ?_)))))); refine Ax rfl (Ak ((i + 1, v19, l ++ [nth s i 0])) ?_ ?_ (AB rfl) (AB rfl) (fun _ h => by dsimp only; exact AA h))
    ·dsimp only; refine ⟨by omega, by rw [hb, X5 (by omega) hq BU]; simp, by simp; omega⟩
    ·dsimp only
     show s.length + 1 - (i + 1) < s.length + 1 - i; omega
 ·simp at hc0
  rw [List.drop_of_length_le (by omega), JZ, List.append_nil] at hb; refine BB (AG (AG (AQ (Ai (AN (CI mo (by kernel_rfl) (fun _ _ _ _ _ h => h) (AK 1 rfl (sq rfl (HU rfl HE CW un5 rfl) (AK 1 rfl ?_))))))))); refine sq rfl (qc rfl rfl rfl ((fun w _ => L1 s DF w hs (by decide) (by decide) (by unfold KE DF; decide)))) ?_; refine AK 2 rfl (Cy (Aq (Dt rfl rfl rfl (fun w' hw => ?_)))); refine ⟨?_, hw.below⟩; rw [hb]
theorem NQ (b : Nat) (s d : List UInt8) (strip : Bool) (i : Nat) (I : AU) (F : List HA) (w0 w : World) (hs : s.length ≤ 1000000) (hi : i ≤ s.length) (hG : FC I) (CE : St w0 I (row b 108 (Ew s i 0 0) :: F) w) : AKo 68 108 b s i [Bj d, .bool strip] (LV strip d (s.drop i)) I F w := by
 refine enter Tryz.func68 rfl Tryz.ntmps68 rfl (CE.self) (Ar rfl (tr (le rfl (Ah rfl QP rfl) ?_))); rintro _ _ _ ⟨b8, rfl, rfl, rfl⟩; refine Gb (AR (A8 (ι := Nat × Nat × Option Addr × Value × List UInt8) (fun zz => i ≤ zz.1 ∧ zz.1 ≤ s.length ∧ LV strip d (s.drop i) = Hw.on zz.2.2.2.2 (zz.1 - i) (I5 strip d zz.2.1 (s.drop zz.1)) ∧ (s.drop zz.1).length ≤ zz.2.1 ∧ zz.2.2.2.2.length ≤ zz.1 ∧ (zz.2.2.1 = none ∨ zz.2.2.1 = some ⟨b8, 0, none⟩) ∧ Hu zz.2.2.2.1 zz.2.2.2.2) (fun zz => s.length - zz.1) (fun zz => []) [(0, _), (1, _), (2, _), (8, _)] (fun zz => I) (fun zz => (row b8 42 [.pointer zz.2.2.1, zz.2.2.2.1] :: BO 5 1 Fo zz.2.2.2.1 zz.2.2.2.2 :: row b 108 (Ew s zz.1 0 0) :: F)) (i, (s.drop i).length, none, .slice none 0 0, []) ?_ (AW) (AB rfl) (fun _ h => AA (CS 5 1 Fo h)) ?_))
 ·dsimp only; exact ⟨Nat.le_refl _, hi, by rw [Nat.sub_self, Hw.on_zero]; rfl, Nat.le_refl _, Nat.zero_le _, .inl rfl, .inl rfl⟩
 rintro ⟨j, g, p, vb, acc⟩ ⟨SI, Qq, hx, IB, hal, hp, Bb⟩; dsimp only at *; refine AN (AN (CI mo (by kernel_rfl) (fun _ _ _ _ _ h => h) (AK 3 rfl (sq rfl (AZ rfl rfl (by rfl)) ?_)))); refine AK 3 rfl (sq rfl (AZ rfl rfl (by rfl)) ?_); refine sq rfl (Ap rfl CW rfl) (AK 1 rfl (Cy (AF rfl (fun hc0 => ?_) (fun hc0 => ?_))))
 ·simp at hc0
  have hj : j < s.length := by omega
  have Dh := S7 hx (DS hj) IB
  have hrl := O0 (s.drop j)
  have hdl := Rp strip (s.drop j)
  rw [List.length_drop] at hrl; refine Al (AR (AN (CI mo (by kernel_rfl) (fun _ _ _ _ _ h => h) (AK 3 rfl (sq rfl (AZ rfl rfl (by rfl)) ?_))))); refine AK 3 rfl (sq rfl (AZ rfl rfl (by rfl)) ?_); refine sq rfl (Cp rfl CW rfl rfl (by omega)) ?_; refine sq rfl (qc rfl rfl rfl ((fun w hw => Zm (s.drop j) w (by rw [List.length_drop]; omega) (hG.mono hw.imm)))) ?_; refine AK 7 rfl (Cy (AN ?_))
  have XR : ((s.drop j).take (Bz (s.drop j))).length = Bz (s.drop j) := by rw [List.length_take, List.length_drop]; omega
  refine AH (AC 2 rfl (lq rfl (Ap rfl CW rfl) ?_)); rw [XR]; refine lq rfl (AX rfl rfl rfl (by omega)) ?_; refine Bw rfl rfl rfl rfl (fun w hw => DD b s j (Bz (s.drop j) + 1) 0 0 _ _ _ w (by omega) (by omega) (by omega) (AD (row b 108 (Ew s j 0 0)) hw)) ?_; rintro _ _ _ ⟨rfl, rfl, rfl⟩; refine ln (Bh (ι := Unit) (fun zz => True) (fun zz => [(9, Bj (EU strip (s.drop j)))]) [(0, _), (1, _), (2, _), (8, _), (21, _), (11, _)] (fun zz => I) (fun zz => (row b 108 (Ew s (min (j + (Bz (s.drop j) + 1)) s.length) 0 0) :: row b8 42 [.pointer p, vb] :: BO 5 1 Fo vb acc :: F)) (AB rfl) ?_ ?_)
  ·refine Ar rfl (AF rfl (fun BI => ?_) (fun BI => ?_))
   ·refine AH (AC 1 rfl (lq rfl (qc rfl rfl rfl ((fun w _ => Ol ((s.drop j).take (Bz (s.drop j))) w))) (Ax rfl (Av (()) ?_ (Bl rfl (by rw [EU, if_pos BI]) (AW)) (AB rfl) (fun _ h => by dsimp only; exact AA h)))))
    ·dsimp only
     all_goals trivial
   ·refine Au (Av (()) ?_ (Bl rfl (by rw [EU, if_neg (by rw [BI]; simp)]; try rfl) (AW)) (AB rfl) (fun _ h => by dsimp only; exact AA h))
    ·dsimp only
     all_goals trivial
  rintro u _; refine AN (tr (AC 2 rfl (lq rfl (BM rfl rfl rfl) (ln (AF rfl (fun BU => ?_) (fun BU => ?_))))))
  ·have BU := of_decide_eq_true BU
   have GE := Dh.1 BU
   refine tr (Bw rfl rfl rfl rfl (fun w hw => J4 b8 (.pointer p) vb acc _ _ _ w Bb (by omega) (Jy (row b8 42 [.pointer p, vb]) (BO 5 1 Fo vb acc) hw)) ?_); rintro _ _ _ ⟨rfl, rfl, rfl⟩; refine Ae rfl (C0 (Dt rfl rfl rfl (fun w' hw => ?_))); refine ⟨_, rfl, I, _, ⟨rfl, acc, true, min (j + (Bz (s.drop j) + 1)) s.length, rfl, ?_, (by omega), rfl⟩, AA hw⟩; rw [GE]; refine ⟨rfl, rfl, ?_⟩
   show _ = i + (j - i + min (Bz (s.drop j) + 1) (s.drop j).length)
   rw [List.length_drop]
   omega
  ·have BU := of_decide_eq_false BU
   have AHN := Dh.2 BU
   refine Al (AN (Ar rfl (AF rfl (fun Bd => ?_) (fun Bd => ?_))))
   ·have Bd : DX (s.drop j) 10 = false := by simpa using Bd
    have GE := AHN.1 Bd
    refine BB (AG (CB rfl (AG (AQ (Ai (Ar rfl (Aq (Dt rfl rfl rfl (fun w' hw => ?_))))))))); refine ⟨_, rfl, I, _, ⟨rfl, [], false, min (j + (Bz (s.drop j) + 1)) s.length, rfl, ?_, (by omega), rfl⟩, AA hw⟩; rw [GE]; exact ⟨rfl, rfl⟩
   ·have Bd : DX (s.drop j) 10 = true := by simpa using Bd
    have V2 := (IG (l := s.drop j)).1 Bd
    rw [List.length_drop] at V2; refine Al (AH (AC 1 rfl (lq rfl (Dk rfl rfl rfl (by (simp only [List.length_cons, List.length_nil]; omega))) ?_))); refine Bw rfl rfl rfl rfl (fun w hw => LY b8 p vb acc (EU strip (s.drop j) ++ [10]) _ _ _ w hp (by simp only [List.length_append, List.length_cons, List.length_nil]; omega) (Jy (row b8 42 [.pointer p, vb]) (BO 5 1 Fo vb acc) hw)) ?_; rintro _ _ _ ⟨rfl, rfl, vb2, rfl⟩; refine BX (AV (Ak ((j + (Bz (s.drop j) + 1), g - 1, some ⟨b8, 0, none⟩, vb2, acc ++ (EU strip (s.drop j) ++ [10]))) ?_ ?_ (AW) (AB rfl) (fun _ h => by dsimp only; rw [show min (j + (Bz (s.drop j) + 1)) s.length = j + (Bz (s.drop j) + 1) by omega] at h; exact AA h)))
    ·dsimp only; refine ⟨by omega, by omega, ?_, ?_, ?_, .inr rfl, .inr (by simp)⟩
     ·rw [(AHN.2 Bd), List.drop_drop]; congr 1; omega
     ·rw [List.length_drop] at IB ⊢; omega
     ·simp only [List.length_append, List.length_cons, List.length_nil]; omega
    ·dsimp only
     show s.length - (j + (Bz (s.drop j) + 1)) < s.length - j
     omega
 ·simp at hc0
  obtain rfl : j = s.length := by omega
  rw [List.drop_length, RP] at hx; refine BB (AG (AG (AQ (Ai (Ar rfl (Aq (Dt rfl rfl rfl (fun w' hw => ?_)))))))); refine ⟨_, rfl, I, _, ⟨rfl, [], false, s.length, rfl, ?_, (Nat.le_refl _), rfl⟩, AA hw⟩; rw [hx]; exact ⟨rfl, rfl⟩
end Go.Tri

namespace Go.Tri
open Go.Proofs Go.RowKit
set_option maxRecDepth 10000
theorem ABl {s : List UInt8} {i j g : Nat} {l : List CX} {r : I7} {t : CX} {ok : Bool} {i' a' e' : Nat} (hx : r = (DE g j (s.drop j)).app l (j - i)) (hf : (s.drop j).length < g) (hij : i ≤ j) (h : Qz j (I6 (s.drop j)) t ok i' a' e') (Bb : ok = false) : LnE i r l i' a' e' := by
 have hs := PC hx hf
 have Dg := JC (s.drop j)
 cases ht : I6 (s.drop j) with
 | stop k =>
  rw [ht] at h; rw [hs.1 k ht]; exact ⟨rfl, by rw [h.2.2.1]; omega, h.2.2.2.1, h.2.2.2.2⟩
 | bad a e =>
  rw [ht] at h Dg; rw [hs.2.1 a e ht]; exact ⟨Dg, h.2.2.1, h.2.2.2⟩
 | tok off k kind text =>
  rw [ht] at h
  rw [h.2.1] at Bb; cases Bb
theorem AEJ {s : List UInt8} {i j g : Nat} {l : List CX} {r : I7} {t : CX} {ok : Bool} {i' a' e' : Nat} (hx : r = (DE g j (s.drop j)).app l (j - i)) (hf : (s.drop j).length < g) (hij : i ≤ j) (h : Qz j (I6 (s.drop j)) t ok i' a' e') (Bb : ok = true) :
  j < i' ∧ a' = 0 ∧ e' = 0 ∧ (t.kind = 3 → LnE i r (l ++ [t]) i' 0 0) ∧ (¬ t.kind = 3 → r = (DE (g - 1) i' (s.drop i')).app (l ++ [t]) (i' - i)) := by
 have hs := PC hx hf
 have Dg := JC (s.drop j)
 cases ht : I6 (s.drop j) with
 | stop k => rw [ht] at h; rw [h.2.1] at Bb; cases Bb
 | bad a e => rw [ht] at h; rw [h.2.1] at Bb; cases Bb
 | tok off k kind text =>
  rw [ht] at h Dg; obtain ⟨h1, h2, h3, h4, h5⟩ := h; obtain ⟨s1, s2⟩ := hs.2.2 off k kind text ht
  have hk : 1 ≤ k := Dg.1
  refine ⟨by omega, h4, h5, fun Ic => ?_, fun Ic => ?_⟩
  ·rw [s1 (by rw [h1] at Ic; exact Ic), ← h1]; exact ⟨rfl, by rw [h3]; omega, rfl, rfl⟩
  ·rw [s2 (by rw [h1] at Ic; exact Ic), ← h1, h3, List.drop_drop]
   congr 1; omega
theorem L3 {s : List UInt8} {i : Nat} {l : List CX} {j a e : Nat} (h : LnE i (DE (s.length + 1) i (s.drop i)) l j a e) : (e ≠ 0 → JB s i = ⟨[], 0, a, e⟩) ∧ (e = 0 → (∀ p, FH s none l j = .bad p → JB s i = ⟨[], 0, p, 54⟩) ∧ ∀ ds q, FH s none l j = .ok ds q → JB s i = ⟨ds, q, 0, 0⟩) := by
 unfold JB; refine ⟨fun he => ?_, fun he => ?_⟩
 ·rw [h.bad he]
 ·obtain ⟨k, h1, h2, _⟩ := h.ok he; exact ⟨fun p hp => by rw [h2] at hp; simp only [h1, hp], fun ds q hp => by rw [h2] at hp; simp only [h1, hp]⟩
theorem JW : ∀ (f p : Nat) (l : List UInt8) (ts : List CX) (k : Nat), DE f p l = .ok ts k → ∀ t ∈ ts, t.text.length ≤ l.length
 | 0, p, l, ts, k, h => by cases h; simp
 | f + 1, p, l, ts, k, h => by
  rw [DE] at h
  have Dg := JC l
  cases ht : I6 l with
  | stop j => simp only [ht] at h; cases h; simp
  | bad a e => simp only [ht] at h; cases h
  | tok off j kind text =>
   simp only [ht] at h; rw [ht] at Dg
   split at h
   ·cases h
    intro t hm; rw [List.mem_singleton] at hm
    subst hm; exact Dg.2.2.2
   ·cases hr : DE f (p + j) (l.drop j) with
    | bad a e => rw [hr] at h; cases h
    | ok ts' k' =>
     rw [hr] at h
     cases h
     intro t hm; rcases List.mem_cons.1 hm with rfl | hm
     ·exact Dg.2.2.2
     ·have := JW f _ _ _ _ hr t hm
      rw [List.length_drop] at this
      omega
theorem YN {s : List UInt8} {i : Nat} (h1 : s.length ≤ 65536) (h2 : i ≤ s.length) : B9 s (i : Int) = JB s i := by
 unfold B9
 rw [if_neg (by omega), if_neg (by omega)]; try rfl
theorem TZ (s : List UInt8) (at' : Int) (I : AU) (F : List HA) (w0 w : World) (hs : s.length ≤ 1000000000) (hG : FC I) (CE : St w0 I F w) : Calls Tryz.prog 50 [Bj s, .int .i64 at'].toArray w (fun e w' => ∃ v, e = .returned v ∧ ∃ I' H', (Le I I' ∧ F = H' ∧ ∃ vl, v = .tuple #[vl, .int .i64 ((B9 s at').fin : Int), .int .i64 ((B9 s at').place : Int), .int .i64 ((B9 s at').err : Int)] ∧ Sl I' 5 vl ((B9 s at').toks.map BZ)) ∧ St w I' H' w') := by
 refine enter Tryz.func50 rfl Tryz.ntmps50 rfl (CE.self) (Ar rfl (AN (AR (tr (AC 1 rfl (lq rfl (Ap rfl CW rfl) (Ae rfl (AF rfl (fun hc0 => ?_) (fun hc0 => ?_)))))))))
 ·simp at hc0
  have QL : B9 s at' = ⟨[], 0, 0, 50⟩ := by unfold B9; rw [if_pos (by omega)]
  refine Ar rfl (C0 (Hf rfl rfl rfl rfl rfl (fun w' hw => ?_))); exact ⟨_, rfl, I, _, ⟨Le.refl _, rfl, (.slice none 0 0), (by rw [QL]; try rfl), (by rw [QL]; exact Fv (fun _ h => by cases h))⟩, hw⟩
 ·simp at hc0
  have X6 : s.length ≤ 65536 := by omega
  refine tq (AK 3 rfl ?_)
  refine Bf 4 2 24 29 28 _ _ rfl rfl rfl rfl rfl rfl (fun h29 => by
    simp at h29
    refine AJ 2 rfl (sg rfl (Ap rfl CW rfl) (AJ 1 rfl ?_)); exact Ao rfl
   ) (AM rfl) rfl rfl rfl ?_
  refine AK 1 rfl (Cy (AF rfl (fun BI => ?_) (fun BI => ?_)))
  ·have h1 : (decide (at' < 0) || decide ((s.length : Int) < at')) = true := BI
   have QL : B9 s at' = ⟨[], 0, 0, 73⟩ := by unfold B9; rw [if_neg (by omega), if_pos (by simpa using h1)]
   refine Ar rfl (C0 (Hf rfl rfl rfl rfl rfl (fun w' hw => ?_))); exact ⟨_, rfl, I, _, ⟨Le.refl _, rfl, (.slice none 0 0), (by rw [QL]; try rfl), (by rw [QL]; exact Fv (fun _ h => by cases h))⟩, hw⟩
  ·have h1 : (decide (at' < 0) || decide ((s.length : Int) < at')) = false := BI
   simp only [Bool.or_eq_false_iff, decide_eq_false_iff_not] at h1; obtain ⟨i, rfl⟩ : ∃ i : Nat, at' = (i : Int) := ⟨at'.toNat, by omega⟩
   have hi : i ≤ s.length := by omega
   refine Au (AV (Ai (tr (AC 2 rfl (lq rfl (A6 (pl := [(_, _), (_, _), (_, _)]) (cs := (Ew s i 0 0).toArray) rfl AHq AIZ ⟨rfl, ⟨_, _, CU⟩, rfl, ⟨_, _, B0⟩, rfl, ⟨_, _, Vs⟩, trivial⟩ rfl rfl) (le rfl (FE rfl rfl rfl) ?_)))))); rintro _ _ _ ⟨b33, rfl, rfl, rfl⟩; refine Ae rfl (Ar rfl (Bh (ι := Value × List CX × Nat × Nat × Nat) (fun zz => LnE i (DE (s.length + 1) i (s.drop i)) zz.2.1 zz.2.2.1 zz.2.2.2.1 zz.2.2.2.2 ∧ zz.2.2.1 ≤ s.length ∧ zz.2.1.length ≤ s.length + 1) (fun zz => [(9, zz.1)]) [(0, _), (1, _), (4, _), (5, _), (6, _), (7, _), (17, _), (21, _), (8, _)] (fun zz => I) (fun zz => (row b33 108 (Ew s zz.2.2.1 zz.2.2.2.1 zz.2.2.2.2) :: BO 73 5 BZ zz.1 zz.2.1 :: F)) (AB rfl) ?_ ?_))
   ·refine AR (A8 (ι := Nat × Nat × Value × List CX) (fun zz => i ≤ zz.1 ∧ zz.1 ≤ s.length ∧ DE (s.length + 1) i (s.drop i) = (DE zz.2.1 zz.1 (s.drop zz.1)).app zz.2.2.2 (zz.1 - i) ∧ (s.drop zz.1).length < zz.2.1 ∧ zz.2.2.2.length ≤ zz.1) (fun zz => s.length - zz.1) (fun zz => [(9, zz.2.2.1)]) [(0, _), (1, _), (4, _), (5, _), (6, _), (7, _), (17, _), (21, _), (8, _)] (fun zz => I) (fun zz => (row b33 108 (Ew s zz.1 0 0) :: BO 73 5 BZ zz.2.2.1 zz.2.2.2 :: F)) (i, s.length + 1, .slice none 0 0, []) ?_ (AB rfl) (AB rfl) (fun _ h => AA (CS 73 5 BZ h)) ?_)
    ·dsimp only; exact ⟨Nat.le_refl _, hi, by rw [Nat.sub_self, I7.app_nil], by rw [List.length_drop]; omega, Nat.zero_le _⟩
    rintro ⟨j, g, v, l⟩ ⟨SI, Qq, hx, IB, Ki⟩; dsimp only at *; refine AR (tr (AC 1 rfl (Bw rfl rfl rfl rfl (fun w hw => Ra b33 s j _ _ _ w (by omega) (by omega) (hG.mono (Le.refl _)) (AD (row b33 108 (Ew s j 0 0)) hw)) ?_))); rintro _ _ _ ⟨rfl, tt, ok36, i36, a36, e36, rfl, htr, AEf, rfl⟩; refine AC 3 rfl (le rfl (Ah rfl BL rfl) ?_); rintro _ _ _ ⟨b10, rfl, rfl, rfl⟩; refine An rfl rfl ((by exact AE rfl BL rfl rfl rfl (by exact A4 _) rfl)) ?_; rintro _ _ _ ⟨rfl, rfl⟩; refine Ae rfl (AN (Ar rfl (AF rfl (fun BU => ?_) (fun BU => ?_))))
    ·have J3 := ABl hx IB SI htr (by simpa using BU)
     refine BB (AG (CB rfl (AG (AQ (Av ((v, l, i36, a36, e36)) ?_ (AB rfl) (AB rfl) (fun _ h => by dsimp only; exact AA h))))))
     ·dsimp only; exact ⟨J3, AEf, by omega⟩
    ·have hgo := AEJ hx IB SI htr (by simpa using BU)
     refine Al (tr (AC 1 rfl (lq rfl (Af rfl Cz BL rfl rfl rfl) (le rfl (AS rfl Dx BL rfl rfl rfl (by rfl) rfl) ?_)))); rintro _ _ _ ⟨b43, rfl, rfl, rfl⟩; refine le rfl (Ba (f := BZ) (c := tt) rfl Dx BL rfl rfl rfl rfl rfl rfl rfl (by exact A4 _) (by simp only [maxLen]; omega) (by omega)) ?_; rintro v44 _ _ ⟨rfl, rfl⟩; refine FV v44 (fun Df => ?_); refine Ae rfl (tr (AC 1 rfl ?_)); refine lq rfl ((by exact AZ rfl rfl (by rfl))) ?_; refine Ae rfl (AF rfl (fun Bd => ?_) (fun Bd => ?_))
     ·simp at Bd
      have Bd : tt.kind = 3 := by omega
      refine BB (CB rfl (AG (AQ (Av ((v44, l ++ [tt], i36, a36, e36)) ?_ (AB rfl) (AB rfl) (fun _ h => by dsimp only; exact AA h)))))
      ·dsimp only; refine ⟨?_, AEf, by simp only [List.length_append, List.length_cons, List.length_nil]; omega⟩; obtain ⟨_, h1, h2, h3, _⟩ := hgo; rw [h1, h2]; exact h3 Bd
     ·simp at Bd
      have Bd : ¬ tt.kind = 3 := by omega
      refine Au (AV (Ak ((i36, g - 1, v44, l ++ [tt])) ?_ ?_ (AB rfl) (AB rfl) (fun _ h => by obtain ⟨_, h1, h2, _⟩ := hgo; subst h1; subst h2; dsimp only; exact AA h)))
      ·dsimp only; refine ⟨by omega, AEf, hgo.2.2.2.2 Bd, ?_, by simp only [List.length_append, List.length_cons, List.length_nil]; omega⟩
       rw [List.length_drop] at IB ⊢; omega
      ·dsimp only
       show s.length - i36 < s.length - j
       omega
   rintro ⟨v, l, jb, ab, eb⟩ ⟨Jj, hjb, hlb⟩; dsimp only at *
   have hla := L3 Jj
   have QL := YN (s := s) (i := i) X6 hi
   refine AN (tr (AC 4 rfl ?_)); refine lq rfl ((by exact AZ rfl rfl (by rfl))) ?_; refine Ae rfl (AF rfl (fun Cg => ?_) (fun Cg => ?_))
   ·simp at Cg
    have he : eb ≠ 0 := by omega
    have GE := hla.1 he
    rw [← QL] at GE; refine AN (CI mo (by kernel_rfl) (fun _ _ _ _ _ h => h) (AK 4 rfl ?_)); refine sq rfl ((by exact AZ rfl rfl (by rfl))) ?_; refine AK 4 rfl ?_; refine sq rfl ((by exact AZ rfl rfl (by rfl))) ?_; refine AK 4 rfl (Cy (C0 (Hf rfl rfl rfl rfl rfl (fun w' hw => ?_)))); exact ⟨_, rfl, I, _, ⟨Le.refl _, rfl, (.slice none 0 0), (by rw [GE]; try rfl), (by rw [GE]; exact Fv (fun _ h => by cases h))⟩, AA hw⟩
   ·simp at Cg
    obtain rfl : eb = 0 := by omega
    obtain ⟨kx, hlx, _, rfl⟩ := Jj.ok rfl
    have hTx : ∀ m, m < l.length → (nth l m BV).text.length ≤ s.length := fun m hm => Nat.le_trans (JW _ _ _ _ _ hlx _ (DG hm)) (by rw [List.length_drop]; omega)
    have Ut := hla.2 rfl
    rw [← QL] at Ut; refine Al (AN (tr (AC 1 rfl ?_))); refine lq rfl ((by exact Eq rfl Dx rfl)) ?_; refine Ae rfl (AR (A8 (ι := Nat × List CX × Nat) (fun zz => GY s l jb zz.1 zz.2.1 zz.2.2 ∧ zz.2.2 ≤ s.length) (fun zz => l.length - zz.1) (fun zz => [(66, .int .i64 (zz.1 : Int))]) [(9, _), (0, _), (1, _), (17, _), (21, _), (8, _), (53, _), (65, _)] (fun zz => I) (fun zz => (row b33 108 (Ew s zz.2.2 0 0) :: BO 73 5 BZ v zz.2.1 :: F)) (0, l, jb) ?_ (AB rfl) (AB rfl) (fun _ h => AA h) ?_))
    ·dsimp only; exact ⟨GY.start s l jb, hjb⟩
    rintro ⟨n, cur, jj⟩ ⟨hD, hjj⟩; dsimp only at *
    have EP := hD.len
    refine Ar rfl (AN (AF rfl (fun C1 => ?_) (fun C1 => ?_)))
    ·simp at C1
     have hn : n < l.length := by omega
     refine Al (AN (AR (Ar rfl (AN (tq (AK 3 rfl ?_))))))
     refine Bf 6 2 71 78 77 _ _ rfl rfl rfl rfl rfl rfl (fun h78 => by
       simp at h78
       refine AJ 2 rfl ?_; refine sg rfl ((by exact CL rfl Dx BL rfl rfl (by omega))) ?_; refine AJ 1 rfl ?_; refine sg rfl ((by exact DU rfl Li rfl rfl (GS (fo := 0) (f := BZ) (d := BV) (fun _ => rfl) (show n < cur.length by omega) rfl))) ?_; refine AJ 1 rfl ?_; exact Ao rfl
      ) (AM rfl) rfl rfl rfl ?_
     refine AK 1 rfl ?_
     refine Bf 7 10 79 87 86 _ _ rfl rfl rfl rfl rfl rfl (fun h87 => by
       simp at h87
       refine AJ 2 rfl (sg rfl (Fa rfl rfl rfl (by omega)) ?_); rw [show (n : Int) - 1 = ((n - 1 : Nat) : Int) by omega]; refine sg rfl ((by exact CL rfl Dx BL rfl rfl (by omega))) ?_; refine AJ 1 rfl ?_; refine sg rfl ((by exact DU rfl Li rfl rfl (GS (fo := 0) (f := BZ) (d := BV) (fun _ => rfl) (show n - 1 < cur.length by omega) rfl))) ?_; refine AJ 1 rfl ?_; exact Ao rfl
      ) (AM rfl) rfl rfl rfl ?_
     refine AK 1 rfl ?_
     refine Bf 8 19 88 97 96 _ _ rfl rfl rfl rfl rfl rfl (fun h97 => by
       simp at h97
       refine AJ 2 rfl (sg rfl (Fa rfl rfl rfl (by omega)) ?_); rw [show (n : Int) - 1 = ((n - 1 : Nat) : Int) by omega]; refine sg rfl ((by exact CL rfl Dx BL rfl rfl (by omega))) ?_; refine AJ 1 rfl ?_; refine sg rfl ((by exact DU rfl CW rfl rfl (GS (fo := 1) (f := BZ) (d := BV) (fun _ => rfl) (show n - 1 < cur.length by omega) rfl))) ?_; refine sg rfl (qc rfl rfl rfl ((fun w _ => Gu (nth cur (n - 1) BV).text [60, 60] w))) (AJ 1 rfl ?_); exact Ao rfl
      ) (AM rfl) rfl rfl rfl ?_
     refine Cy (AF rfl (fun Dd => ?_) (fun Dd => ?_))
     ·have AHJ : (!(decide ((n : Int) = 0) || decide (((nth cur n BV).kind : Int) ≠ 1) || decide (((nth cur (n - 1) BV).kind : Int) ≠ 2) || !EY (nth cur (n - 1) BV).text [60, 60])) = false := by rw [show (_ || _ || _ || _) = true from Dd]; try rfl
      refine BB (AG (AQ (Ai (AH (lq rfl (AX rfl rfl rfl (by omega)) ?_))))); refine Ax rfl (Ak ((n + 1, cur, jj)) ?_ ?_ (AB rfl) (AB rfl) (fun _ h => by dsimp only; exact AA h))
      ·dsimp only; exact ⟨hD.skip hn (by rw [hD.here hn]; exact AHJ), hjj⟩
      ·dsimp only
       show l.length - (n + 1) < l.length - n
       omega
     ·have hh : JQ (E8 l n) (nth l n BV) = true := by rw [hD.here hn, show (_ || _ || _ || _) = false from Dd]; try rfl
      have EL : 0 < n := by
       rcases Nat.eq_zero_or_pos n with h | h
       ·subst h; cases hh
       ·exact h
      refine Al (tr (AC 2 rfl ?_)); refine lq rfl ((by exact CL rfl Dx BL rfl rfl (by omega))) ?_; refine AC 1 rfl ?_; refine lq rfl ((by exact DU rfl CW rfl rfl (GS (fo := 1) (f := BZ) (d := BV) (fun _ => rfl) (show n < cur.length by omega) rfl))) ?_; refine lq rfl (qc rfl rfl rfl ((fun w _ => Wb (nth cur n BV).text w (by rw [hD.cur_at hn]; have := hTx n hn; omega)))) ?_; refine Ae rfl (tr (AC 4 rfl (lq rfl (Fa rfl rfl rfl (by omega)) ?_))); rw [show (n : Int) - 1 = ((n - 1 : Nat) : Int) by omega]; refine lq rfl ((by exact CL rfl Dx BL rfl rfl (by omega))) ?_; refine AC 1 rfl ?_; refine lq rfl ((by exact DU rfl CW rfl rfl (GS (fo := 1) (f := BZ) (d := BV) (fun _ => rfl) (show n - 1 < cur.length by omega) rfl))) ?_; refine lq rfl (BM rfl rfl rfl) (Bw rfl rfl rfl rfl (fun w hw => NQ b33 s (DN (nth cur n BV).text) (decide ((nth cur (n - 1) BV).text = [60, 60, 45])) jj _ _ _ w (by omega) (by omega) hG (AD (row b33 108 (Ew s jj 0 0)) hw)) ?_); rintro _ _ _ ⟨rfl, dd, ok117, i117, rfl, hdr, AGp, rfl⟩; refine Ae rfl (AN (Ar rfl (AF rfl (fun EW => ?_) (fun EW => ?_))))
      ·have Se := hdr.f (by simpa using EW)
       rw [← hD.strip EL, hD.cur_at hn] at Se
       have GE := Ut.1 _ (hD.bad hn hh Se)
       refine AN (CI mo (by kernel_rfl) (fun _ _ _ _ _ h => h) (AK 2 rfl ?_)); refine sq rfl ((by exact CL rfl Dx BL rfl rfl (by omega))) ?_; refine AK 1 rfl ?_; refine sq rfl ((by exact DU rfl Li rfl rfl (GS (fo := 2) (f := BZ) (d := BV) (fun _ => rfl) (show n < cur.length by omega) rfl))) ?_; refine AK 4 rfl (Cy (C0 (Hf rfl rfl rfl rfl rfl (fun w' hw => ?_)))); exact ⟨_, rfl, I, _, ⟨Le.refl _, rfl, (.slice none 0 0), (by rw [GE, hD.cur_at hn]; try rfl), (by rw [GE]; exact Fv (fun _ h => by cases h))⟩, AA hw⟩
      ·obtain ⟨kk, hdx, hi9⟩ := hdr.t (by simpa using EW); rw [← hD.strip EL, hD.cur_at hn] at hdx; refine Al (AH (AC 6 rfl ?_)); refine lq rfl ((by exact CL rfl Dx BL rfl rfl (by omega))) ?_; refine AC 1 rfl ?_; refine An rfl rfl (RF BV ({ nth cur n BV with doc := dd }) rfl CU rfl rfl (by exact ⟨rfl, rfl⟩) (fun _ => rfl) (by omega) rfl rfl) ?_; rintro _ _ _ ⟨rfl, rfl⟩
       have ARA : (cur.set n ({ nth cur n BV with doc := dd })).length = l.length := by rw [List.length_set]; exact EP
       refine lq rfl ((by exact CL rfl Dx BL rfl rfl (by omega))) ?_; refine AC 1 rfl ?_; refine An rfl rfl (RF BV ({ nth cur n BV with doc := dd, raw := EG (nth cur n BV).text DF }) rfl De rfl rfl (by exact ⟨rfl, rfl⟩) (fun _ => rfl) (by omega) rfl (by rw [KR (by omega)]; try rfl)) ?_; rintro _ _ _ ⟨rfl, rfl⟩; refine BX (AV (Ai (AH (lq rfl (AX rfl rfl rfl (by omega)) ?_)))); refine Ax rfl (Ak ((n + 1, (cur.set n ({ nth cur n BV with doc := dd })).set n ({ nth cur n BV with doc := dd, raw := EG (nth cur n BV).text DF }), i117)) ?_ ?_ (AB rfl) (AB rfl) (fun _ h => by dsimp only; exact AA h))
       ·dsimp only; refine ⟨?_, AGp⟩; rw [List.set_set, hD.cur_at hn, hi9]; exact hD.doc hn hh hdx
       ·dsimp only
        show l.length - (n + 1) < l.length - n
        omega
    ·simp at C1
     have hn : ¬ n < l.length := by omega
     have GE := Ut.2 _ _ (hD.done hn)
     refine BB (AG (AG (AQ (Ai (AN (CG (f := BZ) (l := cur) v (fun _ => rfl) (fun Jf B4 Ck => ?_))))))); refine CI mo (by kernel_rfl) (fun _ _ _ _ _ h => h) (AK 4 rfl ?_); refine sq rfl ((by exact AZ rfl rfl (by rfl))) ?_; refine AK 4 rfl (Cy (Aq (Hf rfl rfl rfl rfl rfl (fun w' hw => ?_)))); exact ⟨_, rfl, Jf, _, ⟨B4, rfl, v, (by rw [GE]; try rfl), (by rw [GE]; exact Ck)⟩, AA hw⟩
end Go.Tri

namespace Go.Tri
open Go.Proofs Go.RowKit
set_option maxRecDepth 10000
open Go.Sort
theorem Yi (s : List UInt8) (i : Nat) : (!Fe (nth s i 0) && (decide ((i : Int) = 0) || decide (((nth s i 0).toNat : Int) < 48) || decide (57 < ((nth s i 0).toNat : Int)))) = !TS s i := by
 unfold TS DQ
 by_cases h1 : (i : Int) = 0 <;> by_cases h2 : ((nth s i 0).toNat : Int) < 48 <;> by_cases h3 : 57 < ((nth s i 0).toNat : Int) <;> cases Fe (nth s i 0) <;> simp [h1, h2, h3] <;> omega
theorem ABz {s : List UInt8} {i : Nat} (h : (!Fe (nth s i 0) && (decide ((i : Int) = 0) || decide (((nth s i 0).toNat : Int) < 48) || decide (57 < ((nth s i 0).toNat : Int)))) = true) : TS s i = false := by
 rw [Yi] at h; simpa using h
theorem Yy {s : List UInt8} {i : Nat} (h : (!Fe (nth s i 0) && (decide ((i : Int) = 0) || decide (((nth s i 0).toNat : Int) < 48) || decide (57 < ((nth s i 0).toNat : Int)))) = false) : TS s i = true := by
 rw [Yi] at h; simpa using h
def Lt (s : List UInt8) : Value := .tuple #[.int .i64 ((ER s).getD 0), .bool (ER s).isSome]
theorem Zi (n : Int) (w : World) (h : -9223372036854775808 ≤ n ∧ n ≤ 9223372036854775807) (hG : GW w) : Cw Tryz.prog 71 [.int .i64 n, .int .i64 10] w (Bj (Lib.itoa n)) :=
 (Tryz.strconv_FormatInt_10 n h.1 h.2 w hG.tab).mono fun e w' ⟨h1, k, os, h2⟩ => ⟨h1, h2 ▸ SL w k os⟩
def ADz (s : List UInt8) (v : Value) : Prop := ∃ n e, v = .tuple #[.int .i64 n, e] ∧ Ss e (ER s).isNone ∧ ∀ m, ER s = some m → n = m
theorem AAS (s : List UInt8) (w : World) (hs : s.length ≤ 281474976710656) (hG : GW w) : U0 Tryz.prog 178 [Bj s, .int .i64 10, .int .i64 64] w (ADz s) := by
 have Lj := DC s
 have hdt : (⟨s.toArray⟩ : ByteArray).data.toList = s := by simp
 rcases Qy s with ⟨v, h1, h2⟩ | ⟨h1, h2 | h2⟩
 ·refine (Tryz.strconv_ParseInt_10_at64_ok ⟨s.toArray⟩ (by omega) v (by rw [hdt]; exact h1) w).mono fun e w' ⟨h3, h4⟩ => ⟨_, h3, ⟨v, _, rfl, .inl ⟨by rw [h2]; rfl, rfl⟩, fun m hm => by rw [h2] at hm; cases hm; rfl⟩, ?_⟩
  rcases h4 with rfl | ⟨t, rfl⟩
  ·exact Below.refl _ _
  ·exact Go.Joins.below_bytesWorld _ _ _ _ (Nat.le_refl _)
 ·obtain ⟨ev, hv, hev⟩ := hG.syn
  exact (Tryz.strconv_ParseInt_10_at64_syntax ⟨s.toArray⟩ (by omega) (by rw [hdt]; exact h2) ev w hv hev).mono fun e w' ⟨N, h3, _, _, h4⟩ => ⟨_, h3, ⟨_, _, rfl, .inr ⟨by rw [h1]; rfl, _, _, rfl⟩, fun m hm => by rw [h1] at hm; cases hm⟩, h4⟩
 ·obtain ⟨ev, hv, hev⟩ := hG.rng
  exact (Tryz.strconv_ParseInt_10_at64_range ⟨s.toArray⟩ (by omega) (by rw [hdt]; exact h2) ev w hv hev).mono fun e w' ⟨N, h3, _, _, h4⟩ => ⟨_, h3, ⟨_, _, rfl, .inr ⟨by rw [h1]; rfl, _, _, rfl⟩, fun m hm => by rw [h1] at hm; cases hm⟩, h4⟩
theorem YY : ∀ k n : Nat, n < 10 ^ (k + 1) → (Lib.decDigits n).length ≤ k + 1
 | 0, n, h => by
  rw [EC (by omega)]; simp
 | k + 1, n, h => by
  by_cases h1 : n < 10
  ·rw [EC h1]; simp
  ·rw [FT h1, List.length_append]
   have := YY k (n / 10) (by
    rw [Nat.div_lt_iff_lt_mul (by omega)]
    rw [Nat.pow_succ] at h; exact h)
   simp; omega
theorem ACP {N u : Nat} {l : List UInt8} (h : Lib.decDigits N = Lib.decDigits u ++ l) (hu : ¬ u < 10) : Lib.decDigits N = Lib.decDigits (u / 10) ++ (UInt8.ofNat (48 + u % 10) :: l) := by
 rw [h, FT hu]; simp
theorem ABt {N u : Nat} {l : List UInt8} (h : Lib.decDigits N = Lib.decDigits u ++ l) (hu : u < 10) : Lib.decDigits N = UInt8.ofNat (48 + u % 10) :: l := by
 rw [h, EC hu]; try rfl
theorem Vb (n : Int) : Lib.itoa n = if n < 0 then 45 :: Lib.decDigits n.natAbs else Lib.decDigits n.natAbs := by
 unfold Lib.itoa
 split
 ·rfl
 ·congr 1; omega
theorem Wv {s : List UInt8} (h : GZ s = []) : ER s = none := by unfold ER; rw [if_pos h]
theorem ABf {s : List UInt8} {v : Nat} (ht : GZ s ≠ []) (hv : Em 0 (GZ s) = some v) : ER s = if IT s then (if v ≤ GA then some (-(v : Int)) else none) else if v < GA then some (v : Int) else none := by
 unfold ER; rw [if_neg ht, hv]; try rfl
theorem FN {s : List UInt8} (h : ER s = none) : Lt s = .tuple #[.int .i64 0, .bool false] := by unfold Lt; rw [h]; try rfl
theorem JV {s : List UInt8} {n : Int} (h : ER s = some n) : Lt s = .tuple #[.int .i64 n, .bool true] := by unfold Lt; rw [h]; try rfl
theorem PL (c : UInt8) : (decide ((c.toNat : Int) < 48) || decide (57 < (c.toNat : Int))) = !DQ c := by
 unfold DQ
 by_cases h2 : (c.toNat : Int) < 48 <;> by_cases h3 : 57 < (c.toNat : Int) <;> simp [h2, h3] <;> omega
theorem Sb (c : UInt8) (w : World) : Cw Tryz.prog 173 [u8 c] w (.bool (Fe c)) := by
 refine enter Tryz.func173 rfl Tryz.ntmps173 rfl (St.start w (BF w) (Le.refl _)) (Ar rfl (tq (AK 1 rfl (sq rfl (VC (d := 32) rfl rfl rfl) (AK 2 rfl ?_)))))
 refine BA 3 3 6 10 9 _ _ rfl rfl rfl rfl rfl rfl (fun QZ => by
   simp at QZ
   refine AJ 1 rfl (sg rfl (VC (d := 32) rfl rfl rfl) (AJ 1 rfl ?_)); exact Ao rfl
  ) (AM rfl) rfl rfl rfl ?_
 refine AK 1 rfl ?_
 refine BA 2 8 11 14 13 _ _ rfl rfl rfl rfl rfl rfl (fun h14 => by
   simp at h14
   refine AJ 2 rfl ?_; exact Ao rfl
  ) (AM rfl) rfl rfl rfl ?_
 refine AK 1 rfl ?_
 refine Bf 2 12 15 18 17 _ _ rfl rfl rfl rfl rfl rfl (fun h18 => by
   simp at h18
   refine AJ 1 rfl (sg rfl (Aw rfl rfl rfl rfl) ?_); exact Ao rfl
  ) (AM rfl) rfl rfl rfl ?_
 refine AK 1 rfl (Cy (Aq (A1 rfl rfl (fun w' hw => ?_)))); refine ⟨?_, hw.below⟩
 rw [← WL c]; try rfl
theorem PP (s : List UInt8) (w : World) (hs : s.length ≤ 4611686018427387904) : Cw Tryz.prog 153 [Bj s] w (.bool (FSt s)) := by
 refine enter Tryz.func153 rfl Tryz.ntmps153 rfl (St.start w (BF w) (Le.refl _)) (Ar rfl (AN (tr (AC 1 rfl (le rfl (Uq rfl CW HE un5 rfl) ?_))))); rintro v6 J6 _ ⟨hJ6, X6, rfl⟩; refine lq rfl ((by exact CN rfl HE rfl (Sl.lenOf X6 (List.length_map _)))) ?_; refine Ae rfl (AR (A8 (ι := Nat) (fun i => i ≤ s.length ∧ ∀ k, k < i → TS s k = true) (fun i => s.length - i) (fun i => [(8, .int .i64 (i : Int))]) [(0, _), (6, _), (7, _)] (fun i => J6) (fun i => []) 0 ?_ (AB rfl) (AB rfl) (fun _ h => AA h) ?_))
 ·exact ⟨Nat.zero_le _, fun k hk => absurd hk (Nat.not_lt_zero _)⟩
 rintro i ⟨hi, Bb⟩; refine Ar rfl (AN (AF rfl (fun hc0 => ?_) (fun hc0 => ?_)))
 ·simp at hc0
  refine Al (AN (AR (tr (AC 1 rfl ?_)))); refine lq rfl ((by exact A5 rfl HE UY rfl rfl (Sl.shape X6 (List.length_map _)) (by omega))) ?_; refine lq rfl ((by exact B1 rfl rfl (AHO X6 (by omega)))) ?_; refine Ae rfl (tq (AK 1 rfl (sq rfl (qc rfl rfl rfl ((fun w _ => Sb _ w))) (AK 2 rfl ?_))))
  refine BA 10 3 16 27 26 _ _ rfl rfl rfl rfl rfl rfl (fun h27 => by
    simp at h27
    refine AJ 3 rfl ?_
    refine Bf 2 6 19 22 21 _ _ rfl rfl rfl rfl rfl rfl (fun Vp => by
      simp at Vp
      refine AJ 2 rfl ?_; exact Ao rfl
     ) (Be rfl rfl rfl rfl) rfl rfl rfl ?_
    refine AJ 1 rfl ?_
    refine Bf 2 10 23 26 25 _ _ rfl rfl rfl rfl rfl rfl (fun YZ => by
      simp at YZ
      refine AJ 2 rfl ?_; exact Ao rfl
     ) (Be rfl rfl rfl rfl) rfl rfl rfl ?_
    exact Ao rfl
   ) (AM rfl) rfl rfl rfl ?_
  refine Cy (AF rfl (fun BI => ?_) (fun BI => ?_))
  ·have Tx : TS s i = false := ABz BI
   refine Ar rfl (C0 (A1 rfl rfl (fun w' hw => ?_))); refine ⟨?_, (hw.less hJ6).below⟩; rw [ML (by omega) Tx]
  ·have Tx : TS s i = true := Yy BI
   refine Au (AV (Ai (AH (lq rfl (AX rfl rfl rfl (by omega)) ?_)))); refine Ax rfl (Ak (i + 1) ?_ ?_ (AB rfl) (AB rfl) (fun _ h => by dsimp only; exact AA h))
   ·refine ⟨by omega, fun k hk => ?_⟩; rcases Nat.lt_succ_iff_lt_or_eq.1 hk with h | rfl
    ·exact Bb k h
    ·exact Tx
   ·omega
 ·simp at hc0
  refine BB (AG (AG (AQ (Ai (tr (AC 1 rfl (lq rfl (C7 rfl rfl rfl) (Ae rfl (Aq ?_))))))))); refine A1 rfl rfl (fun w' hw => ?_); refine ⟨?_, (hw.less hJ6).below⟩; rw [Pn fun k hk => Bb k (by omega)]
theorem RN (s : List UInt8) (w : World) (hs : s.length ≤ 281474976710656) (hG : GW w) : Cw Tryz.prog 172 [Bj s] w (Lt s) := by
 refine enter Tryz.func172 rfl Tryz.ntmps172 rfl (St.start w (BF w) (Le.refl _)) (Ar rfl (AN (tr (AC 1 rfl (lq rfl (qc rfl rfl rfl ((fun w _ => Pk s Ln w (by omega) (by decide) (by decide)))) ?_))))); refine lq rfl (C7 rfl rfl rfl) (ln (AF rfl (fun hc0 => ?_) (fun hc0 => ?_)))
 ·refine Ar rfl (C0 (Dt rfl rfl rfl (fun w' hw => ?_))); refine ⟨?_, hw.below⟩; rw [FN (V4 (of_decide_eq_true hc0))]
 ·refine Al (tr (AC 1 rfl (le rfl (O5 rfl rfl rfl Tryz.func178 (by kernel_rfl) rfl (fun w hw => AAS s w hs (hG.le hw.le))) ?_))); rintro _ _ _ ⟨⟨pn, pe, rfl, Fr, hpm⟩, rfl, rfl⟩; refine Ae rfl (AN (tr (AC 1 rfl (lq rfl (OK rfl (by kernel_rfl) rfl (by assumption)) ?_)))); refine ln (AF rfl (fun BI => ?_) (fun BI => ?_))
  ·refine Ar rfl (C0 (Dt rfl rfl rfl (fun w' hw => ?_))); refine ⟨?_, hw.below⟩; rw [FN (Option.isNone_iff_eq_none.1 BI)]
  ·refine Al (Ar rfl (Aq (Dt rfl rfl rfl (fun w' hw => ?_)))); refine ⟨?_, hw.below⟩
   cases hn : ER s with
   | none => rw [hn] at BI; cases BI
   | some m => rw [JV hn, hpm m hn]; try rfl
theorem LF (n : Int) (w : World) (h : -9223372036854775808 ≤ n ∧ n ≤ 9223372036854775807) (hG : GW w) : Cw Tryz.prog 54 [.int .i64 n] w (Bj (Lib.itoa n)) := by
 refine enter Tryz.func54 rfl Tryz.ntmps54 rfl (St.start w (BF w) (Le.refl _)) (Ar rfl (tr (AC 1 rfl (lq rfl (qc rfl rfl rfl ((fun w hw => Zi n w h (hG.le hw.le)))) (Ae rfl (Aq (A1 rfl rfl (fun w' hw => ?_)))))))); exact ⟨rfl, hw.below⟩
end Go.Tri
