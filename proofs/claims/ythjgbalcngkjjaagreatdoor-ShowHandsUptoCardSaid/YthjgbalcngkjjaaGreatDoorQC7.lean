/-
 The parser: and-ors, bodies, pipelines.
-/
import Derived.Test.YthjgbalcngkjjaaGreatDoorQC4
namespace Go.Tri
open Go.Proofs Go.RowKit
set_option maxRecDepth 10000
def ACp : AU → PS → Nd × Bool → Value → Prop := fun I _ x v => ∃ c, v = .tuple #[.agg (A2 c).toArray, .bool x.2] ∧ Bm I x.1 c
theorem F8 : ∀ u ∈ A2 DB, u.oneCell' = true := FP B3 B3 B3
theorem Im {k : Nat} {nt : Bool} {v : Value} (h : Lh v) : ∀ u ∈ A2 ⟨k, nt, false, [], AO, AO, v⟩, u.oneCell' = true := FP B3 B3 h
theorem Jt {b n c : Nat} : Lh (.slice (some ⟨b, 0, none⟩) n c) := ⟨rfl, rfl⟩
theorem AFB {I : AU} {ks : List Nd} {cs : List NC} (h : A0 I ks cs) (hl : cs.length = 1) : ∃ k, ks = [k] ∧ Bm I k (nth cs 0 DB) := by
 have h2 := h.len
 obtain ⟨k, rfl⟩ := List.length_eq_one_iff.1 (show ks.length = 1 by omega); obtain ⟨c, rfl⟩ := List.length_eq_one_iff.1 hl; unfold A0 at h; exact ⟨k, rfl, h.1⟩
theorem Zp {I : AU} {ks : List Nd} {cs : List NC} {nt : Bool} (h : A0 I ks cs) (hc : (decide ((cs.length : Int) = 1) && !nt) = true) : Bm I (LA nt ks) (nth cs 0 DB) ∧ 0 < cs.length := by
 rw [Bool.and_eq_true, decide_eq_true_eq, Bool.not_eq_true'] at hc; obtain ⟨h1, rfl⟩ := hc; obtain ⟨k, rfl, h2⟩ := AFB h (by omega); exact ⟨h2, by omega⟩
theorem WJ {I : AU} {ks : List Nd} {cs : List NC} {nt : Bool} (h : A0 I ks cs) (hc : (decide ((cs.length : Int) = 1) && !nt) = false) : LA nt ks = .mk 2 nt false [] [] [] ks := by
 have hl := h.len
 match ks, nt, hc with
 | [], nt, _ => cases nt <;> rfl
 | [k], true, _ => rfl
 | [k], false, hc =>
  rw [hl] at hc
  cases hc
 | _ :: _ :: _, nt, _ => cases nt <;> rfl
theorem Xu {t : CX} : (C8 [40] t || (decide ((t.kind : Int) = 1) && Dy Dp t.text)) = (C8 [40] t || (decide (t.kind = 1) && Dy Dp t.text)) := by
 rw [show decide ((t.kind : Int) = 1) = decide (t.kind = 1) by by_cases h : t.kind = 1 <;> simp [h] <;> omega]
theorem K0 {I : AU} {ks : List Nd} {cs : List NC} (h : A0 I ks cs) : ∀ u ∈ A2 (nth cs 0 DB), u.oneCell' = true := by
 match ks, cs, h with
 | _, [], _ => exact F8
 | k :: ks, c :: cs, h =>
  unfold A0 at h; exact h.1.ones
theorem KI {α : Type} {s : List UInt8} {p : PS} {c : Bool} {f : CX → PS → CC α} {r : CC α} (h : CH s p) : (if c then Cf (C4 s) f p else r) = if c then f (AP s p) p else r := by rw [AY (CT h)]
theorem OQ (b : Nat) (s : List UInt8) (hs : s.length ≤ 65536) (A : PS → CC Nd) (d : Nat) (hA : D8 51 b s [.int .i64 (d : Int)] A Fy 1) : D8 33 b s [.int .i64 (d : Int)] (PF s A) ACp 1 := by
 intro p lv I F w0 w R hR hp CE
 have hL := Le.refl I
 obtain ⟨M, hM⟩ : ∃ M, M = Bp s p := ⟨_, rfl⟩; unfold PF at hR; refine enter Tryz.func33 rfl Tryz.ntmps33 rfl (CE.self) (tr (le rfl (Ah rfl Ab rfl) ?_)); rintro _ _ _ ⟨b4, rfl, rfl, rfl⟩; refine AI (H' := row b4 26 (A2 DB) :: _) ?_ (fun _ h => h); refine Ae rfl (tr (AC 2 rfl (B7 rfl rfl rfl (Aa rfl rfl rfl Tryz.func51 (by kernel_rfl) rfl (fun w hw => hA p lv _ _ _ w _ rfl hp (AD (row b 58 (CO s lv p.next)) hw))) ?_ ?_)))
 ·rintro _ Jx _ ⟨Br, rfl, ax, ex, Bs, rfl⟩; rw [Ay Bs] at hR; refine AL (?_)
  exact Am fun w hw => .inr ⟨_, rfl, Jx, _, ⟨hL.trans Br, rfl, ax, ex, hR, rfl⟩, AA hw⟩
 rintro v9 J _ ⟨hJ, x9, p, lv, OY, Nz, hp, ⟨c9, rfl, Qe⟩, rfl⟩
 have hL := hL.trans hJ
 rw [AY OY] at hR; refine le rfl (Ah rfl Ab rfl) ?_; rintro _ _ _ ⟨b6, rfl, rfl, rfl⟩; refine An rfl rfl ((by exact AE rfl Ab rfl rfl rfl (by exact Qe.ones) rfl)) ?_; rintro _ _ _ ⟨rfl, rfl⟩; refine AI (H' := row b6 26 (A2 c9) :: _) ?_ (fun _ h => h); refine Gb (AR (tr (AC 1 rfl (B7 rfl rfl rfl (Aa rfl rfl rfl Tryz.func52 (by kernel_rfl) rfl (fun w hw => Gv b s hs [38] p lv _ _ _ w _ rfl hp (AD (row b 58 (CO s lv p.next)) hw))) ?_ ?_))))
 ·rintro _ Jx _ ⟨Br, rfl, ax, ex, Bs, rfl⟩; rw [Ay Bs] at hR; refine AL (Aj (AL (?_)))
  exact Am fun w hw => .inr ⟨_, rfl, Jx, _, ⟨hL.trans Br, rfl, ax, ex, hR, rfl⟩, AA hw⟩
 rintro v12 J _ ⟨hJ, x12, p, lv, ADt, AGD, hp, ⟨rfl, hf, rfl⟩, rfl⟩
 have hL := hL.trans hJ
 rw [AY ADt] at hR
 have Qe := Qe.mono hJ
 refine Ae rfl (AF rfl (fun hc0 => ?_) (fun hc0 => ?_))
 ·have h38 : C8 [38] (AP s p) = true := hc0
  rw [if_pos h38] at hR; refine tr (AC 1 rfl (Bw rfl rfl rfl rfl (fun w hw => Bv b s hs p lv _ _ _ w hf hp (AD (row b 58 (CO s lv p.next)) hw)) ?_)); rintro _ J _ ⟨hJ, rfl, p, lv, AIr, AOn, AIG, hp, rfl⟩
  have hL := hL.trans hJ
  rw [← AIr] at hR
  have EX := AIG (Bq h38)
  have Qe := Qe.mono hJ
  refine BQ (lq rfl (Af rfl BR Ab rfl rfl rfl) (le rfl (AS rfl CJ Ab rfl rfl rfl (by rfl) rfl) ?_)); rintro _ _ _ ⟨b16, rfl, rfl, rfl⟩; refine AI (H' := BO 26 7 A2 (.slice (some ⟨b16, 0, none⟩) 1 1) [c9] :: _) ?_ (fun _ h => A7 h rfl (by decide)); refine lq rfl (A6 (pl := [(_, _), (_, _), (_, _), (_, _), (_, _), (_, _), (_, _)]) (cs := (A2 ⟨6, false, false, [], AO, AO, (.slice (some ⟨b16, 0, none⟩) 1 1)⟩).toArray) rfl BR Ab ⟨rfl, ⟨_, _, B0⟩, rfl, ⟨_, _, De⟩, rfl, ⟨_, _, De⟩, rfl, ⟨_, _, CU⟩, rfl, ⟨_, _, EE⟩, rfl, ⟨_, _, El⟩, rfl, ⟨_, _, D6⟩, trivial⟩ rfl rfl) (An rfl rfl ((by exact AE rfl Ab rfl rfl rfl (by exact Im Jt) rfl)) ?_); rintro _ _ _ ⟨rfl, rfl⟩; refine AI (H' := row b4 26 (A2 ⟨6, false, false, [], AO, AO, (.slice (some ⟨b16, 0, none⟩) 1 1)⟩) :: _) ?_ (fun _ h => h); refine BG (f := A2) (l := [c9]) (.slice (some ⟨b16, 0, none⟩) 1 1) (fun _ => rfl) (fun Jf B4 Ck => ?_); refine Ae rfl (Aq (As (Ag (A3 (.inl rfl) rfl (by exact BK rfl BR Ab rfl rfl (Dc rfl (BJ))) (fun w' hw => ?_))))); exact .inl ⟨_, rfl, Jf, _, ⟨hL.trans B4, _, p, lv, hR, by omega, hp.mono B4, ⟨_, rfl, Bm.kids Ck (A0.one (Qe.mono B4))⟩, rfl⟩, AA hw⟩
 ·have h38 : ¬ C8 [38] (AP s p) = true := by rw [show C8 [38] (AP s p) = false from hc0]; simp
  rw [if_neg h38] at hR; refine tr (AC 1 rfl (lq rfl (qc rfl rfl rfl ((fun w hw => Gy b s [59] p lv w hs hf hp.1 (Bn hw) (hp.2.2.mono hw.le)))) (Ae rfl (AF rfl (fun BI => ?_) (fun BI => ?_)))))
  ·have h59 : C8 [59] (AP s p) = true := BI
   rw [if_pos h59] at hR; refine tr (AC 1 rfl (Bw rfl rfl rfl rfl (fun w hw => Bv b s hs p lv _ _ _ w hf hp (AD (row b 58 (CO s lv p.next)) hw)) ?_)); rintro _ J _ ⟨hJ, rfl, p, lv, AJj, APO, AIS, hp, rfl⟩
   have hL := hL.trans hJ
   rw [← AJj] at hR
   have EX := AIS (Bq h59)
   have Qe := Qe.mono hJ
   refine BQ (lq rfl (Af rfl BR Ab rfl rfl rfl) (An rfl rfl ((by exact AE rfl Ab rfl rfl rfl (by exact Qe.ones) rfl)) ?_)); rintro _ _ _ ⟨rfl, rfl⟩; refine AI (H' := row b4 26 (A2 c9) :: _) ?_ (fun _ h => h); refine Ae rfl (Aq (As (Ag (A3 (.inl rfl) rfl (by exact BK rfl BR Ab rfl rfl (Dc rfl (BJ))) (fun w' hw => ?_))))); exact .inl ⟨_, rfl, J, _, ⟨hL, _, p, lv, hR, (by omega), hp, ⟨_, rfl, Qe⟩, rfl⟩, AA hw⟩
  ·have h59 : ¬ C8 [59] (AP s p) = true := by rw [show C8 [59] (AP s p) = false from BI]; simp
   rw [if_neg h59] at hR; refine Au (AV (Ai (tr (lq rfl (Af rfl BR Ab rfl rfl rfl) (An rfl rfl ((by exact AE rfl Ab rfl rfl rfl (by exact Qe.ones) rfl)) ?_))))); rintro _ _ _ ⟨rfl, rfl⟩; refine AI (H' := row b4 26 (A2 c9) :: _) ?_ (fun _ h => h); refine Ae rfl (Aq (A3 (.inl rfl) rfl (by exact BK rfl BR Ab rfl rfl (Dc rfl (BJ))) (fun w' hw => ?_))); exact .inl ⟨_, rfl, J, _, ⟨hL, _, p, lv, hR, (by omega), hp, ⟨_, rfl, Qe⟩, rfl⟩, AA hw⟩
theorem Ui (b : Nat) (s : List UInt8) (hs : s.length ≤ 65536) (A : PS → CC Nd) (d : Nat) (hA : D8 51 b s [.int .i64 (d : Int)] A Fy 1) : D8 143 b s [.int .i64 (d : Int)] (MP s A) Fy 1 := by
 intro p lv I F w0 w R hR hp CE
 have hL := Le.refl I
 obtain ⟨M, hM⟩ : ∃ M, M = Bp s p := ⟨_, rfl⟩; unfold MP at hR
 have Ox := FD hp.1
 refine enter Tryz.func143 rfl Tryz.ntmps143 rfl (CE.self) (tr (le rfl (Ah rfl Ab rfl) ?_)); rintro _ _ _ ⟨b4, rfl, rfl, rfl⟩; refine AI (H' := row b4 26 (A2 DB) :: _) ?_ (fun _ h => h); refine BQ (AC 1 rfl (B7 rfl rfl rfl (Aa rfl rfl rfl Tryz.func31 (by kernel_rfl) rfl (fun w hw => Cn b s hs p lv _ _ _ w _ rfl hp (AD (row b 58 (CO s lv p.next)) hw))) ?_ ?_))
 ·rintro _ Jx _ ⟨Br, rfl, ax, ex, Bs, rfl⟩; rw [Ay Bs] at hR; refine AL (?_)
  exact Am fun w hw => .inr ⟨_, rfl, Jx, _, ⟨hL.trans Br, rfl, ax, ex, hR, rfl⟩, AA hw⟩
 rintro v10 J _ ⟨hJ, x10, p, lv, Hj, Mb, hp, ⟨rfl, hf, Ic⟩, rfl⟩
 have hL := hL.trans hJ
 rw [AY Hj] at hR; refine BQ (Ae rfl (AN (Ar rfl (AR (A8 (ι := PS × Value × AU × Value × List NC × List Nd × Nat × Bool) (fun zz => Le I zz.2.2.1 ∧ J7 s zz.1 zz.2.1 zz.2.2.1 ∧ A0 zz.2.2.1 zz.2.2.2.2.2.1 zz.2.2.2.2.1 ∧ Bp s zz.1 + zz.2.2.2.2.2.1.length ≤ Bp s p ∧ (zz.2.2.2.2.2.2.2 = true → Bp s zz.1 < zz.2.2.2.2.2.2.1 ∧ R = KA s A zz.2.2.2.2.2.2.1 zz.2.2.2.2.2.1 zz.1) ∧ (zz.2.2.2.2.2.2.2 = false → 1 ≤ zz.2.2.2.2.2.1.length ∧ R = .ok (Ct zz.2.2.2.2.2.1) zz.1)) (fun zz => (if zz.2.2.2.2.2.2.2 then Bp s zz.1 + 1 else 0)) (fun zz => [(5, zz.2.2.2.1), (6, .bool zz.2.2.2.2.2.2.2)]) [(0, _), (1, _), (4, _)] (fun zz => zz.2.2.1) (fun zz => (BO 26 7 A2 zz.2.2.2.1 zz.2.2.2.2.1 :: row b4 26 (A2 DB) :: row b 58 (CO s zz.2.1 zz.1.next) :: F)) (p, lv, J, .slice none 0 0, [], [], Bp s p + 1, true) ?_ (AB rfl) (AB rfl) (fun _ h => by dsimp only; exact AA (CS 26 7 A2 h)) ?_)))))
 ·dsimp only; exact ⟨hL, hp, A0.nil, by simp only [List.length_nil]; omega, fun _ => ⟨Nat.lt_succ_self _, hR⟩, fun h => by cases h⟩
 rintro ⟨p, lv, J, v, cs, l, g, mo⟩ ⟨hL, hp, CV, I4, Vz, hmf⟩; dsimp only at *
 have EP := CV.len
 refine AN (Ar rfl (AF rfl (fun hc0 => ?_) (fun hc0 => ?_)))
 ·subst hc0; obtain ⟨hg, hR⟩ := Vz rfl; obtain ⟨g, rfl⟩ : ∃ g', g = g' + 1 := ⟨g - 1, by omega⟩; rw [KA] at hR; refine Al (AR (tr (AC 2 rfl (B7 rfl rfl rfl (Aa rfl rfl rfl Tryz.func33 (by kernel_rfl) rfl (fun w hw => OQ b s hs _ d hA p lv _ _ _ w _ rfl hp (AD (row b 58 (CO s lv p.next)) hw))) ?_ ?_))))
  ·rintro _ Jx _ ⟨Br, rfl, ax, ex, Bs, rfl⟩; rw [Ay Bs] at hR; refine AL (Aj (AL (Aj (AL (?_)))))
   exact Am fun w hw => .inr ⟨_, rfl, Jx, _, ⟨hL.trans Br, rfl, ax, ex, hR, rfl⟩, AA hw⟩
  rintro v15 J _ ⟨hJ, x15, p, lv, AMA, AOd, hp, ⟨c15, rfl, ADj⟩, rfl⟩
  have hL := hL.trans hJ
  rw [AY AMA] at hR
  have CV := CV.mono hJ
  refine AC 3 rfl (le rfl (Ah rfl Ab rfl) ?_); rintro _ _ _ ⟨b7, rfl, rfl, rfl⟩; refine An rfl rfl ((by exact AE rfl Ab rfl rfl rfl (by exact ADj.ones) rfl)) ?_; rintro _ _ _ ⟨rfl, rfl⟩; refine AI (H' := row b7 26 (A2 c15) :: _) ?_ (fun _ h => h); refine Ae rfl (tr (AC 1 rfl (lq rfl (Af rfl BR Ab rfl rfl rfl) (le rfl (AS rfl CJ Ab rfl rfl rfl (by rfl) rfl) ?_)))); rintro _ _ _ ⟨b20, rfl, rfl, rfl⟩; refine le rfl (Ba (f := A2) (c := c15) rfl CJ Ab rfl rfl rfl rfl rfl rfl rfl (by exact ADj.ones) (by simp only [maxLen]; omega) (by omega)) ?_; rintro v21 _ _ ⟨rfl, rfl⟩; refine FV v21 (fun Df => ?_)
  have CV := A0.snoc ADj CV
  refine Ae rfl (tr (AC 2 rfl (Gp (t := 23) rfl (fun Ik => ?_) (fun Ik => ?_))))
  ·rw [if_pos Ik, AY (show (fun q => CC.ok true q) p = .ok true p from rfl)] at hR; refine GT rfl rfl rfl rfl rfl rfl rfl (GT rfl rfl rfl rfl rfl rfl rfl (GT rfl rfl rfl rfl rfl rfl rfl (GT rfl rfl rfl rfl rfl rfl rfl (lq rfl (E6 rfl rfl rfl rfl) (Ae rfl (tr (AC 1 rfl (B7 rfl rfl rfl (Aa rfl rfl rfl Tryz.func31 (by kernel_rfl) rfl (fun w hw => Cn b s hs p lv _ _ _ w _ rfl hp (AD (row b 58 (CO s lv p.next)) hw))) ?_ ?_))))))))
   ·rintro _ Jx _ ⟨Br, rfl, ax, ex, Bs, rfl⟩; rw [Ay Bs] at hR; refine AL (Aj (AL (Aj (AL (?_)))))
    exact Am fun w hw => .inr ⟨_, rfl, Jx, _, ⟨hL.trans Br, rfl, ax, ex, hR, rfl⟩, AA hw⟩
   rintro v30 J _ ⟨hJ, x30, p, lv, AEv, AIw, hp, ⟨rfl, hf, Ic⟩, rfl⟩
   have hL := hL.trans hJ
   rw [AY AEv] at hR
   have CV := CV.mono hJ
   rw [KI hf] at hR; refine ln (Dw (AK 2 rfl ?_))
   refine BA 2 1 32 35 34 _ _ rfl rfl rfl rfl rfl rfl (fun h35 => by
     simp at h35
     refine AJ 1 rfl (sg rfl (qc rfl rfl rfl ((fun w hw => Io b s p lv w hs hf hp.1 (hp.2.1.mono hw.le) (Bn hw) (hp.2.2.mono hw.le)))) ?_); exact Ao rfl
    ) (AM rfl) rfl rfl rfl ?_
   refine AK 1 rfl (NN (AV ?_)); obtain ⟨mo2, hm3⟩ : ∃ z, E5 (AP s p) = z := ⟨_, rfl⟩
   skip
   refine Ak ((p, lv, J, v21, cs ++ [c15], l ++ [x15.1], g, E5 (AP s p))) ?_ ?_ (AB rfl) (AB rfl) (fun _ h => by dsimp only; exact AA h)
   ·dsimp only; refine ⟨hL, hp, CV, by rw [List.length_append, List.length_singleton]; omega, fun h => ⟨by omega, ?_⟩, fun h => ⟨by rw [List.length_append, List.length_singleton]; omega, ?_⟩⟩
    ·rw [hR, if_pos rfl, if_pos h]
    ·rw [hR, if_pos rfl, if_neg (by rw [h]; simp)]
   ·dsimp only; rw [if_pos rfl]
    split <;> omega
  ·refine H9 (Be rfl rfl rfl rfl) rfl rfl (Gc rfl rfl) (ACr (Be rfl rfl rfl rfl) rfl rfl (Aa rfl rfl rfl Tryz.func32 (by kernel_rfl) rfl (fun w hw => C5 b s hs p lv _ _ _ w _ rfl hp (AD (row b 58 (CO s lv p.next)) hw))) ?_ ?_)
   ·rintro _ Jx _ ⟨Br, rfl, ax, ex, Bs, rfl⟩; rw [if_neg (by rw [Ik]; simp), Ay (ACO Bs)] at hR; refine AL (Aj (AL (Aj (AL (?_)))))
    exact Am fun w hw => .inr ⟨_, rfl, Jx, _, ⟨hL.trans Br, rfl, ax, ex, hR, rfl⟩, AA hw⟩
   rintro v25 J _ ⟨hJ, x25, p, lv, Zc, ACX, hp, ⟨rfl, hf, rfl⟩, rfl⟩
   have hL := hL.trans hJ
   have CV := CV.mono hJ
   rw [if_neg (by rw [Ik]; simp), AY (AEi Zc)] at hR; obtain ⟨e0, TU⟩ : ∃ z, decide ((AP s p).kind = 3) = z := ⟨_, rfl⟩; rw [TU] at hR; refine H9 (Be rfl rfl rfl rfl) rfl rfl (DT rfl Cz rfl Li rfl rfl rfl) (H9 (Be rfl rfl rfl rfl) rfl rfl (Vo rfl rfl rfl) ?_); rw [show decide (((AP s p).kind : Int) = 3) = e0 by rw [← TU]; by_cases h : (AP s p).kind = 3 <;> simp [h] <;> omega]; refine lq rfl (E6 rfl rfl rfl rfl) (Ae rfl (tr (AC 1 rfl (B7 rfl rfl rfl (Aa rfl rfl rfl Tryz.func31 (by kernel_rfl) rfl (fun w hw => Cn b s hs p lv _ _ _ w _ rfl hp (AD (row b 58 (CO s lv p.next)) hw))) ?_ ?_))))
   ·rintro _ Jx _ ⟨Br, rfl, ax, ex, Bs, rfl⟩; rw [Ay Bs] at hR; refine AL (Aj (AL (Aj (AL (?_)))))
    exact Am fun w hw => .inr ⟨_, rfl, Jx, _, ⟨hL.trans Br, rfl, ax, ex, hR, rfl⟩, AA hw⟩
   rintro v30 J _ ⟨hJ, x30, p, lv, AEv, AIw, hp, ⟨rfl, hf, Ic⟩, rfl⟩
   have hL := hL.trans hJ
   rw [AY AEv] at hR
   have CV := CV.mono hJ
   rw [KI hf] at hR; refine ln (Dw (AK 2 rfl ?_))
   refine BA 2 1 32 35 34 _ _ rfl rfl rfl rfl rfl rfl (fun h35 => by
     refine AJ 1 rfl (sg rfl (qc rfl rfl rfl ((fun w hw => Io b s p lv w hs hf hp.1 (hp.2.1.mono hw.le) (Bn hw) (hp.2.2.mono hw.le)))) ?_); exact Ao rfl
    ) (AM rfl) rfl rfl rfl ?_
   refine AK 1 rfl (NN (AV (Ak ((p, lv, J, v21, cs ++ [c15], l ++ [x15.1], g, e0 && E5 (AP s p))) ?_ ?_ (AB rfl) (AB rfl) (fun _ h => by dsimp only; exact AA h))))
   ·dsimp only; refine ⟨hL, hp, CV, by rw [List.length_append, List.length_singleton]; omega, fun h => ⟨by omega, ?_⟩, fun h => ⟨by rw [List.length_append, List.length_singleton]; omega, ?_⟩⟩
    ·rw [Bool.and_eq_true] at h; rw [hR, if_pos h.1, if_pos h.2]
    ·rw [Bool.and_eq_false_iff] at h; rw [hR]; rcases h with h | h
     ·rw [if_neg (by rw [h]; simp)]
     ·rw [if_neg (show ¬ E5 (AP s p) = true by rw [h]; simp), ite_self]
   ·dsimp only; rw [if_pos rfl]
    split <;> omega
 ·subst hc0; obtain ⟨hl1, hR⟩ := hmf rfl; refine BB (AG (AG (AQ (Ai (AN (CG (f := A2) (l := cs) v (fun _ => rfl) (fun Jf B4 Ck => ?_))))))); refine AH (AC 1 rfl (lq rfl (qc rfl rfl rfl ((fun w hw => Ih v cs w (by omega) (K0 CV) (Ck.mono hw.le)))) ?_)); refine An rfl rfl ((by exact AE rfl Ab rfl rfl rfl (by exact (Fu Ck (CV.mono B4)).ones) rfl)) ?_; rintro _ _ _ ⟨rfl, rfl⟩; refine ln (Aq (A3 (.inl rfl) rfl (by exact BK rfl BR Ab rfl rfl (BJ)) (fun w' hw => ?_))); exact .inl ⟨_, rfl, Jf, _, ⟨hL.trans B4, _, p, lv, hR, by omega, hp.mono B4, ⟨_, rfl, Fu Ck (CV.mono B4)⟩, rfl⟩, AA hw⟩
theorem Mf (b : Nat) (s : List UInt8) (hs : s.length ≤ 65536) (P : PS → CC Nd) (d : Nat) (hC : D8 69 b s [.int .i64 (d : Int)] P Fy 1) : D8 51 b s [.int .i64 (d : Int)] (IX s P) Fy 1 := by
 intro p lv I F w0 w R hR hp CE
 have hL := Le.refl I
 obtain ⟨M, hM⟩ : ∃ M, M = Bp s p := ⟨_, rfl⟩; unfold IX at hR
 have Ox := FD hp.1
 refine enter Tryz.func51 rfl Tryz.ntmps51 rfl (CE.self) (tr (le rfl (Ah rfl Ab rfl) ?_)); rintro _ _ _ ⟨b4, rfl, rfl, rfl⟩; refine AI (H' := row b4 26 (A2 DB) :: _) ?_ (fun _ h => h); refine BQ (AC 2 rfl (B7 rfl rfl rfl (Aa rfl rfl rfl Tryz.func69 (by kernel_rfl) rfl (fun w hw => hC p lv _ _ _ w _ rfl hp (AD (row b 58 (CO s lv p.next)) hw))) ?_ ?_))
 ·rintro _ Jx _ ⟨Br, rfl, ax, ex, Bs, rfl⟩; rw [Ay Bs] at hR; refine AL (?_)
  exact Am fun w hw => .inr ⟨_, rfl, Jx, _, ⟨hL.trans Br, rfl, ax, ex, hR, rfl⟩, AA hw⟩
 rintro v9 J _ ⟨hJ, x9, p, lv, OY, Nz, hp, ⟨c9, rfl, Qe⟩, rfl⟩
 have hL := hL.trans hJ
 rw [AY OY] at hR; refine le rfl (Ah rfl Ab rfl) ?_; rintro _ _ _ ⟨b5, rfl, rfl, rfl⟩; refine An rfl rfl ((by exact AE rfl Ab rfl rfl rfl (by exact Qe.ones) rfl)) ?_; rintro _ _ _ ⟨rfl, rfl⟩; refine AI (H' := row b5 26 (A2 c9) :: _) ?_ (fun _ h => h); refine Gb (AR (A8 (ι := PS × Value × AU × NC × Nd × Nat) (fun zz => Le I zz.2.2.1 ∧ J7 s zz.1 zz.2.1 zz.2.2.1 ∧ Bm zz.2.2.1 zz.2.2.2.2.1 zz.2.2.2.1 ∧ Bp s zz.1 + 1 ≤ M ∧ Bp s zz.1 < zz.2.2.2.2.2 ∧ R = G8 s P zz.2.2.2.2.2 zz.2.2.2.2.1 zz.1) (fun zz => Bp s zz.1) (fun zz => []) [(0, _), (1, _), (4, _), (5, _)] (fun zz => zz.2.2.1) (fun zz => (row b5 26 (A2 zz.2.2.2.1) :: row b4 26 (A2 DB) :: row b 58 (CO s zz.2.1 zz.1.next) :: F)) (p, lv, J, c9, x9, Bp s p + 1) ?_ (AW) (AB rfl) (fun _ h => AA h) ?_))
 ·dsimp only; exact ⟨hL, hp, Qe, by omega, Nat.lt_succ_self _, hR⟩
 rintro ⟨p, lv, J, c, n, g⟩ ⟨hL, hp, hn, I4, hg, hR⟩; dsimp only at *; obtain ⟨g, rfl⟩ : ∃ g', g = g' + 1 := ⟨g - 1, by omega⟩; rw [G8] at hR; obtain ⟨m1, hm1⟩ : ∃ z, z = Bp s p := ⟨_, rfl⟩; refine AN (tr (AC 1 rfl (B7 rfl rfl rfl (Aa rfl rfl rfl Tryz.func52 (by kernel_rfl) rfl (fun w hw => Gv b s hs [38, 38] p lv _ _ _ w _ rfl hp (AD (row b 58 (CO s lv p.next)) hw))) ?_ ?_)))
 ·rintro _ Jx _ ⟨Br, rfl, ax, ex, Bs, rfl⟩; rw [Ay Bs] at hR; refine AL (AL (AL (Aj (AL (?_)))))
  exact Am fun w hw => .inr ⟨_, rfl, Jx, _, ⟨hL.trans Br, rfl, ax, ex, hR, rfl⟩, AA hw⟩
 rintro v11 J _ ⟨hJ, x11, p, lv, Ze, ACx, hp, ⟨rfl, hf, rfl⟩, rfl⟩
 have hL := hL.trans hJ
 rw [AY Ze] at hR
 have hn := hn.mono hJ
 refine Dl 4 (AK 1 rfl ?_)
 refine Bf 2 2 12 15 14 _ _ rfl rfl rfl rfl rfl rfl (fun h15 => by
   refine AJ 1 rfl (sg rfl (qc rfl rfl rfl ((fun w hw => Gy b s [124, 124] p lv w hs hf hp.1 (Bn hw) (hp.2.2.mono hw.le)))) ?_); exact Ao rfl
  ) (AM rfl) rfl rfl rfl ?_
 refine Hb (ln (AF rfl (fun hc0 => ?_) (fun hc0 => ?_)))
 ·have hcc : (C8 [38, 38] (AP s p) || C8 [124, 124] (AP s p)) = true := hc0
  rw [if_pos hcc] at hR
  have OG : (AP s p).kind ≠ 0 := by rw [Bool.or_eq_true] at hcc; rcases hcc with h | h <;> exact Bq h
  obtain ⟨tt, KD⟩ : ∃ z, AP s p = z := ⟨_, rfl⟩; rw [KD] at hR
  have OG := OG
  refine Al (AR (Ar rfl (Bh (ι := PS × Value × AU × Nat) (fun zz => Le I zz.2.2.1 ∧ J7 s zz.1 zz.2.1 zz.2.2.1 ∧ Bm zz.2.2.1 n c ∧ Bp s zz.1 + 1 ≤ m1 ∧ R = Cf (Dj s) (fun _ r => Cf P (fun m r => G8 s P g (Ip zz.2.2.2 [n, m]) r) r) zz.1) (fun zz => [(6, .int .i64 (zz.2.2.2 : Int))]) [(0, _), (1, _), (4, _), (5, _), (15, _)] (fun zz => zz.2.2.1) (fun zz => (row b5 26 (A2 c) :: row b4 26 (A2 DB) :: row b 58 (CO s zz.2.1 zz.1.next) :: F)) (AB rfl) ?_ ?_)))
  ·refine tr (AC 1 rfl (Bw rfl rfl rfl rfl (fun w hw => Bv b s hs p lv _ _ _ w hf hp (AD (row b 58 (CO s lv p.next)) hw)) ?_)); rintro _ J _ ⟨hJ, rfl, p, lv, YU, AIm, ZY, hp, rfl⟩
   have hL := hL.trans hJ
   rw [← YU] at hR
   have EX := ZY OG
   have hn := hn.mono hJ
   refine lq rfl (DT rfl Cz rfl CW rfl rfl rfl) (lq rfl (BM rfl rfl rfl) (ln (AF rfl (fun BI => ?_) (fun BI => ?_))))
   ·rw [if_pos (by rw [← KD]; exact of_decide_eq_true BI)] at hR; refine AH (Ax rfl (Av ((p, lv, J, 4)) ?_ (AB rfl) (AB rfl) (fun _ h => by dsimp only; exact AA h)))
    ·dsimp only; exact ⟨hL, hp, hn, by omega, hR⟩
   ·rw [if_neg (by rw [← KD]; exact of_decide_eq_false BI)] at hR; refine Au (Av ((p, lv, J, 3)) ?_ (AB rfl) (AB rfl) (fun _ h => by dsimp only; exact AA h))
    ·dsimp only; exact ⟨hL, hp, hn, by omega, hR⟩
  rintro ⟨p, lv, J, kk⟩ ⟨hL, hp, hn, hmc, hR⟩; dsimp only at *; refine tr (AC 1 rfl (B7 rfl rfl rfl (Aa rfl rfl rfl Tryz.func31 (by kernel_rfl) rfl (fun w hw => Cn b s hs p lv _ _ _ w _ rfl hp (AD (row b 58 (CO s lv p.next)) hw))) ?_ ?_))
  ·rintro _ Jx _ ⟨Br, rfl, ax, ex, Bs, rfl⟩; rw [Ay Bs] at hR; refine AL (Aj (AL (Aj (AL (?_)))))
   exact Am fun w hw => .inr ⟨_, rfl, Jx, _, ⟨hL.trans Br, rfl, ax, ex, hR, rfl⟩, AA hw⟩
  rintro v21 J _ ⟨hJ, x21, p, lv, XX, ACj, hp, ⟨rfl, hf, Ic⟩, rfl⟩
  have hL := hL.trans hJ
  rw [AY XX] at hR
  have hn := hn.mono hJ
  refine ln (DH [4, 5, 7] [7] [row b5 26 (A2 c)] mo (by kernel_rfl) (fun _ _ _ _ _ h => h) (Bg [0] (by kernel_rfl) rfl rfl rfl (Ko 1 (by kernel_rfl) rfl (Le.refl _) rfl (fun _ hI => Af rfl BR Ab rfl rfl rfl) (Bg [2, 3] (by kernel_rfl) rfl rfl rfl (QE 4 (by kernel_rfl) (by kernel_rfl) rfl (Le.refl _) rfl rfl rfl (Aa rfl rfl rfl Tryz.func69 (by kernel_rfl) rfl (fun w hw => hC p lv _ _ _ w _ rfl hp (AD (row b 58 (CO s lv p.next)) hw))) ?_ ?_)))))
  ·rintro _ Jx _ ⟨Br, rfl, ax, ex, Bs, rfl⟩; rw [Ay Bs] at hR; refine Aj (AL (Aj (AL (?_))))
   exact Am fun w hw => .inr ⟨_, rfl, Jx, _, ⟨hL.trans Br, rfl, ax, ex, hR, rfl⟩, AA hw⟩
  rintro v26 J _ ⟨hJ, x26, p, lv, AEW, AIC, hp, ⟨c26, rfl, ANr⟩, rfl⟩; refine ⟨hJ, .inr CY.sub, ?_⟩
  have hL := hL.trans hJ
  rw [AY AEW] at hR
  have hn := hn.mono hJ
  refine re 5 (by kernel_rfl) rfl (hJ) rfl (Cb (vs := [_, _]) (css := [A2 c, A2 c26]) rfl CJ Ab rfl rfl rfl rfl (rfl) (by simp [A2])) ?_; rintro _ _ _ ⟨b27, rfl, rfl, rfl⟩; refine ⟨Le.refl _, .inr CY.sub, ?_⟩; refine ES (H' := BO 26 7 A2 (.slice (some ⟨b27, 0, none⟩) 2 2) [c, c26] :: _) ?_ (fun _ h => A7 h rfl (by decide)); refine Ko 6 (by kernel_rfl) rfl (hJ) rfl (fun _ hI => A6 (pl := [(_, _), (_, _), (_, _), (_, _), (_, _), (_, _), (_, _)]) (cs := (A2 ⟨kk, false, false, [], AO, AO, (.slice (some ⟨b27, 0, none⟩) 2 2)⟩).toArray) rfl BR Ab ⟨rfl, ⟨_, _, B0⟩, rfl, ⟨_, _, De⟩, rfl, ⟨_, _, De⟩, rfl, ⟨_, _, CU⟩, rfl, ⟨_, _, EE⟩, rfl, ⟨_, _, El⟩, rfl, ⟨_, _, D6⟩, trivial⟩ rfl rfl) (Eu 7 (by kernel_rfl) (by kernel_rfl) rfl (hJ) rfl rfl ((by exact AE rfl Ab rfl rfl rfl (by exact Im Jt) rfl)) ?_); rintro _ _ _ ⟨rfl, rfl⟩; refine ⟨Le.refl _, .inl rfl, ?_⟩; refine ES (H' := row b5 26 (A2 ⟨kk, false, false, [], AO, AO, (.slice (some ⟨b27, 0, none⟩) 2 2)⟩) :: _) ?_ (fun _ h => h); refine D3 (by kernel_rfl) (AV (Jr (f := A2) (l := [c, c26]) (.slice (some ⟨b27, 0, none⟩) 2 2) (fun _ => rfl) (fun Jf B4 Ck => ?_))); refine Ak ((p, lv, Jf, ⟨kk, false, false, [], AO, AO, (.slice (some ⟨b27, 0, none⟩) 2 2)⟩, Ip kk [n, x26], g)) ?_ ?_ (AW) (AB rfl) (fun _ h => by dsimp only; exact AA h)
  ·dsimp only; exact ⟨hL.trans B4, hp.mono B4, Bm.kids Ck (A0.snoc (ANr.mono B4) (A0.one (hn.mono B4))), by omega, by omega, hR⟩
  ·dsimp only
   omega
 ·have hcc : (C8 [38, 38] (AP s p) || C8 [124, 124] (AP s p)) = false := hc0
  rw [if_neg (by rw [hcc]; simp)] at hR; refine BB (AG (AG (AQ (Ai (tr (lq rfl (Af rfl BR Ab rfl rfl rfl) (An rfl rfl ((by exact AE rfl Ab rfl rfl rfl (by exact hn.ones) rfl)) ?_))))))); rintro _ _ _ ⟨rfl, rfl⟩; refine AI (H' := row b4 26 (A2 c) :: _) ?_ (fun _ h => h); refine ln (Aq (A3 (.inl rfl) rfl (by exact BK rfl BR Ab rfl rfl (BJ)) (fun w' hw => ?_))); exact .inl ⟨_, rfl, J, _, ⟨hL, _, p, lv, hR, (by omega), hp, ⟨_, rfl, hn⟩, rfl⟩, AA hw⟩
end Go.Tri

namespace Go.Tri
open Go.Proofs Go.RowKit
set_option maxRecDepth 10000
theorem JM (b : Nat) (s : List UInt8) (hs : s.length ≤ 65536) (C : PS → CC Nd) (d : Nat) (hC : D8 92 b s [.int .i64 (d : Int)] C Fy 1) : D8 69 b s [.int .i64 (d : Int)] (LP s C) Fy 1 := by
 intro p lv I F w0 w R hR hp CE
 have hL := Le.refl I
 obtain ⟨M, hM⟩ : ∃ M, M = Bp s p := ⟨_, rfl⟩; unfold LP at hR
 have Ox := FD hp.1
 refine enter Tryz.func69 rfl Tryz.ntmps69 rfl (CE.self) (tr (le rfl (Ah rfl Ab rfl) ?_)); rintro _ _ _ ⟨b4, rfl, rfl, rfl⟩; refine AI (H' := row b4 26 (A2 DB) :: _) ?_ (fun _ h => h); refine BQ (AC 1 rfl (B7 rfl rfl rfl (Aa rfl rfl rfl Tryz.func91 (by kernel_rfl) rfl (fun w hw => L9 b s hs [33] p lv _ _ _ w _ rfl hp (AD (row b 58 (CO s lv p.next)) hw))) ?_ ?_))
 ·rintro _ Jx _ ⟨Br, rfl, ax, ex, Bs, rfl⟩; rw [Ay Bs] at hR; refine AL (?_)
  exact Am fun w hw => .inr ⟨_, rfl, Jx, _, ⟨hL.trans Br, rfl, ax, ex, hR, rfl⟩, AA hw⟩
 rintro v8 J _ ⟨hJ, x8, p, lv, he8, ADy, hp, ⟨rfl, hf, rfl⟩, rfl⟩
 have hL := hL.trans hJ
 rw [AY he8] at hR; obtain ⟨nt, hnt⟩ : ∃ z, Bu [33] (AP s p) = z := ⟨_, rfl⟩; rw [hnt] at hR ⊢; refine Ae rfl (Bh (ι := PS × Value × AU) (fun zz => Le I zz.2.2 ∧ J7 s zz.1 zz.2.1 zz.2.2 ∧ Bp s zz.1 ≤ M ∧ R = Cf C (fun n r => Cf (KJ s C (Bp s r + 1) [n]) (fun l r => .ok (LA nt l) r) r) zz.1) (fun zz => []) [(0, _), (1, _), (4, _), (5, _)] (fun zz => zz.2.2) (fun zz => (row b4 26 (A2 DB) :: row b 58 (CO s zz.2.1 zz.1.next) :: F)) (AB rfl) ?_ ?_)
 ·refine Ar rfl (AF rfl (fun hc0 => ?_) (fun hc0 => ?_))
  ·refine AH (AC 1 rfl (Bw rfl rfl rfl rfl (fun w hw => Bv b s hs p lv _ _ _ w hf hp (AD (row b 58 (CO s lv p.next)) hw)) ?_)); rintro _ J _ ⟨hJ, rfl, p, lv, Rq, ACY, VJ, hp, rfl⟩
   have hL := hL.trans hJ
   rw [if_pos hc0, ← Rq] at hR; refine BX (Av ((p, lv, J)) ?_ (AW) (AB rfl) (fun _ h => by dsimp only; exact AA h))
   ·dsimp only; exact ⟨hL, hp, by omega, hR⟩
  ·refine Au ?_; rw [if_neg (by rw [show nt = false from hc0]; simp)] at hR; refine Av ((p, lv, J)) ?_ (AW) (AB rfl) (fun _ h => by dsimp only; exact AA h)
   ·dsimp only; exact ⟨hL, hp, by omega, hR⟩
 rintro ⟨p, lv, J⟩ ⟨hL, hp, hmc, hR⟩; dsimp only at *; refine tr (AC 2 rfl (B7 rfl rfl rfl (Aa rfl rfl rfl Tryz.func92 (by kernel_rfl) rfl (fun w hw => hC p lv _ _ _ w _ rfl hp (AD (row b 58 (CO s lv p.next)) hw))) ?_ ?_))
 ·rintro _ Jx _ ⟨Br, rfl, ax, ex, Bs, rfl⟩; rw [Ay Bs] at hR; refine AL (?_)
  exact Am fun w hw => .inr ⟨_, rfl, Jx, _, ⟨hL.trans Br, rfl, ax, ex, hR, rfl⟩, AA hw⟩
 rintro v14 J _ ⟨hJ, x14, p, lv, Yh, ACl, hp, ⟨c14, rfl, AKk⟩, rfl⟩
 have hL := hL.trans hJ
 rw [AY Yh] at hR; refine le rfl (AS rfl CJ Ab rfl rfl rfl (by rfl) rfl) ?_; rintro _ _ _ ⟨b15, rfl, rfl, rfl⟩; refine AI (H' := BO 26 7 A2 (.slice (some ⟨b15, 0, none⟩) 1 1) [c14] :: _) ?_ (fun _ h => A7 h rfl (by decide)); refine Ae rfl (AN (AR (A8 (ι := PS × Value × AU × Value × List NC × List Nd × Nat) (fun zz => Le I zz.2.2.1 ∧ J7 s zz.1 zz.2.1 zz.2.2.1 ∧ A0 zz.2.2.1 zz.2.2.2.2.2.1 zz.2.2.2.2.1 ∧ Bp s zz.1 + zz.2.2.2.2.2.1.length ≤ M ∧ 1 ≤ zz.2.2.2.2.2.1.length ∧ Bp s zz.1 < zz.2.2.2.2.2.2 ∧ R = Cf (KJ s C zz.2.2.2.2.2.2 zz.2.2.2.2.2.1) (fun y r => .ok (LA nt y) r) zz.1) (fun zz => Bp s zz.1) (fun zz => [(6, zz.2.2.2.1)]) [(0, _), (1, _), (4, _), (5, _)] (fun zz => zz.2.2.1) (fun zz => (BO 26 7 A2 zz.2.2.2.1 zz.2.2.2.2.1 :: row b4 26 (A2 DB) :: row b 58 (CO s zz.2.1 zz.1.next) :: F)) (p, lv, J, (.slice (some ⟨b15, 0, none⟩) 1 1), [c14], [x14], Bp s p + 1) ?_ (AB rfl) (AB rfl) (fun _ h => AA h) ?_)))
 ·dsimp only; exact ⟨hL, hp, A0.one AKk, by simp only [List.length_singleton]; omega, Nat.le_refl _, Nat.lt_succ_self _, hR⟩
 rintro ⟨p, lv, J, v, cs, l, g⟩ ⟨hL, hp, CV, I4, hl1, hg, hR⟩; dsimp only at *
 have EP := CV.len
 obtain ⟨g, rfl⟩ : ∃ g', g = g' + 1 := ⟨g - 1, by omega⟩; rw [Hy, KJ] at hR; refine AN (tr (AC 1 rfl (B7 rfl rfl rfl (Aa rfl rfl rfl Tryz.func52 (by kernel_rfl) rfl (fun w hw => Gv b s hs [124] p lv _ _ _ w _ rfl hp (AD (row b 58 (CO s lv p.next)) hw))) ?_ ?_)))
 ·rintro _ Jx _ ⟨Br, rfl, ax, ex, Bs, rfl⟩; rw [Ay Bs] at hR; refine AL (AL (AL (Aj (AL (?_)))))
  exact Am fun w hw => .inr ⟨_, rfl, Jx, _, ⟨hL.trans Br, rfl, ax, ex, hR, rfl⟩, AA hw⟩
 rintro v17 J _ ⟨hJ, x17, p, lv, Tt, ZJ, hp, ⟨rfl, hf, rfl⟩, rfl⟩
 have hL := hL.trans hJ
 rw [AY Tt] at hR
 have CV := CV.mono hJ
 refine ln (AF rfl (fun BI => ?_) (fun BI => ?_))
 ·have h1 : C8 [124] (AP s p) = true := BI
  rw [if_pos h1] at hR; refine Al (AR (tr (AC 1 rfl (Bw rfl rfl rfl rfl (fun w hw => Bv b s hs p lv _ _ _ w hf hp (AD (row b 58 (CO s lv p.next)) hw)) ?_)))); rintro _ J _ ⟨hJ, rfl, p, lv, AGm, AOe, AJH, hp, rfl⟩
  have hL := hL.trans hJ
  rw [← AGm] at hR
  have EX := AJH (Bq h1)
  have CV := CV.mono hJ
  refine BQ (AC 1 rfl (B7 rfl rfl rfl (Aa rfl rfl rfl Tryz.func31 (by kernel_rfl) rfl (fun w hw => Cn b s hs p lv _ _ _ w _ rfl hp (AD (row b 58 (CO s lv p.next)) hw))) ?_ ?_))
  ·rintro _ Jx _ ⟨Br, rfl, ax, ex, Bs, rfl⟩; rw [Ay Bs] at hR; refine AL (Aj (AL (Aj (AL (?_)))))
   exact Am fun w hw => .inr ⟨_, rfl, Jx, _, ⟨hL.trans Br, rfl, ax, ex, hR, rfl⟩, AA hw⟩
  rintro v21 J _ ⟨hJ, x21, p, lv, XX, ACj, hp, ⟨rfl, hf, Ic⟩, rfl⟩
  have hL := hL.trans hJ
  rw [AY XX] at hR
  have CV := CV.mono hJ
  refine ln (AH (AC 3 rfl (B7 rfl rfl rfl (Aa rfl rfl rfl Tryz.func92 (by kernel_rfl) rfl (fun w hw => hC p lv _ _ _ w _ rfl hp (AD (row b 58 (CO s lv p.next)) hw))) ?_ ?_)))
  ·rintro _ Jx _ ⟨Br, rfl, ax, ex, Bs, rfl⟩; rw [Ay Bs] at hR; refine Aj (AL (Aj (AL (?_))))
   exact Am fun w hw => .inr ⟨_, rfl, Jx, _, ⟨hL.trans Br, rfl, ax, ex, hR, rfl⟩, AA hw⟩
  rintro v25 J _ ⟨hJ, x25, p, lv, Zc, ACX, hp, ⟨c25, rfl, AGG⟩, rfl⟩
  have hL := hL.trans hJ
  rw [AY Zc] at hR
  have CV := CV.mono hJ
  refine le rfl (AS rfl CJ Ab rfl rfl rfl (by rfl) rfl) ?_; rintro _ _ _ ⟨b26, rfl, rfl, rfl⟩; refine le rfl (Ba (f := A2) (c := c25) rfl CJ Ab rfl rfl rfl rfl rfl rfl rfl (by exact AGG.ones) (by simp only [maxLen]; omega) (by omega)) ?_; rintro v27 _ _ ⟨rfl, rfl⟩; refine FV v27 (fun Df => ?_); refine Ax rfl (AV (Ak ((p, lv, J, v27, cs ++ [c25], l ++ [x25], g)) ?_ ?_ (AB rfl) (AB rfl) (fun _ h => by dsimp only; exact AA h)))
  ·dsimp only; exact ⟨hL, hp, A0.snoc AGG CV, by rw [List.length_append, List.length_singleton]; omega, by rw [List.length_append, List.length_singleton]; omega, by omega, hR⟩
  ·dsimp only
   omega
 ·have h1 : ¬ C8 [124] (AP s p) = true := by rw [show C8 [124] (AP s p) = false from BI]; simp
  rw [if_neg h1] at hR; refine BB (AG (AG (AQ (Ai (AN (AN (CG (f := A2) (l := cs) v (fun _ => rfl) (fun Jf B4 Ck => ?_))))))))
  have CV := CV.mono B4
  refine Dw (AK 1 rfl ?_); refine sq rfl ((by exact CN rfl CJ rfl (Sl.lenOf Ck (List.length_map _)))) ?_; refine AK 2 rfl ?_
  refine BA 2 3 31 34 33 _ _ rfl rfl rfl rfl rfl rfl (fun Jm => by
    simp at Jm
    refine AJ 2 rfl ?_; exact Ao rfl
   ) (AM rfl) rfl rfl rfl ?_
  refine Cy (AF rfl (fun BU => ?_) (fun BU => ?_))
  ·obtain ⟨Rv, TV⟩ := Zp CV BU; refine tr (AC 1 rfl ?_); refine lq rfl ((by exact A5 rfl CJ Ab rfl rfl (Sl.shape Ck (List.length_map _)) (by omega))) ?_; refine lq rfl ((by exact Bc rfl BR Ab rfl rfl (Ck.rds (i := 0) (Jn cs A2 DB (by omega))))) ?_; refine An rfl rfl ((by exact AE rfl Ab rfl rfl rfl (by exact K0 CV) rfl)) ?_; rintro _ _ _ ⟨rfl, rfl⟩; refine ln (Aq (Ag (A3 (.inl rfl) rfl (by exact BK rfl BR Ab rfl rfl (BJ)) (fun w' hw => ?_)))); exact .inl ⟨_, rfl, Jf, _, ⟨hL.trans B4, _, p, lv, hR, by omega, hp.mono B4, ⟨_, rfl, Rv⟩, rfl⟩, AA hw⟩
  ·have hq := WJ CV BU
   refine Al (tr (AC 2 rfl (lq rfl (A6 (pl := [(_, _), (_, _), (_, _), (_, _), (_, _), (_, _), (_, _)]) (cs := (A2 ⟨2, nt, false, [], AO, AO, v⟩).toArray) rfl BR Ab ⟨rfl, ⟨_, _, B0⟩, rfl, ⟨_, _, De⟩, rfl, ⟨_, _, De⟩, rfl, ⟨_, _, CU⟩, rfl, ⟨_, _, EE⟩, rfl, ⟨_, _, El⟩, rfl, ⟨_, _, D6⟩, trivial⟩ rfl (by obtain ⟨A, c, h⟩ := Sl.lenOf Ck rfl; rw [h]; try rfl)) ?_))); refine An rfl rfl ((by exact AE rfl Ab rfl rfl rfl (by exact Im Ck.one) rfl)) ?_; rintro _ _ _ ⟨rfl, rfl⟩; refine ln (Aq (A3 (.inl rfl) rfl (by exact BK rfl BR Ab rfl rfl (BJ)) (fun w' hw => ?_))); refine .inl ⟨_, rfl, Jf, _, ⟨hL.trans B4, _, p, lv, hR, by omega, hp.mono B4, ⟨_, rfl, ?_⟩, rfl⟩, AA hw⟩; rw [hq]; exact Bm.kids Ck CV
theorem KF (b : Nat) (s : List UInt8) (hs : s.length ≤ 65536) (n d : Nat) (hn : 25 - d = n) (hd : d ≤ 25) (hK : ∀ m, n = m + 1 → D8 119 b s [.int .i64 (d : Int)] (Hr s (m + 1)).2 Fy 1) (hS : ∀ m, n = m + 1 → D8 120 b s [.int .i64 (d : Int)] (KG s (XT (Hr s m).2)) Fy 1) : D8 92 b s [.int .i64 (d : Int)] (Hr s n).1 Fy 1 := by
 intro p lv I F w0 w R hR hp CE
 have hL := Le.refl I
 obtain ⟨M, hM⟩ : ∃ M, M = Bp s p := ⟨_, rfl⟩; obtain ⟨k, GO, OZ, Ic⟩ := ACQ s n; rw [GO] at hR; refine enter Tryz.func92 rfl Tryz.ntmps92 rfl (CE.self) (tr (le rfl (Ah rfl Ab rfl) ?_)); rintro _ _ _ ⟨b4, rfl, rfl, rfl⟩; refine AI (H' := row b4 26 (A2 DB) :: _) ?_ (fun _ h => h); refine BQ (AC 1 rfl (B7 rfl rfl rfl (Aa rfl rfl rfl Tryz.func32 (by kernel_rfl) rfl (fun w hw => C5 b s hs p lv _ _ _ w _ rfl hp (AD (row b 58 (CO s lv p.next)) hw))) ?_ ?_))
 ·rintro _ Jx _ ⟨Br, rfl, ax, ex, Bs, rfl⟩; rw [Ay Bs] at hR; refine AL (?_)
  exact Am fun w hw => .inr ⟨_, rfl, Jx, _, ⟨hL.trans Br, rfl, ax, ex, hR, rfl⟩, AA hw⟩
 rintro v7 J _ ⟨hJ, x7, p, lv, UT, SH, hp, ⟨rfl, hf, rfl⟩, rfl⟩
 have hL := hL.trans hJ
 rw [AY UT] at hR; refine le rfl (Ah rfl BL rfl) ?_; rintro _ _ _ ⟨b5, rfl, rfl, rfl⟩; refine An rfl rfl ((by exact AE rfl BL rfl rfl rfl (by exact A4 _) rfl)) ?_; rintro _ _ _ ⟨rfl, rfl⟩; refine AI (H' := row b5 73 (BZ (AP s p)) :: _) ?_ (fun _ h => h); refine K6 (Ae rfl (AF rfl (fun hc0 => ?_) (fun hc0 => ?_)))
 ·simp at hc0
  rw [OZ (by omega)] at hR; refine AH (AC 1 rfl (lq rfl (AZ rfl rfl (by rfl)) ?_)); refine lq rfl (A6 (pl := [(_, _), (_, _)]) (cs := ([.int .i64 ((AP s p).pos : Int), .int .i64 52]).toArray) rfl Pt W4 ⟨rfl, ⟨_, _, B0⟩, rfl, ⟨_, _, Mp⟩, trivial⟩ rfl rfl) (lq rfl (HT rfl Pt rfl rfl) (M1 rfl rfl rfl (AL (?_))))
  exact Am fun w hw => .inr ⟨_, rfl, J, _, ⟨hL, rfl, _, _, hR, rfl⟩, AA hw⟩
 ·simp at hc0
  obtain ⟨m, rfl⟩ : ∃ m, n = m + 1 := ⟨n - 1, by omega⟩; rw [Ic m rfl] at hR
  change R = (if (C8 [40] (AP s p) || (decide ((AP s p).kind = 1) && Dy Dp (AP s p).text)) = true then (Hr s (m + 1)).2 p else KG s (XT (Hr s m).2) p) at hR
  rw [← Xu] at hR; refine Al (AN (tq (AK 1 rfl (sq rfl (qc rfl rfl rfl ((fun w hw => Gy b s [40] p lv w hs hf hp.1 (Bn hw) (hp.2.2.mono hw.le)))) (AK 1 rfl ?_)))))
  refine Bf 8 2 16 25 24 _ _ rfl rfl rfl rfl rfl rfl (fun h25 => by
    refine AJ 1 rfl (sg rfl (AZ rfl rfl (by rfl)) ?_); refine AJ 2 rfl ?_
    refine BA 3 6 20 24 23 _ _ rfl rfl rfl rfl rfl rfl (fun P8 => by
      simp at P8
      refine AJ 1 rfl (sg rfl (AZ rfl rfl (by rfl)) ?_); refine sg rfl (qc rfl rfl rfl ((fun w hw => G1 Dp (AP s p).text w (by decide) (by have := Dq hp.1; omega) (hp.2.1.mono hw.le)))) ?_; exact Ao rfl
     ) (Be rfl rfl rfl rfl) rfl rfl rfl ?_
    exact Ao rfl
   ) (AM rfl) rfl rfl rfl ?_
  refine Cy (AF rfl (fun BI => ?_) (fun BI => ?_))
  ·rw [if_pos BI] at hR; refine tr (AC 2 rfl (B7 rfl rfl rfl (Aa rfl rfl rfl Tryz.func119 (by kernel_rfl) rfl (fun w hw => (hK m rfl) p lv _ _ _ w _ rfl hp (AD (row b 58 (CO s lv p.next)) hw))) ?_ ?_))
   ·rintro _ Jx _ ⟨Br, rfl, ax, ex, Bs, rfl⟩; rw [Bs] at hR; refine AL (AL (?_))
    exact Am fun w hw => .inr ⟨_, rfl, Jx, _, ⟨hL.trans Br, rfl, ax, ex, hR, rfl⟩, AA hw⟩
   rintro v28 J _ ⟨hJ, x28, p, lv, AFD, AGh, hp, ⟨c28, rfl, AGn⟩, rfl⟩
   have hL := hL.trans hJ
   rw [AFD] at hR; refine An rfl rfl ((by exact AE rfl Ab rfl rfl rfl (by exact AGn.ones) rfl)) ?_; rintro _ _ _ ⟨rfl, rfl⟩; refine AI (H' := row b4 26 (A2 c28) :: _) ?_ (fun _ h => h); refine ln (Aq (Ag (A3 (.inl rfl) rfl (by exact BK rfl BR Ab rfl rfl (BJ)) (fun w' hw => ?_)))); exact .inl ⟨_, rfl, J, _, ⟨hL, _, p, lv, hR, (by omega), hp, ⟨_, rfl, AGn⟩, rfl⟩, AA hw⟩
  ·rw [if_neg (by rw [BI]; simp)] at hR; refine Al (tr (AC 2 rfl (B7 rfl rfl rfl (Aa rfl rfl rfl Tryz.func120 (by kernel_rfl) rfl (fun w hw => (hS m rfl) p lv _ _ _ w _ rfl hp (AD (row b 58 (CO s lv p.next)) hw))) ?_ ?_)))
   ·rintro _ Jx _ ⟨Br, rfl, ax, ex, Bs, rfl⟩; rw [Bs] at hR; refine AL (?_)
    exact Am fun w hw => .inr ⟨_, rfl, Jx, _, ⟨hL.trans Br, rfl, ax, ex, hR, rfl⟩, AA hw⟩
   rintro v31 J _ ⟨hJ, x31, p, lv, AKa, APZ, hp, ⟨c31, rfl, AIA⟩, rfl⟩
   have hL := hL.trans hJ
   rw [AKa] at hR; refine An rfl rfl ((by exact AE rfl Ab rfl rfl rfl (by exact AIA.ones) rfl)) ?_; rintro _ _ _ ⟨rfl, rfl⟩; refine AI (H' := row b4 26 (A2 c31) :: _) ?_ (fun _ h => h); refine ln (Aq (A3 (.inl rfl) rfl (by exact BK rfl BR Ab rfl rfl (BJ)) (fun w' hw => ?_))); exact .inl ⟨_, rfl, J, _, ⟨hL, _, p, lv, hR, (by omega), hp, ⟨_, rfl, AIA⟩, rfl⟩, AA hw⟩
end Go.Tri

namespace Go.Tri
open Go.Proofs Go.RowKit
set_option maxRecDepth 10000
theorem Z6 {I : AU} {n : Nd} {c : NC} {rs : List EK} {v : Value} (h : Bm I n c) (hv : Sl I 5 v (rs.map BT)) : Bm I (TG n rs) { c with rv := v } := by
 obtain ⟨k, nt, isin, nm, ws, rs0, ks⟩ := n; unfold Bm at h; obtain ⟨h1, h2, h3, h4, h5, h6, cs, h7, h8⟩ := h
 show Bm I (.mk k nt isin nm ws rs ks) _
 unfold Bm; exact ⟨h1, h2, h3, h4, h5, hv, cs, h7, h8⟩
theorem NE (b : Nat) (s : List UInt8) (hs : s.length ≤ 65536) (B : PS → CC Nd) (d : Nat) (hd : d ≤ 24) (hB : D8 143 b s [.int .i64 ((d : Int) + 1)] B Fy 1) (hI : D8 146 b s [.int .i64 (d : Int)] (ifP s B) Fy 1) (hF : D8 147 b s [.int .i64 (d : Int)] (T0 s B) Fy 1) (hC : D8 148 b s [.int .i64 (d : Int)] (Nq s B) Fy 1) : D8 119 b s [.int .i64 (d : Int)] (I1 s B) Fy 1 := by
 intro p lv I F w0 w R hR hp CE
 have hL := Le.refl I
 obtain ⟨M, hM⟩ : ∃ M, M = Bp s p := ⟨_, rfl⟩; unfold I1 at hR; rw [Hy, R3] at hR; refine enter Tryz.func119 rfl Tryz.ntmps119 rfl (CE.self) (tr (le rfl (Ah rfl Ab rfl) ?_)); rintro _ _ _ ⟨b4, rfl, rfl, rfl⟩; refine AI (H' := row b4 26 (A2 DB) :: _) ?_ (fun _ h => h); refine BQ (le rfl (Ah rfl Ab rfl) ?_); rintro _ _ _ ⟨b5, rfl, rfl, rfl⟩; refine AI (H' := row b5 26 (A2 DB) :: _) ?_ (fun _ h => h); refine BQ (AC 1 rfl (B7 rfl rfl rfl (Aa rfl rfl rfl Tryz.func32 (by kernel_rfl) rfl (fun w hw => C5 b s hs p lv _ _ _ w _ rfl hp (AD (row b 58 (CO s lv p.next)) hw))) ?_ ?_))
 ·rintro _ Jx _ ⟨Br, rfl, ax, ex, Bs, rfl⟩; rw [Ay Bs] at hR; refine AL (?_)
  exact Am fun w hw => .inr ⟨_, rfl, Jx, _, ⟨hL.trans Br, rfl, ax, ex, hR, rfl⟩, AA hw⟩
 rintro v10 J _ ⟨hJ, x10, p, lv, Hj, Mb, hp, ⟨rfl, hf, rfl⟩, rfl⟩
 have hL := hL.trans hJ
 rw [AY Hj] at hR; obtain ⟨tt, KD⟩ : ∃ z, AP s p = z := ⟨_, rfl⟩; rw [KD] at hR; refine le rfl (Ah rfl BL rfl) ?_; rintro _ _ _ ⟨b6, rfl, rfl, rfl⟩; refine An rfl rfl ((by exact AE rfl BL rfl rfl rfl (by exact A4 _) rfl)) ?_; rintro _ _ _ ⟨rfl, rfl⟩; refine AI (H' := row b6 73 (BZ tt) :: _) ?_ (fun _ h => by rw [← KD]; exact h); refine ln (Bh (ι := PS × Value × AU × NC × Nd) (fun zz => Le I zz.2.2.1 ∧ J7 s zz.1 zz.2.1 zz.2.2.1 ∧ Bm zz.2.2.1 zz.2.2.2.2 zz.2.2.2.1 ∧ Bp s zz.1 + 1 ≤ M ∧ R = Cf (Gh s) (fun l q => .ok (TG zz.2.2.2.2 l) q) zz.1) (fun zz => []) [(0, _), (1, _), (4, _), (5, _), (6, _)] (fun zz => zz.2.2.1) (fun zz => (row b5 26 (A2 zz.2.2.2.1) :: row b4 26 (A2 DB) :: row b 58 (CO s zz.2.1 zz.1.next) :: F)) (AB rfl) ?_ ?_)
 ·refine AR (tr (AC 1 rfl (lq rfl (qc rfl rfl rfl ((fun w hw => Gy b s [40] p lv w hs hf hp.1 (Bn hw) (hp.2.2.mono hw.le)))) (Ae rfl (AF rfl (fun hc0 => ?_) (fun hc0 => ?_))))))
  ·have q0 : C8 [40] tt = true := by rw [← KD]; exact hc0
   rw [if_pos q0] at hR; refine tr (AC 1 rfl (Bw rfl rfl rfl rfl (fun w hw => Bv b s hs p lv _ _ _ w hf hp (AD (row b 58 (CO s lv p.next)) hw)) ?_)); rintro _ J _ ⟨hJ, rfl, p, lv, YU, AIm, ZY, hp, rfl⟩
   have hL := hL.trans hJ
   rw [← YU] at hR
   have EX := ZY (by rw [KD]; exact Bq q0)
   refine BQ (AC 2 rfl (lq rfl (AX rfl rfl rfl (by omega)) ?_)); refine B7 rfl rfl rfl (Aa rfl rfl rfl Tryz.func143 (by kernel_rfl) rfl (fun w hw => hB p lv _ _ _ w _ rfl hp (AD (row b 58 (CO s lv p.next)) hw))) ?_ ?_
   ·rintro _ Jx _ ⟨Br, rfl, ax, ex, Bs, rfl⟩; rw [Ay Bs] at hR; refine AL (Aj (AL (?_)))
    exact Am fun w hw => .inr ⟨_, rfl, Jx, _, ⟨hL.trans Br, rfl, ax, ex, hR, rfl⟩, AA hw⟩
   rintro v21 J _ ⟨hJ, x21, p, lv, XX, ACj, hp, ⟨c21, rfl, ADh⟩, rfl⟩
   have hL := hL.trans hJ
   rw [AY XX] at hR; refine le rfl (AS rfl CJ Ab rfl rfl rfl (by rfl) rfl) ?_; rintro _ _ _ ⟨b22, rfl, rfl, rfl⟩; refine AI (H' := BO 26 7 A2 (.slice (some ⟨b22, 0, none⟩) 1 1) [c21] :: _) ?_ (fun _ h => A7 h rfl (by decide)); refine lq rfl (A6 (pl := [(_, _), (_, _), (_, _), (_, _), (_, _), (_, _), (_, _)]) (cs := (A2 ⟨7, false, false, [], AO, AO, (.slice (some ⟨b22, 0, none⟩) 1 1)⟩).toArray) rfl BR Ab ⟨rfl, ⟨_, _, B0⟩, rfl, ⟨_, _, De⟩, rfl, ⟨_, _, De⟩, rfl, ⟨_, _, CU⟩, rfl, ⟨_, _, EE⟩, rfl, ⟨_, _, El⟩, rfl, ⟨_, _, D6⟩, trivial⟩ rfl rfl) (An rfl rfl ((by exact AE rfl Ab rfl rfl rfl (by exact Im Jt) rfl)) ?_); rintro _ _ _ ⟨rfl, rfl⟩; refine AI (H' := row b5 26 (A2 ⟨7, false, false, [], AO, AO, (.slice (some ⟨b22, 0, none⟩) 1 1)⟩) :: _) ?_ (fun _ h => h); refine ln (AH (AC 1 rfl (B7 rfl rfl rfl (Aa rfl rfl rfl Tryz.func144 (by kernel_rfl) rfl (fun w hw => Gn b s hs [41] p lv _ _ _ w _ rfl hp (AD (row b 58 (CO s lv p.next)) hw))) ?_ ?_)))
   ·rintro _ Jx _ ⟨Br, rfl, ax, ex, Bs, rfl⟩; rw [Ay Bs] at hR; refine Aj (AL (?_))
    exact Am fun w hw => .inr ⟨_, rfl, Jx, _, ⟨hL.trans Br, rfl, ax, ex, hR, rfl⟩, AA hw⟩
   rintro v25 J _ ⟨hJ, x25, p, lv, Zc, ACX, hp, rfl, rfl⟩
   have hL := hL.trans hJ
   rw [AY Zc] at hR
   have ADh := ADh.mono hJ
   refine BX (AV (Jr (f := A2) (l := [c21]) (.slice (some ⟨b22, 0, none⟩) 1 1) (fun _ => rfl) (fun Jf B4 Ck => ?_))); refine Av ((p, lv, Jf, ⟨7, false, false, [], AO, AO, (.slice (some ⟨b22, 0, none⟩) 1 1)⟩, Ip 7 [x21])) ?_ (AW) (AB rfl) (fun _ h => by dsimp only; exact AA h)
   ·dsimp only; exact ⟨hL.trans B4, hp.mono B4, Bm.kids Ck (A0.one (ADh.mono B4)), by omega, hR⟩
  ·have q0 : ¬ C8 [40] tt = true := by rw [← KD, show C8 [40] (AP s p) = false from hc0]; simp
   rw [if_neg q0] at hR; refine tr (AC 1 rfl (lq rfl (qc rfl rfl rfl ((fun w hw => Ey b s [123] p lv w hs hf hp.1 (Bn hw) (hp.2.2.mono hw.le)))) (Ae rfl (AF rfl (fun BI => ?_) (fun BI => ?_)))))
   ·have q1 : Bu [123] tt = true := by rw [← KD]; exact BI
    rw [if_pos q1] at hR; refine tr (AC 1 rfl (Bw rfl rfl rfl rfl (fun w hw => Bv b s hs p lv _ _ _ w hf hp (AD (row b 58 (CO s lv p.next)) hw)) ?_)); rintro _ J _ ⟨hJ, rfl, p, lv, AII, APH, AJN, hp, rfl⟩
    have hL := hL.trans hJ
    rw [← AII] at hR
    have EX := AJN (by rw [KD]; exact Cc q1)
    refine BQ (AC 2 rfl (lq rfl (AX rfl rfl rfl (by omega)) ?_)); refine B7 rfl rfl rfl (Aa rfl rfl rfl Tryz.func143 (by kernel_rfl) rfl (fun w hw => hB p lv _ _ _ w _ rfl hp (AD (row b 58 (CO s lv p.next)) hw))) ?_ ?_
    ·rintro _ Jx _ ⟨Br, rfl, ax, ex, Bs, rfl⟩; rw [Ay Bs] at hR; refine AL (Aj (AL (?_)))
     exact Am fun w hw => .inr ⟨_, rfl, Jx, _, ⟨hL.trans Br, rfl, ax, ex, hR, rfl⟩, AA hw⟩
    rintro v34 J _ ⟨hJ, x34, p, lv, ANw, APX, hp, ⟨c34, rfl, Mn⟩, rfl⟩
    have hL := hL.trans hJ
    rw [AY ANw] at hR; refine le rfl (AS rfl CJ Ab rfl rfl rfl (by rfl) rfl) ?_; rintro _ _ _ ⟨b35, rfl, rfl, rfl⟩; refine AI (H' := BO 26 7 A2 (.slice (some ⟨b35, 0, none⟩) 1 1) [c34] :: _) ?_ (fun _ h => A7 h rfl (by decide)); refine lq rfl (A6 (pl := [(_, _), (_, _), (_, _), (_, _), (_, _), (_, _), (_, _)]) (cs := (A2 ⟨8, false, false, [], AO, AO, (.slice (some ⟨b35, 0, none⟩) 1 1)⟩).toArray) rfl BR Ab ⟨rfl, ⟨_, _, B0⟩, rfl, ⟨_, _, De⟩, rfl, ⟨_, _, De⟩, rfl, ⟨_, _, CU⟩, rfl, ⟨_, _, EE⟩, rfl, ⟨_, _, El⟩, rfl, ⟨_, _, D6⟩, trivial⟩ rfl rfl) (An rfl rfl ((by exact AE rfl Ab rfl rfl rfl (by exact Im Jt) rfl)) ?_); rintro _ _ _ ⟨rfl, rfl⟩; refine AI (H' := row b5 26 (A2 ⟨8, false, false, [], AO, AO, (.slice (some ⟨b35, 0, none⟩) 1 1)⟩) :: _) ?_ (fun _ h => h); refine ln (AH (AC 1 rfl (B7 rfl rfl rfl (Aa rfl rfl rfl Tryz.func145 (by kernel_rfl) rfl (fun w hw => DR b s hs [125] p lv _ _ _ w _ rfl hp (AD (row b 58 (CO s lv p.next)) hw))) ?_ ?_)))
    ·rintro _ Jx _ ⟨Br, rfl, ax, ex, Bs, rfl⟩; rw [Ay Bs] at hR; refine Aj (AL (?_))
     exact Am fun w hw => .inr ⟨_, rfl, Jx, _, ⟨hL.trans Br, rfl, ax, ex, hR, rfl⟩, AA hw⟩
    rintro v38 J _ ⟨hJ, x38, p, lv, Un, Xl, hp, rfl, rfl⟩
    have hL := hL.trans hJ
    rw [AY Un] at hR
    have Mn := Mn.mono hJ
    refine BX (AV (Jr (f := A2) (l := [c34]) (.slice (some ⟨b35, 0, none⟩) 1 1) (fun _ => rfl) (fun Jf B4 Ck => ?_))); refine Av ((p, lv, Jf, ⟨8, false, false, [], AO, AO, (.slice (some ⟨b35, 0, none⟩) 1 1)⟩, Ip 8 [x34])) ?_ (AW) (AB rfl) (fun _ h => by dsimp only; exact AA h)
    ·dsimp only; exact ⟨hL.trans B4, hp.mono B4, Bm.kids Ck (A0.one (Mn.mono B4)), by omega, hR⟩
   ·have q1 : ¬ Bu [123] tt = true := by rw [← KD, show Bu [123] (AP s p) = false from BI]; simp
    rw [if_neg q1] at hR; refine tr (AC 1 rfl (lq rfl (qc rfl rfl rfl ((fun w hw => Ey b s [105, 102] p lv w hs hf hp.1 (Bn hw) (hp.2.2.mono hw.le)))) (Ae rfl (AF rfl (fun BU => ?_) (fun BU => ?_)))))
    ·have q2 : Bu [105, 102] tt = true := by rw [← KD]; exact BU
     rw [if_pos q2] at hR; refine AH (AC 2 rfl (B7 rfl rfl rfl (Aa rfl rfl rfl Tryz.func146 (by kernel_rfl) rfl (fun w hw => hI p lv _ _ _ w _ rfl hp (AD (row b 58 (CO s lv p.next)) hw))) ?_ ?_))
     ·rintro _ Jx _ ⟨Br, rfl, ax, ex, Bs, rfl⟩; rw [Bs] at hR; refine Aj (AL (?_))
      exact Am fun w hw => .inr ⟨_, rfl, Jx, _, ⟨hL.trans Br, rfl, ax, ex, hR, rfl⟩, AA hw⟩
     rintro v44 J _ ⟨hJ, x44, p, lv, ZV, ACU, hp, ⟨c44, rfl, AHX⟩, rfl⟩
     have hL := hL.trans hJ
     rw [ZV] at hR; refine An rfl rfl ((by exact AE rfl Ab rfl rfl rfl (by exact AHX.ones) rfl)) ?_; rintro _ _ _ ⟨rfl, rfl⟩; refine AI (H' := row b5 26 (A2 c44) :: _) ?_ (fun _ h => h); refine BX (AV (Av ((p, lv, J, c44, x44)) ?_ (AW) (AB rfl) (fun _ h => by dsimp only; exact AA h)))
     ·dsimp only; exact ⟨hL, hp, AHX, by omega, hR⟩
    ·have q2 : ¬ Bu [105, 102] tt = true := by rw [← KD, show Bu [105, 102] (AP s p) = false from BU]; simp
     rw [if_neg q2] at hR; refine Bh (ι := Bool) (fun zz => zz = (Bu [119, 104, 105, 108, 101] tt || Bu [117, 110, 116, 105, 108] tt)) (fun zz => [(45, .bool zz)]) [(0, _), (1, _), (4, _), (5, _), (6, _), (13, _), (26, _), (39, _)] (fun zz => J) (fun zz => (row b6 73 (BZ tt) :: row b5 26 (A2 DB) :: row b4 26 (A2 DB) :: row b 58 (CO s lv p.next) :: F)) (AB rfl) ?_ ?_
     ·refine tr (AC 1 rfl (lq rfl (qc rfl rfl rfl ((fun w hw => Ey b s [119, 104, 105, 108, 101] p lv w hs hf hp.1 (Bn hw) (hp.2.2.mono hw.le)))) (Ae rfl (AF rfl (fun Bd => ?_) (fun Bd => ?_)))))
      ·refine Au (Av (true) ?_ (Bl rfl (congrArg Value.bool Bd) (AW)) (AB rfl) (fun _ h => by dsimp only; exact AA h))
       ·rw [← KD, show Bu [119, 104, 105, 108, 101] (AP s p) = true from Bd]; try rfl
      ·refine AH (AC 1 rfl (lq rfl (qc rfl rfl rfl ((fun w hw => Ey b s [117, 110, 116, 105, 108] p lv w hs hf hp.1 (Bn hw) (hp.2.2.mono hw.le)))) (Ax rfl (Av (Bu [117, 110, 116, 105, 108] (AP s p)) ?_ (AB rfl) (AB rfl) (fun _ h => by dsimp only; exact AA h)))))
       ·rw [← KD, show Bu [119, 104, 105, 108, 101] (AP s p) = false from Bd]; try rfl
     rintro wu hwu; refine AF rfl (fun Cg => ?_) (fun Cg => ?_)
     ·have q3 : (Bu [119, 104, 105, 108, 101] tt || Bu [117, 110, 116, 105, 108] tt) = true := by rw [← hwu]; exact Cg
      rw [if_pos q3] at hR; refine tr (AC 1 rfl (Bw rfl rfl rfl rfl (fun w hw => Bv b s hs p lv _ _ _ w hf hp (AD (row b 58 (CO s lv p.next)) hw)) ?_)); rintro _ J _ ⟨hJ, rfl, p, lv, AIl, AOx, AHo, hp, rfl⟩
      have hL := hL.trans hJ
      rw [← AIl] at hR
      have EX := AHo (by rw [KD]; rw [Bool.or_eq_true] at q3; rcases q3 with h | h <;> exact Cc h)
      refine BQ (Ae rfl (Bh (ι := Nat) (fun zz => zz = if tt.text = [117, 110, 116, 105, 108] then 11 else 10) (fun zz => [(7, .int .i64 (zz : Int))]) [(45, _), (0, _), (1, _), (4, _), (5, _), (6, _), (13, _), (26, _), (39, _)] (fun zz => J) (fun zz => (row b6 73 (BZ tt) :: row b5 26 (A2 DB) :: row b4 26 (A2 DB) :: row b 58 (CO s lv p.next) :: F)) (AB rfl) ?_ ?_))
      ·refine tr (AC 1 rfl (lq rfl (AZ rfl rfl (by rfl)) ?_)); refine lq rfl (BM rfl rfl rfl) (ln (AF rfl (fun C1 => ?_) (fun C1 => ?_)))
       ·refine AH (Ax rfl (Av (11) ?_ (AB rfl) (AB rfl) (fun _ h => by dsimp only; exact AA h)))
        ·rw [if_pos (of_decide_eq_true C1)]
       ·refine Au (Av (10) ?_ (AB rfl) (AB rfl) (fun _ h => by dsimp only; exact AA h))
        ·rw [if_neg (of_decide_eq_false C1)]
      rintro kk GM; rw [← GM] at hR; refine tr (AC 2 rfl (lq rfl (AX rfl rfl rfl (by omega)) ?_)); refine B7 rfl rfl rfl (Aa rfl rfl rfl Tryz.func143 (by kernel_rfl) rfl (fun w hw => hB p lv _ _ _ w _ rfl hp (AD (row b 58 (CO s lv p.next)) hw))) ?_ ?_
      ·rintro _ Jx _ ⟨Br, rfl, ax, ex, Bs, rfl⟩; rw [Ay Bs] at hR; refine AL (Aj (AL (?_)))
       exact Am fun w hw => .inr ⟨_, rfl, Jx, _, ⟨hL.trans Br, rfl, ax, ex, hR, rfl⟩, AA hw⟩
      rintro v58 J _ ⟨hJ, x58, p, lv, AFO, AHe, hp, ⟨c58, rfl, Mi⟩, rfl⟩
      have hL := hL.trans hJ
      rw [AY AFO] at hR; refine le rfl (Ah rfl Ab rfl) ?_; rintro _ _ _ ⟨b8, rfl, rfl, rfl⟩; refine An rfl rfl ((by exact AE rfl Ab rfl rfl rfl (by exact Mi.ones) rfl)) ?_; rintro _ _ _ ⟨rfl, rfl⟩; refine AI (H' := row b8 26 (A2 c58) :: _) ?_ (fun _ h => h); refine BQ (AC 1 rfl (B7 rfl rfl rfl (Aa rfl rfl rfl Tryz.func145 (by kernel_rfl) rfl (fun w hw => DR b s hs [100, 111] p lv _ _ _ w _ rfl hp (AD (row b 58 (CO s lv p.next)) hw))) ?_ ?_))
      ·rintro _ Jx _ ⟨Br, rfl, ax, ex, Bs, rfl⟩; rw [Ay Bs] at hR; refine AL (Aj (AL (?_)))
       exact Am fun w hw => .inr ⟨_, rfl, Jx, _, ⟨hL.trans Br, rfl, ax, ex, hR, rfl⟩, AA hw⟩
      rintro v60 J _ ⟨hJ, x60, p, lv, AAU, AIY, hp, rfl, rfl⟩
      have hL := hL.trans hJ
      rw [AY AAU] at hR
      have Mi := Mi.mono hJ
      refine Gb (DH [5, 6, 8] [] [row b8 26 (A2 c58)] mo (by kernel_rfl) (fun _ _ _ _ _ h => h) (Bg [0] (by kernel_rfl) rfl rfl rfl (Ko 1 (by kernel_rfl) rfl (Le.refl _) rfl (fun _ hI => Af rfl BR Ab rfl rfl rfl) (Bg [2, 3] (by kernel_rfl) rfl rfl rfl (IC 4 (by kernel_rfl) rfl rfl (AX rfl rfl rfl (by omega)) ?_))))); refine QE 5 (by kernel_rfl) (by kernel_rfl) rfl (Le.refl _) rfl rfl rfl (Aa rfl rfl rfl Tryz.func143 (by kernel_rfl) rfl (fun w hw => hB p lv _ _ _ w _ rfl hp (AD (row b 58 (CO s lv p.next)) hw))) ?_ ?_
      ·rintro _ Jx _ ⟨Br, rfl, ax, ex, Bs, rfl⟩; rw [Ay Bs] at hR; refine AL (Aj (AL (?_)))
       exact Am fun w hw => .inr ⟨_, rfl, Jx, _, ⟨hL.trans Br, rfl, ax, ex, hR, rfl⟩, AA hw⟩
      rintro v66 J _ ⟨hJ, x66, p, lv, ADr, AHs, hp, ⟨c66, rfl, Vw⟩, rfl⟩; refine ⟨hJ, .inr CY.sub, ?_⟩
      have hL := hL.trans hJ
      rw [AY ADr] at hR
      have Mi := Mi.mono hJ
      refine re 6 (by kernel_rfl) rfl (hJ) rfl (Cb (vs := [_, _]) (css := [A2 c58, A2 c66]) rfl CJ Ab rfl rfl rfl rfl (rfl) (by simp [A2])) ?_; rintro _ _ _ ⟨b67, rfl, rfl, rfl⟩; refine ⟨Le.refl _, .inr CY.sub, ?_⟩; refine ES (H' := BO 26 7 A2 (.slice (some ⟨b67, 0, none⟩) 2 2) [c58, c66] :: _) ?_ (fun _ h => A7 h rfl (by decide)); refine Ko 7 (by kernel_rfl) rfl (hJ) rfl (fun _ hI => A6 (pl := [(_, _), (_, _), (_, _), (_, _), (_, _), (_, _), (_, _)]) (cs := (A2 ⟨kk, false, false, [], AO, AO, (.slice (some ⟨b67, 0, none⟩) 2 2)⟩).toArray) rfl BR Ab ⟨rfl, ⟨_, _, B0⟩, rfl, ⟨_, _, De⟩, rfl, ⟨_, _, De⟩, rfl, ⟨_, _, CU⟩, rfl, ⟨_, _, EE⟩, rfl, ⟨_, _, El⟩, rfl, ⟨_, _, D6⟩, trivial⟩ rfl rfl) (Eu 8 (by kernel_rfl) (by kernel_rfl) rfl (hJ) rfl rfl ((by exact AE rfl Ab rfl rfl rfl (by exact Im Jt) rfl)) ?_); rintro _ _ _ ⟨rfl, rfl⟩; refine ⟨Le.refl _, .inr CY.sub, ?_⟩; refine ES (H' := row b5 26 (A2 ⟨kk, false, false, [], AO, AO, (.slice (some ⟨b67, 0, none⟩) 2 2)⟩) :: _) ?_ (fun _ h => h); refine D3 (by kernel_rfl) (Ai (AH (AC 1 rfl (B7 rfl rfl rfl (Aa rfl rfl rfl Tryz.func145 (by kernel_rfl) rfl (fun w hw => DR b s hs [100, 111, 110, 101] p lv _ _ _ w _ rfl hp (AD (row b 58 (CO s lv p.next)) hw))) ?_ ?_))))
      ·rintro _ Jx _ ⟨Br, rfl, ax, ex, Bs, rfl⟩; rw [Ay Bs] at hR; refine Aj (AL (?_))
       exact Am fun w hw => .inr ⟨_, rfl, Jx, _, ⟨hL.trans Br, rfl, ax, ex, hR, rfl⟩, AA hw⟩
      rintro v70 J _ ⟨hJ, x70, p, lv, Z9, ACg, hp, rfl, rfl⟩
      have hL := hL.trans hJ
      rw [AY Z9] at hR
      have Mi := Mi.mono hJ
      have Vw := Vw.mono hJ
      refine BX (AV (Jr (f := A2) (l := [c58, c66]) (.slice (some ⟨b67, 0, none⟩) 2 2) (fun _ => rfl) (fun Jf B4 Ck => ?_))); refine Av ((p, lv, Jf, ⟨kk, false, false, [], AO, AO, (.slice (some ⟨b67, 0, none⟩) 2 2)⟩, Ip kk [x58, x66])) ?_ (AW) (AB rfl) (fun _ h => by dsimp only; exact AA h)
      ·dsimp only; exact ⟨hL.trans B4, hp.mono B4, Bm.kids Ck (A0.snoc (Vw.mono B4) (A0.one (Mi.mono B4))), by omega, hR⟩
     ·have q3 : ¬ (Bu [119, 104, 105, 108, 101] tt || Bu [117, 110, 116, 105, 108] tt) = true := by rw [← hwu, show wu = false from Cg]; simp
      rw [if_neg q3] at hR; refine tr (AC 1 rfl (lq rfl (qc rfl rfl rfl ((fun w hw => Ey b s [102, 111, 114] p lv w hs hf hp.1 (Bn hw) (hp.2.2.mono hw.le)))) (Ae rfl (AF rfl (fun Dd => ?_) (fun Dd => ?_)))))
      ·have q6 : Bu [102, 111, 114] tt = true := by rw [← KD]; exact Dd
       rw [if_pos q6] at hR; refine AH (AC 2 rfl (B7 rfl rfl rfl (Aa rfl rfl rfl Tryz.func147 (by kernel_rfl) rfl (fun w hw => hF p lv _ _ _ w _ rfl hp (AD (row b 58 (CO s lv p.next)) hw))) ?_ ?_))
       ·rintro _ Jx _ ⟨Br, rfl, ax, ex, Bs, rfl⟩; rw [Bs] at hR; refine Aj (AL (?_))
        exact Am fun w hw => .inr ⟨_, rfl, Jx, _, ⟨hL.trans Br, rfl, ax, ex, hR, rfl⟩, AA hw⟩
       rintro v76 J _ ⟨hJ, x76, p, lv, AES, AHw, hp, ⟨c76, rfl, AHf⟩, rfl⟩
       have hL := hL.trans hJ
       rw [AES] at hR; refine An rfl rfl ((by exact AE rfl Ab rfl rfl rfl (by exact AHf.ones) rfl)) ?_; rintro _ _ _ ⟨rfl, rfl⟩; refine AI (H' := row b5 26 (A2 c76) :: _) ?_ (fun _ h => h); refine BX (AV (Av ((p, lv, J, c76, x76)) ?_ (AW) (AB rfl) (fun _ h => by dsimp only; exact AA h)))
       ·dsimp only; exact ⟨hL, hp, AHf, by omega, hR⟩
      ·have q6 : ¬ Bu [102, 111, 114] tt = true := by rw [← KD, show Bu [102, 111, 114] (AP s p) = false from Dd]; simp
       rw [if_neg q6] at hR; refine tr (AC 1 rfl (lq rfl (qc rfl rfl rfl ((fun w hw => Ey b s [99, 97, 115, 101] p lv w hs hf hp.1 (Bn hw) (hp.2.2.mono hw.le)))) (Ae rfl (AF rfl (fun EW => ?_) (fun EW => ?_)))))
       ·have q7 : Bu [99, 97, 115, 101] tt = true := by rw [← KD]; exact EW
        rw [if_pos q7] at hR; refine AH (AC 2 rfl (B7 rfl rfl rfl (Aa rfl rfl rfl Tryz.func148 (by kernel_rfl) rfl (fun w hw => hC p lv _ _ _ w _ rfl hp (AD (row b 58 (CO s lv p.next)) hw))) ?_ ?_))
        ·rintro _ Jx _ ⟨Br, rfl, ax, ex, Bs, rfl⟩; rw [Bs] at hR; refine Aj (AL (?_))
         exact Am fun w hw => .inr ⟨_, rfl, Jx, _, ⟨hL.trans Br, rfl, ax, ex, hR, rfl⟩, AA hw⟩
        rintro v82 J _ ⟨hJ, x82, p, lv, ALY, AOv, hp, ⟨c82, rfl, AJm⟩, rfl⟩
        have hL := hL.trans hJ
        rw [ALY] at hR; refine An rfl rfl ((by exact AE rfl Ab rfl rfl rfl (by exact AJm.ones) rfl)) ?_; rintro _ _ _ ⟨rfl, rfl⟩; refine AI (H' := row b5 26 (A2 c82) :: _) ?_ (fun _ h => h); refine BX (AV (Av ((p, lv, J, c82, x82)) ?_ (AW) (AB rfl) (fun _ h => by dsimp only; exact AA h)))
        ·dsimp only; exact ⟨hL, hp, AJm, by omega, hR⟩
       ·have q7 : ¬ Bu [99, 97, 115, 101] tt = true := by rw [← KD, show Bu [99, 97, 115, 101] (AP s p) = false from EW]; simp
        rw [if_neg q7] at hR; rw [← KD] at hR; refine AH (AC 1 rfl (B7 rfl rfl rfl (Aa rfl rfl rfl Tryz.func34 (by kernel_rfl) rfl (fun w hw => Ds b s p lv hs _ _ _ w hf hp (AD (row b 58 (CO s lv p.next)) hw))) ?_ ?_))
        ·rintro _ Jx _ ⟨Br, rfl, rfl⟩; refine Aj (AL (?_))
         exact Am fun w hw => .inr ⟨_, rfl, Jx, _, ⟨hL.trans Br, rfl, _, _, hR, rfl⟩, AA hw⟩
        rintro _ _ _ ⟨⟩
 rintro ⟨p, lv, J, c, n⟩ ⟨hL, hp, hn, hmc, hR⟩; dsimp only at *; refine tr (AC 1 rfl (B7 rfl rfl rfl (Aa rfl rfl rfl Tryz.func149 (by kernel_rfl) rfl (fun w hw => QW b s hs p lv _ _ _ w _ rfl hp (AD (row b 58 (CO s lv p.next)) hw))) ?_ ?_))
 ·rintro _ Jx _ ⟨Br, rfl, ax, ex, Bs, rfl⟩; rw [Ay Bs] at hR; refine AL (?_)
  exact Am fun w hw => .inr ⟨_, rfl, Jx, _, ⟨hL.trans Br, rfl, ax, ex, hR, rfl⟩, AA hw⟩
 rintro v84 J _ ⟨hJ, x84, p, lv, AOO, AOu, hp, AHH, rfl⟩
 have hL := hL.trans hJ
 rw [AY AOO] at hR
 have hn := hn.mono hJ
 have hcr := Z6 hn AHH
 refine AC 1 rfl ?_; refine An rfl rfl (Ac rfl El rfl rfl (by exact AHH.one) rfl (by rfl)) ?_; rintro _ _ _ ⟨rfl, rfl⟩; refine AI (H' := row b5 26 (A2 { c with rv := v84 }) :: _) ?_ (fun _ h => h); refine BQ (lq rfl (Af rfl BR Ab rfl rfl rfl) (An rfl rfl ((by exact AE rfl Ab rfl rfl rfl (by exact hcr.ones) rfl)) ?_)); rintro _ _ _ ⟨rfl, rfl⟩; refine ln (Aq (A3 (.inl rfl) rfl (by exact BK rfl BR Ab rfl rfl (BJ)) (fun w' hw => ?_))); exact .inl ⟨_, rfl, J, _, ⟨hL, _, p, lv, hR, (by omega), hp, ⟨_, rfl, hcr⟩, rfl⟩, AA hw⟩
end Go.Tri
