/-
 The parser: simple commands.
-/
import Derived.Test.YthjgbalcngkjjaaGreatDoorQD1
import Derived.Test.YthjgbalcngkjjaaGreatDoorQC7
import Derived.Test.YthjgbalcngkjjaaGreatDoorTriZ
namespace Go.Tri
open Go.Proofs Go.RowKit
set_option maxRecDepth 10000
theorem R8 {α : Type} {l : List α} {x d : α} (h : (decide (((l ++ [x]).length : Int) = 1)) = true) : l = [] ∧ nth (l ++ [x]) 0 d = x := by
 have h := of_decide_eq_true h
 rw [List.length_append, List.length_singleton] at h
 have : l = [] := List.length_eq_zero_iff.1 (by omega)
 subst this; exact ⟨rfl, rfl⟩
theorem ABU {ws : List (List UInt8)} {c : Bool} (h : (decide ((ws.length : Int) = 0) && c) = true) : ws = [] ∧ c = true := by
 rw [Bool.and_eq_true, decide_eq_true_eq] at h; exact ⟨List.length_eq_zero_iff.1 (by omega), h.2⟩
theorem ABN {ws : List (List UInt8)} {c : Bool} (h : (decide ((ws.length : Int) = 0) && c) = false) : ¬ (ws = [] ∧ c = true) := fun ⟨h1, h2⟩ => by
 subst h1; subst h2
 cases h
theorem AIW {ws : List (List UInt8)} {rs : List EK} (h : (ws.length : Int) + (rs.length : Int) = 0) : ws = [] ∧ rs = [] := ⟨List.length_eq_zero_iff.1 (by omega), List.length_eq_zero_iff.1 (by omega)⟩
theorem AIP {ws : List (List UInt8)} {wx : List UInt8} {rs : List EK} (h : ((decide (((ws ++ [wx]).length : Int) = 1) && decide ((rs.length : Int) = 0)) && FSt (nth (ws ++ [wx]) 0 [])) = true) : ws = [] ∧ rs = [] ∧ FSt wx = true := by
 rw [Bool.and_eq_true, Bool.and_eq_true] at h; obtain ⟨⟨h1, h2⟩, h3⟩ := h; obtain ⟨h4, h5⟩ := R8 (d := []) h1; rw [h5] at h3
 have := of_decide_eq_true h2
 exact ⟨h4, List.length_eq_zero_iff.1 (by omega), h3⟩
theorem ADn {ws : List (List UInt8)} {wx : List UInt8} {rs : List EK} (h : ((decide (((ws ++ [wx]).length : Int) = 1) && decide ((rs.length : Int) = 0)) && FSt (nth (ws ++ [wx]) 0 [])) = false) : ¬ (ws = [] ∧ rs = [] ∧ FSt wx = true) := fun ⟨h1, h2, h3⟩ => by
 subst h1; subst h2
 rw [show nth ([] ++ [wx]) 0 [] = wx from rfl, h3] at h
 cases h
set_option maxHeartbeats 1000000 in
theorem QV (b : Nat) (s : List UInt8) (hs : s.length ≤ 65536) (G : List UInt8 → PS → CC Nd) (d : Nat) (hd : d ≤ 24) (hG : ∀ name, D8 154 b s [Bj name, .int .i64 ((d : Int) + 1)] (G name) Fy 1) : D8 120 b s [.int .i64 (d : Int)] (KG s G) Fy 1 := by
 intro p lv I F w0 w R hR hp CE
 have hL := Le.refl I
 obtain ⟨M, hM⟩ : ∃ M, M = Bp s p := ⟨_, rfl⟩; unfold KG at hR
 have Ox := FD hp.1
 refine enter Tryz.func120 rfl Tryz.ntmps120 rfl (CE.self) (tr (le rfl (Ah rfl Ab rfl) ?_)); rintro _ _ _ ⟨b4, rfl, rfl, rfl⟩; refine AI (H' := row b4 26 (A2 DB) :: _) ?_ (fun _ h => h); refine BQ (lq rfl (A6 (pl := [(_, _), (_, _), (_, _), (_, _), (_, _), (_, _), (_, _)]) (cs := (A2 ⟨1, false, false, [], AO, AO, AO⟩).toArray) rfl BR Ab ⟨rfl, ⟨_, _, B0⟩, rfl, ⟨_, _, De⟩, rfl, ⟨_, _, De⟩, rfl, ⟨_, _, CU⟩, rfl, ⟨_, _, EE⟩, rfl, ⟨_, _, El⟩, rfl, ⟨_, _, D6⟩, trivial⟩ rfl rfl) (le rfl (Ah rfl Ab rfl) ?_)); rintro _ _ _ ⟨b5, rfl, rfl, rfl⟩; refine An rfl rfl ((by exact AE rfl Ab rfl rfl rfl (by exact HO B3 B3 B3) rfl)) ?_; rintro _ _ _ ⟨rfl, rfl⟩; refine AI (H' := row b5 26 (A2 ⟨1, false, false, [], AO, AO, AO⟩) :: _) ?_ (fun _ h => h)
 refine ln (AR (A8 (ι := PS × Value × AU × Value × List (List UInt8) × Value × List EK × Nat) (fun zz => Le I zz.2.2.1 ∧ J7 s zz.1 zz.2.1 zz.2.2.1 ∧ Bp s zz.1 + zz.2.2.2.2.1.length + zz.2.2.2.2.2.2.1.length ≤ M ∧ Bp s zz.1 < zz.2.2.2.2.2.2.2 ∧ R = JY s G zz.2.2.2.2.2.2.2 zz.2.2.2.2.1 zz.2.2.2.2.2.2.1 zz.1) (fun zz => Bp s zz.1) (fun zz => []) [(0, _), (1, _), (4, _), (5, _)] (fun zz => zz.2.2.1) (fun zz => (BO 9 1 Bo zz.2.2.2.1 zz.2.2.2.2.1 :: BO 37 5 BT zz.2.2.2.2.2.1 zz.2.2.2.2.2.2.1 :: row b5 26 (A2 ⟨1, false, false, [], zz.2.2.2.1, zz.2.2.2.2.2.1, AO⟩) :: row b4 26 (A2 DB) :: row b 58 (CO s zz.2.1 zz.1.next) :: F)) (p, lv, I, AO, [], AO, [], Bp s p + 1) ?_ (AW) (AB rfl) (fun _ h => by dsimp only; exact AA (CS 9 1 Bo (CS 37 5 BT h))) ?_))
 ·dsimp only; exact ⟨hL, hp, by simp only [List.length_nil]; omega, Nat.lt_succ_self _, hR⟩
 rintro ⟨p, lv, J, wv, ws, rv, rs, g⟩ ⟨hL, hp, I4, hg, hR⟩; dsimp only at *; obtain ⟨g, rfl⟩ : ∃ g', g = g' + 1 := ⟨g - 1, by omega⟩; refine AR (AN (AR (tr (AC 1 rfl (B7 rfl rfl rfl (Aa rfl rfl rfl Tryz.func150 (by kernel_rfl) rfl (fun w hw => H3 b s hs p lv _ _ _ w _ rfl hp (AD (row b 58 (CO s lv p.next)) hw))) ?_ ?_)))))
 ·rintro _ Jx _ ⟨Br, rfl, ax, ex, Bs, rfl⟩; rw [JY, Ay Bs] at hR; refine AL (Aj (AL (Aj (AL (Aj (?_))))))
  exact Am fun w hw => .inr ⟨_, rfl, Jx, _, ⟨hL.trans Br, rfl, ax, ex, hR, rfl⟩, AA hw⟩
 rintro v9 J _ ⟨hJ, x9, p, lv, OY, Nz, hp, ⟨rfl, hf, rfl⟩, rfl⟩
 have hL := hL.trans hJ
 rw [JY, AY OY] at hR; refine Ae rfl (AF rfl (fun hc0 => ?_) (fun hc0 => ?_))
 ·rw [if_pos hc0] at hR; refine AN (DH [3, 4, 5, 7] [7] [row b5 26 (A2 ⟨1, false, false, [], wv, rv, AO⟩)] mo (by kernel_rfl) (fun _ _ _ _ _ h => h) (Bg [0] (by kernel_rfl) rfl rfl rfl ?_)); refine Ko 1 (by kernel_rfl) rfl (Le.refl _) rfl (fun _ hI => (by exact AZ rfl rfl (by rfl))) ?_; refine Bg [2] (by kernel_rfl) rfl rfl rfl (QE 3 (by kernel_rfl) (by kernel_rfl) rfl (Le.refl _) rfl rfl rfl (Aa rfl rfl rfl Tryz.func151 (by kernel_rfl) rfl (fun w hw => MZ b s hs p lv _ _ _ w _ rfl hp (AD (row b 58 (CO s lv p.next)) hw))) ?_ ?_)
  ·rintro _ Jx _ ⟨Br, rfl, ax, ex, Bs, rfl⟩; rw [Ay Bs] at hR; refine AL (Aj (AL (Aj (AL (Aj (?_))))))
   exact Am fun w hw => .inr ⟨_, rfl, Jx, _, ⟨hL.trans Br, rfl, ax, ex, hR, rfl⟩, AA hw⟩
  rintro v13 J _ ⟨hJ, x13, p, lv, AMC, AQC, hp, rfl, rfl⟩; refine ⟨hJ, .inr CY.sub, ?_⟩
  have hL := hL.trans hJ
  rw [AY AMC] at hR; refine re 4 (by kernel_rfl) rfl (hJ) rfl (AS rfl GX D1 rfl rfl rfl (by rfl) rfl) ?_; rintro _ _ _ ⟨b14, rfl, rfl, rfl⟩; refine ⟨Le.refl _, .inr CY.sub, ?_⟩; refine re 5 (by kernel_rfl) rfl (hJ) rfl (Ba (f := BT) (c := x13) rfl GX D1 rfl rfl rfl rfl rfl rfl rfl (by exact C2 _) (by simp only [maxLen]; omega) (by omega)) ?_; rintro v15 _ _ ⟨rfl, rfl⟩; refine ⟨Le.refl _, .inr CY.sub, ?_⟩; refine Iz v15 (fun Df => ?_); refine Bg [6] (by kernel_rfl) rfl rfl rfl ?_; refine Eu 7 (by kernel_rfl) (by kernel_rfl) rfl (hJ) rfl rfl (Ac rfl El rfl rfl (by assumption) rfl (by rfl)) ?_; rintro _ _ _ ⟨rfl, rfl⟩; refine ⟨Le.refl _, .inl rfl, ?_⟩; refine ES (H' := row b5 26 (A2 ⟨1, false, false, [], wv, v15, AO⟩) :: _) ?_ (fun _ h => h); refine D3 (by kernel_rfl) (Ai (BB (CB rfl (AG (AQ (Ak ((p, lv, J, wv, ws, v15, rs ++ [x13], g)) ?_ ?_ (AW) (AB rfl) (fun _ h => by dsimp only; exact AA h)))))))
  ·dsimp only; exact ⟨hL, hp, by rw [List.length_append, List.length_singleton]; omega, by omega, hR⟩
  ·dsimp only
   omega
 ·rw [if_neg (by rw [hc0]; simp)] at hR; refine tr (AC 1 rfl (lq rfl (qc rfl rfl rfl ((fun w hw => F2 b s p lv w hs hf hp.1 (Bn hw) (hp.2.2.mono hw.le)))) (lq rfl (DT rfl Cz rfl Li rfl rfl rfl) (Ae rfl (AF rfl (fun BI => ?_) (fun BI => ?_))))))
  ·simp at BI
   have GO : (AP s p).kind = 1 := by omega
   rw [if_pos GO] at hR; refine AN (tq (AK 1 rfl ?_)); refine sq rfl ((by exact AZ rfl rfl (by rfl))) ?_; refine sq rfl ((by exact Eq rfl CD rfl)) ?_; refine AK 2 rfl ?_
   refine BA 4 4 26 31 30 _ _ rfl rfl rfl rfl rfl rfl (fun h31 => by
     simp at h31
     refine AJ 1 rfl (sg rfl (qc rfl rfl rfl ((fun w hw => F2 b s p lv w hs hf hp.1 (Bn hw) (hp.2.2.mono hw.le)))) (sg rfl (DT rfl Cz rfl CW rfl rfl rfl) (sg rfl (qc rfl rfl rfl ((fun w hw => G1 Dp (AP s p).text w (by decide) (by have := Dq hp.1; omega) (hp.2.1.mono hw.le)))) ?_))); exact Ao rfl
    ) (AM rfl) rfl rfl rfl ?_
   refine Cy (AF rfl (fun BU => ?_) (fun BU => ?_))
   ·rw [if_pos (ABU BU)] at hR; refine AH (AC 1 rfl (B7 rfl rfl rfl (Aa rfl rfl rfl Tryz.func34 (by kernel_rfl) rfl (fun w hw => Ds b s p lv hs _ _ _ w hf hp (AD (row b 58 (CO s lv p.next)) hw))) ?_ ?_))
    ·rintro _ Jx _ ⟨Br, rfl, rfl⟩; refine AL (Aj (AL (Aj (AL (Aj (?_))))))
     exact Am fun w hw => .inr ⟨_, rfl, Jx, _, ⟨hL.trans Br, rfl, _, _, hR, rfl⟩, AA hw⟩
    rintro _ _ _ ⟨⟩
   ·rw [if_neg (ABN BU)] at hR
    have XR := Dq hp.1
    have hms := CP (p := p) (s := s) (by omega)
    refine Al (AN (DH [3, 4, 5, 7] [7] [row b5 26 (A2 ⟨1, false, false, [], wv, rv, AO⟩)] mo (by kernel_rfl) (fun _ _ _ _ _ h => h) (Bg [0] (by kernel_rfl) rfl rfl rfl ?_))); refine Ko 1 (by kernel_rfl) rfl (Le.refl _) rfl (fun _ hI => (by exact AZ rfl rfl (by rfl))) ?_; refine Bg [2] (by kernel_rfl) rfl rfl rfl (QE 3 (by kernel_rfl) (by kernel_rfl) rfl (Le.refl _) rfl rfl rfl (Aa rfl rfl rfl Tryz.func152 (by kernel_rfl) rfl (fun w hw => FW b s hs p lv _ _ _ w _ rfl hp (AD (row b 58 (CO s lv p.next)) hw))) ?_ ?_)
    ·rintro _ Jx _ ⟨Br, rfl, ax, ex, Bs, rfl⟩; rw [Gl hf GO] at Bs
     cases Bs
    rintro v37 J _ ⟨hJ, x37, p, lv, YC, ADK, hp, ⟨rfl, AGJ⟩, rfl⟩; refine ⟨hJ, .inr CY.sub, ?_⟩
    have hL := hL.trans hJ
    obtain ⟨ANo, AIg⟩ := Rn hf GO YC; obtain ⟨wx, hwx⟩ : ∃ z, x37 = z := ⟨_, rfl⟩; rw [← ANo, hwx] at hR; rw [← AIg] at hR; rw [hwx] at AGJ ⊢; refine re 4 (by kernel_rfl) rfl (hJ) rfl (AS rfl CD CU rfl rfl rfl (by rfl) rfl) ?_; rintro _ _ _ ⟨b38, rfl, rfl, rfl⟩; refine ⟨Le.refl _, .inr CY.sub, ?_⟩; refine re 5 (by kernel_rfl) rfl (hJ) rfl (Ba (f := Bo) (c := wx) rfl CD CU rfl rfl rfl rfl rfl rfl rfl (by exact Ev _) (by simp only [maxLen]; omega) (by omega)) ?_; rintro v39 _ _ ⟨rfl, rfl⟩; refine ⟨Le.refl _, .inr CY.sub, ?_⟩; refine Iz v39 (fun Df => ?_); refine Bg [6] (by kernel_rfl) rfl rfl rfl ?_; refine Eu 7 (by kernel_rfl) (by kernel_rfl) rfl (hJ) rfl rfl (Ac rfl EE rfl rfl (by assumption) rfl (by rfl)) ?_; rintro _ _ _ ⟨rfl, rfl⟩; refine ⟨Le.refl _, .inl rfl, ?_⟩; refine ES (H' := row b5 26 (A2 ⟨1, false, false, [], v39, rv, AO⟩) :: _) ?_ (fun _ h => h); refine D3 (by kernel_rfl) (Ai (AN (tr (Dl 10 (AK 1 rfl ?_))))); refine sq rfl ((by exact AZ rfl rfl (by rfl))) ?_; refine sq rfl ((by exact Eq rfl CD rfl)) ?_; refine AK 2 rfl ?_
    refine BA 4 4 45 50 49 _ _ rfl rfl rfl rfl rfl rfl (fun h50 => by
      simp at h50
      refine AJ 1 rfl ?_; refine sg rfl ((by exact AZ rfl rfl (by rfl))) ?_; refine sg rfl ((by exact Eq rfl GX rfl)) ?_; refine AJ 1 rfl ?_; exact Ao rfl
     ) (AM rfl) rfl rfl rfl ?_
    refine Hb (Dl 7 (AK 1 rfl ?_))
    refine BA 5 10 51 57 56 _ _ rfl rfl rfl rfl rfl rfl (fun h57 => by
      simp at h57
      have hw1 := h57.1
      have AMI : 0 < (ws ++ [wx]).length := by simp
      refine AJ 1 rfl ?_; refine sg rfl ((by exact AZ rfl rfl (by rfl))) ?_; refine sg rfl ((by exact CL rfl CD CU rfl rfl (by omega))) ?_; refine sg rfl ((by exact DU rfl CW rfl rfl (GS (fo := 0) (f := Bo) (d := []) (fun _ => rfl) (show 0 < (ws ++ [wx]).length by simp) rfl))) ?_; refine sg rfl (qc rfl rfl rfl ((fun w _ => PP (nth (ws ++ [wx]) 0 []) w (by rw [(R8 (d := []) (by simpa using hw1)).2]; omega)))) ?_; exact Ao rfl
     ) (AM rfl) rfl rfl rfl ?_
    refine Hb (AC 1 rfl (Gp (t := 58) rfl (fun Ik => ?_) (fun Ik => ?_)))
    ·have hq := AIP Ik
     have AMI : 0 < (ws ++ [wx]).length := by simp
     refine H9 (Be rfl rfl rfl rfl) rfl rfl (Gc rfl rfl) (ACr (Be rfl rfl rfl rfl) rfl rfl (Aa rfl rfl rfl Tryz.func52 (by kernel_rfl) rfl (fun w hw => Gv b s hs [40] p lv _ _ _ w _ rfl hp (AD (row b 58 (CO s lv p.next)) hw))) ?_ ?_)
     ·rintro _ Jx _ ⟨Br, rfl, ax, ex, Bs, rfl⟩; rw [if_pos hq, Ay Bs] at hR; refine AL (AL (Aj (AL (Aj (AL (Aj (?_)))))))
      exact Am fun w hw => .inr ⟨_, rfl, Jx, _, ⟨hL.trans Br, rfl, ax, ex, hR, rfl⟩, AA hw⟩
     rintro v60 J _ ⟨hJ, x60, p, lv, AAU, AIY, hp, ⟨rfl, hf, rfl⟩, rfl⟩
     have hL := hL.trans hJ
     refine lq rfl (E6 rfl rfl rfl rfl) (ln (AF rfl (fun Bd => ?_) (fun Bd => ?_)))
     ·have XK : C8 [40] (AP s p) = true := Bd
      rw [if_pos hq, AY AAU, if_pos XK] at hR; refine tr (AC 1 rfl (Bw rfl rfl rfl rfl (fun w hw => Bv b s hs p lv _ _ _ w hf hp (AD (row b 58 (CO s lv p.next)) hw)) ?_)); rintro _ J _ ⟨hJ, rfl, p, lv, AJR, APl, AHy, hp, rfl⟩
      have hL := hL.trans hJ
      rw [← AJR] at hR
      have EX := AHy (Bq XK)
      refine BQ (AC 1 rfl (B7 rfl rfl rfl (Aa rfl rfl rfl Tryz.func144 (by kernel_rfl) rfl (fun w hw => Gn b s hs [41] p lv _ _ _ w _ rfl hp (AD (row b 58 (CO s lv p.next)) hw))) ?_ ?_))
      ·rintro _ Jx _ ⟨Br, rfl, ax, ex, Bs, rfl⟩; rw [Ay Bs] at hR; refine AL (AL (Aj (AL (Aj (AL (Aj (?_)))))))
       exact Am fun w hw => .inr ⟨_, rfl, Jx, _, ⟨hL.trans Br, rfl, ax, ex, hR, rfl⟩, AA hw⟩
      rintro v65 J _ ⟨hJ, x65, p, lv, Xy, ACW, hp, rfl, rfl⟩
      have hL := hL.trans hJ
      rw [AY Xy] at hR; refine BQ (AC 1 rfl (B7 rfl rfl rfl (Aa rfl rfl rfl Tryz.func31 (by kernel_rfl) rfl (fun w hw => Cn b s hs p lv _ _ _ w _ rfl hp (AD (row b 58 (CO s lv p.next)) hw))) ?_ ?_))
      ·rintro _ Jx _ ⟨Br, rfl, ax, ex, Bs, rfl⟩; rw [Ay Bs] at hR; refine AL (AL (Aj (AL (Aj (AL (Aj (?_)))))))
       exact Am fun w hw => .inr ⟨_, rfl, Jx, _, ⟨hL.trans Br, rfl, ax, ex, hR, rfl⟩, AA hw⟩
      rintro v67 J _ ⟨hJ, x67, p, lv, AEP, AIo, hp, ⟨rfl, hf, Ic⟩, rfl⟩
      have hL := hL.trans hJ
      rw [AY AEP] at hR; refine BQ (AC 2 rfl ?_); refine lq rfl ((by exact AZ rfl rfl (by rfl))) ?_; refine lq rfl ((by exact CL rfl CD CU rfl rfl (by omega))) ?_; refine lq rfl ((by exact DU rfl CW rfl rfl (GS (fo := 0) (f := Bo) (d := []) (fun _ => rfl) (show 0 < (ws ++ [wx]).length by simp) rfl))) ?_; rw [show nth (ws ++ [wx]) 0 [] = wx by rw [hq.1]; rfl]; refine AC 1 rfl (lq rfl (AX rfl rfl rfl (by omega)) ?_); refine B7 rfl rfl rfl (Aa rfl rfl rfl Tryz.func154 (by kernel_rfl) rfl (fun w hw => (hG wx) p lv _ _ _ w _ rfl hp (AD (row b 58 (CO s lv p.next)) hw))) ?_ ?_
      ·rintro _ Jx _ ⟨Br, rfl, ax, ex, Bs, rfl⟩; rw [Bs] at hR; refine AL (AL (Aj (AL (Aj (AL (Aj (?_)))))))
       exact Am fun w hw => .inr ⟨_, rfl, Jx, _, ⟨hL.trans Br, rfl, ax, ex, hR, rfl⟩, AA hw⟩
      rintro v75 J _ ⟨hJ, x75, p, lv, AEG, AGx, hp, ⟨c75, rfl, AJs⟩, rfl⟩
      have hL := hL.trans hJ
      rw [AEG] at hR; refine An rfl rfl ((by exact AE rfl Ab rfl rfl rfl (by exact AJs.ones) rfl)) ?_; rintro _ _ _ ⟨rfl, rfl⟩; refine AI (H' := row b4 26 (A2 c75) :: _) ?_ (fun _ h => h); refine ln (Aq (Ag (As (Ag (As (Ag (As (A3 (.inl rfl) rfl (by exact BK rfl BR Ab rfl rfl (BJ)) (fun w' hw => ?_))))))))); exact .inl ⟨_, rfl, J, _, ⟨hL, _, p, lv, hR, (by omega), hp, ⟨_, rfl, AJs⟩, rfl⟩, AA hw⟩
     ·have XK : ¬ C8 [40] (AP s p) = true := by rw [show C8 [40] (AP s p) = false from Bd]; simp
      refine Al (BB (CB rfl (AG (AQ ?_)))); rw [if_pos hq, AY AAU, if_neg XK] at hR
      skip
      refine Ak ((p, lv, J, v39, ws ++ [wx], rv, rs, g)) ?_ ?_ (AW) (AB rfl) (fun _ h => by dsimp only; exact AA h)
      ·dsimp only; exact ⟨hL, hp, by rw [List.length_append, List.length_singleton]; omega, by omega, by rw [hR, hq.1]; try rfl⟩
      ·dsimp only
       omega
    ·have hq := ADn Ik
     refine GT rfl rfl rfl rfl rfl rfl rfl (GT rfl rfl rfl rfl rfl rfl rfl (lq rfl (E6 rfl rfl rfl rfl) (ln (AF rfl (fun Cg => ?_) (fun Cg => ?_)))))
     ·cases Cg
     ·refine Al (BB (CB rfl (AG (AQ ?_)))); rw [if_neg hq] at hR; refine Ak ((p, lv, J, v39, ws ++ [wx], rv, rs, g)) ?_ ?_ (AW) (AB rfl) (fun _ h => by dsimp only; exact AA h)
      ·dsimp only; exact ⟨hL, hp, by rw [List.length_append, List.length_singleton]; omega, by omega, hR⟩
      ·dsimp only
       omega
  ·simp at BI
   have GO : ¬ (AP s p).kind = 1 := by omega
   rw [if_neg GO] at hR; refine Au (AV (Ai (AN (tr (AC 1 rfl ?_))))); refine lq rfl ((by exact AZ rfl rfl (by rfl))) ?_; refine lq rfl ((by exact Eq rfl CD rfl)) ?_; refine AC 1 rfl ?_; refine lq rfl ((by exact AZ rfl rfl (by rfl))) ?_; refine lq rfl ((by exact Eq rfl GX rfl)) ?_; refine lq rfl (AX rfl rfl rfl (by omega)) ?_; refine Ae rfl (AF rfl (fun C1 => ?_) (fun C1 => ?_))
   ·simp at C1
    rw [if_pos (AIW C1)] at hR; refine AH (AC 1 rfl (B7 rfl rfl rfl (Aa rfl rfl rfl Tryz.func34 (by kernel_rfl) rfl (fun w hw => Ds b s p lv hs _ _ _ w hf hp (AD (row b 58 (CO s lv p.next)) hw))) ?_ ?_))
    ·rintro _ Jx _ ⟨Br, rfl, rfl⟩; refine AL (Aj (AL (Aj (?_))))
     exact Am fun w hw => .inr ⟨_, rfl, Jx, _, ⟨hL.trans Br, rfl, _, _, hR, rfl⟩, AA hw⟩
    rintro _ _ _ ⟨⟩
   ·simp at C1
    rw [if_neg (fun h => C1 (by rw [h.1, h.2]; try rfl))] at hR; refine Al (AN (CG (f := Bo) (l := ws) wv (fun _ => rfl) (fun J1 Qm hw1 => ?_))); refine CG (f := BT) (l := rs) rv (fun _ => rfl) (fun J2 hJ2 hw2 => ?_)
    have Is : Bm J2 (.mk 1 false false [] ws rs []) ⟨1, false, false, [], wv, rv, AO⟩ := Bm.of (hw1.mono hJ2) hw2 DP A0.nil
    refine AH (lq rfl (Af rfl BR Ab rfl rfl rfl) (An rfl rfl ((by exact AE rfl Ab rfl rfl rfl (by exact Is.ones) rfl)) ?_)); rintro _ _ _ ⟨rfl, rfl⟩; refine ln (Aq (As (Ag (As (A3 (.inl rfl) rfl (by exact BK rfl BR Ab rfl rfl (BJ)) (fun w' hw => ?_)))))); exact .inl ⟨_, rfl, J2, _, ⟨(hL.trans Qm).trans hJ2, _, p, lv, hR, by omega, (hp.mono Qm).mono hJ2, ⟨_, rfl, Is⟩, rfl⟩, AA hw⟩
end Go.Tri

namespace Go.Tri
open Go.Proofs Go.RowKit
theorem VD (b : Nat) (s : List UInt8) (hs : s.length ≤ 65536) : ∀ n d : Nat, 25 - d = n → d ≤ 25 → D8 92 b s [.int .i64 (d : Int)] (Hr s n).1 Fy 1 ∧ ∀ m, n = m + 1 → D8 119 b s [.int .i64 (d : Int)] (Hr s (m + 1)).2 Fy 1
 | 0, d, h1, h2 => ⟨KF b s hs 0 d h1 h2 (fun m h => by cases h) (fun m h => by cases h), fun m h => by cases h⟩
 | m + 1, d, h1, h2 => by
  have hd : d ≤ 24 := by omega
  obtain ⟨i1, i2⟩ := VD b s hs m (d + 1) (by omega) (by omega)
  have hB : D8 143 b s [.int .i64 ((d : Int) + 1)] (MP s (IX s (LP s (Hr s m).1))) Fy 1 := Ui b s hs _ (d + 1) (Mf b s hs _ (d + 1) (JM b s hs _ (d + 1) i1))
  have hK : D8 119 b s [.int .i64 (d : Int)] (Hr s (m + 1)).2 Fy 1 := NE b s hs _ d hd hB (WA b s hs _ d hd hB) (Ts b s hs _ d hd hB) (R9 b s hs _ d hd hB)
  refine ⟨KF b s hs (m + 1) d h1 h2 (fun k hk => by cases hk; exact hK) (fun k hk => ?_), fun k hk => by cases hk; exact hK⟩
  cases hk
  exact QV b s hs _ d hd (fun name => N1 b s hs name m (d + 1) (by omega) (by omega) i2)
theorem Q2 (b : Nat) (s : List UInt8) (hs : s.length ≤ 65536) : D8 33 b s [.int .i64 0] (PF s (V7 s 25)) ACp 1 :=
 OQ b s hs _ 0 (Mf b s hs _ 0 (JM b s hs _ 0 (VD b s hs 25 0 rfl (by omega)).1))
end Go.Tri

namespace Go.Tri
open Go.Proofs Go.RowKit
set_option maxRecDepth 10000
def AIb : AU → PS → Option Nd → Value → Prop := fun I _ x v => ∃ c, v = .tuple #[.agg (A2 c).toArray, .bool x.isSome] ∧ match x with
 | none => c = DB
 | some n => Bm I n c
theorem PX {p : PS} {t : CX} {r : List CX} (h : p.line = t :: r) : HR p = decide ((t.kind : Int) ≠ 3) := by
 unfold HR; rw [h]
 by_cases h3 : t.kind = 3 <;> simp [h3] <;> omega
theorem ACA {s : List UInt8} {p : PS} {b : Bool} : ((b && decide ((0 : Int) < (p.line.length : Int))) && decide (((AP s p).kind : Int) ≠ 3)) = (b && HR p) := by
 cases hl : p.line with
 | nil =>
  unfold HR; rw [hl]
  simp
 | cons t r =>
  rw [PX hl, Db hl, Bool.and_assoc, decide_eq_true (show (0 : Int) < ((t :: r).length : Int) by rw [List.length_cons]; omega), Bool.true_and]
theorem ACn {s : List UInt8} {w0 : World} {I : AU} {H : List HA} {v u : Value} {p : PS} {j : Nat} (h : Sl I 5 v (p.line.map BZ)) (EZ : p.line ≠ []) (hu : (BZ (AP s p))[j]? = some u) : Rd w0 I H (GN v).block ((GN v).off + 0 * 5 + j) u := by
 obtain ⟨t, r, hl⟩ := Er EZ; rw [Db hl] at hu; exact AGu h hl hu
theorem Yf {p : PS} (h : p.line = []) : HR p = false := by
 unfold HR; rw [h]
theorem Q0 {l : List Nd} {p : PS} {t : CX} {r : List CX} (h : p.line = t :: r) : Eg l p = if t.kind = 3 then .ok (some (Ct l)) (BE p) else .bad t.pos 56 := by
 unfold Eg; rw [h]
theorem U2 {l : List Nd} {p : PS} (h : p.line = []) : Eg l p = .ok (some (Ct l)) p := by
 unfold Eg; rw [h]
theorem N9 (b : Nat) (s : List UInt8) (hs : s.length ≤ 65536) : D8 16 b s [] (DI s) AIb 0 := by
 intro p lv I F w0 w R hR hp CE
 have hL := Le.refl I
 obtain ⟨M, hM⟩ : ∃ M, M = Bp s p := ⟨_, rfl⟩; unfold DI at hR
 have Ox := FD hp.1
 refine enter Tryz.func16 rfl Tryz.ntmps16 rfl (CE.self) (tr (le rfl (Ah rfl Ab rfl) ?_)); rintro _ _ _ ⟨b2, rfl, rfl, rfl⟩; refine AI (H' := row b2 26 (A2 DB) :: _) ?_ (fun _ h => h); refine Ae rfl (tr (AC 1 rfl (B7 rfl rfl rfl (Aa rfl rfl rfl Tryz.func31 (by kernel_rfl) rfl (fun w hw => Cn b s hs p lv _ _ _ w _ rfl hp (AD (row b 58 (CO s lv p.next)) hw))) ?_ ?_)))
 ·rintro _ Jx _ ⟨Br, rfl, ax, ex, Bs, rfl⟩; rw [Ay Bs] at hR; refine AL (?_)
  exact Am fun w hw => .inr ⟨_, rfl, Jx, _, ⟨hL.trans Br, rfl, ax, ex, hR, rfl⟩, AA hw⟩
 rintro v9 J _ ⟨hJ, x9, p, lv, OY, Nz, hp, ⟨rfl, hf, Ic⟩, rfl⟩
 have hL := hL.trans hJ
 rw [AY OY] at hR; refine K6 (AC 1 rfl (B7 rfl rfl rfl (Aa rfl rfl rfl Tryz.func32 (by kernel_rfl) rfl (fun w hw => C5 b s hs p lv _ _ _ w _ rfl hp (AD (row b 58 (CO s lv p.next)) hw))) ?_ ?_))
 ·rintro _ Jx _ ⟨Br, rfl, ax, ex, Bs, rfl⟩; rw [Ay Bs] at hR; refine AL (AL (?_))
  exact Am fun w hw => .inr ⟨_, rfl, Jx, _, ⟨hL.trans Br, rfl, ax, ex, hR, rfl⟩, AA hw⟩
 rintro v11 J _ ⟨hJ, x11, p, lv, Ze, ACx, hp, ⟨rfl, hf, rfl⟩, rfl⟩
 have hL := hL.trans hJ
 rw [AY Ze] at hR; refine lq rfl (DT rfl Cz rfl Li rfl rfl rfl) (Ae rfl (AF rfl (fun hc0 => ?_) (fun hc0 => ?_)))
 ·simp at hc0
  rw [if_pos (show (AP s p).kind = 0 by omega)] at hR; refine tr (lq rfl (A6 (pl := [(_, _), (_, _), (_, _), (_, _), (_, _), (_, _), (_, _)]) (cs := (A2 DB).toArray) rfl BR Ab ⟨rfl, ⟨_, _, B0⟩, rfl, ⟨_, _, De⟩, rfl, ⟨_, _, De⟩, rfl, ⟨_, _, CU⟩, rfl, ⟨_, _, EE⟩, rfl, ⟨_, _, El⟩, rfl, ⟨_, _, D6⟩, trivial⟩ rfl rfl) (An rfl rfl ((by exact AE rfl Ab rfl rfl rfl (by exact F8) rfl)) ?_)); rintro _ _ _ ⟨rfl, rfl⟩; refine AI (H' := row b2 26 (A2 DB) :: _) ?_ (fun _ h => h); refine Ae rfl (Aq (Ag (A3 (.inl rfl) rfl (by exact BK rfl BR Ab rfl rfl (Dc rfl (BJ))) (fun w' hw => ?_)))); exact .inl ⟨_, rfl, J, _, ⟨hL, none, p, lv, hR, by omega, hp, ⟨DB, rfl, rfl⟩, rfl⟩, AA hw⟩
 ·simp at hc0
  rw [if_neg (show ¬ (AP s p).kind = 0 by omega)] at hR; refine Al (Ar rfl (AN (Ar rfl (AR (A8 (ι := PS × Value × AU × Value × List NC × List Nd × Nat × Bool) (fun zz => Le I zz.2.2.1 ∧ J7 s zz.1 zz.2.1 zz.2.2.1 ∧ A0 zz.2.2.1 zz.2.2.2.2.2.1 zz.2.2.2.2.1 ∧ Bp s zz.1 + zz.2.2.2.2.2.1.length ≤ M ∧ (zz.2.2.2.2.2.2.2 = true → Bp s zz.1 < zz.2.2.2.2.2.2.1 ∧ R = Je s zz.2.2.2.2.2.2.1 zz.2.2.2.2.2.1 zz.1) ∧ (zz.2.2.2.2.2.2.2 = false → R = Eg zz.2.2.2.2.2.1 zz.1)) (fun zz => (if zz.2.2.2.2.2.2.2 then Bp s zz.1 + 1 else 0)) (fun zz => [(4, zz.2.2.2.1), (5, .bool zz.2.2.2.2.2.2.2)]) [(0, _), (2, _), (3, _), (13, _)] (fun zz => zz.2.2.1) (fun zz => (BO 26 7 A2 zz.2.2.2.1 zz.2.2.2.2.1 :: row b2 26 (A2 DB) :: row b 58 (CO s zz.2.1 zz.1.next) :: F)) (p, lv, J, .slice none 0 0, [], [], Bp s p + 1, true) ?_ (AB rfl) (AB rfl) (fun _ h => by dsimp only; exact AA (CS 26 7 A2 h)) ?_)))))
  ·dsimp only; exact ⟨hL, hp, A0.nil, by simp only [List.length_nil]; omega, fun _ => ⟨Nat.lt_succ_self _, hR⟩, fun h => by cases h⟩
  rintro ⟨p, lv, J, v, cs, l, g, mo⟩ ⟨hL, hp, CV, I4, Vz, hmf⟩; dsimp only at *
  have EP := CV.len
  refine AN (Ar rfl (AF rfl (fun BI => ?_) (fun BI => ?_)))
  ·subst BI; obtain ⟨hg, hR⟩ := Vz rfl; obtain ⟨g, rfl⟩ : ∃ g', g = g' + 1 := ⟨g - 1, by omega⟩; rw [Je] at hR; refine Al (AR (tr (AC 1 rfl (B7 rfl rfl rfl (Aa rfl rfl rfl Tryz.func33 (by kernel_rfl) rfl (fun w hw => Q2 b s hs p lv _ _ _ w _ rfl hp (AD (row b 58 (CO s lv p.next)) hw))) ?_ ?_))))
   ·rintro _ Jx _ ⟨Br, rfl, ax, ex, Bs, rfl⟩; rw [Ay Bs] at hR; refine AL (Aj (AL (Aj (AL (?_)))))
    exact Am fun w hw => .inr ⟨_, rfl, Jx, _, ⟨hL.trans Br, rfl, ax, ex, hR, rfl⟩, AA hw⟩
   rintro v18 J _ ⟨hJ, x18, p, lv, Td, XY, hp, ⟨c18, rfl, V9⟩, rfl⟩
   have hL := hL.trans hJ
   rw [AY Td] at hR
   have CV := CV.mono hJ
   refine AC 3 rfl (le rfl (Ah rfl Ab rfl) ?_); rintro _ _ _ ⟨b6, rfl, rfl, rfl⟩; refine An rfl rfl ((by exact AE rfl Ab rfl rfl rfl (by exact V9.ones) rfl)) ?_; rintro _ _ _ ⟨rfl, rfl⟩; refine AI (H' := row b6 26 (A2 c18) :: _) ?_ (fun _ h => h); refine Ae rfl (tr (AC 1 rfl (lq rfl (Af rfl BR Ab rfl rfl rfl) (le rfl (AS rfl CJ Ab rfl rfl rfl (by rfl) rfl) ?_)))); rintro _ _ _ ⟨b23, rfl, rfl, rfl⟩; refine le rfl (Ba (f := A2) (c := c18) rfl CJ Ab rfl rfl rfl rfl rfl rfl rfl (by exact V9.ones) (by simp only [maxLen]; omega) (by omega)) ?_; rintro v24 _ _ ⟨rfl, rfl⟩; refine FV v24 (fun Df => ?_); refine Ae rfl (Dw (AK 2 rfl ?_))
   refine BA 6 1 26 33 32 _ _ rfl rfl rfl rfl rfl rfl (fun h33 => by
     refine AJ 3 rfl (sg rfl ((by exact AZ rfl rfl (by rfl))) ?_); refine sg rfl ((by exact CN rfl Dx rfl (Sl.lenOf hp.2.2 (List.length_map _)))) ?_; refine AJ 1 rfl ?_; exact Ao rfl
    ) (AM rfl) rfl rfl rfl ?_
   refine AK 1 rfl ?_
   refine BA 8 9 34 43 42 _ _ rfl rfl rfl rfl rfl rfl (fun h43 => by
     simp at h43
     have EZ : p.line ≠ [] := fun h => by rw [h] at h43; simp at h43
     have Gw := List.length_pos_iff.2 EZ
     refine AJ 3 rfl (sg rfl ((by exact AZ rfl rfl (by rfl))) ?_); refine sg rfl ((by exact A5 rfl Dx BL rfl rfl (Sl.shape hp.2.2 (List.length_map _)) (by omega))) ?_; refine AJ 1 rfl (sg rfl ((by exact B1 rfl rfl (ACn (s := s) hp.2.2 EZ rfl))) ?_); refine AJ 1 rfl ?_; exact Ao rfl
    ) (AM rfl) rfl rfl rfl ?_
   refine AK 1 rfl (NN (AV (Ak ((p, lv, J, v24, cs ++ [c18], l ++ [x18.1], g, x18.2 && HR p)) ?_ ?_ (FI rfl (Bl rfl (congrArg Value.bool (ACA)) (AW))) (AB rfl) (fun _ h => by dsimp only; exact AA h))))
   ·dsimp only; refine ⟨hL, hp, A0.snoc V9 CV, by rw [List.length_append, List.length_singleton]; omega, fun h => ⟨by omega, by rw [hR, if_pos h]⟩, fun h => by rw [hR, if_neg (by rw [h]; simp)]⟩
   ·dsimp only; rw [if_pos rfl]
    split <;> omega
  ·subst BI
   have hR := hmf rfl
   refine BB (AG (AG (AQ (Ai (AN (tr (AC 3 rfl (lq rfl ((by exact AZ rfl rfl (by rfl))) ?_)))))))); refine lq rfl ((by exact CN rfl Dx rfl (Sl.lenOf hp.2.2 (List.length_map _)))) ?_; refine Ae rfl (AF rfl (fun BU => ?_) (fun BU => ?_))
   ·obtain ⟨t0, r0, Jj⟩ := Er (p := p) (fun h => by have h9 := BU; rw [h] at h9; simp at h9)
    have hh := Db (s := s) Jj
    have Gw : 0 < p.line.length := List.length_pos_iff.2 (by rw [Jj]; simp)
    have EZ := List.length_pos_iff.1 Gw
    have hf : CH s p := fun h => by rw [Jj] at h; cases h.1
    rw [Q0 Jj, ← hh] at hR; refine AN (tr (AC 3 rfl (lq rfl ((by exact AZ rfl rfl (by rfl))) ?_))); refine lq rfl ((by exact A5 rfl Dx BL rfl rfl (Sl.shape hp.2.2 (List.length_map _)) (by omega))) ?_; refine AC 1 rfl (lq rfl ((by exact B1 rfl rfl (ACn (s := s) hp.2.2 EZ rfl))) ?_); refine Ae rfl (AF rfl (fun Bd => ?_) (fun Bd => ?_))
    ·simp at Bd
     rw [if_neg (show ¬ (AP s p).kind = 3 by omega)] at hR; refine AH (AC 1 rfl (B7 rfl rfl rfl (Aa rfl rfl rfl Tryz.func34 (by kernel_rfl) rfl (fun w hw => Ds b s p lv hs _ _ _ w hf hp (AD (row b 58 (CO s lv p.next)) hw))) ?_ ?_))
     ·rintro _ Jx _ ⟨Br, rfl, rfl⟩; refine AL (AL (?_))
      exact Am fun w hw => .inr ⟨_, rfl, Jx, _, ⟨hL.trans Br, rfl, _, _, hR, rfl⟩, AA hw⟩
     rintro _ _ _ ⟨⟩
    ·simp at Bd
     have Ic : (AP s p).kind = 3 := by omega
     rw [if_pos Ic] at hR; refine Al (AH (AC 1 rfl (Bw rfl rfl rfl rfl (fun w hw => Bv b s hs p lv _ _ _ w hf hp (AD (row b 58 (CO s lv p.next)) hw)) ?_))); rintro _ J _ ⟨hJ, rfl, p, lv, AHA, APF, AHi, hp, rfl⟩
     have hL := hL.trans hJ
     rw [← AHA] at hR
     have EX := AHi (by omega)
     have CV := CV.mono hJ
     refine Gb (CG (f := A2) (l := cs) v (fun _ => rfl) (fun Jf B4 Ck => ?_)); refine AH (AC 1 rfl (lq rfl (qc rfl rfl rfl ((fun w hw => Ih v cs w (by omega) (K0 CV) (Ck.mono hw.le)))) ?_)); refine An rfl rfl ((by exact AE rfl Ab rfl rfl rfl (by exact (Fu Ck (CV.mono B4)).ones) rfl)) ?_; rintro _ _ _ ⟨rfl, rfl⟩; refine AI (H' := row b2 26 (A2 (WI v cs)) :: _) ?_ (fun _ h => h); refine Ae rfl (Aq (A3 (.inl rfl) rfl (by exact BK rfl BR Ab rfl rfl (Dc rfl (BJ))) (fun w' hw => ?_))); exact .inl ⟨_, rfl, Jf, _, ⟨hL.trans B4, some (Ct l), p, lv, hR, by omega, hp.mono B4, ⟨_, rfl, Fu Ck (CV.mono B4)⟩, rfl⟩, AA hw⟩
   ·have Ml : p.line = [] := List.length_eq_zero_iff.1 (by have h9 := BU; simp only [decide_eq_false_iff_not] at h9; omega)
    rw [U2 Ml] at hR; refine Al (AN (CG (f := A2) (l := cs) v (fun _ => rfl) (fun Jf B4 Ck => ?_))); refine AH (AC 1 rfl (lq rfl (qc rfl rfl rfl ((fun w hw => Ih v cs w (by omega) (K0 CV) (Ck.mono hw.le)))) ?_)); refine An rfl rfl ((by exact AE rfl Ab rfl rfl rfl (by exact (Fu Ck (CV.mono B4)).ones) rfl)) ?_; rintro _ _ _ ⟨rfl, rfl⟩; refine AI (H' := row b2 26 (A2 (WI v cs)) :: _) ?_ (fun _ h => h); refine Ae rfl (Aq (A3 (.inl rfl) rfl (by exact BK rfl BR Ab rfl rfl (Dc rfl (BJ))) (fun w' hw => ?_))); exact .inl ⟨_, rfl, Jf, _, ⟨hL.trans B4, some (Ct l), p, lv, hR, by omega, hp.mono B4, ⟨_, rfl, Fu Ck (CV.mono B4)⟩, rfl⟩, AA hw⟩
end Go.Tri

namespace Go.Tri
open Go.Proofs Go.RowKit
set_option maxRecDepth 10000
def W8 (s : List UInt8) (a : Int) (I : AU) (F : List HA) (v : Value) (I' : AU) (H' : List HA) : Prop :=
 Le I I' ∧ F = H' ∧ ∃ c, v = .tuple #[.agg (A2 c).toArray, .bool (CM s a).ok, .int .i64 ((CM s a).next : Int), .int .i64 ((CM s a).place : Int), .int .i64 ((CM s a).err : Int)] ∧ Bm I' (CM s a).node c
theorem Qd {I : AU} : Bm I KK DB := Bm.kids DP A0.nil
theorem AAB {s : List UInt8} {n : Nat} {x : Option Nd} {q : PS} (h1 : s.length ≤ 65536) (h2 : n ≤ s.length) (h : DI s ⟨[], n⟩ = .ok x q) : CM s n = ⟨x.getD KK, x.isSome, q.next, 0, 0⟩ := by
 unfold CM; rw [if_neg (by omega), if_neg (by omega), Int.toNat_natCast, h]
 cases x <;> rfl
theorem W2 {s : List UInt8} {n a e : Nat} (h1 : s.length ≤ 65536) (h2 : n ≤ s.length) (h : DI s ⟨[], n⟩ = .bad a e) : CM s n = ⟨KK, false, 0, a, e⟩ := by
 unfold CM; rw [if_neg (by omega), if_neg (by omega), Int.toNat_natCast, h]
theorem Pi {I : AU} {x : Option Nd} {c : NC} (h : match x with | none => c = DB | some n => Bm I n c) : ∀ u ∈ A2 c, u.oneCell' = true := by
 cases x with
 | none => exact h ▸ F8
 | some n => exact Bm.ones h
theorem AAn {I : AU} {x : Option Nd} {c : NC} (h : match x with | none => c = DB | some n => Bm I n c) : Bm I (x.getD KK) c := by
 cases x with
 | none => exact h ▸ Qd
 | some n => exact h
theorem UF (args : List Value) (ha : args.length = 5) (w : World) :
  CallsDIn (WF none) 0 Tryz.prog 15 args.toArray .returning w (fun e u' w' => e = .returned (.tuple #[]) ∧ u' = .returning ∧ w' = w) := by
 refine callsDIn_of_wpSIn Tryz.func15 rfl trivial fun c₀ cs hu => ?_
 apply wpSIn_seq
 apply wpSIn_region
 simp [wpOpsSIn, go_sem, recoverD, hu, Tryz.ntmps15, Exit.thenS]
 apply wpSIn_seq
 apply wpSIn_region
 simp [wpOpsSIn, go_sem, Exit.thenS, ha]
 refine wpSIn_cond (t := false) (by simp [Act.eval, Array.replicate, ha]) ?_; simp only [Bool.false_eq_true, if_false]; refine wpSIn_of_wpIn rfl (wpIn_skip ?_)
 cases c₀
 simp_all [bodyPostS, results, Tryz.results15]
def YG (r4 r5 r6 r7 r8 : Nat) (F : List HA) (a e : Nat) (I I' : AU) (H' : List HA) (vs : List Value) : Prop := I' = I ∧ H' = row r4 26 (A2 DB) :: row r5 4 [.bool false] :: row r6 3 [.int .i64 0] :: row r7 3 [.int .i64 (a : Int)] :: row r8 29 [.int .i64 (e : Int)] :: F ∧ vs = [.agg (A2 DB).toArray, .bool false, .int .i64 0, .int .i64 (a : Int), .int .i64 (e : Int)]
def AFE (r4 r5 r6 r7 r8 : Nat) (F : List HA) (a e : Nat) (I : AU) (w0 : World) (e' : Ending) (u' : FrameMode) (w' : World) : Prop := e' = .returned (.tuple #[]) ∧ settle u' = .returning ∧ ∃ I' H' vs, YG r4 r5 r6 r7 r8 F a e I I' H' vs ∧ St w0 I' H' w'
theorem WC {a e : Nat} : ∀ u ∈ [Value.int .i64 (a : Int), Value.int .i64 (e : Int)], u.oneCell' = true := fun u hu => by
 simp only [List.mem_cons, List.not_mem_nil, or_false] at hu
 rcases hu with rfl | rfl <;> rfl
theorem Sp (r4 r5 r6 r7 r8 a e : Nat) (w0 w : World) (I : AU) (F : List HA) (CE : St w0 I (row r4 26 (A2 DB) :: row r5 4 [.bool false] :: row r6 3 [.int .i64 0] :: row r7 3 [.int .i64 0] :: row r8 29 [.int .i64 0] :: F) w) : CallsDIn (WF none) 0 Tryz.prog 15 ([FK r4, FK r5, FK r6, FK r7, FK r8] : List Value).toArray (.panicking (chn (TO a e))) w (AFE r4 r5 r6 r7 r8 F a e I w0) := by
 obtain ⟨args, Vd⟩ : ∃ args : List Value, args = [FK r4, FK r5, FK r6, FK r7, FK r8] := ⟨_, rfl⟩
 have ha : args.length = 5 := by rw [Vd]; try rfl
 rw [← Vd]
 refine callsDIn_of_wpSIn Tryz.func15 rfl trivial fun c₀ cs hu => ?_
 apply wpSIn_seq
 apply wpSIn_region
 simp [wpOpsSIn, go_sem, recoverD, hu, chn, Tryz.ntmps15, Exit.thenS, ha]
 refine wpSIn_of_wpIn rfl ?_; refine (?_ : T ⟨Tryz.prog, none, 24, w0⟩ _ ((5, TO a e) :: Rb 0 args) I (row r4 26 (A2 DB) :: row r5 4 [.bool false] :: row r6 3 [.int .i64 0] :: row r7 3 [.int .i64 0] :: row r8 29 [.int .i64 0] :: F) [] _) _ _ (ABG ha) rfl CE; subst Vd
 have ARB : Ss (TO a e) true := .inr ⟨rfl, _, _, rfl⟩
 refine tr (AC 1 rfl (lq rfl (OK rfl (by kernel_rfl) rfl (by assumption)) ?_)); refine ln (AF rfl (fun hc0 => ?_) (fun hc0 => ?_))
 ·refine tr (AC 1 rfl (lq rfl (Z3 rfl Pt rfl rfl) (AC 3 rfl (le rfl (Ah rfl W4 rfl) ?_)))); rintro _ _ _ ⟨b6, rfl, rfl, rfl⟩
  skip
  refine An rfl rfl ((by exact AE rfl W4 rfl rfl rfl (by exact WC) rfl)) ?_; rintro _ _ _ ⟨rfl, rfl⟩; refine AI (H' := row b6 53 [.int .i64 (a : Int), .int .i64 (e : Int)] :: _) ?_ (fun _ h => h); refine Ae rfl (AN (Ar rfl (AF rfl (fun BI => ?_) (fun BI => ?_))))
  ·cases BI
  ·refine Al (DH [5, 6, 7, 8, 9] [] [row b6 53 [.int .i64 (a : Int), .int .i64 (e : Int)]] mo (by kernel_rfl) (fun _ _ _ _ _ h => h) (IC 0 (by kernel_rfl) rfl rfl (A6 (pl := [(_, _), (_, _), (_, _), (_, _), (_, _), (_, _), (_, _)]) (cs := (A2 DB).toArray) rfl BR Ab ⟨rfl, ⟨_, _, B0⟩, rfl, ⟨_, _, De⟩, rfl, ⟨_, _, De⟩, rfl, ⟨_, _, CU⟩, rfl, ⟨_, _, EE⟩, rfl, ⟨_, _, El⟩, rfl, ⟨_, _, D6⟩, trivial⟩ rfl rfl) (Bg [1] (by kernel_rfl) rfl rfl rfl (Ko 2 (by kernel_rfl) rfl (Le.refl _) rfl (fun _ hI => AZ rfl rfl (by rfl)) ?_)))); refine Bg [3] (by kernel_rfl) rfl rfl rfl (Ko 4 (by kernel_rfl) rfl (Le.refl _) rfl (fun _ hI => AZ rfl rfl (by rfl)) ?_); refine Eu 5 (by kernel_rfl) (by kernel_rfl) rfl (Le.refl _) rfl rfl ((by exact AE rfl Ab rfl rfl rfl (by exact F8) rfl)) ?_; rintro _ _ _ ⟨rfl, rfl⟩; refine ⟨Le.refl _, .inr CY.sub, ?_⟩; refine Eu 6 (by kernel_rfl) (by kernel_rfl) rfl (Le.refl _) rfl rfl (Ac rfl De rfl rfl (by exact ⟨rfl, rfl⟩) rfl (by (simp only [List.set_cons_zero]; try rfl))) ?_; rintro _ _ _ ⟨rfl, rfl⟩; refine ⟨Le.refl _, .inr CY.sub, ?_⟩; refine Eu 7 (by kernel_rfl) (by kernel_rfl) rfl (Le.refl _) rfl rfl (Ac rfl B0 rfl rfl (by exact ⟨rfl, rfl⟩) rfl (by (simp only [List.set_cons_zero]; try rfl))) ?_; rintro _ _ _ ⟨rfl, rfl⟩; refine ⟨Le.refl _, .inr CY.sub, ?_⟩
   refine Eu 8 (by kernel_rfl) (by kernel_rfl) rfl (Le.refl _) rfl rfl (Ac rfl B0 rfl rfl (by exact ⟨rfl, rfl⟩) rfl (by (simp only [List.set_cons_zero]; try rfl))) ?_; rintro _ _ _ ⟨rfl, rfl⟩; refine ⟨Le.refl _, .inr CY.sub, ?_⟩; refine Eu 9 (by kernel_rfl) (by kernel_rfl) rfl (Le.refl _) rfl rfl (Ac rfl Mp rfl rfl (by exact ⟨rfl, rfl⟩) rfl (by (simp only [List.set_cons_zero]; try rfl))) ?_; rintro _ _ _ ⟨rfl, rfl⟩; refine ⟨Le.refl _, .inr CY.sub, ?_⟩; refine D3 (by kernel_rfl) (fun a1 w1 En hd1 hw => Z4 (fn := Tryz.f15) rfl (.inr rfl) hd1 ?_); exact ⟨rfl, rfl, I, _, _, ⟨rfl, rfl, rfl⟩, AA hw⟩
 ·cases hc0
theorem JE (s : List UInt8) (hs : s.length ≤ 1048576) (a : Int) (I : AU) (F : List HA) (w0 w : World) (hG : FC I) (CE : St w0 I F w) : Calls Tryz.prog 8 (#[Bj s, .int .i64 a]) w (fun e w' => ∃ v, e = .returned v ∧ ∃ I' H', W8 s a I F v I' H' ∧ St w I' H' w') := by
 refine ZR (args := [Bj s, .int .i64 a]) Tryz.func8 rfl Tryz.ntmps8 rfl (CE.self) (tr (le rfl (Ah rfl Ab rfl) ?_)); rintro _ _ _ ⟨b4, rfl, rfl, rfl⟩; refine AI (H' := row b4 26 (A2 DB) :: _) ?_ (fun _ h => h); refine le rfl (Ah rfl De rfl) ?_; rintro _ _ _ ⟨b5, rfl, rfl, rfl⟩; refine le rfl (Ah rfl B0 rfl) ?_; rintro _ _ _ ⟨b6, rfl, rfl, rfl⟩; refine le rfl (Ah rfl B0 rfl) ?_; rintro _ _ _ ⟨b7, rfl, rfl, rfl⟩; refine le rfl (Ah rfl Mp rfl) ?_; rintro _ _ _ ⟨b8, rfl, rfl, rfl⟩; refine Gb (AR (tr (AC 1 rfl (lq rfl (Ap rfl CW rfl) (Ae rfl (AF rfl (fun hc0 => ?_) (fun hc0 => ?_)))))))
 ·have h6 := of_decide_eq_true hc0
  refine tr (lq rfl (A6 (pl := [(_, _), (_, _), (_, _), (_, _), (_, _), (_, _), (_, _)]) (cs := (A2 DB).toArray) rfl BR Ab ⟨rfl, ⟨_, _, B0⟩, rfl, ⟨_, _, De⟩, rfl, ⟨_, _, De⟩, rfl, ⟨_, _, CU⟩, rfl, ⟨_, _, EE⟩, rfl, ⟨_, _, El⟩, rfl, ⟨_, _, D6⟩, trivial⟩ rfl rfl) (An rfl rfl ((by exact AE rfl Ab rfl rfl rfl (by exact F8) rfl)) ?_)); rintro _ _ _ ⟨rfl, rfl⟩; refine AI (H' := row b4 26 (A2 DB) :: _) ?_ (fun _ h => h); refine An rfl rfl (Ac rfl De rfl rfl (by exact ⟨rfl, rfl⟩) rfl (by (simp only [List.set_cons_zero]; try rfl))) ?_; rintro _ _ _ ⟨rfl, rfl⟩; refine An rfl rfl (Ac rfl B0 rfl rfl (by exact ⟨rfl, rfl⟩) rfl (by (simp only [List.set_cons_zero]; try rfl))) ?_; rintro _ _ _ ⟨rfl, rfl⟩; refine An rfl rfl (Ac rfl B0 rfl rfl (by exact ⟨rfl, rfl⟩) rfl (by (simp only [List.set_cons_zero]; try rfl))) ?_; rintro _ _ _ ⟨rfl, rfl⟩; refine An rfl rfl (Ac rfl Mp rfl rfl (by exact ⟨rfl, rfl⟩) rfl (by (simp only [List.set_cons_zero]; try rfl))) ?_; rintro _ _ _ ⟨rfl, rfl⟩; refine ln (Aq (As (Ag (Sm (bs := []) (.inl rfl) rfl (by exact BK rfl BR Ab rfl rfl (EB rfl un4 rfl (by exact EA rfl) (EB rfl Li rfl (by exact EA rfl) (EB rfl Li rfl (by exact EA rfl) (EB rfl ACH rfl (by exact EA rfl) (BJ)))))) (fun w' hw => ?_)))))
  have YD : CM s a = ⟨KK, false, 0, 0, 50⟩ := if_pos (by omega)
  exact ⟨_, rfl, I, _, ⟨Le.refl _, rfl, DB, by rw [YD]; rfl, by rw [YD]; exact Qd⟩, AA hw⟩
 ·have Ho : s.length ≤ 65536 := by have := of_decide_eq_false hc0; omega
  refine tq (AK 3 rfl ?_)
  refine Bf 4 2 18 23 22 _ _ rfl rfl rfl rfl rfl rfl (fun h23 => by
    simp at h23
    refine AJ 2 rfl (sg rfl (Ap rfl CW rfl) (AJ 1 rfl ?_)); exact Ao rfl
   ) (AM rfl) rfl rfl rfl ?_
  refine AK 1 rfl (Cy (AF rfl (fun BI => ?_) (fun BI => ?_)))
  ·have h7 : a < 0 ∨ (s.length : Int) < a := by simpa using BI
   refine tr (lq rfl (A6 (pl := [(_, _), (_, _), (_, _), (_, _), (_, _), (_, _), (_, _)]) (cs := (A2 DB).toArray) rfl BR Ab ⟨rfl, ⟨_, _, B0⟩, rfl, ⟨_, _, De⟩, rfl, ⟨_, _, De⟩, rfl, ⟨_, _, CU⟩, rfl, ⟨_, _, EE⟩, rfl, ⟨_, _, El⟩, rfl, ⟨_, _, D6⟩, trivial⟩ rfl rfl) (An rfl rfl ((by exact AE rfl Ab rfl rfl rfl (by exact F8) rfl)) ?_)); rintro _ _ _ ⟨rfl, rfl⟩; refine AI (H' := row b4 26 (A2 DB) :: _) ?_ (fun _ h => h); refine An rfl rfl (Ac rfl De rfl rfl (by exact ⟨rfl, rfl⟩) rfl (by (simp only [List.set_cons_zero]; try rfl))) ?_; rintro _ _ _ ⟨rfl, rfl⟩; refine An rfl rfl (Ac rfl B0 rfl rfl (by exact ⟨rfl, rfl⟩) rfl (by (simp only [List.set_cons_zero]; try rfl))) ?_; rintro _ _ _ ⟨rfl, rfl⟩; refine An rfl rfl (Ac rfl B0 rfl rfl (by exact ⟨rfl, rfl⟩) rfl (by (simp only [List.set_cons_zero]; try rfl))) ?_; rintro _ _ _ ⟨rfl, rfl⟩; refine An rfl rfl (Ac rfl Mp rfl rfl (by exact ⟨rfl, rfl⟩) rfl (by (simp only [List.set_cons_zero]; try rfl))) ?_; rintro _ _ _ ⟨rfl, rfl⟩; refine ln (Aq (As (Ag (Sm (bs := []) (.inl rfl) rfl (by exact BK rfl BR Ab rfl rfl (EB rfl un4 rfl (by exact EA rfl) (EB rfl Li rfl (by exact EA rfl) (EB rfl Li rfl (by exact EA rfl) (EB rfl ACH rfl (by exact EA rfl) (BJ)))))) (fun w' hw => ?_)))))
   have YD : CM s a = ⟨KK, false, 0, 0, 73⟩ := by unfold CM; rw [if_neg (by omega), if_pos h7]
   exact ⟨_, rfl, I, _, ⟨Le.refl _, rfl, DB, by rw [YD]; rfl, by rw [YD]; exact Qd⟩, AA hw⟩
  ·have h7 : 0 ≤ a ∧ a ≤ (s.length : Int) := by simpa using BI
   obtain ⟨n, rfl⟩ : ∃ n : Nat, a = n := ⟨a.toNat, by omega⟩
   have hn : n ≤ s.length := by omega
   have WN : J7 s ⟨[], n⟩ AO I := ⟨⟨hn, fun t h => (by cases h), Nat.zero_le _⟩, hG, DP⟩
   refine Au (AV (Ai (tr (lq rfl (F3 rfl rfl rfl) (ABB rfl rfl rfl rfl rfl (BQ (AC 2 rfl (lq rfl (A6 (pl := [(_, _), (_, _), (_, _)]) (cs := (CO s AO n).toArray) rfl ANA ANq ⟨rfl, ⟨_, _, CU⟩, rfl, ⟨_, _, UM⟩, rfl, ⟨_, _, B0⟩, trivial⟩ rfl rfl) (le rfl (FE rfl rfl rfl) ?_))))))))); rintro _ _ _ ⟨b29, rfl, rfl, rfl⟩; refine AI (H' := row b29 58 (CO s AO n) :: _) ?_ (fun _ h => h); refine Ae rfl (tr (AC 1 rfl (B7 rfl rfl rfl (Aa rfl rfl rfl Tryz.func16 (by kernel_rfl) rfl (fun w hw => N9 b29 s Ho ⟨[], n⟩ AO _ _ _ w _ rfl WN (AD (row b29 58 (CO s AO n)) hw))) ?_ ?_)))
   ·rintro _ Jx _ ⟨Br, rfl, ax, ex, Bs, rfl⟩; refine AL (?_); refine AKx (f := 15) (fn := Tryz.f8) (ca := [FK b4, FK b5, FK b6, FK b7, FK b8]) (S := YG b4 b5 b6 b7 b8 F ax ex Jx) rfl Tryz.func15 (by kernel_rfl) rfl (fun w hw => Sp b4 b5 b6 b7 b8 ax ex _ w _ F (AA hw)) ?_ ?_
    ·rintro I' H' vs ⟨rfl, rfl, rfl⟩; exact BK rfl BR Ab rfl rfl (EB rfl un4 rfl (EA rfl) (EB rfl Li rfl (EA rfl) (EB rfl Li rfl (EA rfl) (EB rfl ACH rfl (EA rfl) BJ))))
    ·rintro I' H' vs w ⟨rfl, rfl, rfl⟩ hw
     have YD := W2 Ho hn Bs
     exact ⟨_, rfl, _, _, ⟨Br, rfl, DB, by rw [YD]; rfl, by rw [YD]; exact Qd⟩, AA hw⟩
   rintro v32 J _ ⟨hJ, x32, p, lv, Uu, Y0, hp, ⟨c32, rfl, AFT⟩, rfl⟩; refine AC 3 rfl (An rfl rfl ((by exact AE rfl Ab rfl rfl rfl (by exact Pi AFT) rfl)) ?_); rintro _ _ _ ⟨rfl, rfl⟩; refine AI (H' := row b4 26 (A2 c32) :: _) ?_ (fun _ h => h); refine An rfl rfl (Ac rfl De rfl rfl (by exact ⟨rfl, rfl⟩) rfl (by (simp only [List.set_cons_zero]; try rfl))) ?_; rintro _ _ _ ⟨rfl, rfl⟩; refine AI (H' := row b5 4 [.bool x32.isSome] :: _) ?_ (fun _ h => h); refine Gb (AJU (DH [6, 7, 8, 9, 10] [] [row b4 26 (A2 c32), row b5 4 [.bool x32.isSome], row b29 58 (CO s lv p.next)] mo (by kernel_rfl) (fun _ _ _ _ _ h => h) (IC 0 (by kernel_rfl) rfl rfl (Af rfl BR Ab rfl rfl rfl) ?_))); rw [show List.take 7 (List.drop 0 (A2 c32)) = A2 c32 from rfl]; refine Ko 1 (by kernel_rfl) rfl (Le.refl _) rfl (fun _ hI => AZ rfl rfl (by rfl)) ?_; refine Bg [2, 3, 4] (by kernel_rfl) rfl rfl rfl (Ko 5 (by kernel_rfl) rfl (Le.refl _) rfl (fun _ hI => AZ rfl rfl (by rfl)) ?_); refine Eu 6 (by kernel_rfl) (by kernel_rfl) rfl (Le.refl _) rfl rfl ((by exact AE rfl Ab rfl rfl rfl (by exact Pi AFT) rfl)) ?_; rintro _ _ _ ⟨rfl, rfl⟩; refine ⟨Le.refl _, .inr CY.sub, ?_⟩; refine Eu 7 (by kernel_rfl) (by kernel_rfl) rfl (Le.refl _) rfl rfl (Ac rfl De rfl rfl (by exact ⟨rfl, rfl⟩) rfl (by (simp only [List.set_cons_zero]; try rfl))) ?_; rintro _ _ _ ⟨rfl, rfl⟩; refine ⟨Le.refl _, .inr CY.sub, ?_⟩
   refine Eu 8 (by kernel_rfl) (by kernel_rfl) rfl (Le.refl _) rfl rfl (Ac rfl B0 rfl rfl (by exact ⟨rfl, rfl⟩) rfl (by (simp only [List.set_cons_zero]; try rfl))) ?_; rintro _ _ _ ⟨rfl, rfl⟩; refine ⟨Le.refl _, .inr CY.sub, ?_⟩; refine Eu 9 (by kernel_rfl) (by kernel_rfl) rfl (Le.refl _) rfl rfl (Ac rfl B0 rfl rfl (by exact ⟨rfl, rfl⟩) rfl (by (simp only [List.set_cons_zero]; try rfl))) ?_; rintro _ _ _ ⟨rfl, rfl⟩; refine ⟨Le.refl _, .inr CY.sub, ?_⟩; refine Eu 10 (by kernel_rfl) (by kernel_rfl) rfl (Le.refl _) rfl rfl (Ac rfl Mp rfl rfl (by exact ⟨rfl, rfl⟩) rfl (by (simp only [List.set_cons_zero]; try rfl))) ?_; rintro _ _ _ ⟨rfl, rfl⟩; refine ⟨Le.refl _, .inr CY.sub, ?_⟩; refine D3 (by kernel_rfl) (Ai (Aq (AEr (.inl rfl) rfl Tryz.func15 (by kernel_rfl) rfl (f := 15) (ca := [FK b4, FK b5, FK b6, FK b7, FK b8]) (fun w => UF _ rfl w) (by exact BK rfl BR Ab rfl rfl (EB rfl un4 rfl (by exact EA rfl) (EB rfl Li rfl (by exact EA rfl) (EB rfl Li rfl (by exact EA rfl) (EB rfl ACH rfl (by exact EA rfl) (BJ)))))) (fun w' hw => ?_))))
   have YD := AAB Ho hn Uu
   exact ⟨_, rfl, J, _, ⟨hJ, rfl, c32, by rw [YD]; rfl, by rw [YD]; exact AAn AFT⟩, AA hw⟩
end Go.Tri
