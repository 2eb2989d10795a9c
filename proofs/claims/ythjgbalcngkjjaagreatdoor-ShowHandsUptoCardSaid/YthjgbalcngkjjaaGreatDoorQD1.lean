/-
 The parser: if, functions.
-/
import Derived.Test.YthjgbalcngkjjaaGreatDoorQC7
namespace Go.Tri
open Go.Proofs Go.RowKit
set_option maxRecDepth 10000
theorem AEL {s : List UInt8} {p : PS} {a e : Nat} (n : Nat) (h : C4 s p = .bad a e) : (Hr s n).2 p = .bad a e := by
 cases n with
 | zero =>
  show Lc s p = _
  unfold Lc; rw [Ay h]
 | succ m => exact Sx h
theorem ABS {s : List UInt8} {p q : PS} {t : CX} {n : Nat} (hn : n = 0) (h : C4 s p = .ok t q) : (Hr s n).2 p = .bad t.pos 52 := by
 subst hn
 show Lc s p = _
 unfold Lc; rw [AY h]
theorem WA (b : Nat) (s : List UInt8) (hs : s.length ≤ 65536) (B : PS → CC Nd) (d : Nat) (hd : d ≤ 24) (hB : D8 143 b s [.int .i64 ((d : Int) + 1)] B Fy 1) : D8 146 b s [.int .i64 (d : Int)] (ifP s B) Fy 1 := by
 intro p lv I F w0 w R hR hp CE
 have hL := Le.refl I
 obtain ⟨M, hM⟩ : ∃ M, M = Bp s p := ⟨_, rfl⟩; unfold ifP at hR
 have Ox := FD hp.1
 rw [Hy] at hR; refine enter Tryz.func146 rfl Tryz.ntmps146 rfl (CE.self) (tr (le rfl (Ah rfl Ab rfl) ?_)); rintro _ _ _ ⟨b4, rfl, rfl, rfl⟩; refine AI (H' := row b4 26 (A2 DB) :: _) ?_ (fun _ h => h); refine BQ (lq rfl (A6 (pl := [(_, _), (_, _), (_, _), (_, _), (_, _), (_, _), (_, _)]) (cs := (A2 ⟨9, false, false, [], AO, AO, AO⟩).toArray) rfl BR Ab ⟨rfl, ⟨_, _, B0⟩, rfl, ⟨_, _, De⟩, rfl, ⟨_, _, De⟩, rfl, ⟨_, _, CU⟩, rfl, ⟨_, _, EE⟩, rfl, ⟨_, _, El⟩, rfl, ⟨_, _, D6⟩, trivial⟩ rfl rfl) (le rfl (Ah rfl Ab rfl) ?_)); rintro _ _ _ ⟨b5, rfl, rfl, rfl⟩; refine An rfl rfl ((by exact AE rfl Ab rfl rfl rfl (by exact Im B3) rfl)) ?_; rintro _ _ _ ⟨rfl, rfl⟩; refine AI (H' := row b5 26 (A2 ⟨9, false, false, [], AO, AO, AO⟩) :: _) ?_ (fun _ h => h)
 refine K6 (Ae rfl (AR (A8 (ι := PS × Value × AU × Value × List NC × List Nd × Nat × Bool) (fun zz => Le I zz.2.2.1 ∧ J7 s zz.1 zz.2.1 zz.2.2.1 ∧ A0 zz.2.2.1 zz.2.2.2.2.2.1 zz.2.2.2.2.1 ∧ Bp s zz.1 + zz.2.2.2.2.2.1.length ≤ M ∧ (zz.2.2.2.2.2.2.2 = true → Bp s zz.1 < zz.2.2.2.2.2.2.1 ∧ R = GP (ifN s B zz.2.2.2.2.2.2.1 zz.2.2.2.2.2.1 zz.1) (XL s B)) ∧ (zz.2.2.2.2.2.2.2 = false → R = GP (CC.ok zz.2.2.2.2.2.1 zz.1) (XL s B) ∧ CH s zz.1)) (fun zz => (if zz.2.2.2.2.2.2.2 then Bp s zz.1 + 1 else 0)) (fun zz => [(6, .bool zz.2.2.2.2.2.2.2)]) [(0, _), (1, _), (4, _), (5, _)] (fun zz => zz.2.2.1) (fun zz => (BO 26 7 A2 zz.2.2.2.1 zz.2.2.2.2.1 :: row b5 26 (A2 ⟨9, false, false, [], AO, AO, zz.2.2.2.1⟩) :: row b4 26 (A2 DB) :: row b 58 (CO s zz.2.1 zz.1.next) :: F)) (p, lv, I, AO, [], [], Bp s p + 1, true) ?_ (AB rfl) (AB rfl) (fun _ h => by dsimp only; exact AA (CS 26 7 A2 h)) ?_)))
 ·dsimp only; exact ⟨hL, hp, A0.nil, by simp only [List.length_nil]; omega, fun _ => ⟨Nat.lt_succ_self _, hR⟩, fun h => by cases h⟩
 rintro ⟨p, lv, J, v, cs, l, g, mo⟩ ⟨hL, hp, CV, I4, Vz, hmf⟩; dsimp only at *
 have EP := CV.len
 refine AN (Ar rfl (AF rfl (fun hc0 => ?_) (fun hc0 => ?_)))
 ·subst hc0; obtain ⟨hg, hR⟩ := Vz rfl; obtain ⟨g, rfl⟩ : ∃ g', g = g' + 1 := ⟨g - 1, by omega⟩; rw [ifN] at hR; refine Al (AN (AR (tr (AC 1 rfl (B7 rfl rfl rfl (Aa rfl rfl rfl Tryz.func35 (by kernel_rfl) rfl (fun w hw => Gs b s hs p lv _ _ _ w _ rfl hp (AD (row b 58 (CO s lv p.next)) hw))) ?_ ?_)))))
  ·rintro _ Jx _ ⟨Br, rfl, ax, ex, Bs, rfl⟩; rw [Ay Bs] at hR; refine AL (Aj (AL (AL (Aj (AL (?_))))))
   exact Am fun w hw => .inr ⟨_, rfl, Jx, _, ⟨hL.trans Br, rfl, ax, ex, hR, rfl⟩, AA hw⟩
  rintro v12 J _ ⟨hJ, x12, p, lv, ADt, AGD, hp, rfl, rfl⟩
  have hL := hL.trans hJ
  rw [AY ADt] at hR
  have CV := CV.mono hJ
  refine Gb (DH [5, 6, 7, 9] [9] [row b5 26 (A2 ⟨9, false, false, [], AO, AO, v⟩)] mo (by kernel_rfl) (fun _ _ _ _ _ h => h) (Bg [0] (by kernel_rfl) rfl rfl rfl (Ko 1 (by kernel_rfl) rfl (Le.refl _) rfl (fun _ hI => AZ rfl rfl (by rfl)) ?_))); refine Bg [2, 3] (by kernel_rfl) rfl rfl rfl (IC 4 (by kernel_rfl) rfl rfl (AX rfl rfl rfl (by omega)) ?_); refine QE 5 (by kernel_rfl) (by kernel_rfl) rfl (Le.refl _) rfl rfl rfl (Aa rfl rfl rfl Tryz.func143 (by kernel_rfl) rfl (fun w hw => hB p lv _ _ _ w _ rfl hp (AD (row b 58 (CO s lv p.next)) hw))) ?_ ?_
  ·rintro _ Jx _ ⟨Br, rfl, ax, ex, Bs, rfl⟩; rw [Ay Bs] at hR; refine AL (Aj (AL (AL (Aj (AL (?_))))))
   exact Am fun w hw => .inr ⟨_, rfl, Jx, _, ⟨hL.trans Br, rfl, ax, ex, hR, rfl⟩, AA hw⟩
  rintro v18 J _ ⟨hJ, x18, p, lv, Td, XY, hp, ⟨c18, rfl, V9⟩, rfl⟩; refine ⟨hJ, .inr CY.sub, ?_⟩
  have hL := hL.trans hJ
  rw [AY Td] at hR
  have CV := A0.snoc V9 (CV.mono hJ)
  have AOA : (cs ++ [c18]).length = cs.length + 1 := by simp
  refine re 6 (by kernel_rfl) rfl (hJ) rfl (AS rfl CJ Ab rfl rfl rfl (by rfl) rfl) ?_; rintro _ _ _ ⟨b19, rfl, rfl, rfl⟩; refine ⟨Le.refl _, .inr CY.sub, ?_⟩; refine re 7 (by kernel_rfl) rfl (hJ) rfl (Ba (f := A2) (c := c18) rfl CJ Ab rfl rfl rfl rfl rfl rfl rfl (by exact V9.ones) (by simp only [maxLen]; omega) (by omega)) ?_; rintro v20 _ _ ⟨rfl, rfl⟩; refine ⟨Le.refl _, .inr CY.sub, ?_⟩; refine Iz v20 (fun Df => ?_); refine Bg [8] (by kernel_rfl) rfl rfl rfl ?_; refine Eu 9 (by kernel_rfl) (by kernel_rfl) rfl (hJ) rfl rfl (Ac rfl D6 rfl rfl (by assumption) rfl (by rfl)) ?_; rintro _ _ _ ⟨rfl, rfl⟩; refine ⟨Le.refl _, .inl rfl, ?_⟩; refine ES (H' := row b5 26 (A2 ⟨9, false, false, [], AO, AO, v20⟩) :: _) ?_ (fun _ h => h); refine D3 (by kernel_rfl) (Ai (tr (AC 1 rfl (B7 rfl rfl rfl (Aa rfl rfl rfl Tryz.func145 (by kernel_rfl) rfl (fun w hw => DR b s hs [116, 104, 101, 110] p lv _ _ _ w _ rfl hp (AD (row b 58 (CO s lv p.next)) hw))) ?_ ?_))))
  ·rintro _ Jx _ ⟨Br, rfl, ax, ex, Bs, rfl⟩; rw [Ay Bs] at hR; refine AL (Aj (AL (AL (Aj (AL (?_))))))
   exact Am fun w hw => .inr ⟨_, rfl, Jx, _, ⟨hL.trans Br, rfl, ax, ex, hR, rfl⟩, AA hw⟩
  rintro v23 J _ ⟨hJ, x23, p, lv, AEI, AIp, hp, rfl, rfl⟩
  have hL := hL.trans hJ
  rw [AY AEI] at hR
  have CV := CV.mono hJ
  refine ln (DH [5, 6, 7, 9] [9] [row b5 26 (A2 ⟨9, false, false, [], AO, AO, v20⟩)] mo (by kernel_rfl) (fun _ _ _ _ _ h => h) (Bg [0] (by kernel_rfl) rfl rfl rfl (Ko 1 (by kernel_rfl) rfl (Le.refl _) rfl (fun _ hI => AZ rfl rfl (by rfl)) ?_))); refine Bg [2, 3] (by kernel_rfl) rfl rfl rfl (IC 4 (by kernel_rfl) rfl rfl (AX rfl rfl rfl (by omega)) ?_); refine QE 5 (by kernel_rfl) (by kernel_rfl) rfl (Le.refl _) rfl rfl rfl (Aa rfl rfl rfl Tryz.func143 (by kernel_rfl) rfl (fun w hw => hB p lv _ _ _ w _ rfl hp (AD (row b 58 (CO s lv p.next)) hw))) ?_ ?_
  ·rintro _ Jx _ ⟨Br, rfl, ax, ex, Bs, rfl⟩; rw [Ay Bs] at hR; refine Aj (AL (AL (Aj (AL (?_)))))
   exact Am fun w hw => .inr ⟨_, rfl, Jx, _, ⟨hL.trans Br, rfl, ax, ex, hR, rfl⟩, AA hw⟩
  rintro v29 J _ ⟨hJ, x29, p, lv, ADq, AIO, hp, ⟨c29, rfl, AId⟩, rfl⟩; refine ⟨hJ, .inr CY.sub, ?_⟩
  have hL := hL.trans hJ
  rw [AY ADq] at hR
  have CV := A0.snoc AId (CV.mono hJ)
  refine re 6 (by kernel_rfl) rfl (hJ) rfl (AS rfl CJ Ab rfl rfl rfl (by rfl) rfl) ?_; rintro _ _ _ ⟨b30, rfl, rfl, rfl⟩; refine ⟨Le.refl _, .inr CY.sub, ?_⟩; refine re 7 (by kernel_rfl) rfl (hJ) rfl (Ba (f := A2) (c := c29) rfl CJ Ab rfl rfl rfl rfl rfl rfl rfl (by exact AId.ones) (by simp only [maxLen]; omega) (by omega)) ?_; rintro v31 _ _ ⟨rfl, rfl⟩; refine ⟨Le.refl _, .inr CY.sub, ?_⟩; refine Iz v31 (fun Df => ?_); refine Bg [8] (by kernel_rfl) rfl rfl rfl ?_; refine Eu 9 (by kernel_rfl) (by kernel_rfl) rfl (hJ) rfl rfl (Ac rfl D6 rfl rfl (by assumption) rfl (by rfl)) ?_; rintro _ _ _ ⟨rfl, rfl⟩; refine ⟨Le.refl _, .inl rfl, ?_⟩; refine ES (H' := row b5 26 (A2 ⟨9, false, false, [], AO, AO, v31⟩) :: _) ?_ (fun _ h => h); refine D3 (by kernel_rfl) (AV (Ai (AH (AC 1 rfl (B7 rfl rfl rfl (Aa rfl rfl rfl Tryz.func91 (by kernel_rfl) rfl (fun w hw => L9 b s hs [101, 108, 105, 102] p lv _ _ _ w _ rfl hp (AD (row b 58 (CO s lv p.next)) hw))) ?_ ?_)))))
  ·rintro _ Jx _ ⟨Br, rfl, ax, ex, Bs, rfl⟩; rw [Ay Bs] at hR; refine AL (Aj (AL (?_)))
   exact Am fun w hw => .inr ⟨_, rfl, Jx, _, ⟨hL.trans Br, rfl, ax, ex, hR, rfl⟩, AA hw⟩
  rintro v10 J _ ⟨hJ, x10, p, lv, Hj, Mb, hp, ⟨rfl, hf, rfl⟩, rfl⟩
  have hL := hL.trans hJ
  rw [AY Hj] at hR
  have CV := CV.mono hJ
  refine Ax rfl (Ak ((p, lv, J, v31, cs ++ [c18] ++ [c29], l ++ [x18] ++ [x29], g, Bu [101, 108, 105, 102] (AP s p))) ?_ ?_ (AB rfl) (AB rfl) (fun _ h => by dsimp only; exact AA h))
  ·dsimp only; rw [List.append_assoc] at CV
   have hls : (l ++ [x18] ++ [x29]).length = l.length + 2 := by simp
   refine ⟨hL, hp, by rw [List.append_assoc]; exact CV, by omega, fun h => ⟨by omega, ?_⟩, fun h => ⟨?_, hf⟩⟩
   ·rw [hR, if_pos h, List.append_assoc]; try rfl
   ·rw [hR, if_neg (by rw [h]; simp), List.append_assoc]; try rfl
  ·dsimp only; rw [if_pos rfl]
   split <;> omega
 ·subst hc0; obtain ⟨hR, hf⟩ := hmf rfl; rw [show GP (CC.ok l p) (XL s B) = XL s B l p from rfl, XL, AY (CT hf)] at hR; refine BB (AG (AG (AQ (Ai (Bh (ι := PS × Value × AU × Value × List NC × List Nd) (fun zz => Le I zz.2.2.1 ∧ J7 s zz.1 zz.2.1 zz.2.2.1 ∧ A0 zz.2.2.1 zz.2.2.2.2.2 zz.2.2.2.2.1 ∧ Bp s zz.1 + zz.2.2.2.2.2.length ≤ M ∧ R = Cf (Ep s (Bu [102, 105])) (fun _ q => .ok (Ip 9 zz.2.2.2.2.2) q) zz.1) (fun zz => []) [(0, _), (1, _), (4, _), (5, _), (8, _)] (fun zz => zz.2.2.1) (fun zz => (BO 26 7 A2 zz.2.2.2.1 zz.2.2.2.2.1 :: row b5 26 (A2 ⟨9, false, false, [], AO, AO, zz.2.2.2.1⟩) :: row b4 26 (A2 DB) :: row b 58 (CO s zz.2.1 zz.1.next) :: F)) (AB rfl) ?_ ?_)))))
  ·refine tr (AC 1 rfl (lq rfl (qc rfl rfl rfl ((fun w hw => Ey b s [101, 108, 115, 101] p lv w hs hf hp.1 (Bn hw) (hp.2.2.mono hw.le)))) (ln (AF rfl (fun BI => ?_) (fun BI => ?_)))))
   ·have q2 : Bu [101, 108, 115, 101] (AP s p) = true := BI
    rw [if_pos q2] at hR; refine tr (AC 1 rfl (Bw rfl rfl rfl rfl (fun w hw => Bv b s hs p lv _ _ _ w hf hp (AD (row b 58 (CO s lv p.next)) hw)) ?_)); rintro _ J _ ⟨hJ, rfl, p, lv, AGr, AOb, AIX, hp, rfl⟩
    have hL := hL.trans hJ
    rw [← AGr] at hR
    have EX := AIX (Cc q2)
    have CV := CV.mono hJ
    refine ln (DH [5, 6, 7, 9] [9] [row b5 26 (A2 ⟨9, false, false, [], AO, AO, v⟩)] mo (by kernel_rfl) (fun _ _ _ _ _ h => h) (Bg [0] (by kernel_rfl) rfl rfl rfl (Ko 1 (by kernel_rfl) rfl (Le.refl _) rfl (fun _ hI => AZ rfl rfl (by rfl)) ?_))); refine Bg [2, 3] (by kernel_rfl) rfl rfl rfl (IC 4 (by kernel_rfl) rfl rfl (AX rfl rfl rfl (by omega)) ?_); refine QE 5 (by kernel_rfl) (by kernel_rfl) rfl (Le.refl _) rfl rfl rfl (Aa rfl rfl rfl Tryz.func143 (by kernel_rfl) rfl (fun w hw => hB p lv _ _ _ w _ rfl hp (AD (row b 58 (CO s lv p.next)) hw))) ?_ ?_
    ·rintro _ Jx _ ⟨Br, rfl, ax, ex, Bs, rfl⟩; rw [Ay Bs] at hR; refine AL (?_)
     exact Am fun w hw => .inr ⟨_, rfl, Jx, _, ⟨hL.trans Br, rfl, ax, ex, hR, rfl⟩, AA hw⟩
    rintro v42 J _ ⟨hJ, x42, p, lv, Yo, ACV, hp, ⟨c42, rfl, AAA⟩, rfl⟩; refine ⟨hJ, .inr CY.sub, ?_⟩
    have hL := hL.trans hJ
    rw [AY Yo] at hR
    have CV := A0.snoc AAA (CV.mono hJ)
    refine re 6 (by kernel_rfl) rfl (hJ) rfl (AS rfl CJ Ab rfl rfl rfl (by rfl) rfl) ?_; rintro _ _ _ ⟨b43, rfl, rfl, rfl⟩; refine ⟨Le.refl _, .inr CY.sub, ?_⟩; refine re 7 (by kernel_rfl) rfl (hJ) rfl (Ba (f := A2) (c := c42) rfl CJ Ab rfl rfl rfl rfl rfl rfl rfl (by exact AAA.ones) (by simp only [maxLen]; omega) (by omega)) ?_; rintro v44 _ _ ⟨rfl, rfl⟩; refine ⟨Le.refl _, .inr CY.sub, ?_⟩; refine Iz v44 (fun Df => ?_); refine Bg [8] (by kernel_rfl) rfl rfl rfl ?_; refine Eu 9 (by kernel_rfl) (by kernel_rfl) rfl (hJ) rfl rfl (Ac rfl D6 rfl rfl (by assumption) rfl (by rfl)) ?_; rintro _ _ _ ⟨rfl, rfl⟩; refine ⟨Le.refl _, .inl rfl, ?_⟩; refine ES (H' := row b5 26 (A2 ⟨9, false, false, [], AO, AO, v44⟩) :: _) ?_ (fun _ h => h); refine D3 (by kernel_rfl) (Av ((p, lv, J, v44, cs ++ [c42], l ++ [x42])) ?_ (AW) (AB rfl) (fun _ h => by dsimp only; exact AA h))
    ·dsimp only; exact ⟨hL, hp, CV, by rw [List.length_append, List.length_singleton]; omega, hR⟩
   ·have q2 : ¬ Bu [101, 108, 115, 101] (AP s p) = true := by rw [show Bu [101, 108, 115, 101] (AP s p) = false from BI]; simp
    rw [if_neg q2] at hR; refine Au (Av ((p, lv, J, v, cs, l)) ?_ (AW) (AB rfl) (fun _ h => by dsimp only; exact AA h))
    ·dsimp only; exact ⟨hL, hp, CV, I4, hR⟩
  rintro ⟨p, lv, J, v, cs, l⟩ ⟨hL, hp, CV, I4, hR⟩; dsimp only at *; refine tr (AC 1 rfl (B7 rfl rfl rfl (Aa rfl rfl rfl Tryz.func145 (by kernel_rfl) rfl (fun w hw => DR b s hs [102, 105] p lv _ _ _ w _ rfl hp (AD (row b 58 (CO s lv p.next)) hw))) ?_ ?_))
  ·rintro _ Jx _ ⟨Br, rfl, ax, ex, Bs, rfl⟩; rw [Ay Bs] at hR; refine AL (?_)
   exact Am fun w hw => .inr ⟨_, rfl, Jx, _, ⟨hL.trans Br, rfl, ax, ex, hR, rfl⟩, AA hw⟩
  rintro v47 J _ ⟨hJ, x47, p, lv, AEp, AGZ, hp, rfl, rfl⟩
  have hL := hL.trans hJ
  rw [AY AEp] at hR
  have CV := CV.mono hJ
  refine Gb (CG (f := A2) (l := cs) v (fun _ => rfl) (fun Jf B4 Ck => ?_))
  have Is : Bm Jf (Ip 9 l) ⟨9, false, false, [], AO, AO, v⟩ := Bm.kids Ck (CV.mono B4)
  refine AH (lq rfl (Af rfl BR Ab rfl rfl rfl) (An rfl rfl ((by exact AE rfl Ab rfl rfl rfl (by exact Is.ones) rfl)) ?_)); rintro _ _ _ ⟨rfl, rfl⟩; refine ln (Aq (A3 (.inl rfl) rfl (by exact BK rfl BR Ab rfl rfl (BJ)) (fun w' hw => ?_))); exact .inl ⟨_, rfl, Jf, _, ⟨hL.trans B4, _, p, lv, hR, by omega, hp.mono B4, ⟨_, rfl, Is⟩, rfl⟩, AA hw⟩
theorem N1 (b : Nat) (s : List UInt8) (hs : s.length ≤ 65536) (name : List UInt8) (n d : Nat) (EL : 25 - d = n) (hd : d ≤ 25) (hK : ∀ m, n = m + 1 → D8 119 b s [.int .i64 (d : Int)] (Hr s (m + 1)).2 Fy 1) : D8 154 b s [Bj name, .int .i64 (d : Int)] (XT (Hr s n).2 name) Fy 1 := by
 intro p lv I F w0 w R hR hp CE
 have hL := Le.refl I
 obtain ⟨M, hM⟩ : ∃ M, M = Bp s p := ⟨_, rfl⟩; unfold XT at hR; refine enter Tryz.func154 rfl Tryz.ntmps154 rfl (CE.self) (tr (le rfl (Ah rfl Ab rfl) ?_)); rintro _ _ _ ⟨b6, rfl, rfl, rfl⟩; refine AI (H' := row b6 26 (A2 DB) :: _) ?_ (fun _ h => h); refine K6 (AC 1 rfl (B7 rfl rfl rfl (Aa rfl rfl rfl Tryz.func32 (by kernel_rfl) rfl (fun w hw => C5 b s hs p lv _ _ _ w _ rfl hp (AD (row b 58 (CO s lv p.next)) hw))) ?_ ?_))
 ·rintro _ Jx _ ⟨Br, rfl, ax, ex, Bs, rfl⟩; rw [Ay (AEL n Bs)] at hR; refine AL (AL (?_))
  exact Am fun w hw => .inr ⟨_, rfl, Jx, _, ⟨hL.trans Br, rfl, ax, ex, hR, rfl⟩, AA hw⟩
 rintro v9 J _ ⟨hJ, x9, p, lv, OY, Nz, hp, ⟨rfl, hf, rfl⟩, rfl⟩
 have hL := hL.trans hJ
 refine le rfl (Ah rfl BL rfl) ?_; rintro _ _ _ ⟨b7, rfl, rfl, rfl⟩; refine An rfl rfl ((by exact AE rfl BL rfl rfl rfl (by exact A4 _) rfl)) ?_; rintro _ _ _ ⟨rfl, rfl⟩; refine AI (H' := row b7 73 (BZ (AP s p)) :: _) ?_ (fun _ h => h); refine BQ (Ae rfl (AF rfl (fun hc0 => ?_) (fun hc0 => ?_)))
 ·simp at hc0
  rw [Ay (ABS (n := n) (by omega) OY)] at hR; refine AH (AC 1 rfl (lq rfl (AZ rfl rfl (by rfl)) ?_)); refine lq rfl (A6 (pl := [(_, _), (_, _)]) (cs := ([.int .i64 ((AP s p).pos : Int), .int .i64 52]).toArray) rfl Pt W4 ⟨rfl, ⟨_, _, B0⟩, rfl, ⟨_, _, Mp⟩, trivial⟩ rfl rfl) (lq rfl (HT rfl Pt rfl rfl) (M1 rfl rfl rfl (AL (?_))))
  exact Am fun w hw => .inr ⟨_, rfl, J, _, ⟨hL, rfl, _, _, hR, rfl⟩, AA hw⟩
 ·simp at hc0
  obtain ⟨m, rfl⟩ : ∃ m, n = m + 1 := ⟨n - 1, by omega⟩; rw [Hy, show (Hr s (m + 1)).2 _ = (Hr s (m + 1)).2 p from Pf OY hf rfl, ← Hy] at hR; refine Al (tr (AC 3 rfl (B7 rfl rfl rfl (Aa rfl rfl rfl Tryz.func119 (by kernel_rfl) rfl (fun w hw => (hK m rfl) p lv _ _ _ w _ rfl hp (AD (row b 58 (CO s lv p.next)) hw))) ?_ ?_)))
  ·rintro _ Jx _ ⟨Br, rfl, ax, ex, Bs, rfl⟩; rw [Ay Bs] at hR; refine AL (?_)
   exact Am fun w hw => .inr ⟨_, rfl, Jx, _, ⟨hL.trans Br, rfl, ax, ex, hR, rfl⟩, AA hw⟩
  rintro v19 J _ ⟨hJ, x19, p, lv, Xx, ADB, hp, ⟨c19, rfl, AFJ⟩, rfl⟩
  have hL := hL.trans hJ
  rw [AY Xx] at hR; refine le rfl (AS rfl CJ Ab rfl rfl rfl (by rfl) rfl) ?_; rintro _ _ _ ⟨b20, rfl, rfl, rfl⟩; refine AI (H' := BO 26 7 A2 (.slice (some ⟨b20, 0, none⟩) 1 1) [c19] :: _) ?_ (fun _ h => A7 h rfl (by decide)); refine lq rfl (A6 (pl := [(_, _), (_, _), (_, _), (_, _), (_, _), (_, _), (_, _)]) (cs := (A2 ⟨14, false, false, name, AO, AO, (.slice (some ⟨b20, 0, none⟩) 1 1)⟩).toArray) rfl BR Ab ⟨rfl, ⟨_, _, B0⟩, rfl, ⟨_, _, De⟩, rfl, ⟨_, _, De⟩, rfl, ⟨_, _, CU⟩, rfl, ⟨_, _, EE⟩, rfl, ⟨_, _, El⟩, rfl, ⟨_, _, D6⟩, trivial⟩ rfl rfl) (An rfl rfl ((by exact AE rfl Ab rfl rfl rfl (by exact FP (c := ⟨14, false, false, name, AO, AO, (.slice (some ⟨b20, 0, none⟩) 1 1)⟩) B3 B3 Jt) rfl)) ?_); rintro _ _ _ ⟨rfl, rfl⟩; refine AI (H' := row b6 26 (A2 ⟨14, false, false, name, AO, AO, (.slice (some ⟨b20, 0, none⟩) 1 1)⟩) :: _) ?_ (fun _ h => h); refine BG (f := A2) (l := [c19]) (.slice (some ⟨b20, 0, none⟩) 1 1) (fun _ => rfl) (fun Jf B4 Ck => ?_); refine ln (Aq (A3 (.inl rfl) rfl (by exact BK rfl BR Ab rfl rfl (BJ)) (fun w' hw => ?_))); exact .inl ⟨_, rfl, Jf, _, ⟨hL.trans B4, _, p, lv, hR, by omega, hp.mono B4, ⟨_, rfl, Bm.of DP DP Ck (A0.one (AFJ.mono B4))⟩, rfl⟩, AA hw⟩
end Go.Tri

namespace Go.Tri
open Go.Proofs Go.RowKit
set_option maxRecDepth 10000
theorem X0 {t : CX} (h : (decide ((t.kind : Int) ≠ 1) || !FSt t.text) = true) : ¬ (t.kind = 1 ∧ FSt t.text = true) := fun ⟨h1, h2⟩ => by
 rw [h2, show decide ((t.kind : Int) ≠ 1) = false from decide_eq_false (by omega)] at h
 cases h
theorem Yx {t : CX} (h : (decide ((t.kind : Int) ≠ 1) || !FSt t.text) = false) : t.kind = 1 ∧ FSt t.text = true := by
 rw [Bool.or_eq_false_iff, decide_eq_false_iff_not, Bool.not_eq_false'] at h; exact ⟨by omega, h.2⟩
theorem HO {k : Nat} {a b : Bool} {nm : List UInt8} {x y z : Value} (h1 : Lh x) (h2 : Lh y) (h3 : Lh z) : ∀ u ∈ A2 ⟨k, a, b, nm, x, y, z⟩, u.oneCell' = true := FP h1 h2 h3
theorem Ts (b : Nat) (s : List UInt8) (hs : s.length ≤ 65536) (B : PS → CC Nd) (d : Nat) (hd : d ≤ 24) (hB : D8 143 b s [.int .i64 ((d : Int) + 1)] B Fy 1) : D8 147 b s [.int .i64 (d : Int)] (T0 s B) Fy 1 := by
 intro p lv I F w0 w R hR hp CE
 have hL := Le.refl I
 obtain ⟨M, hM⟩ : ∃ M, M = Bp s p := ⟨_, rfl⟩; unfold T0 at hR; refine enter Tryz.func147 rfl Tryz.ntmps147 rfl (CE.self) (tr (le rfl (FE rfl rfl (by exact Lh.cells ⟨rfl, rfl⟩)) ?_)); rintro _ _ _ ⟨b2, rfl, rfl, rfl⟩; refine le rfl (Ah rfl Ab rfl) ?_; rintro _ _ _ ⟨b4, rfl, rfl, rfl⟩; refine AI (H' := row b4 26 (A2 DB) :: _) ?_ (fun _ h => h); refine Gb (MK b2 (fun J hJ AKb => ?_))
 have Ei : GF J b2 0 (FK b) := AKb 0 _ rfl
 have hL := hL.trans hJ
 have hp := hp.mono hJ
 refine AH (lq rfl ((by exact B1 rfl rfl (B2 Ei))) ?_); refine B7 rfl rfl rfl (Aa rfl rfl rfl Tryz.func35 (by kernel_rfl) rfl (fun w hw => Gs b s hs p lv _ _ _ w _ rfl hp (AD (row b 58 (CO s lv p.next)) hw))) ?_ ?_
 ·rintro _ Jx _ ⟨Br, rfl, ax, ex, Bs, rfl⟩; rw [Ay Bs] at hR; refine AL (?_)
  exact Am fun w hw => .inr ⟨_, rfl, Jx, _, ⟨hL.trans Br, rfl, ax, ex, hR, rfl⟩, AA hw⟩
 rintro v8 J _ ⟨hJ, x8, p, lv, he8, ADy, hp, rfl, rfl⟩
 have hL := hL.trans hJ
 rw [AY he8] at hR
 have Ei := Ei.mono hJ
 refine K6 (lq rfl ((by exact B1 rfl rfl (B2 Ei))) ?_); refine B7 rfl rfl rfl (Aa rfl rfl rfl Tryz.func32 (by kernel_rfl) rfl (fun w hw => C5 b s hs p lv _ _ _ w _ rfl hp (AD (row b 58 (CO s lv p.next)) hw))) ?_ ?_
 ·rintro _ Jx _ ⟨Br, rfl, ax, ex, Bs, rfl⟩; rw [Ay Bs] at hR; refine AL (AL (?_))
  exact Am fun w hw => .inr ⟨_, rfl, Jx, _, ⟨hL.trans Br, rfl, ax, ex, hR, rfl⟩, AA hw⟩
 rintro v10 J _ ⟨hJ, x10, p, lv, Hj, Mb, hp, ⟨rfl, hf, rfl⟩, rfl⟩
 have hL := hL.trans hJ
 rw [AY Hj] at hR
 have Ei := Ei.mono hJ
 refine le rfl (Ah rfl BL rfl) ?_; rintro _ _ _ ⟨b5, rfl, rfl, rfl⟩; refine An rfl rfl ((by exact AE rfl BL rfl rfl rfl (by exact A4 _) rfl)) ?_; rintro _ _ _ ⟨rfl, rfl⟩; refine AI (H' := row b5 73 (BZ (AP s p)) :: _) ?_ (fun _ h => h); refine Gb (Dw (AK 1 rfl (sq rfl ((by exact AZ rfl rfl (by rfl))) ?_))); refine AK 2 rfl ?_
 refine Bf 4 3 14 19 18 _ _ rfl rfl rfl rfl rfl rfl (fun h19 => by
   simp at h19
   refine AJ 1 rfl (sg rfl ((by exact AZ rfl rfl (by rfl))) ?_); refine sg rfl (qc rfl rfl rfl ((fun w _ => PP (AP s p).text w (by have := Dq hp.1; omega)))) ?_; refine AJ 1 rfl ?_; exact Ao rfl
  ) (AM rfl) rfl rfl rfl ?_
 refine Cy (AF rfl (fun hc0 => ?_) (fun hc0 => ?_))
 ·rw [if_neg (X0 hc0)] at hR; refine AH (lq rfl ((by exact B1 rfl rfl (B2 Ei))) ?_); refine B7 rfl rfl rfl (Aa rfl rfl rfl Tryz.func34 (by kernel_rfl) rfl (fun w hw => Ds b s p lv hs _ _ _ w hf hp (AD (row b 58 (CO s lv p.next)) hw))) ?_ ?_
  ·rintro _ Jx _ ⟨Br, rfl, rfl⟩; refine AL (?_)
   exact Am fun w hw => .inr ⟨_, rfl, Jx, _, ⟨hL.trans Br, rfl, _, _, hR, rfl⟩, AA hw⟩
  rintro _ _ _ ⟨⟩
 ·have Xq := Yx hc0
  have GO := Xq.1
  rw [if_pos Xq] at hR
  have XR := Dq hp.1
  obtain ⟨tt, KD⟩ : ∃ z, AP s p = z := ⟨_, rfl⟩; rw [KD] at hR XR
  have hmk : (AP s p).kind ≠ 0 := by omega
  have hms := CP hmk
  refine Al (tr (lq rfl ((by exact B1 rfl rfl (B2 Ei))) ?_)); refine B7 rfl rfl rfl (Aa rfl rfl rfl Tryz.func152 (by kernel_rfl) rfl (fun w hw => FW b s hs p lv _ _ _ w _ rfl hp (AD (row b 58 (CO s lv p.next)) hw))) ?_ ?_
  ·rintro _ Jx _ ⟨Br, rfl, ax, ex, Bs, rfl⟩; rw [Gl hf GO] at Bs
   cases Bs
  rintro v23 J _ ⟨hJ, x23, p, lv, AEI, AIp, hp, ⟨rfl, APe⟩, rfl⟩
  have hL := hL.trans hJ
  obtain ⟨AGU, AGF⟩ := Rn hf GO AEI; rw [KD] at AGU; subst AGU; rw [← AGF] at hR
  have Ei := Ei.mono hJ
  refine lq rfl (A6 (pl := [(_, _), (_, _), (_, _), (_, _), (_, _), (_, _), (_, _)]) (cs := (A2 ⟨12, false, false, tt.text, AO, AO, AO⟩).toArray) rfl BR Ab ⟨rfl, ⟨_, _, B0⟩, rfl, ⟨_, _, De⟩, rfl, ⟨_, _, De⟩, rfl, ⟨_, _, CU⟩, rfl, ⟨_, _, EE⟩, rfl, ⟨_, _, El⟩, rfl, ⟨_, _, D6⟩, trivial⟩ rfl rfl) (le rfl (Ah rfl Ab rfl) ?_); rintro _ _ _ ⟨b6, rfl, rfl, rfl⟩; refine An rfl rfl ((by exact AE rfl Ab rfl rfl rfl (by exact HO B3 B3 B3) rfl)) ?_; rintro _ _ _ ⟨rfl, rfl⟩; refine AI (H' := row b6 26 (A2 ⟨12, false, false, tt.text, AO, AO, AO⟩) :: _) ?_ (fun _ h => h); refine BQ (lq rfl ((by exact B1 rfl rfl (B2 Ei))) ?_); refine B7 rfl rfl rfl (Aa rfl rfl rfl Tryz.func31 (by kernel_rfl) rfl (fun w hw => Cn b s hs p lv _ _ _ w _ rfl hp (AD (row b 58 (CO s lv p.next)) hw))) ?_ ?_
  ·rintro _ Jx _ ⟨Br, rfl, ax, ex, Bs, rfl⟩; rw [Ay Bs] at hR; refine AL (?_)
   exact Am fun w hw => .inr ⟨_, rfl, Jx, _, ⟨hL.trans Br, rfl, ax, ex, hR, rfl⟩, AA hw⟩
  rintro v26 J _ ⟨hJ, x26, p, lv, AEW, AIC, hp, ⟨rfl, hf, Ic⟩, rfl⟩
  have hL := hL.trans hJ
  rw [AY AEW] at hR; rw [AY (CT hf)] at hR
  have Ei := Ei.mono hJ
  refine ln (Bh (ι := PS × Value × AU × Bool × Value × List (List UInt8)) (fun zz => Le I zz.2.2.1 ∧ J7 s zz.1 zz.2.1 zz.2.2.1 ∧ GF zz.2.2.1 b2 0 (FK b) ∧ Sl zz.2.2.1 1 zz.2.2.2.2.1 (zz.2.2.2.2.2.map Bo) ∧ Bp s zz.1 + 1 ≤ M ∧ R = Oj s B tt.text (zz.2.2.2.1, zz.2.2.2.2.2) zz.1) (fun zz => []) [(0, _), (1, _), (2, _), (4, _), (5, _), (19, _), (6, _)] (fun zz => zz.2.2.1) (fun zz => (row b6 26 (A2 ⟨12, false, zz.2.2.2.1, tt.text, zz.2.2.2.2.1, AO, AO⟩) :: row b4 26 (A2 DB) :: row b 58 (CO s zz.2.1 zz.1.next) :: F)) (AB rfl) ?_ ?_)
  ·refine AR (tr (lq rfl ((by exact B1 rfl rfl (B2 Ei))) ?_)); refine lq rfl (qc rfl rfl rfl ((fun w hw => Ey b s [105, 110] p lv w hs hf hp.1 (Bn hw) (hp.2.2.mono hw.le)))) (Ae rfl (AF rfl (fun BI => ?_) (fun BI => ?_)))
   ·have q1 : Bu [105, 110] (AP s p) = true := BI
    rw [if_pos q1] at hR; refine tr (lq rfl ((by exact B1 rfl rfl (B2 Ei))) ?_); refine Bw rfl rfl rfl rfl (fun w hw => Bv b s hs p lv _ _ _ w hf hp (AD (row b 58 (CO s lv p.next)) hw)) ?_; rintro _ J _ ⟨hJ, rfl, p, lv, Zv, AJb, Zy, hp, rfl⟩
    have hL := hL.trans hJ
    rw [← Zv] at hR
    have EX := Zy (Cc q1)
    unfold AAF at hR
    have Ei := Ei.mono hJ
    refine BQ (AC 1 rfl ?_); refine An rfl rfl (Ac rfl De rfl rfl (by exact ⟨rfl, rfl⟩) rfl (by rfl)) ?_; rintro _ _ _ ⟨rfl, rfl⟩; refine AI (H' := row b6 26 (A2 ⟨12, false, true, tt.text, AO, AO, AO⟩) :: _) ?_ (fun _ h => h); refine BQ (lq rfl (F3 rfl rfl rfl) (lq rfl ((by exact B1 rfl rfl (B2 Ei))) ?_)); refine lq rfl (F3 rfl rfl rfl) (B7 rfl rfl rfl (Aa rfl rfl rfl Tryz.func169 (by kernel_rfl) rfl (fun w hw => Rk b b2 s hs p lv _ _ _ w _ rfl hp Ei (AD (row b 58 (CO s lv p.next)) hw))) ?_ ?_)
    ·rintro _ Jx _ ⟨Br, rfl, ax, ex, Bs, rfl⟩; rw [Ay Bs] at hR; refine AL (Aj (AL (?_)))
     exact Am fun w hw => .inr ⟨_, rfl, Jx, _, ⟨hL.trans Br, rfl, ax, ex, hR, rfl⟩, AA hw⟩
    rintro v36 J _ ⟨hJ, x36, p, lv, AOK, AOW, hp, NT, rfl⟩
    have hL := hL.trans hJ
    rw [AY AOK] at hR
    have Ei := Ei.mono hJ
    refine AC 1 rfl ?_; refine An rfl rfl (Ac rfl EE rfl rfl (by exact NT.one) rfl (by rfl)) ?_; rintro _ _ _ ⟨rfl, rfl⟩; refine AI (H' := row b6 26 (A2 ⟨12, false, true, tt.text, v36, AO, AO⟩) :: _) ?_ (fun _ h => h); refine K6 (lq rfl ((by exact B1 rfl rfl (B2 Ei))) ?_); refine B7 rfl rfl rfl (Aa rfl rfl rfl Tryz.func32 (by kernel_rfl) rfl (fun w hw => C5 b s hs p lv _ _ _ w _ rfl hp (AD (row b 58 (CO s lv p.next)) hw))) ?_ ?_
    ·rintro _ Jx _ ⟨Br, rfl, ax, ex, Bs, rfl⟩; rw [Ay Bs] at hR; refine AL (AL (Aj (AL (?_))))
     exact Am fun w hw => .inr ⟨_, rfl, Jx, _, ⟨hL.trans Br, rfl, ax, ex, hR, rfl⟩, AA hw⟩
    rintro v39 J _ ⟨hJ, x39, p, lv, AEx, AGl, hp, ⟨rfl, hf, rfl⟩, rfl⟩
    have hL := hL.trans hJ
    rw [AY AEx] at hR
    have NT := NT.mono hJ
    have Ei := Ei.mono hJ
    refine lq rfl (DT rfl Cz rfl Li rfl rfl rfl) (Ae rfl (AF rfl (fun BU => ?_) (fun BU => ?_)))
    ·simp at BU
     rw [if_neg (show ¬ (AP s p).kind = 3 by omega)] at hR; refine AH (lq rfl ((by exact B1 rfl rfl (B2 Ei))) ?_); refine B7 rfl rfl rfl (Aa rfl rfl rfl Tryz.func144 (by kernel_rfl) rfl (fun w hw => Gn b s hs [59] p lv _ _ _ w _ rfl hp (AD (row b 58 (CO s lv p.next)) hw))) ?_ ?_
     ·rintro _ Jx _ ⟨Br, rfl, ax, ex, Bs, rfl⟩; rw [Ay Bs] at hR; refine AL (Aj (AL (?_)))
      exact Am fun w hw => .inr ⟨_, rfl, Jx, _, ⟨hL.trans Br, rfl, ax, ex, hR, rfl⟩, AA hw⟩
     rintro v43 J _ ⟨hJ, x43, p, lv, AFV, AGk, hp, rfl, rfl⟩
     have hL := hL.trans hJ
     rw [AY AFV] at hR
     have NT := NT.mono hJ
     have Ei := Ei.mono hJ
     refine ln (AH (lq rfl ((by exact B1 rfl rfl (B2 Ei))) ?_)); refine B7 rfl rfl rfl (Aa rfl rfl rfl Tryz.func31 (by kernel_rfl) rfl (fun w hw => Cn b s hs p lv _ _ _ w _ rfl hp (AD (row b 58 (CO s lv p.next)) hw))) ?_ ?_
     ·rintro _ Jx _ ⟨Br, rfl, ax, ex, Bs, rfl⟩; rw [Ay Bs] at hR; refine Aj (AL (?_))
      exact Am fun w hw => .inr ⟨_, rfl, Jx, _, ⟨hL.trans Br, rfl, ax, ex, hR, rfl⟩, AA hw⟩
     rintro v45 J _ ⟨hJ, x45, p, lv, Uh, ZA, hp, ⟨rfl, hf, Ic⟩, rfl⟩
     have hL := hL.trans hJ
     rw [AY Uh] at hR
     have NT := NT.mono hJ
     have Ei := Ei.mono hJ
     refine BX (AV (Av ((p, lv, J, true, v36, x36)) ?_ (AW) (AB rfl) (fun _ h => by dsimp only; exact AA h)))
     ·dsimp only; exact ⟨hL, hp, Ei, NT, by omega, hR⟩
    ·simp at BU
     rw [if_pos (show (AP s p).kind = 3 by omega)] at hR; refine Al (AH (lq rfl ((by exact B1 rfl rfl (B2 Ei))) ?_)); refine B7 rfl rfl rfl (Aa rfl rfl rfl Tryz.func31 (by kernel_rfl) rfl (fun w hw => Cn b s hs p lv _ _ _ w _ rfl hp (AD (row b 58 (CO s lv p.next)) hw))) ?_ ?_
     ·rintro _ Jx _ ⟨Br, rfl, ax, ex, Bs, rfl⟩; rw [Ay Bs] at hR; refine Aj (AL (?_))
      exact Am fun w hw => .inr ⟨_, rfl, Jx, _, ⟨hL.trans Br, rfl, ax, ex, hR, rfl⟩, AA hw⟩
     rintro v45 J _ ⟨hJ, x45, p, lv, Uh, ZA, hp, ⟨rfl, hf, Ic⟩, rfl⟩
     have hL := hL.trans hJ
     rw [AY Uh] at hR
     have NT := NT.mono hJ
     have Ei := Ei.mono hJ
     refine BX (AV (Av ((p, lv, J, true, v36, x36)) ?_ (AW) (AB rfl) (fun _ h => by dsimp only; exact AA h)))
     ·dsimp only; exact ⟨hL, hp, Ei, NT, by omega, hR⟩
   ·have q1 : ¬ Bu [105, 110] (AP s p) = true := by rw [show Bu [105, 110] (AP s p) = false from BI]; simp
    rw [if_neg q1] at hR; refine tr (lq rfl ((by exact B1 rfl rfl (B2 Ei))) ?_); refine lq rfl (qc rfl rfl rfl ((fun w hw => Gy b s [59] p lv w hs hf hp.1 (Bn hw) (hp.2.2.mono hw.le)))) (Ae rfl (AF rfl (fun Bd => ?_) (fun Bd => ?_)))
    ·have q3 : C8 [59] (AP s p) = true := Bd
     rw [if_pos q3] at hR; refine tr (lq rfl ((by exact B1 rfl rfl (B2 Ei))) ?_); refine Bw rfl rfl rfl rfl (fun w hw => Bv b s hs p lv _ _ _ w hf hp (AD (row b 58 (CO s lv p.next)) hw)) ?_; rintro _ J _ ⟨hJ, rfl, p, lv, AIi, APq, AHD, hp, rfl⟩
     have hL := hL.trans hJ
     rw [← AIi] at hR
     have EX := AHD (Bq q3)
     have Ei := Ei.mono hJ
     refine ln (AH (lq rfl ((by exact B1 rfl rfl (B2 Ei))) ?_)); refine B7 rfl rfl rfl (Aa rfl rfl rfl Tryz.func31 (by kernel_rfl) rfl (fun w hw => Cn b s hs p lv _ _ _ w _ rfl hp (AD (row b 58 (CO s lv p.next)) hw))) ?_ ?_
     ·rintro _ Jx _ ⟨Br, rfl, ax, ex, Bs, rfl⟩; rw [Ay Bs] at hR; refine Aj (AL (?_))
      exact Am fun w hw => .inr ⟨_, rfl, Jx, _, ⟨hL.trans Br, rfl, ax, ex, hR, rfl⟩, AA hw⟩
     rintro v52 J _ ⟨hJ, x52, p, lv, ANs, APQ, hp, ⟨rfl, hf, Ic⟩, rfl⟩
     have hL := hL.trans hJ
     rw [AY ANs] at hR
     have Ei := Ei.mono hJ
     refine BX (AV (Av ((p, lv, J, false, AO, [])) ?_ (AW) (AB rfl) (fun _ h => by dsimp only; exact AA h)))
     ·dsimp only; exact ⟨hL, hp, Ei, DP, by omega, hR⟩
    ·have q3 : ¬ C8 [59] (AP s p) = true := by rw [show C8 [59] (AP s p) = false from Bd]; simp
     rw [if_neg q3] at hR; refine Au (AV (Av ((p, lv, J, false, AO, [])) ?_ (AW) (AB rfl) (fun _ h => by dsimp only; exact AA h)))
     ·dsimp only; exact ⟨hL, hp, Ei, DP, by omega, hR⟩
  rintro ⟨p, lv, J, isin, wv, ws⟩ ⟨hL, hp, Ei, Kg, hmc, hR⟩; dsimp only at *; unfold Oj at hR; refine tr (lq rfl ((by exact B1 rfl rfl (B2 Ei))) ?_); refine B7 rfl rfl rfl (Aa rfl rfl rfl Tryz.func145 (by kernel_rfl) rfl (fun w hw => DR b s hs [100, 111] p lv _ _ _ w _ rfl hp (AD (row b 58 (CO s lv p.next)) hw))) ?_ ?_
  ·rintro _ Jx _ ⟨Br, rfl, ax, ex, Bs, rfl⟩; rw [Ay Bs] at hR; refine AL (?_)
   exact Am fun w hw => .inr ⟨_, rfl, Jx, _, ⟨hL.trans Br, rfl, ax, ex, hR, rfl⟩, AA hw⟩
  rintro v54 J _ ⟨hJ, x54, p, lv, AFg, AIB, hp, rfl, rfl⟩
  have hL := hL.trans hJ
  rw [AY AFg] at hR
  have Kg := Kg.mono hJ
  have Ei := Ei.mono hJ
  refine BQ (lq rfl ((by exact B1 rfl rfl (B2 Ei))) ?_); refine AC 1 rfl (lq rfl (AX rfl rfl rfl (by omega)) ?_); refine B7 rfl rfl rfl (Aa rfl rfl rfl Tryz.func143 (by kernel_rfl) rfl (fun w hw => hB p lv _ _ _ w _ rfl hp (AD (row b 58 (CO s lv p.next)) hw))) ?_ ?_
  ·rintro _ Jx _ ⟨Br, rfl, ax, ex, Bs, rfl⟩; rw [Ay Bs] at hR; refine AL (?_)
   exact Am fun w hw => .inr ⟨_, rfl, Jx, _, ⟨hL.trans Br, rfl, ax, ex, hR, rfl⟩, AA hw⟩
  rintro v58 J _ ⟨hJ, x58, p, lv, AFO, AHe, hp, ⟨c58, rfl, Mi⟩, rfl⟩
  have hL := hL.trans hJ
  rw [AY AFO] at hR
  have Kg := Kg.mono hJ
  have Ei := Ei.mono hJ
  refine le rfl (AS rfl CJ Ab rfl rfl rfl (by rfl) rfl) ?_; rintro _ _ _ ⟨b59, rfl, rfl, rfl⟩; refine AI (H' := BO 26 7 A2 (.slice (some ⟨b59, 0, none⟩) 1 1) [c58] :: _) ?_ (fun _ h => A7 h rfl (by decide)); refine AC 1 rfl ?_; refine An rfl rfl (Ac rfl D6 rfl rfl (by exact ⟨rfl, rfl⟩) rfl (by rfl)) ?_; rintro _ _ _ ⟨rfl, rfl⟩; refine AI (H' := row b6 26 (A2 ⟨12, false, isin, tt.text, wv, AO, (.slice (some ⟨b59, 0, none⟩) 1 1)⟩) :: _) ?_ (fun _ h => h); refine BQ (lq rfl ((by exact B1 rfl rfl (B2 Ei))) ?_); refine B7 rfl rfl rfl (Aa rfl rfl rfl Tryz.func145 (by kernel_rfl) rfl (fun w hw => DR b s hs [100, 111, 110, 101] p lv _ _ _ w _ rfl hp (AD (row b 58 (CO s lv p.next)) hw))) ?_ ?_
  ·rintro _ Jx _ ⟨Br, rfl, ax, ex, Bs, rfl⟩; rw [Ay Bs] at hR; refine AL (?_)
   exact Am fun w hw => .inr ⟨_, rfl, Jx, _, ⟨hL.trans Br, rfl, ax, ex, hR, rfl⟩, AA hw⟩
  rintro v62 J _ ⟨hJ, x62, p, lv, AEY, AGg, hp, rfl, rfl⟩
  have hL := hL.trans hJ
  rw [AY AEY] at hR
  have Kg := Kg.mono hJ
  have Mi := Mi.mono hJ
  have Ei := Ei.mono hJ
  refine Gb (CG (f := A2) (l := [c58]) (.slice (some ⟨b59, 0, none⟩) 1 1) (fun _ => rfl) (fun Jf B4 Ck => ?_))
  have Is : Bm Jf (.mk 12 false isin tt.text ws [] [x58]) ⟨12, false, isin, tt.text, wv, AO, (.slice (some ⟨b59, 0, none⟩) 1 1)⟩ := Bm.of (Kg.mono B4) DP Ck (A0.one (Mi.mono B4))
  refine AH (lq rfl (Af rfl BR Ab rfl rfl rfl) (An rfl rfl ((by exact AE rfl Ab rfl rfl rfl (by exact Is.ones) rfl)) ?_)); rintro _ _ _ ⟨rfl, rfl⟩; refine ln (Aq (A3 (.inl rfl) rfl (by exact BK rfl BR Ab rfl rfl (BJ)) (fun w' hw => ?_))); exact .inl ⟨_, rfl, Jf, _, ⟨hL.trans B4, _, p, lv, hR, by omega, hp.mono B4, ⟨_, rfl, Is⟩, rfl⟩, AA hw⟩
end Go.Tri

namespace Go.Tri
open Go.Proofs Go.RowKit
set_option maxRecDepth 10000
set_option maxHeartbeats 4000000 in
theorem R9 (b : Nat) (s : List UInt8) (hs : s.length ≤ 65536) (B : PS → CC Nd) (d : Nat) (hd : d ≤ 24) (hB : D8 143 b s [.int .i64 ((d : Int) + 1)] B Fy 1) : D8 148 b s [.int .i64 (d : Int)] (Nq s B) Fy 1 := by
 intro p lv I F w0 w R hR hp CE
 have hL := Le.refl I
 obtain ⟨M, hM⟩ : ∃ M, M = Bp s p := ⟨_, rfl⟩; unfold Nq at hR
 have Ox := FD hp.1
 refine enter Tryz.func148 rfl Tryz.ntmps148 rfl (CE.self) (tr (le rfl (Ah rfl Ab rfl) ?_)); rintro _ _ _ ⟨b4, rfl, rfl, rfl⟩; refine AI (H' := row b4 26 (A2 DB) :: _) ?_ (fun _ h => h); refine BQ (AC 1 rfl (B7 rfl rfl rfl (Aa rfl rfl rfl Tryz.func35 (by kernel_rfl) rfl (fun w hw => Gs b s hs p lv _ _ _ w _ rfl hp (AD (row b 58 (CO s lv p.next)) hw))) ?_ ?_))
 ·rintro _ Jx _ ⟨Br, rfl, ax, ex, Bs, rfl⟩; rw [Ay Bs] at hR; refine AL (?_)
  exact Am fun w hw => .inr ⟨_, rfl, Jx, _, ⟨hL.trans Br, rfl, ax, ex, hR, rfl⟩, AA hw⟩
 rintro v9 J _ ⟨hJ, x9, p, lv, OY, Nz, hp, rfl, rfl⟩
 have hL := hL.trans hJ
 rw [AY OY] at hR; refine BQ (AC 1 rfl (B7 rfl rfl rfl (Aa rfl rfl rfl Tryz.func152 (by kernel_rfl) rfl (fun w hw => FW b s hs p lv _ _ _ w _ rfl hp (AD (row b 58 (CO s lv p.next)) hw))) ?_ ?_))
 ·rintro _ Jx _ ⟨Br, rfl, ax, ex, Bs, rfl⟩; rw [Ay Bs] at hR; refine AL (?_)
  exact Am fun w hw => .inr ⟨_, rfl, Jx, _, ⟨hL.trans Br, rfl, ax, ex, hR, rfl⟩, AA hw⟩
 rintro v11 J _ ⟨hJ, x11, p, lv, Ze, ACx, hp, ⟨rfl, APC⟩, rfl⟩
 have hL := hL.trans hJ
 rw [AY Ze] at hR; obtain ⟨nm, M5⟩ : ∃ z, x11 = z := ⟨_, rfl⟩; rw [M5] at hR; refine lq rfl (A6 (pl := [(_, _), (_, _), (_, _), (_, _), (_, _), (_, _), (_, _)]) (cs := (A2 ⟨13, false, false, x11, AO, AO, AO⟩).toArray) rfl BR Ab ⟨rfl, ⟨_, _, B0⟩, rfl, ⟨_, _, De⟩, rfl, ⟨_, _, De⟩, rfl, ⟨_, _, CU⟩, rfl, ⟨_, _, EE⟩, rfl, ⟨_, _, El⟩, rfl, ⟨_, _, D6⟩, trivial⟩ rfl rfl) (le rfl (Ah rfl Ab rfl) ?_); rintro _ _ _ ⟨b5, rfl, rfl, rfl⟩; refine An rfl rfl ((by exact AE rfl Ab rfl rfl rfl (by exact HO B3 B3 B3) rfl)) ?_; rintro _ _ _ ⟨rfl, rfl⟩; refine AI (H' := row b5 26 (A2 ⟨13, false, false, nm, AO, AO, AO⟩) :: _) ?_ (fun _ h => by rw [← M5]; exact h); refine BQ (AC 1 rfl (B7 rfl rfl rfl (Aa rfl rfl rfl Tryz.func31 (by kernel_rfl) rfl (fun w hw => Cn b s hs p lv _ _ _ w _ rfl hp (AD (row b 58 (CO s lv p.next)) hw))) ?_ ?_))
 ·rintro _ Jx _ ⟨Br, rfl, ax, ex, Bs, rfl⟩; rw [Ay Bs] at hR; refine AL (?_)
  exact Am fun w hw => .inr ⟨_, rfl, Jx, _, ⟨hL.trans Br, rfl, ax, ex, hR, rfl⟩, AA hw⟩
 rintro v14 J _ ⟨hJ, x14, p, lv, Yh, ACl, hp, ⟨rfl, hf, Ic⟩, rfl⟩
 have hL := hL.trans hJ
 rw [AY Yh] at hR; refine BQ (AC 1 rfl (B7 rfl rfl rfl (Aa rfl rfl rfl Tryz.func145 (by kernel_rfl) rfl (fun w hw => DR b s hs [105, 110] p lv _ _ _ w _ rfl hp (AD (row b 58 (CO s lv p.next)) hw))) ?_ ?_))
 ·rintro _ Jx _ ⟨Br, rfl, ax, ex, Bs, rfl⟩; rw [Ay Bs] at hR; refine AL (?_)
  exact Am fun w hw => .inr ⟨_, rfl, Jx, _, ⟨hL.trans Br, rfl, ax, ex, hR, rfl⟩, AA hw⟩
 rintro v16 J _ ⟨hJ, x16, p, lv, AFS, AGL, hp, rfl, rfl⟩
 have hL := hL.trans hJ
 rw [AY AFS] at hR; refine BQ (AC 1 rfl (B7 rfl rfl rfl (Aa rfl rfl rfl Tryz.func31 (by kernel_rfl) rfl (fun w hw => Cn b s hs p lv _ _ _ w _ rfl hp (AD (row b 58 (CO s lv p.next)) hw))) ?_ ?_))
 ·rintro _ Jx _ ⟨Br, rfl, ax, ex, Bs, rfl⟩; rw [Ay Bs] at hR; refine AL (?_)
  exact Am fun w hw => .inr ⟨_, rfl, Jx, _, ⟨hL.trans Br, rfl, ax, ex, hR, rfl⟩, AA hw⟩
 rintro v18 J _ ⟨hJ, x18, p, lv, Td, XY, hp, ⟨rfl, hf, Ic⟩, rfl⟩
 have hL := hL.trans hJ
 rw [AY Td] at hR; rw [Hy] at hR; refine K6 (Ae rfl (AR (A8 (ι := PS × Value × AU × Value × List (List UInt8) × Value × List NC × List Nd × Nat × Bool) (fun zz => Le I zz.2.2.1 ∧ J7 s zz.1 zz.2.1 zz.2.2.1 ∧ A0 zz.2.2.1 zz.2.2.2.2.2.2.2.1 zz.2.2.2.2.2.2.1 ∧ 2 * Bp s zz.1 + zz.2.2.2.2.2.2.2.1.length + zz.2.2.2.2.1.length ≤ 2 * M ∧ zz.2.2.2.2.2.2.2.1.length ≤ M ∧ Bp s zz.1 + zz.2.2.2.2.2.2.2.1.length ≤ M ∧ (zz.2.2.2.2.2.2.2.2.2 = true → Bp s zz.1 < zz.2.2.2.2.2.2.2.2.1 ∧ R = GP (Fs s B zz.2.2.2.2.2.2.2.2.1 zz.2.2.2.2.1 zz.2.2.2.2.2.2.2.1 zz.1) (Iy s nm) ∧ CH s zz.1) ∧ (zz.2.2.2.2.2.2.2.2.2 = false → R = GP (CC.ok (zz.2.2.2.2.1, zz.2.2.2.2.2.2.2.1) zz.1) (Iy s nm))) (fun zz => (if zz.2.2.2.2.2.2.2.2.2 then Bp s zz.1 + 1 else 0)) (fun zz => [(6, .bool zz.2.2.2.2.2.2.2.2.2)]) [(0, _), (1, _), (4, _), (5, _)] (fun zz => zz.2.2.1) (fun zz => (BO 9 1 Bo zz.2.2.2.1 zz.2.2.2.2.1 :: BO 26 7 A2 zz.2.2.2.2.2.1 zz.2.2.2.2.2.2.1 :: row b5 26 (A2 ⟨13, false, false, nm, zz.2.2.2.1, AO, zz.2.2.2.2.2.1⟩) :: row b4 26 (A2 DB) :: row b 58 (CO s zz.2.1 zz.1.next) :: F)) (p, lv, J, AO, [], AO, [], [], Bp s p + 1, true) ?_ (AB rfl) (AB rfl) (fun _ h => by dsimp only; exact AA (CS 9 1 Bo (CS 26 7 A2 h))) ?_)))
 ·dsimp only; exact ⟨hL, hp, A0.nil, by simp only [List.length_nil]; omega, by simp only [List.length_nil]; omega, by simp only [List.length_nil]; omega, fun _ => ⟨Nat.lt_succ_self _, hR, hf⟩, fun h => by cases h⟩
 rintro ⟨p, lv, J, wv, ws, kv, cs, l, g, mo⟩ ⟨hL, hp, CV, I4, Ki, hmv, Vz, hmf⟩; dsimp only at *
 have EP := CV.len
 refine AN (tq (AK 2 rfl ?_))
 refine BA 3 1 20 24 23 _ _ rfl rfl rfl rfl rfl rfl (fun P8 => by
   have hf := (Vz (by simpa using P8)).2.2
   refine AJ 1 rfl (sg rfl (qc rfl rfl rfl ((fun w hw => Ey b s [101, 115, 97, 99] p lv w hs hf hp.1 (Bn hw) (hp.2.2.mono hw.le)))) (AJ 1 rfl ?_)); exact Ao rfl
  ) (AM rfl) rfl rfl rfl ?_
 refine Cy (AF rfl (fun hc0 => ?_) (fun hc0 => ?_))
 ·have hc0 : (mo && !Bu [101, 115, 97, 99] (AP s p)) = true := hc0
  rw [Bool.and_eq_true] at hc0; obtain ⟨rfl, hce⟩ := hc0; obtain ⟨hg, hR, hf⟩ := Vz rfl; obtain ⟨g, rfl⟩ : ∃ g', g = g' + 1 := ⟨g - 1, by omega⟩; rw [Fs, AY (CT hf), if_neg (by simpa using hce)] at hR; obtain ⟨m1, hm1⟩ : ∃ z, z = Bp s p := ⟨_, rfl⟩; obtain ⟨m2, AQm⟩ : ∃ z, z = 2 * Bp s p + ws.length := ⟨_, rfl⟩; refine Al (AR (Bh (ι := PS × Value × AU) (fun zz => Le I zz.2.2 ∧ J7 s zz.1 zz.2.1 zz.2.2 ∧ A0 zz.2.2 l cs ∧ Bp s zz.1 ≤ m1 ∧ R = GP (Cf (FU s) (fun x q => Cf (Mk s (Bp s q + 1) (ws ++ [x])) (FZ s B (Fs s B g) l) q) zz.1) (Iy s nm)) (fun zz => []) [(6, _), (0, _), (1, _), (4, _), (5, _), (24, _)] (fun zz => zz.2.2) (fun zz => (BO 9 1 Bo wv ws :: BO 26 7 A2 kv cs :: row b5 26 (A2 ⟨13, false, false, nm, wv, AO, kv⟩) :: row b4 26 (A2 DB) :: row b 58 (CO s zz.2.1 zz.1.next) :: F)) (AB rfl) ?_ ?_))
  ·refine tr (AC 1 rfl (lq rfl (qc rfl rfl rfl ((fun w hw => Gy b s [40] p lv w hs hf hp.1 (Bn hw) (hp.2.2.mono hw.le)))) (ln (AF rfl (fun BI => ?_) (fun BI => ?_)))))
   ·have q1 : C8 [40] (AP s p) = true := BI
    rw [if_pos q1] at hR; refine AH (AC 1 rfl (Bw rfl rfl rfl rfl (fun w hw => Bv b s hs p lv _ _ _ w hf hp (AD (row b 58 (CO s lv p.next)) hw)) ?_)); rintro _ J _ ⟨hJ, rfl, p, lv, AHS, AQG, AHg, hp, rfl⟩
    have CV := CV.mono hJ
    have hL := hL.trans hJ
    rw [← AHS] at hR
    have EX := AHg (Bq q1)
    refine BX (Av ((p, lv, J)) ?_ (AW) (AB rfl) (fun _ h => by dsimp only; exact AA h))
    ·dsimp only; exact ⟨hL, hp, CV, by omega, hR⟩
   ·have q1 : ¬ C8 [40] (AP s p) = true := by rw [show C8 [40] (AP s p) = false from BI]; simp
    rw [if_neg q1] at hR; refine Au (Av ((p, lv, J)) ?_ (AW) (AB rfl) (fun _ h => by dsimp only; exact AA h))
    ·dsimp only; exact ⟨hL, hp, CV, by omega, hR⟩
  rintro ⟨p, lv, J⟩ ⟨hL, hp, CV, hmy, hR⟩; dsimp only at *; refine AN (DH [3, 4, 5, 7] [7] [row b5 26 (A2 ⟨13, false, false, nm, wv, AO, kv⟩)] mo (by kernel_rfl) (fun _ _ _ _ _ h => h) (Bg [0] (by kernel_rfl) rfl rfl rfl (Ko 1 (by kernel_rfl) rfl (Le.refl _) rfl (fun _ hI => AZ rfl rfl (by rfl)) ?_))); refine Bg [2] (by kernel_rfl) rfl rfl rfl (QE 3 (by kernel_rfl) (by kernel_rfl) rfl (Le.refl _) rfl rfl rfl (Aa rfl rfl rfl Tryz.func152 (by kernel_rfl) rfl (fun w hw => FW b s hs p lv _ _ _ w _ rfl hp (AD (row b 58 (CO s lv p.next)) hw))) ?_ ?_)
  ·rintro _ Jx _ ⟨Br, rfl, ax, ex, Bs, rfl⟩; rw [Ay Bs] at hR; refine AL (Aj (AL (Aj (AL (?_)))))
   exact Am fun w hw => .inr ⟨_, rfl, Jx, _, ⟨hL.trans Br, rfl, ax, ex, hR, rfl⟩, AA hw⟩
  rintro v32 J _ ⟨hJ, x32, p, lv, Uu, Y0, hp, ⟨rfl, APj⟩, rfl⟩; refine ⟨hJ, .inr CY.sub, ?_⟩
  have hL := hL.trans hJ
  rw [AY Uu] at hR
  have CV := CV.mono hJ
  refine re 4 (by kernel_rfl) rfl (hJ) rfl (AS rfl CD CU rfl rfl rfl (by rfl) rfl) ?_; rintro _ _ _ ⟨b33, rfl, rfl, rfl⟩; refine ⟨Le.refl _, .inr CY.sub, ?_⟩; refine re 5 (by kernel_rfl) rfl (hJ) rfl (Ba (f := Bo) (c := x32) rfl CD CU rfl rfl rfl rfl rfl rfl rfl (by exact Ev _) (by simp only [maxLen]; omega) (by omega)) ?_; rintro v34 _ _ ⟨rfl, rfl⟩; refine ⟨Le.refl _, .inr CY.sub, ?_⟩; refine Iz v34 (fun Df => ?_); refine Bg [6] (by kernel_rfl) rfl rfl rfl ?_; refine Eu 7 (by kernel_rfl) (by kernel_rfl) rfl (hJ) rfl rfl (Ac rfl EE rfl rfl (by assumption) rfl (by rfl)) ?_; rintro _ _ _ ⟨rfl, rfl⟩; refine ⟨Le.refl _, .inl rfl, ?_⟩; refine ES (H' := row b5 26 (A2 ⟨13, false, false, nm, v34, AO, kv⟩) :: _) ?_ (fun _ h => h)
  refine D3 (by kernel_rfl) (Ai (AN (AR (A8 (ι := PS × Value × AU × Value × List (List UInt8) × Nat) (fun zz => Le I zz.2.2.1 ∧ J7 s zz.1 zz.2.1 zz.2.2.1 ∧ A0 zz.2.2.1 l cs ∧ 2 * Bp s zz.1 + zz.2.2.2.2.1.length ≤ m2 ∧ Bp s zz.1 + 1 ≤ m1 ∧ Bp s zz.1 < zz.2.2.2.2.2 ∧ R = GP (GP (Mk s zz.2.2.2.2.2 zz.2.2.2.2.1 zz.1) (FZ s B (Fs s B g) l)) (Iy s nm)) (fun zz => Bp s zz.1) (fun zz => []) [(6, _), (0, _), (1, _), (4, _), (5, _), (24, _)] (fun zz => zz.2.2.1) (fun zz => (BO 9 1 Bo zz.2.2.2.1 zz.2.2.2.2.1 :: BO 26 7 A2 kv cs :: row b5 26 (A2 ⟨13, false, false, nm, zz.2.2.2.1, AO, kv⟩) :: row b4 26 (A2 DB) :: row b 58 (CO s zz.2.1 zz.1.next) :: F)) (p, lv, J, v34, ws ++ [x32], Bp s p + 1) ?_ (AW) (AB rfl) (fun _ h => AA h) ?_))))
  ·dsimp only; exact ⟨hL, hp, CV, by rw [List.length_append, List.length_singleton]; omega, by omega, Nat.lt_succ_self _, hR⟩
  rintro ⟨p, lv, J, wv, ws, g2⟩ ⟨hL, hp, CV, hmw, hmx, hg2, hR⟩; dsimp only at *; obtain ⟨g2, rfl⟩ : ∃ g', g2 = g' + 1 := ⟨g2 - 1, by omega⟩; rw [Mk] at hR; refine AN (tr (AC 1 rfl (B7 rfl rfl rfl (Aa rfl rfl rfl Tryz.func52 (by kernel_rfl) rfl (fun w hw => Gv b s hs [124] p lv _ _ _ w _ rfl hp (AD (row b 58 (CO s lv p.next)) hw))) ?_ ?_)))
  ·rintro _ Jx _ ⟨Br, rfl, ax, ex, Bs, rfl⟩; rw [Ay Bs] at hR; refine AL (AL (AL (Aj (AL (Aj (AL (Aj (AL (?_)))))))))
   exact Am fun w hw => .inr ⟨_, rfl, Jx, _, ⟨hL.trans Br, rfl, ax, ex, hR, rfl⟩, AA hw⟩
  rintro v37 J _ ⟨hJ, x37, p, lv, YC, ADK, hp, ⟨rfl, hf, rfl⟩, rfl⟩
  have hL := hL.trans hJ
  rw [AY YC] at hR
  have CV := CV.mono hJ
  refine ln (AF rfl (fun BU => ?_) (fun BU => ?_))
  ·have q2 : C8 [124] (AP s p) = true := BU
   rw [if_pos q2] at hR; refine Al (AR (tr (AC 1 rfl (Bw rfl rfl rfl rfl (fun w hw => Bv b s hs p lv _ _ _ w hf hp (AD (row b 58 (CO s lv p.next)) hw)) ?_)))); rintro _ J _ ⟨hJ, rfl, p, lv, AGN, APs, AIR, hp, rfl⟩
   have CV := CV.mono hJ
   have hL := hL.trans hJ
   rw [← AGN] at hR
   have EX := AIR (Bq q2)
   refine ln (DH [3, 4, 5, 7] [7] [row b5 26 (A2 ⟨13, false, false, nm, wv, AO, kv⟩)] mo (by kernel_rfl) (fun _ _ _ _ _ h => h) (Bg [0] (by kernel_rfl) rfl rfl rfl (Ko 1 (by kernel_rfl) rfl (Le.refl _) rfl (fun _ hI => AZ rfl rfl (by rfl)) ?_))); refine Bg [2] (by kernel_rfl) rfl rfl rfl (QE 3 (by kernel_rfl) (by kernel_rfl) rfl (Le.refl _) rfl rfl rfl (Aa rfl rfl rfl Tryz.func152 (by kernel_rfl) rfl (fun w hw => FW b s hs p lv _ _ _ w _ rfl hp (AD (row b 58 (CO s lv p.next)) hw))) ?_ ?_)
   ·rintro _ Jx _ ⟨Br, rfl, ax, ex, Bs, rfl⟩; rw [Ay Bs] at hR; refine Aj (AL (Aj (AL (Aj (AL (Aj (AL (?_))))))))
    exact Am fun w hw => .inr ⟨_, rfl, Jx, _, ⟨hL.trans Br, rfl, ax, ex, hR, rfl⟩, AA hw⟩
   rintro v43 J _ ⟨hJ, x43, p, lv, AFV, AGk, hp, ⟨rfl, APc⟩, rfl⟩; refine ⟨hJ, .inr CY.sub, ?_⟩
   have hL := hL.trans hJ
   rw [AY AFV] at hR
   have CV := CV.mono hJ
   refine re 4 (by kernel_rfl) rfl (hJ) rfl (AS rfl CD CU rfl rfl rfl (by rfl) rfl) ?_; rintro _ _ _ ⟨b44, rfl, rfl, rfl⟩; refine ⟨Le.refl _, .inr CY.sub, ?_⟩; refine re 5 (by kernel_rfl) rfl (hJ) rfl (Ba (f := Bo) (c := x43) rfl CD CU rfl rfl rfl rfl rfl rfl rfl (by exact Ev _) (by simp only [maxLen]; omega) (by omega)) ?_; rintro v45 _ _ ⟨rfl, rfl⟩; refine ⟨Le.refl _, .inr CY.sub, ?_⟩; refine Iz v45 (fun Df => ?_); refine Bg [6] (by kernel_rfl) rfl rfl rfl ?_; refine Eu 7 (by kernel_rfl) (by kernel_rfl) rfl (hJ) rfl rfl (Ac rfl EE rfl rfl (by assumption) rfl (by rfl)) ?_; rintro _ _ _ ⟨rfl, rfl⟩; refine ⟨Le.refl _, .inl rfl, ?_⟩; refine ES (H' := row b5 26 (A2 ⟨13, false, false, nm, v45, AO, kv⟩) :: _) ?_ (fun _ h => h); refine D3 (by kernel_rfl) (AV (Ak ((p, lv, J, v45, ws ++ [x43], g2)) ?_ ?_ (AW) (AB rfl) (fun _ h => by dsimp only; exact AA h)))
   ·dsimp only; exact ⟨hL, hp, CV, by rw [List.length_append, List.length_singleton]; omega, by omega, by omega, hR⟩
   ·dsimp only
    omega
  ·have q2 : ¬ C8 [124] (AP s p) = true := by rw [show C8 [124] (AP s p) = false from BU]; simp
   rw [if_neg q2] at hR
   have hR : R = GP (FZ s B (Fs s B g) l ws p) (Iy s nm) := hR
   unfold FZ at hR; refine BB (AG (AG (AQ (Ai (tr (AC 1 rfl (B7 rfl rfl rfl (Aa rfl rfl rfl Tryz.func144 (by kernel_rfl) rfl (fun w hw => Gn b s hs [41] p lv _ _ _ w _ rfl hp (AD (row b 58 (CO s lv p.next)) hw))) ?_ ?_)))))))
   ·rintro _ Jx _ ⟨Br, rfl, ax, ex, Bs, rfl⟩; rw [Ay Bs] at hR; refine AL (Aj (AL (Aj (AL (?_)))))
    exact Am fun w hw => .inr ⟨_, rfl, Jx, _, ⟨hL.trans Br, rfl, ax, ex, hR, rfl⟩, AA hw⟩
   rintro v48 J _ ⟨hJ, x48, p, lv, Uc, ZE, hp, rfl, rfl⟩
   have hL := hL.trans hJ
   rw [AY Uc] at hR
   have CV := CV.mono hJ
   refine BQ (AC 1 rfl (lq rfl (AZ rfl rfl (by rfl)) ?_)); refine le rfl (AS rfl CD CU rfl rfl rfl (by rfl) rfl) ?_; rintro _ _ _ ⟨b51, rfl, rfl, rfl⟩; refine le rfl (Ba (f := Bo) (c := [41]) rfl CD CU rfl rfl rfl rfl rfl rfl rfl (by exact Ev _) (by simp only [maxLen]; omega) (by omega)) ?_; rintro v52 _ _ ⟨rfl, rfl⟩; refine FV v52 (fun Df => ?_); refine AC 1 rfl ?_; refine An rfl rfl (Ac rfl EE rfl rfl (by assumption) rfl (by rfl)) ?_; rintro _ _ _ ⟨rfl, rfl⟩; refine AI (H' := row b5 26 (A2 ⟨13, false, false, nm, v52, AO, kv⟩) :: _) ?_ (fun _ h => h); refine BQ (AC 1 rfl (B7 rfl rfl rfl (Aa rfl rfl rfl Tryz.func31 (by kernel_rfl) rfl (fun w hw => Cn b s hs p lv _ _ _ w _ rfl hp (AD (row b 58 (CO s lv p.next)) hw))) ?_ ?_))
   ·rintro _ Jx _ ⟨Br, rfl, ax, ex, Bs, rfl⟩; rw [Ay Bs] at hR; refine AL (Aj (AL (Aj (AL (?_)))))
    exact Am fun w hw => .inr ⟨_, rfl, Jx, _, ⟨hL.trans Br, rfl, ax, ex, hR, rfl⟩, AA hw⟩
   rintro v55 J _ ⟨hJ, x55, p, lv, ALJ, APz, hp, ⟨rfl, hf, Ic⟩, rfl⟩
   have hL := hL.trans hJ
   rw [AY ALJ] at hR
   have CV := CV.mono hJ
   rw [AY (CT hf)] at hR; refine BQ (lq rfl (A6 (pl := [(_, _), (_, _), (_, _), (_, _), (_, _), (_, _), (_, _)]) (cs := (A2 ⟨5, false, false, [], AO, AO, AO⟩).toArray) rfl BR Ab ⟨rfl, ⟨_, _, B0⟩, rfl, ⟨_, _, De⟩, rfl, ⟨_, _, De⟩, rfl, ⟨_, _, CU⟩, rfl, ⟨_, _, EE⟩, rfl, ⟨_, _, El⟩, rfl, ⟨_, _, D6⟩, trivial⟩ rfl rfl) (le rfl (Ah rfl Ab rfl) ?_)); rintro _ _ _ ⟨b7, rfl, rfl, rfl⟩; refine An rfl rfl ((by exact AE rfl Ab rfl rfl rfl (by exact HO B3 B3 B3) rfl)) ?_; rintro _ _ _ ⟨rfl, rfl⟩; refine AI (H' := row b7 26 (A2 ⟨5, false, false, [], AO, AO, AO⟩) :: _) ?_ (fun _ h => h); refine ln (Bh (ι := PS × Value × AU × NC × Nd) (fun zz => Le I zz.2.2.1 ∧ J7 s zz.1 zz.2.1 zz.2.2.1 ∧ A0 zz.2.2.1 l cs ∧ Bm zz.2.2.1 zz.2.2.2.2 zz.2.2.2.1 ∧ 2 * Bp s zz.1 + (ws.length + 1) + 1 ≤ m2 ∧ Bp s zz.1 + 1 ≤ m1 ∧ R = GP (Ia s (Fs s B g) (ws ++ [[41]]) (l ++ [zz.2.2.2.2]) zz.1) (Iy s nm)) (fun zz => []) [(6, _), (0, _), (1, _), (4, _), (5, _), (24, _), (37, _), (7, _)] (fun zz => zz.2.2.1) (fun zz => (BO 9 1 Bo v52 (ws ++ [[41]]) :: BO 26 7 A2 kv cs :: row b7 26 (A2 zz.2.2.2.1) :: row b5 26 (A2 ⟨13, false, false, nm, v52, AO, kv⟩) :: row b4 26 (A2 DB) :: row b 58 (CO s zz.2.1 zz.1.next) :: F)) (AB rfl) ?_ ?_)
   ·refine tr (AC 1 rfl (lq rfl (qc rfl rfl rfl ((fun w hw => Io b s p lv w hs hf hp.1 (hp.2.1.mono hw.le) (Bn hw) (hp.2.2.mono hw.le)))) (ln (AF rfl (fun Bd => ?_) (fun Bd => ?_)))))
    ·rw [if_pos Bd] at hR; refine AH (AC 2 rfl (lq rfl (AX rfl rfl rfl (by omega)) ?_)); refine B7 rfl rfl rfl (Aa rfl rfl rfl Tryz.func143 (by kernel_rfl) rfl (fun w hw => hB p lv _ _ _ w _ rfl hp (AD (row b 58 (CO s lv p.next)) hw))) ?_ ?_
     ·rintro _ Jx _ ⟨Br, rfl, ax, ex, Bs, rfl⟩; rw [Ay Bs] at hR; refine AL (Aj (AL (Aj (AL (?_)))))
      exact Am fun w hw => .inr ⟨_, rfl, Jx, _, ⟨hL.trans Br, rfl, ax, ex, hR, rfl⟩, AA hw⟩
     rintro v62 J _ ⟨hJ, x62, p, lv, AEY, AGg, hp, ⟨c62, rfl, AHt⟩, rfl⟩
     have hL := hL.trans hJ
     rw [AY AEY] at hR
     have CV := CV.mono hJ
     refine An rfl rfl ((by exact AE rfl Ab rfl rfl rfl (by exact AHt.ones) rfl)) ?_; rintro _ _ _ ⟨rfl, rfl⟩; refine AI (H' := row b7 26 (A2 c62) :: _) ?_ (fun _ h => h); refine BX (Av ((p, lv, J, c62, x62)) ?_ (AW) (AB rfl) (fun _ h => by dsimp only; exact AA h))
     ·dsimp only; exact ⟨hL, hp, CV, AHt, by omega, by omega, hR⟩
    ·rw [if_neg (by rw [Bd]; simp)] at hR; refine Au (Av ((p, lv, J, ⟨5, false, false, [], AO, AO, AO⟩, Ip 5 [])) ?_ (AW) (AB rfl) (fun _ h => by dsimp only; exact AA h))
     ·dsimp only; exact ⟨hL, hp, CV, Bm.kids DP A0.nil, by omega, by omega, hR⟩
   rintro ⟨p, lv, J, cb, nb⟩ ⟨hL, hp, CV, MW, hmz, hmq, hR⟩; dsimp only at *; unfold Ia at hR
   have hwl : (ws ++ [([41] : List UInt8)]).length = ws.length + 1 := by simp
   refine tr (AC 1 rfl (lq rfl (AZ rfl rfl (by rfl)) ?_)); refine lq rfl (Af rfl BR Ab rfl rfl rfl) (le rfl (AS rfl CJ Ab rfl rfl rfl (by rfl) rfl) ?_); rintro _ _ _ ⟨b66, rfl, rfl, rfl⟩; refine le rfl (Ba (f := A2) (c := cb) rfl CJ Ab rfl rfl rfl rfl rfl rfl rfl (by exact MW.ones) (by simp only [maxLen]; omega) (by omega)) ?_; rintro v67 _ _ ⟨rfl, rfl⟩; refine FV v67 (fun Df => ?_); refine AC 1 rfl ?_; refine An rfl rfl (Ac rfl D6 rfl rfl (by assumption) rfl (by rfl)) ?_; rintro _ _ _ ⟨rfl, rfl⟩; refine AI (H' := row b5 26 (A2 ⟨13, false, false, nm, v52, AO, v67⟩) :: _) ?_ (fun _ h => h); refine BQ (AC 1 rfl (B7 rfl rfl rfl (Aa rfl rfl rfl Tryz.func52 (by kernel_rfl) rfl (fun w hw => Gv b s hs [59, 59] p lv _ _ _ w _ rfl hp (AD (row b 58 (CO s lv p.next)) hw))) ?_ ?_))
   ·rintro _ Jx _ ⟨Br, rfl, ax, ex, Bs, rfl⟩; rw [Ay Bs] at hR; refine AL (Aj (AL (Aj (AL (?_)))))
    exact Am fun w hw => .inr ⟨_, rfl, Jx, _, ⟨hL.trans Br, rfl, ax, ex, hR, rfl⟩, AA hw⟩
   rintro v70 J _ ⟨hJ, x70, p, lv, Z9, ACg, hp, ⟨rfl, hf, rfl⟩, rfl⟩
   have hL := hL.trans hJ
   rw [AY Z9] at hR
   have CV := CV.mono hJ
   have MW := MW.mono hJ
   refine Ae rfl (Ar rfl (AF rfl (fun Cg => ?_) (fun Cg => ?_)))
   ·have q4 : C8 [59, 59] (AP s p) = true := Cg
    rw [if_pos q4] at hR; refine tr (AC 1 rfl (Bw rfl rfl rfl rfl (fun w hw => Bv b s hs p lv _ _ _ w hf hp (AD (row b 58 (CO s lv p.next)) hw)) ?_)); rintro _ J _ ⟨hJ, rfl, p, lv, AIy, APA, AGT, hp, rfl⟩
    have CV := CV.mono hJ
    have MW := MW.mono hJ
    have hL := hL.trans hJ
    rw [← AIy] at hR
    have EX := AGT (Bq q4)
    refine ln (AH (AC 1 rfl (B7 rfl rfl rfl (Aa rfl rfl rfl Tryz.func31 (by kernel_rfl) rfl (fun w hw => Cn b s hs p lv _ _ _ w _ rfl hp (AD (row b 58 (CO s lv p.next)) hw))) ?_ ?_)))
    ·rintro _ Jx _ ⟨Br, rfl, ax, ex, Bs, rfl⟩; rw [Ay Bs] at hR; refine Aj (AL (Aj (AL (?_))))
     exact Am fun w hw => .inr ⟨_, rfl, Jx, _, ⟨hL.trans Br, rfl, ax, ex, hR, rfl⟩, AA hw⟩
    rintro v75 J _ ⟨hJ, x75, p, lv, AEG, AGx, hp, ⟨rfl, hf, Ic⟩, rfl⟩
    have hL := hL.trans hJ
    rw [AY AEG] at hR
    have CV := CV.mono hJ
    have MW := MW.mono hJ
    refine BX (AV (Ak ((p, lv, J, v52, ws ++ [[41]], v67, cs ++ [cb], l ++ [nb], g, true)) ?_ ?_ (Bl rfl (congrArg Value.bool Cg) (AW)) (AB rfl) (fun _ h => by dsimp only; exact AA h)))
    ·dsimp only; refine ⟨hL, hp, A0.snoc MW CV, by simp only [List.length_append, List.length_singleton]; omega, by simp only [List.length_append, List.length_singleton]; omega, by simp only [List.length_append, List.length_singleton]; omega, fun _ => ⟨by omega, hR, hf⟩, fun h => by cases h⟩
    ·dsimp only; rw [if_pos rfl, if_pos rfl]
     omega
   ·have q4 : ¬ C8 [59, 59] (AP s p) = true := by rw [show C8 [59, 59] (AP s p) = false from Cg]; simp
    rw [if_neg q4] at hR; refine Au (AV (Ak ((p, lv, J, v52, ws ++ [[41]], v67, cs ++ [cb], l ++ [nb], g, false)) ?_ ?_ (Bl rfl (congrArg Value.bool Cg) (AW)) (AB rfl) (fun _ h => by dsimp only; exact AA h)))
    ·dsimp only; refine ⟨hL, hp, A0.snoc MW CV, by simp only [List.length_append, List.length_singleton]; omega, by simp only [List.length_append, List.length_singleton]; omega, by simp only [List.length_append, List.length_singleton]; omega, fun h => (by cases h), fun _ => hR⟩
    ·dsimp only; rw [if_pos rfl, if_neg (by simp)]
     omega
 ·have hR : R = GP (CC.ok (ws, l) p) (Iy s nm) := by
   cases mo with
   | false => exact hmf rfl
   | true =>
    obtain ⟨hg, hR, hf⟩ := Vz rfl; obtain ⟨g, rfl⟩ : ∃ g', g = g' + 1 := ⟨g - 1, by omega⟩
    have h : Bu [101, 115, 97, 99] (AP s p) = true := by have := hc0; simpa using this
    rw [hR, Fs, AY (CT hf), if_pos h]
  have hR : R = Iy s nm (ws, l) p := hR
  unfold Iy at hR; refine BB (AG (AG (AQ (Ai (tr (AC 1 rfl (B7 rfl rfl rfl (Aa rfl rfl rfl Tryz.func145 (by kernel_rfl) rfl (fun w hw => DR b s hs [101, 115, 97, 99] p lv _ _ _ w _ rfl hp (AD (row b 58 (CO s lv p.next)) hw))) ?_ ?_)))))))
  ·rintro _ Jx _ ⟨Br, rfl, ax, ex, Bs, rfl⟩; rw [Ay Bs] at hR; refine AL (?_)
   exact Am fun w hw => .inr ⟨_, rfl, Jx, _, ⟨hL.trans Br, rfl, ax, ex, hR, rfl⟩, AA hw⟩
  rintro v77 J _ ⟨hJ, x77, p, lv, ANf, AOU, hp, rfl, rfl⟩
  have hL := hL.trans hJ
  rw [AY ANf] at hR
  have CV := CV.mono hJ
  refine Gb (CG (f := Bo) (l := ws) wv (fun _ => rfl) (fun J1 Qm hw1 => ?_)); refine CG (f := A2) (l := cs) kv (fun _ => rfl) (fun J2 hJ2 hw2 => ?_)
  have Is : Bm J2 (.mk 13 false false nm ws [] l) ⟨13, false, false, nm, wv, AO, kv⟩ := Bm.of (hw1.mono hJ2) DP hw2 ((CV.mono Qm).mono hJ2)
  refine AH (lq rfl (Af rfl BR Ab rfl rfl rfl) (An rfl rfl ((by exact AE rfl Ab rfl rfl rfl (by exact Is.ones) rfl)) ?_)); rintro _ _ _ ⟨rfl, rfl⟩; refine ln (Aq (A3 (.inl rfl) rfl (by exact BK rfl BR Ab rfl rfl (BJ)) (fun w' hw => ?_))); exact .inl ⟨_, rfl, J2, _, ⟨(hL.trans Qm).trans hJ2, _, p, lv, hR, by omega, (hp.mono Qm).mono hJ2, ⟨_, rfl, Is⟩, rfl⟩, AA hw⟩
end Go.Tri
