/-
 The reference: a complete command, in plain words.
-/
import Derived.Test.YthjgbalcngkjjaaGreatDoorSD7
import Derived.Test.YthjgbalcngkjjaaGreatDoorRB6
import Derived.Test.YthjgbalcngkjjaaGreatDoorQE2
namespace Go.Tri
open Go.Proofs Go.RowKit
def AMS (s : List UInt8) (I : AU) (x : Option Nd) (q : PS) (v : Value) : Prop := match x with
 | none => v = .tuple #[.agg (A2 DB).toArray, .bool false, .int .i64 (s.length : Int), .int .i64 0, .int .i64 0]
 | some n => ∃ c, v = .tuple #[.agg (A2 c).toArray, .bool true, .int .i64 (q.next : Int), .int .i64 0, .int .i64 0] ∧ Bm I n c
def ADC (s : List UInt8) (g : Nat) (l : List Nd) (x : Nd × Bool) (q : PS) : CC (Option Nd) := if (x.2 && HR q) = true then Je s g (l ++ [x.1]) q else Eg (l ++ [x.1]) q
theorem YF (s : List UInt8) (g : Nat) (l : List Nd) (p : PS) : Je s (g + 1) l p = GP (Cf (V7 s 25) (fun n q => Cf (C4 s) (fun t r => PN n t r) q) p) (ADC s g l) := rfl
theorem ACM {s : List UInt8} {g : Nat} {l : List Nd} {n : Nd} {p : PS} : GP (PN n (AP s p) p) (ADC s g l) = if (C8 [38] (AP s p) || C8 [59] (AP s p)) = true then (if HR (BE p) = true then Je s g (l ++ [mN (AP s p) n]) (BE p) else Eg (l ++ [mN (AP s p) n]) (BE p)) else Eg (l ++ [mN (AP s p) n]) p := by
 unfold PN mN
 cases h1 : C8 [38] (AP s p) with
 | true => rfl
 | false =>
  cases h2 : C8 [59] (AP s p) with
  | true => rfl
  | false => rfl
end Go.Tri

namespace Go.Tri
open Go.Proofs Go.RowKit
set_option maxRecDepth 10000
def ZW (s : List UInt8) (g : Nat) (l : List Nd) (p : PS) : CC (Option Nd) := if (C8 [38] (AP s p) || C8 [59] (AP s p)) = true then (if HR (BE p) = true then Je s g l (BE p) else Eg l (BE p)) else Eg l p
theorem Yp {s : List UInt8} {p : PS} {T : List CX} {i : Nat} (hd : T.drop i = p.line) (h : i < T.length) : T[i]? = some (AP s p) := by
 rw [List.drop_eq_getElem_cons h] at hd; rw [Db hd.symm, List.getElem?_eq_getElem h]
theorem ADb {p : PS} {T : List CX} {i : Nat} (hd : T.drop i = p.line) (h : i < T.length) : p.line ≠ [] := by
 rw [← hd]; intro h9
 have := List.drop_eq_nil_iff.1 h9
 omega
theorem ZO {p : PS} {T : List CX} {i : Nat} (hd : T.drop i = p.line) (h : ¬ i < T.length) : p.line = [] := by
 rw [← hd]; exact List.drop_eq_nil_of_le (by omega)
theorem ADk {s : List UInt8} {l : List Nd} {p : PS} (h : p.line ≠ []) : Eg l p = if (AP s p).kind = 3 then .ok (some (Ct l)) (BE p) else .bad (AP s p).pos 56 := by
 obtain ⟨t, r, hl⟩ := Er h; rw [Q0 hl, Db hl]
theorem RJ {s : List UInt8} {p : PS} {T : List CX} {i : Nat} (hd : T.drop i = p.line) : (decide ((T.length : Int) ≤ (i : Int)) || decide (((AP s p).kind : Int) = 3)) = !HR p := by
 by_cases h : i < T.length
 ·obtain ⟨t, r, hl⟩ := Er (ADb hd h); rw [PX hl, Db hl, decide_eq_false (show ¬ (T.length : Int) ≤ (i : Int) by omega), Bool.false_or]
  by_cases h3 : (t.kind : Int) = 3 <;> simp [h3]
 ·rw [Yf (ZO hd h), decide_eq_true (show (T.length : Int) ≤ (i : Int) by omega)]
  rfl
set_option maxHeartbeats 4000000 in
theorem LN (s : List UInt8) (hs : s.length ≤ 65536) (a : Nat) (ha : a ≤ s.length) (I : AU) (F : List HA) (w0 w : World) (R : CC (Option Nd)) (hR : R = DI s ⟨[], a⟩) (Bb : ∃ x q, R = .ok x q) (CE : St w0 I F w) : Calls Tryz.prog 13 #[Bj s, .int .i64 (a : Int)] w (fun e w' => ∃ v, e = .returned v ∧ ∃ I' H', (Le I I' ∧ F = H' ∧ ∃ x q, R = .ok x q ∧ AMS s I' x q v) ∧ St w I' H' w') := by
 have hL := Le.refl I
 unfold DI at hR; obtain ⟨p, hpp⟩ : ∃ z, z = (⟨[], a⟩ : PS) := ⟨_, rfl⟩; rw [← hpp] at hR; obtain ⟨lv, AJa⟩ : ∃ z, z = AO := ⟨_, rfl⟩; obtain ⟨i, hi0⟩ : ∃ z, z = 0 := ⟨_, rfl⟩
 have hp : GU s p lv i I := by
  subst hpp AJa hi0; exact ⟨⟨ha, (fun _ h => by cases h), Nat.zero_le _⟩, ⟨[], DP, rfl, Nat.le_refl _, Nat.zero_le _⟩, (fun _ h => by cases h)⟩
 have BH := hp.len
 refine enter (args := [Bj s, .int .i64 (a : Int)]) Tryz.func13 rfl Tryz.ntmps13 rfl (CE.self) (tr (le rfl (Ah rfl Ab rfl) ?_)); rintro _ _ _ ⟨b4, rfl, rfl, rfl⟩; refine AI (H' := row b4 26 (A2 DB) :: _) ?_ (fun _ h => h); refine Ae rfl (AN (tq (AK 1 rfl (sq rfl (Ap rfl CW rfl) (AK 2 rfl ?_)))))
 refine Bf 2 3 19 22 21 _ _ rfl rfl rfl rfl rfl rfl (fun Vp => by
   simp at Vp
   refine AJ 2 rfl ?_; exact Ao rfl
  ) (AM rfl) rfl rfl rfl ?_
 refine AK 1 rfl ?_
 refine Bf 4 7 23 28 27 _ _ rfl rfl rfl rfl rfl rfl (fun h28 => by
   simp at h28
   refine AJ 2 rfl (sg rfl (Ap rfl CW rfl) (AJ 1 rfl ?_)); exact Ao rfl
  ) (AM rfl) rfl rfl rfl ?_
 refine Cy (AF rfl (fun hc0 => ?_) (fun hc0 => ?_))
 ·exfalso
  have h9 := hc0
  simp only [Bool.or_eq_true, decide_eq_true_eq] at h9
  omega
 ·refine Al (tr (AC 2 rfl (lq rfl (A6 (pl := [(_, _), (_, _), (_, _), (_, _), (_, _), (_, _)]) (cs := (CZ s AO 0 a).toArray) rfl AMe ANQ ⟨rfl, ⟨_, _, CU⟩, rfl, ⟨_, _, UM⟩, rfl, ⟨_, _, B0⟩, rfl, ⟨_, _, B0⟩, rfl, ⟨_, _, B0⟩, rfl, ⟨_, _, B0⟩, trivial⟩ rfl rfl) (le rfl (FE rfl rfl rfl) ?_)))); rintro _ _ _ ⟨b43, rfl, rfl, rfl⟩; obtain ⟨b, hbe⟩ : ∃ z, z = b43 := ⟨_, rfl⟩; rw [← hbe]; refine AI (H' := row b 71 (CZ s lv i p.next) :: _) ?_ (fun _ h => by rw [hpp, AJa, hi0]; exact h); refine Ae rfl (tr (AC 1 rfl (Bw rfl rfl rfl rfl (fun w hw => Cr b s hs p lv i _ _ _ w _ rfl (Az Bb hR) hp (AD (row b 71 (CZ s lv i p.next)) hw)) ?_))); rintro v45 J _ ⟨hJ, x45, p, lv, i, Uh, ZA, hp, ⟨rfl, hf, hk⟩, rfl⟩
  have hL := hL.trans hJ
  rw [AY Uh] at hR
  have BH := hp.len
  rw [AY (CT hf)] at hR
  have Qi := FD hp.1
  obtain ⟨M, hM⟩ : ∃ M, M = Bp s p := ⟨_, rfl⟩; refine Gb (tq (AK 3 rfl (sq rfl ((by exact AZ rfl rfl (by rfl))) ?_))); refine AK 2 rfl ?_
  refine BA 4 5 51 56 55 _ _ rfl rfl rfl rfl rfl rfl (fun h56 => by
    simp at h56
    refine AJ 1 rfl (sg rfl (qc rfl rfl rfl ((fun w hw => EM b s p lv i w hs hf (hp.mono hw.le) (Bn hw)))) (sg rfl (DT rfl Cz rfl Li rfl rfl rfl) (AJ 1 rfl ?_))); exact Ao rfl
   ) (AM rfl) rfl rfl rfl ?_
  refine Cy (AF rfl (fun BI => ?_) (fun BI => ?_))
  ·simp at BI
   rw [if_pos (show (AP s p).kind = 0 by omega)] at hR; refine tr (AC 3 rfl (lq rfl ((by exact AZ rfl rfl (by rfl))) ?_)); refine Ae rfl (AF rfl (fun BU => ?_) (fun BU => ?_))
   ·simp at BU
    refine tr (lq rfl (A6 (pl := [(_, _), (_, _), (_, _), (_, _), (_, _), (_, _), (_, _)]) (cs := (A2 DB).toArray) rfl BR Ab ⟨rfl, ⟨_, _, B0⟩, rfl, ⟨_, _, De⟩, rfl, ⟨_, _, De⟩, rfl, ⟨_, _, CU⟩, rfl, ⟨_, _, EE⟩, rfl, ⟨_, _, El⟩, rfl, ⟨_, _, D6⟩, trivial⟩ rfl rfl) (AC 1 rfl (lq rfl (Ap rfl CW rfl) (An rfl rfl ((by exact AE rfl Ab rfl rfl rfl (by exact F8) rfl)) ?_)))); rintro _ _ _ ⟨rfl, rfl⟩; refine AI (H' := row b4 26 (A2 DB) :: _) ?_ (fun _ h => h); refine Ae rfl (Aq (Ag (A3 (.inl rfl) rfl (by exact BK rfl BR Ab rfl rfl (Dc rfl (Dc rfl (Dc rfl (Dc rfl (BJ)))))) (fun w' hw => ?_)))); exact ⟨_, rfl, J, _, ⟨hL, rfl, none, p, hR, rfl⟩, AA hw⟩
   ·simp at BU
  ·simp at BI
   rw [if_neg (show ¬ (AP s p).kind = 0 by omega)] at hR; refine Al (Ar rfl (Bh (ι := PS × Value × Nat × AU × List Nd × List NC × Value) (fun zz => Le I zz.2.2.2.1 ∧ GU s zz.1 zz.2.1 zz.2.2.1 zz.2.2.2.1 ∧ A0 zz.2.2.2.1 zz.2.2.2.2.1 zz.2.2.2.2.2.1 ∧ R = Eg zz.2.2.2.2.1 zz.1) (fun zz => [(14, zz.2.2.2.2.2.2)]) [(0, _), (1, _), (4, _), (5, _), (6, _), (7, _), (8, _), (28, _), (13, _), (56, _)] (fun zz => zz.2.2.2.1) (fun zz => (BO 26 7 A2 zz.2.2.2.2.2.2 zz.2.2.2.2.2.1 :: row b4 26 (A2 DB) :: row b 71 (CZ s zz.2.1 zz.2.2.1 zz.1.next) :: F)) (AB rfl) ?_ ?_))
   ·refine AR (A8 (ι := PS × Value × Nat × AU × Nat × List Nd × List NC × Value) (fun zz => Le I zz.2.2.2.1 ∧ GU s zz.1 zz.2.1 zz.2.2.1 zz.2.2.2.1 ∧ A0 zz.2.2.2.1 zz.2.2.2.2.2.1 zz.2.2.2.2.2.2.1 ∧ zz.2.2.2.2.2.1.length + Bp s zz.1 ≤ M ∧ Bp s zz.1 < zz.2.2.2.2.1 ∧ R = Je s zz.2.2.2.2.1 zz.2.2.2.2.2.1 zz.1) (fun zz => Bp s zz.1) (fun zz => [(14, zz.2.2.2.2.2.2.2)]) [(0, _), (1, _), (4, _), (5, _), (6, _), (7, _), (8, _), (28, _), (13, _), (56, _)] (fun zz => zz.2.2.2.1) (fun zz => (BO 26 7 A2 zz.2.2.2.2.2.2.2 zz.2.2.2.2.2.2.1 :: row b4 26 (A2 DB) :: row b 71 (CZ s zz.2.1 zz.2.2.1 zz.1.next) :: F)) (p, lv, i, J, Bp s p + 1, [], [], .slice none 0 0) ?_ (AB rfl) (AB rfl) (fun _ h => AA (CS 26 7 A2 h)) ?_)
    ·dsimp only; exact ⟨hL, hp, A0.nil, by simp; omega, Nat.lt_succ_self _, hR⟩
    rintro ⟨p, lv, i, J, g, l, cs, tv⟩ ⟨hL, hp, Fg, I4, hg, hR⟩; dsimp only at *
    have BH := hp.len
    have EP := Fg.len
    obtain ⟨M2, hM2⟩ : ∃ z, z = Bp s p := ⟨_, rfl⟩; refine AN (tr (AC 3 rfl (lq rfl ((by exact AZ rfl rfl (by rfl))) ?_))); refine Ae rfl (AF rfl (fun Bd => ?_) (fun Bd => ?_))
    ·simp at Bd
     refine Al (AR (tr (AC 1 rfl ?_))); obtain ⟨g, rfl⟩ : ∃ g', g = g' + 1 := ⟨g - 1, by omega⟩; rw [YF] at hR; refine Bw rfl rfl rfl rfl (fun w hw => Ub b s hs p lv i _ _ _ w _ rfl (Az (CR Bb hR) rfl) hp (AD (row b 71 (CZ s lv i p.next)) hw)) ?_; rintro v71 J _ ⟨hJ, x71, p, lv, i, ADe, AJl, hp, ⟨c71, rfl, WZ⟩, rfl⟩
     have hL := hL.trans hJ
     rw [AY ADe] at hR
     have BH := hp.len
     have Fg := Fg.mono hJ
     refine le rfl (Ah rfl Ab rfl) ?_; rintro _ _ _ ⟨b15, rfl, rfl, rfl⟩; refine AI (H' := row b15 26 (A2 DB) :: _) ?_ (fun _ h => h); refine An rfl rfl ((by exact AE rfl Ab rfl rfl rfl (by exact WZ.ones) rfl)) ?_; rintro _ _ _ ⟨rfl, rfl⟩; refine AI (H' := row b15 26 (A2 c71) :: _) ?_ (fun _ h => h); refine K6 (AC 3 rfl (lq rfl ((by exact AZ rfl rfl (by rfl))) ?_)); refine Ae rfl (AF rfl (fun Cg => ?_) (fun Cg => ?_))
     ·simp at Cg
     ·simp at Cg
      refine Al (Bh (ι := PS × Value × Nat × AU × Nd × NC) (fun zz => Le I zz.2.2.2.1 ∧ GU s zz.1 zz.2.1 zz.2.2.1 zz.2.2.2.1 ∧ CH s zz.1 ∧ A0 zz.2.2.2.1 l cs ∧ Bm zz.2.2.2.1 zz.2.2.2.2.1 zz.2.2.2.2.2 ∧ Bp s zz.1 + 1 ≤ M2 ∧ R = ZW s g (l ++ [zz.2.2.2.2.1]) zz.1) (fun zz => []) [(14, _), (0, _), (1, _), (4, _), (5, _), (6, _), (7, _), (8, _), (28, _), (13, _), (56, _), (69, _), (15, _), (76, _)] (fun zz => zz.2.2.2.1) (fun zz => (row b15 26 (A2 zz.2.2.2.2.2) :: BO 26 7 A2 tv cs :: row b4 26 (A2 DB) :: row b 71 (CZ s zz.2.1 zz.2.2.1 zz.1.next) :: F)) (AB rfl) ?_ ?_)
      ·refine tr (AC 1 rfl (Bw rfl rfl rfl rfl (fun w hw => ED b s hs 2 [38] (C8 [38]) (fun _ _ => EH) p lv i _ _ _ w _ rfl (Az (CR Bb hR) rfl) hp (AD (row b 71 (CZ s lv i p.next)) hw)) ?_)); rintro v78 J _ ⟨hJ, x78, p, lv, i, ALk, APw, hp, ⟨rfl, hf, rfl⟩, rfl⟩
       have hL := hL.trans hJ
       rw [AY ALk] at hR
       have BH := hp.len
       have Fg := Fg.mono hJ
       rw [ACM, ← ZW] at hR
       have WZ := WZ.mono hJ
       refine ln (AF rfl (fun C1 => ?_) (fun C1 => ?_))
       ·refine AH (lq rfl (Af rfl BR Ab rfl rfl rfl) (le rfl (AS rfl CJ Ab rfl rfl rfl (by rfl) rfl) ?_)); rintro _ _ _ ⟨b80, rfl, rfl, rfl⟩; refine AI (H' := BO 26 7 A2 (.slice (some ⟨b80, 0, none⟩) 1 1) [c71] :: _) ?_ (fun _ h => A7 h rfl (by decide)); refine BG (f := A2) (l := [c71]) (.slice (some ⟨b80, 0, none⟩) 1 1) (fun _ => rfl) (fun Jf B4 Ck => ?_); refine lq rfl (A6 (pl := [(_, _), (_, _), (_, _), (_, _), (_, _), (_, _), (_, _)]) (cs := (A2 ⟨6, false, false, [], AO, AO, (.slice (some ⟨b80, 0, none⟩) 1 1)⟩).toArray) rfl BR Ab ⟨rfl, ⟨_, _, B0⟩, rfl, ⟨_, _, De⟩, rfl, ⟨_, _, De⟩, rfl, ⟨_, _, CU⟩, rfl, ⟨_, _, EE⟩, rfl, ⟨_, _, El⟩, rfl, ⟨_, _, D6⟩, trivial⟩ rfl rfl) (An rfl rfl ((by exact AE rfl Ab rfl rfl rfl (by exact (Bm.kids (k := 6) (nt := false) Ck (A0.one (WZ.mono B4))).ones) rfl)) ?_); rintro _ _ _ ⟨rfl, rfl⟩; refine AI (H' := row b15 26 (A2 ⟨6, false, false, [], AO, AO, (.slice (some ⟨b80, 0, none⟩) 1 1)⟩) :: _) ?_ (fun _ h => h); refine BX (Av ((p, lv, i, Jf, Ip 6 [x71], ⟨6, false, false, [], AO, AO, (.slice (some ⟨b80, 0, none⟩) 1 1)⟩)) ?_ (AW) (AB rfl) (fun _ h => by dsimp only; exact AA h))
        ·dsimp only; exact ⟨hL.trans B4, hp.mono B4, hf, Fg.mono B4, Bm.kids Ck (A0.one (WZ.mono B4)), by omega, by rw [hR, show mN (AP s p) x71 = Ip 6 [x71] from if_pos C1]⟩
       ·refine Au (Av ((p, lv, i, J, x71, c71)) ?_ (AW) (AB rfl) (fun _ h => by dsimp only; exact AA h))
        ·dsimp only; exact ⟨hL, hp, hf, Fg, WZ, by omega, by rw [hR, show mN (AP s p) x71 = x71 from if_neg (by rw [C1]; simp)]⟩
      rintro ⟨p, lv, i, J, m, c⟩ ⟨hL, hp, hf, Fg, hm, Ox, hR⟩; dsimp only at *
      have BH := hp.len
      have EP := Fg.len
      have Ml := A0.snoc hm Fg
      unfold ZW at hR
      have hk9 : (C8 [38] (AP s p) || C8 [59] (AP s p)) = true → (AP s p).kind ≠ 0 := fun h => by
       rw [Bool.or_eq_true] at h; rcases h with h | h
       ·exact Bq h
       ·exact Bq h
      refine tr (AC 1 rfl (lq rfl (Af rfl BR Ab rfl rfl rfl) (le rfl (AS rfl CJ Ab rfl rfl rfl (by rfl) rfl) ?_))); rintro _ _ _ ⟨b84, rfl, rfl, rfl⟩; refine le rfl (Ba (f := A2) (c := c) rfl CJ Ab rfl rfl rfl rfl rfl rfl rfl hm.ones (by simp only [maxLen]; omega) (by omega)) ?_; rintro v85 _ _ ⟨rfl, rfl⟩; refine FV v85 (fun Df => ?_); refine Ae rfl (AN (tq (AK 1 rfl (sq rfl (qc rfl rfl rfl ((fun w hw => Da b s p lv i 2 [38] (C8 [38]) (fun _ _ => EH) w hs hf (hp.mono hw.le) (Bn hw)))) (AK 2 rfl ?_)))))
      refine BA 3 3 89 93 92 _ _ rfl rfl rfl rfl rfl rfl (fun h93 => by
        simp at h93
        refine AJ 1 rfl (sg rfl (qc rfl rfl rfl ((fun w hw => Da b s p lv i 2 [59] (C8 [59]) (fun _ _ => EH) w hs hf (hp.mono hw.le) (Bn hw)))) (AJ 1 rfl ?_)); exact Ao rfl
       ) (AM rfl) rfl rfl rfl ?_
      refine Cy (AF rfl (fun Dd => ?_) (fun Dd => ?_))
      ·have hoo : ¬ (C8 [38] (AP s p) || C8 [59] (AP s p)) = true := by
        have h9 := Dd
        rw [Bool.and_eq_true, Bool.not_eq_true', Bool.not_eq_true'] at h9
        rw [h9.1, h9.2]; simp
       rw [if_neg hoo] at hR; refine BB (AG (CB rfl (AG (AQ (Av ((p, lv, i, J, l ++ [m], cs ++ [c], v85)) ?_ (AB rfl) (AB rfl) (fun _ h => by dsimp only; exact AA h))))))
       ·dsimp only; exact ⟨hL, hp, Ml, hR⟩
      ·have hoo : (C8 [38] (AP s p) || C8 [59] (AP s p)) = true := by
        have h9 := Dd
        rw [Bool.and_eq_false_iff, Bool.not_eq_false', Bool.not_eq_false'] at h9
        rw [Bool.or_eq_true]; exact h9
       rw [if_pos hoo] at hR; refine Al (tr (AC 3 rfl (lq rfl ((by exact AZ rfl rfl (by rfl))) ?_))); refine lq rfl (AX rfl rfl rfl (by omega)) ?_; refine AC 2 rfl ?_; refine An rfl rfl (Ac rfl B0 rfl rfl (by exact ⟨rfl, rfl⟩) rfl (by rfl)) ?_; rintro _ _ _ ⟨rfl, rfl⟩
       have EX := CP (s := s) (p := p) (hk9 hoo)
       have hp := hp.step (hk9 hoo)
       refine AI (H' := row b 71 (CZ s lv (i + 1) (BE p).next) :: _) ?_ (fun _ h => h); obtain ⟨p, Fr⟩ : ∃ z, z = BE p := ⟨_, rfl⟩; rw [← Fr] at EX hp hR ⊢; obtain ⟨i, Fm⟩ : ∃ z, z = i + 1 := ⟨_, rfl⟩; rw [← Fm] at hp ⊢
       have BH := hp.len
       refine Gb ?_; obtain ⟨hp1, ⟨T, hT, PI, hTi, hTl⟩, hp3⟩ := id hp; refine CI mo (by kernel_rfl) (fun _ _ _ _ _ h => h) (AK 3 rfl (sq rfl ((by exact AZ rfl rfl (by rfl))) ?_)); refine AK 3 rfl (sq rfl ((by exact AZ rfl rfl (by rfl))) ?_); refine sq rfl ((by exact CN rfl Dx rfl (Sl.lenOf hT (List.length_map _)))) ?_; refine AK 2 rfl ?_
       refine Bf 12 10 111 124 123 _ _ rfl rfl rfl rfl rfl rfl (fun AOL => by
         simp at AOL
         have SN : i < T.length := by omega
         have hTn := Yp (s := s) PI SN
         refine AJ 3 rfl (sg rfl ((by exact AZ rfl rfl (by rfl))) ?_); refine AJ 3 rfl (sg rfl ((by exact AZ rfl rfl (by rfl))) ?_); refine sg rfl ((by exact A5 rfl Dx BL rfl rfl (Sl.shape hT (List.length_map _)) (by omega))) ?_; refine AJ 1 rfl (sg rfl ((by exact B1 rfl rfl (hT.rd (i := i) (j := 0) (Qa hTn) rfl))) ?_); refine AJ 1 rfl ?_; exact Ao rfl
        ) (AM rfl) rfl rfl rfl ?_
       refine Cy (AF rfl (fun EW => ?_) (fun EW => ?_))
       ·have hmr : ¬ HR p = true := by
         have h9 := (RJ PI).symm.trans EW
         rw [Bool.not_eq_true'] at h9
         rw [h9]; simp
        rw [if_neg hmr] at hR; refine BB (CB rfl (AG (AQ (Av ((p, lv, i, J, l ++ [m], cs ++ [c], v85)) ?_ (AB rfl) (AB rfl) (fun _ h => by dsimp only; exact AA h)))))
        ·dsimp only; exact ⟨hL, hp, Ml, hR⟩
       ·have hmr : HR p = true := by
         have h9 := (RJ PI).symm.trans EW
         rw [Bool.not_eq_false'] at h9; exact h9
        rw [if_pos hmr] at hR; refine Au (AV (Ak ((p, lv, i, J, g, l ++ [m], cs ++ [c], v85)) ?_ ?_ (AB rfl) (AB rfl) (fun _ h => by dsimp only; exact AA h)))
        ·dsimp only; exact ⟨hL, hp, Ml, by simp; omega, by omega, hR⟩
        ·dsimp only
         omega
    ·simp at Bd
   rintro ⟨p, lv, i, J, l, cs, tv⟩ ⟨hL, hp, Fg, hR⟩; dsimp only at *
   have BH := hp.len
   have EP := Fg.len
   obtain ⟨hp1, ⟨T, hT, PI, hTi, hTl⟩, hp3⟩ := id hp; refine Bh (ι := PS × Value × Nat) (fun zz => GU s zz.1 zz.2.1 zz.2.2 J ∧ R = .ok (some (Ct l)) zz.1) (fun zz => []) [(14, _), (0, _), (1, _), (4, _), (5, _), (6, _), (7, _), (8, _), (28, _), (13, _), (56, _)] (fun zz => J) (fun zz => (BO 26 7 A2 tv cs :: row b4 26 (A2 DB) :: row b 71 (CZ s zz.2.1 zz.2.2 zz.1.next) :: F)) (AB rfl) ?_ ?_
   ·refine AN (CI mo (by kernel_rfl) (fun _ _ _ _ _ h => h) (AK 3 rfl (sq rfl ((by exact AZ rfl rfl (by rfl))) ?_))); refine AK 2 rfl ?_
    refine BA 10 5 130 141 140 _ _ rfl rfl rfl rfl rfl rfl (fun AMV => by
      simp at AMV
      refine AJ 3 rfl (sg rfl ((by exact AZ rfl rfl (by rfl))) ?_); refine AJ 3 rfl (sg rfl ((by exact AZ rfl rfl (by rfl))) ?_); refine sg rfl ((by exact CN rfl Dx rfl (Sl.lenOf hT (List.length_map _)))) ?_; refine AJ 1 rfl ?_; exact Ao rfl
     ) (AM rfl) rfl rfl rfl ?_
    refine Cy (AF rfl (fun HF => ?_) (fun HF => ?_))
    ·have SN : i < T.length := by
      have h9 := HF
      simp at h9
      omega
     have hTn := Yp (s := s) PI SN
     rw [ADk (s := s) (ADb PI SN)] at hR; refine AN (CI mo (by kernel_rfl) (fun _ _ _ _ _ h => h) (AK 3 rfl (sq rfl ((by exact AZ rfl rfl (by rfl))) ?_))); refine AK 3 rfl (sq rfl ((by exact AZ rfl rfl (by rfl))) ?_); refine sq rfl ((by exact A5 rfl Dx BL rfl rfl (Sl.shape hT (List.length_map _)) (by omega))) ?_; refine AK 1 rfl (sq rfl ((by exact B1 rfl rfl (hT.rd (i := i) (j := 0) (Qa hTn) rfl))) ?_); refine AK 1 rfl (Cy (AF rfl (fun J0 => ?_) (fun J0 => ?_)))
     ·simp at J0
      rw [if_pos (show (AP s p).kind = 3 by omega)] at hR; refine AH (AC 3 rfl (lq rfl ((by exact AZ rfl rfl (by rfl))) ?_)); refine lq rfl (AX rfl rfl rfl (by omega)) ?_; refine AC 2 rfl ?_; refine An rfl rfl (Ac rfl B0 rfl rfl (by exact ⟨rfl, rfl⟩) rfl (by rfl)) ?_; rintro _ _ _ ⟨rfl, rfl⟩
      have EX := CP (s := s) (p := p) (by omega)
      have hp := hp.step (by omega)
      refine AI (H' := row b 71 (CZ s lv (i + 1) (BE p).next) :: _) ?_ (fun _ h => h); obtain ⟨p, Fr⟩ : ∃ z, z = BE p := ⟨_, rfl⟩; rw [← Fr] at EX hp hR ⊢; obtain ⟨i, Fm⟩ : ∃ z, z = i + 1 := ⟨_, rfl⟩; rw [← Fm] at hp ⊢
      have BH := hp.len
      refine BX (Av ((p, lv, i)) ?_ (AW) (AB rfl) (fun _ h => by dsimp only; exact AA h))
      ·dsimp only; exact ⟨hp, hR⟩
     ·simp at J0
      rw [if_neg (show ¬ (AP s p).kind = 3 by omega)] at hR
      exfalso
      obtain ⟨_, _, h9⟩ := Bb; rw [hR] at h9
      cases h9
    ·have SN : ¬ i < T.length := fun h => by
      have h9 := HF
      rw [decide_eq_true (show (i : Int) < (T.length : Int) by omega)] at h9
      simp at h9
     rw [U2 (ZO PI SN)] at hR; refine Au (Av ((p, lv, i)) ?_ (AW) (AB rfl) (fun _ h => by dsimp only; exact AA h))
     ·dsimp only; exact ⟨hp, hR⟩
   rintro ⟨p, lv, i⟩ ⟨hp, hR⟩; dsimp only at *
   have BH := hp.len
   refine AN (tr (AC 3 rfl (lq rfl ((by exact AZ rfl rfl (by rfl))) ?_))); refine Ae rfl (AF rfl (fun GH => ?_) (fun GH => ?_))
   ·simp at GH
   ·simp at GH
    refine Al (AN (CG (f := A2) (l := cs) tv (fun _ => rfl) (fun Jf B4 Ck => ?_)))
    have hL := hL.trans B4
    have hp := hp.mono B4
    have Fg := Fg.mono B4
    refine DH [1, 6] [] [row b 71 (CZ s lv i p.next)] mo (by kernel_rfl) (fun _ _ _ _ _ h => h) (Bg [0, 2, 3, 4] (by kernel_rfl) rfl rfl rfl (Ko 5 (by kernel_rfl) rfl (Le.refl _) rfl (fun _ hI => (by exact AZ rfl rfl (by rfl))) ?_)); refine re 1 (by kernel_rfl) rfl (Le.refl _) rfl (ec rfl rfl rfl (fun w hw => Me tv l cs _ _ _ w Ck Fg hw)) ?_; rintro _ _ _ ⟨rfl, rfl, c178, rfl, ADc⟩; refine ⟨Le.refl _, .inr CY.sub, ?_⟩; refine Eu 6 (by kernel_rfl) (by kernel_rfl) rfl (Le.refl _) rfl rfl ((by exact AE rfl Ab rfl rfl rfl (by exact ADc.ones) rfl)) ?_; rintro _ _ _ ⟨rfl, rfl⟩; refine ⟨Le.refl _, .inr CY.sub, ?_⟩; refine ES (H' := row b4 26 (A2 c178) :: _) ?_ (fun _ h => h); refine Bg [7, 8, 9, 10] (by kernel_rfl) rfl rfl rfl (D3 (by kernel_rfl) (Ai (Aq (A3 (.inl rfl) rfl (by exact BK rfl BR Ab rfl rfl (Dc rfl (Dc rfl (Dc rfl (Dc rfl (BJ)))))) (fun w' hw => ?_))))); exact ⟨_, rfl, Jf, _, ⟨hL, rfl, some (Ct l), p, hR, _, rfl, ADc⟩, AA hw⟩
end Go.Tri

namespace Go.Tri
open Go.Proofs Go.RowKit
set_option maxRecDepth 10000
theorem Zl {h : Hn} (h0 : (FG h).2 = 0) : ∃ n q q2, (FG h).1.length ≤ 65536 ∧ q.next ≤ (FG h).1.length ∧ DI (FG h).1 ⟨[], 0⟩ = .ok (some n) q ∧ DI (FG h).1 ⟨[], q.next⟩ = .ok none q2 ∧ Ok h n = true := by
 unfold FG at h0 ⊢
 split at h0
 ·cases h0
 ·rename_i hb
  split at h0
  ·rename_i hy
   split at h0
   ·rename_i hz
    rw [if_neg hb, if_pos hy, if_pos hz]; obtain ⟨-, -, h1, n, q, h2, h3, h4⟩ := UW hy.1; rw [h4] at hz; obtain ⟨-, h6, q2, h7⟩ := Tm hz.1 hz.2; exact ⟨n, q, q2, h1, by dsimp only; omega, h2, h7, h3 ▸ hy.2.2⟩
   ·cases h0
  ·cases h0
theorem ZB {h : Hn} (h0 : (FG h).2 ≠ 0) : FG h = ([], 56) := by
 unfold FG at h0 ⊢
 split
 ·rfl
 ·rename_i hb
  rw [if_neg hb] at h0
  split
  ·rename_i hy
   rw [if_pos hy] at h0
   split
   ·rename_i hz
    rw [if_pos hz] at h0; exact absurd rfl h0
   ·rfl
  ·rfl
set_option maxHeartbeats 1000000 in
theorem Tf (s : List UInt8) (hs : s.length ≤ 65536) (n : Nd) (q q2 : PS) (hq : q.next ≤ s.length) (h0 : DI s ⟨[], 0⟩ = .ok (some n) q) (h1 : DI s ⟨[], q.next⟩ = .ok none q2) (hK : NdW n) (BH : (GC n).length ≤ 9223372036854775807) (e : NC) (I : AU) (F : List HA) (w0 w : World) (EZ : Bm I n e) (CE : St w0 I F w) : Calls Tryz.prog 7 #[Bj s, .agg (A2 e).toArray] w (fun e w' => ∃ v, e = .returned v ∧ ∃ I' H', (Le I I' ∧ F = H' ∧ v = .bool true) ∧ St w I' H' w') := by
 have Df := EZ.ones
 refine enter (args := [Bj s, .agg (A2 e).toArray]) Tryz.func7 rfl Tryz.ntmps7 rfl (CE.self) (tr (le rfl (FE rfl rfl rfl) ?_)); rintro _ _ _ ⟨b3, rfl, rfl, rfl⟩; refine AI (H' := row b3 26 (A2 e) :: _) ?_ (fun _ h => h); refine Ae rfl (tr (AC 1 rfl (Bw rfl rfl rfl rfl (fun w hw => LN s hs 0 (Nat.zero_le _) _ _ _ w _ h0.symm ⟨_, _, rfl⟩ hw) ?_))); rintro v16 J16 _ ⟨AJP, rfl, x16, q16, ALZ, ANT⟩
 cases ALZ
 obtain ⟨c16, rfl, AIK⟩ := ANT; refine AC 6 rfl (le rfl (Ah rfl Ab rfl) ?_); rintro _ _ _ ⟨b5, rfl, rfl, rfl⟩; refine An rfl rfl ((by exact AE rfl Ab rfl rfl rfl (by exact AIK.ones) rfl)) ?_; rintro _ _ _ ⟨rfl, rfl⟩; refine AI (H' := row b5 26 (A2 c16) :: _) ?_ (fun _ h => h); refine Ae rfl (AN (AN (CI mo (by kernel_rfl) (fun _ _ _ _ _ h => h) (AK 3 rfl ?_))))
 refine Bf 2 2 24 27 26 _ _ rfl rfl rfl rfl rfl rfl (fun h27 => by
   simp at h27
   refine AJ 2 rfl ?_; exact Ao rfl
  ) (AM rfl) rfl rfl rfl ?_
 refine AK 1 rfl ?_
 refine Bf 3 6 28 32 31 _ _ rfl rfl rfl rfl rfl rfl (fun On => by
   simp at On
   refine AJ 1 rfl (sg rfl (Ap rfl CW rfl) (AJ 1 rfl ?_)); exact Ao rfl
  ) (AM rfl) rfl rfl rfl ?_
 refine AK 1 rfl ?_
 refine Bf 5 11 33 39 38 _ _ rfl rfl rfl rfl rfl rfl (fun h39 => by
   simp at h39
   refine sg rfl (Af rfl BR Ab rfl rfl rfl) (sg rfl (qc rfl rfl rfl ((fun w hw => Lq _ n c16 w (Nat.le_refl _) (AIK.mono hw.le) hK BH))) (sg rfl (Af rfl BR Ab rfl rfl rfl) (sg rfl (qc rfl rfl rfl ((fun w hw => Lq _ n e w (Nat.le_refl _) ((EZ.mono AJP).mono hw.le) hK BH))) (sg rfl (C7 rfl rfl rfl) ?_)))); exact Ao rfl
  ) (AM rfl) rfl rfl rfl ?_
 refine Cy (AF rfl (fun hc0 => ?_) (fun hc0 => ?_))
 ·exfalso
  have h9 := hc0
  simp at h9
  omega
 ·refine Al (tr (AC 2 rfl (Bw rfl rfl rfl rfl (fun w hw => LN s hs q.next hq _ _ _ w _ h1.symm ⟨_, _, rfl⟩ hw) ?_))); rintro v43 J43 _ ⟨AMq, rfl, x43, q43, AMb, ALR⟩
  cases AMb
  cases ALR
  refine AC 6 rfl (le rfl (Ah rfl Ab rfl) ?_); rintro _ _ _ ⟨b10, rfl, rfl, rfl⟩; refine An rfl rfl ((by exact AE rfl Ab rfl rfl rfl (by exact F8) rfl)) ?_; rintro _ _ _ ⟨rfl, rfl⟩; refine AI (H' := row b10 26 (A2 DB) :: _) ?_ (fun _ h => h); refine Ae rfl (tq (AK 3 rfl ?_))
  refine BA 2 2 51 54 53 _ _ rfl rfl rfl rfl rfl rfl (fun h54 => by
    simp at h54
    refine AJ 2 rfl ?_; exact Ao rfl
   ) (AM rfl) rfl rfl rfl ?_
  refine AK 1 rfl (Cy (Aq (A1 rfl rfl (fun w' hw => ?_)))); exact ⟨_, rfl, J43, _, ⟨AJP.trans AMq, rfl, rfl⟩, AA hw⟩
end Go.Tri

namespace Go.Tri
open Go.Proofs Go.RowKit
set_option maxRecDepth 10000
set_option maxHeartbeats 1000000 in
theorem Ni (h : Hn) (hx : HX h) (hl : wH h + 1 ≤ 1000000000) (c : HC) (w : World) (hG : FC (BF w)) (hn : D5 (BF w) h c) : Cw Tryz.prog 3 [.agg (Eo c).toArray] w (.bool true) := by
 have Df := hn.ones
 refine enter Tryz.func3 rfl Tryz.ntmps3 rfl (St.start w (BF w) (Le.refl _)) (tr (le rfl (FE rfl rfl rfl) ?_)); rintro _ _ _ ⟨b1, rfl, rfl, rfl⟩; refine AI (H' := row b1 26 (Eo c) :: _) ?_ (fun _ h => h); refine Ae rfl (AN (tr (lq rfl (qc rfl rfl rfl ((fun w hw => Rh w (hG.mono hw.le)))) (Ae rfl (AF rfl (fun hc0 => ?_) (fun hc0 => ?_))))))
 ·simp at hc0
 ·simp at hc0
  refine Al (AN (tr (lq rfl (Af rfl BR Ab rfl rfl rfl) (Bw rfl rfl rfl rfl (fun w hw => PB h c _ _ _ w (by omega) hn hw) ?_)))); rintro _ _ _ ⟨n8, rfl, hn8, rfl, rfl⟩; refine Ae rfl (AF rfl (fun BI => ?_) (fun BI => ?_))
  ·simp at BI
   refine Ar rfl (C0 (A1 rfl rfl (fun w' hw => ?_))); exact ⟨rfl, hw.below⟩
  ·simp at BI
   refine Al (tr (lq rfl (Af rfl BR Ab rfl rfl rfl) (Bw rfl rfl rfl rfl (fun w hw => MM h (HX.ok h hx) hl c _ _ _ w hG hn hw) ?_))); rintro _ J12 _ ⟨AFa, rfl, rfl⟩; refine Ae rfl (AN (Ar rfl (AF rfl (fun BU => ?_) (fun BU => ?_))))
   ·have h9 := BU
    have ET := ZB (h := h) (fun h8 => by rw [h8] at h9; simp at h9)
    refine tq (AK 3 rfl ?_)
    refine BA 2 2 19 22 21 _ _ rfl rfl rfl rfl rfl rfl (fun Vp => by
      simp at Vp
      refine AJ 1 rfl (sg rfl (BM rfl rfl rfl) ?_); exact Ao rfl
     ) (AM rfl) rfl rfl rfl ?_
    refine AK 1 rfl (Cy (C0 (A1 rfl rfl (fun w' hw => ?_)))); exact ⟨by rw [ET]; rfl, (hw.less AFa).below⟩
   ·have h9 := BU
    obtain ⟨nd, q, q2, hs, hq, h1, h2, hal⟩ := Zl (h := h) (Decidable.byContradiction fun h8 => by
     rw [decide_eq_true (show ((FG h).2 : Int) ≠ 0 by omega)] at h9
     cases h9)
    obtain ⟨hK, EP⟩ := Vt h nd hal hx (by omega); obtain ⟨e, hce, EZ⟩ := Nc h nd c hal (hn.mono AFa); refine Al (tr (AC 1 rfl (lq rfl (Af rfl BR Ab rfl rfl rfl) ?_))); rw [hce]; refine Bw rfl rfl rfl rfl (fun w hw => Tf _ hs nd q q2 hq h1 h2 hK (by omega) e _ _ _ w EZ hw) ?_; rintro _ J25 _ ⟨ALU, rfl, rfl⟩; refine Ae rfl (Aq (A1 rfl rfl (fun w' hw => ?_))); exact ⟨rfl, (hw.less (AFa.trans ALU)).below⟩
end Go.Tri
