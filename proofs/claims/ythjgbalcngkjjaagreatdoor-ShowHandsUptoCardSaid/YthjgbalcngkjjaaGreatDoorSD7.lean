/-
 The reference parser: and-ors.
-/
import Derived.Test.YthjgbalcngkjjaaGreatDoorSC7
import Derived.Test.YthjgbalcngkjjaaGreatDoorRB6
import Derived.Test.YthjgbalcngkjjaaGreatDoorQD1
namespace Go.Tri
open Go.Proofs Go.RowKit
set_option maxRecDepth 10000
theorem YL {l : List Nd} (h : l.length = 1) (hk : (nth l 0 KK).kind ≠ 6) : Ct l = nth l 0 KK := by
 match l, h with
 | [x], _ => exact if_neg hk
theorem Xj {l : List Nd} (h : ¬ (l.length = 1 ∧ (nth l 0 KK).kind ≠ 6)) : Ct l = Ip 5 l := by
 unfold Ct
 split
 ·rename_i x
  rw [if_pos (show x.kind = 6 from Decidable.not_not.1 fun h9 => h ⟨rfl, h9⟩)]
 ·rfl
theorem Me (v0 : Value) (l : List Nd) (cs : List NC) (I : AU) (F : List HA) (w0 w : World) (hv : Sl I 7 v0 (cs.map A2)) (Fg : A0 I l cs) (CE : St w0 I F w) : Calls Tryz.prog 28 #[v0] w (fun e w' => ∃ v, e = .returned v ∧ ∃ I' H', (I = I' ∧ F = H' ∧ ∃ c, v = .agg (A2 c).toArray ∧ Bm I' (Ct l) c) ∧ St w I' H' w') := by
 have EP := Fg.len
 refine enter (args := [v0]) Tryz.func28 rfl Tryz.ntmps28 rfl (CE.self) (tr (le rfl (Ah rfl Ab rfl) ?_)); rintro _ _ _ ⟨b2, rfl, rfl, rfl⟩; refine AI (H' := row b2 26 (A2 DB) :: _) ?_ (fun _ h => h); refine Gb (tq (AK 1 rfl ?_)); refine sq rfl ((by exact CN rfl CJ rfl (Sl.lenOf hv (List.length_map _)))) ?_; refine AK 2 rfl ?_
 refine BA 5 3 6 12 11 _ _ rfl rfl rfl rfl rfl rfl (fun h12 => by
   simp at h12
   refine AJ 1 rfl ?_; refine sg rfl ((by exact DZ rfl CJ Ab rfl rfl (Sl.shape hv (List.length_map _)) (by omega))) ?_; refine AJ 1 rfl (sg rfl ((by exact B1 rfl rfl (hv.rd (i := 0) (j := 0) (Pu (by omega)) rfl))) ?_); refine AJ 1 rfl ?_; exact Ao rfl
  ) (AM rfl) rfl rfl rfl ?_
 refine Cy (AF rfl (fun hc0 => ?_) (fun hc0 => ?_))
 ·have h1 : l.length = 1 ∧ (nth l 0 KK).kind ≠ 6 := by
   have h9 := hc0
   rw [Bool.and_eq_true, decide_eq_true_eq, decide_eq_true_eq] at h9
   have hk := (Fg.nth0 (by omega)).kind
   exact ⟨by omega, by omega⟩
  have EL := Fg.nth0 (by omega)
  refine tr (AC 1 rfl ?_); refine lq rfl ((by exact DZ rfl CJ Ab rfl rfl (Sl.shape hv (List.length_map _)) (by omega))) ?_; refine lq rfl ((by exact Bc rfl BR Ab rfl rfl (hv.rds (Pu (i := 0) (by omega))))) ?_; refine An rfl rfl ((by exact AE rfl Ab rfl rfl rfl (by exact EL.ones) rfl)) ?_; rintro _ _ _ ⟨rfl, rfl⟩; refine AI (H' := row b2 26 (A2 (nth cs 0 DB)) :: _) ?_ (fun _ h => h); refine ln (Aq (Ag (A3 (.inl rfl) rfl (by exact BK rfl BR Ab rfl rfl (BJ)) (fun w' hw => ?_)))); exact ⟨_, rfl, I, F, ⟨rfl, rfl, _, rfl, by rw [YL h1.1 h1.2]; exact EL⟩, AA hw⟩
 ·have h1 : ¬ (l.length = 1 ∧ (nth l 0 KK).kind ≠ 6) := fun ⟨h2, h3⟩ => by
   have h9 := hc0
   have hk := (Fg.nth0 (by omega)).kind
   rw [Bool.and_eq_false_iff, decide_eq_false_iff_not, decide_eq_false_iff_not] at h9
   omega
  refine Al (tr (AC 1 rfl (lq rfl (A6 (pl := [(_, _), (_, _), (_, _), (_, _), (_, _), (_, _), (_, _)]) (cs := (A2 ⟨5, false, false, [], AO, AO, v0⟩).toArray) rfl BR Ab ⟨rfl, ⟨_, _, B0⟩, rfl, ⟨_, _, De⟩, rfl, ⟨_, _, De⟩, rfl, ⟨_, _, CU⟩, rfl, ⟨_, _, EE⟩, rfl, ⟨_, _, El⟩, rfl, ⟨_, _, D6⟩, trivial⟩ rfl (by obtain ⟨A, c, h⟩ := Sl.lenOf hv rfl; rw [h]; try rfl)) ?_))); refine An rfl rfl ((by exact AE rfl Ab rfl rfl rfl (by exact (Bm.kids (k := 5) (nt := false) hv Fg).ones) rfl)) ?_; rintro _ _ _ ⟨rfl, rfl⟩; refine AI (H' := row b2 26 (A2 ⟨5, false, false, [], AO, AO, v0⟩) :: _) ?_ (fun _ h => h); refine ln (Aq (A3 (.inl rfl) rfl (by exact BK rfl BR Ab rfl rfl (BJ)) (fun w' hw => ?_))); exact ⟨_, rfl, I, F, ⟨rfl, rfl, _, rfl, by rw [Xj h1]; exact Bm.kids hv Fg⟩, AA hw⟩
set_option maxHeartbeats 2000000 in
theorem Kn (b : Nat) (s : List UInt8) (hs : s.length ≤ 65536) (lev : Nat) (Kj : lev ≤ 1000) (P : PS → CC Nd) (hP : FX 48 b s [.int .i64 (lev : Int)] P Fy 1) : FX 25 b s [.int .i64 (lev : Int)] (IX s P) Fy 1 := by
 intro p lv i I F w0 w R hR Bb hp CE
 have hL := Le.refl I
 obtain ⟨M, hM⟩ : ∃ M, M = Bp s p := ⟨_, rfl⟩; unfold IX at hR
 have Qi := FD hp.1
 refine enter Tryz.func25 rfl Tryz.ntmps25 rfl (CE.self) (tr (le rfl (Ah rfl Ab rfl) ?_)); rintro _ _ _ ⟨b4, rfl, rfl, rfl⟩; refine AI (H' := row b4 26 (A2 DB) :: _) ?_ (fun _ h => h); refine BQ (AC 2 rfl (Bw rfl rfl rfl rfl (fun w hw => hP p lv i _ _ _ w _ rfl (Az Bb hR) hp (AD (row b 71 (CZ s lv i p.next)) hw)) ?_)); rintro v10 J _ ⟨hJ, x10, p, lv, i, Hj, Mb, hp, ⟨c10, rfl, AGb⟩, rfl⟩
 have hL := hL.trans hJ
 rw [AY Hj] at hR
 have BH := hp.len
 refine le rfl (Ah rfl Ab rfl) ?_; rintro _ _ _ ⟨b5, rfl, rfl, rfl⟩; refine An rfl rfl ((by exact AE rfl Ab rfl rfl rfl (by exact AGb.ones) rfl)) ?_; rintro _ _ _ ⟨rfl, rfl⟩; refine AI (H' := row b5 26 (A2 c10) :: _) ?_ (fun _ h => h); refine Gb (AR (A8 (ι := PS × Value × Nat × AU × Nat × Nd × NC) (fun zz => Le I zz.2.2.2.1 ∧ GU s zz.1 zz.2.1 zz.2.2.1 zz.2.2.2.1 ∧ Bm zz.2.2.2.1 zz.2.2.2.2.2.1 zz.2.2.2.2.2.2 ∧ Bp s zz.1 + 1 ≤ M ∧ Bp s zz.1 < zz.2.2.2.2.1 ∧ R = G8 s P zz.2.2.2.2.1 zz.2.2.2.2.2.1 zz.1) (fun zz => Bp s zz.1) (fun zz => []) [(0, _), (1, _), (4, _), (5, _)] (fun zz => zz.2.2.2.1) (fun zz => (row b5 26 (A2 zz.2.2.2.2.2.2) :: row b4 26 (A2 DB) :: row b 71 (CZ s zz.2.1 zz.2.2.1 zz.1.next) :: F)) (p, lv, i, J, Bp s p + 1, x10, c10) ?_ (AW) (AB rfl) (fun _ h => AA h) ?_))
 ·dsimp only; exact ⟨hL, hp, AGb, by omega, Nat.lt_succ_self _, hR⟩
 rintro ⟨p, lv, i, J, g, n, c⟩ ⟨hL, hp, hn, I4, hg, hR⟩; dsimp only at *; obtain ⟨M2, hM2⟩ : ∃ z, z = Bp s p := ⟨_, rfl⟩; refine Bh (ι := PS × Value × Nat × AU × Nat) (fun zz => Le I zz.2.2.2.1 ∧ GU s zz.1 zz.2.1 zz.2.2.1 zz.2.2.2.1 ∧ Bm zz.2.2.2.1 n c ∧ Bp s zz.1 + 1 ≤ M ∧ CH s zz.1 ∧ (C8 [38, 38] (AP s zz.1) || C8 [124, 124] (AP s zz.1)) = true ∧ Bp s zz.1 ≤ zz.2.2.2.2 ∧ Bp s zz.1 ≤ M2 ∧ R = Cf (Dj s) (fun _ r => Cf P (fun m r => G8 s P zz.2.2.2.2 (Ip (if (AP s zz.1).text = [124, 124] then 4 else 3) [n, m]) r) r) (BE zz.1)) (fun zz => []) [(0, _), (1, _), (4, _), (5, _)] (fun zz => zz.2.2.2.1) (fun zz => (row b5 26 (A2 c) :: row b4 26 (A2 DB) :: row b 71 (CZ s zz.2.1 zz.2.2.1 zz.1.next) :: F)) (AB rfl) ?_ ?_
 ·refine tr (AC 3 rfl (lq rfl (AZ rfl rfl (by rfl)) ?_)); refine AC 2 rfl (Gp (t := 16) rfl (fun Ik => ?_) (fun Ik => ?_))
  ·simp at Ik
   refine H9 (Be rfl rfl rfl rfl) rfl rfl (Gc rfl rfl) ?_; obtain ⟨g, rfl⟩ : ∃ g', g = g' + 1 := ⟨g - 1, by omega⟩; rw [G8] at hR; refine Zh (Be rfl rfl rfl rfl) rfl rfl (ec rfl rfl rfl (fun w hw => ED b s hs 2 [38, 38] (C8 [38, 38]) (fun _ _ => EH) p lv i _ _ _ w _ rfl (Az Bb hR) hp (AD (row b 71 (CZ s lv i p.next)) hw))) ?_; rintro v18 J _ ⟨hJ, x18, p, lv, i, Td, XY, hp, ⟨rfl, hf, rfl⟩, rfl⟩
   have hL := hL.trans hJ
   rw [AY Td] at hR
   have BH := hp.len
   have hn := hn.mono hJ
   refine H9 (Be rfl rfl rfl rfl) rfl rfl (Gc rfl rfl) (Gp (t := 19) rfl (fun En => ?_) (fun En => ?_))
   ·rw [if_pos (by rw [En]; try rfl)] at hR; refine GT rfl rfl rfl rfl rfl rfl rfl (GT rfl rfl rfl rfl rfl rfl rfl (H9 (Be rfl rfl rfl rfl) rfl rfl (E6 rfl rfl rfl rfl) (lq rfl (E6 rfl rfl rfl rfl) (ln (AF rfl (fun hc0 => ?_) (fun hc0 => ?_))))))
    ·simp at hc0
     refine Au (Av ((p, lv, i, J, g)) ?_ (AW) (AB rfl) (fun _ h => by dsimp only; exact AA h))
     ·dsimp only; exact ⟨hL, hp, hn, by omega, hf, by rw [En]; rfl, by omega, by omega, hR⟩
    ·simp at hc0
   ·refine H9 (Be rfl rfl rfl rfl) rfl rfl (Gc rfl rfl) (H9 (Be rfl rfl rfl rfl) rfl rfl (qc rfl rfl rfl ((fun w hw => Da b s p lv i 2 [124, 124] (C8 [124, 124]) (fun _ _ => EH) w hs hf (hp.mono hw.le) (Bn hw)))) (H9 (Be rfl rfl rfl rfl) rfl rfl (E6 rfl rfl rfl rfl) (lq rfl (E6 rfl rfl rfl rfl) (ln (AF rfl (fun BI => ?_) (fun BI => ?_))))))
    ·rw [if_pos (by rw [BI, Bool.or_true])] at hR; refine Au (Av ((p, lv, i, J, g)) ?_ (AW) (AB rfl) (fun _ h => by dsimp only; exact AA h))
     ·dsimp only; exact ⟨hL, hp, hn, by omega, hf, by rw [BI, Bool.or_true], by omega, by omega, hR⟩
    ·rw [if_neg (by rw [En, BI]; simp)] at hR; refine BB (AG (AG (AQ (Ai (tr (lq rfl (Af rfl BR Ab rfl rfl rfl) (An rfl rfl ((by exact AE rfl Ab rfl rfl rfl (by exact hn.ones) rfl)) ?_))))))); rintro _ _ _ ⟨rfl, rfl⟩; refine ln (Aq (A3 (.inl rfl) rfl (by exact BK rfl BR Ab rfl rfl (BJ)) (fun w' hw => ?_))); exact ⟨_, rfl, J, _, ⟨hL, _, p, lv, i, hR, (by omega), hp, ⟨_, rfl, hn⟩, rfl⟩, AA hw⟩
  ·simp at Ik
 rintro ⟨p, lv, i, J, g⟩ ⟨hL, hp, hn, I4, hf, Lg, hg, Ox, hR⟩; dsimp only at *
 have BH := hp.len
 have OG : (AP s p).kind ≠ 0 := by
  rw [Bool.or_eq_true] at Lg; rcases Lg with h | h
  ·exact Bq h
  ·exact Bq h
 refine AR (Ar rfl (Bh (ι := PS × Value × Nat × AU × Nat) (fun zz => Le I zz.2.2.2.1 ∧ GU s zz.1 zz.2.1 zz.2.2.1 zz.2.2.2.1 ∧ Bm zz.2.2.2.1 n c ∧ Bp s zz.1 + 2 ≤ M ∧ Bp s zz.1 < g ∧ Bp s zz.1 + 1 ≤ M2 ∧ R = Cf (Dj s) (fun _ r => Cf P (fun m r => G8 s P g (Ip zz.2.2.2.2 [n, m]) r) r) zz.1) (fun zz => [(6, .int .i64 (zz.2.2.2.2 : Int))]) [(0, _), (1, _), (4, _), (5, _)] (fun zz => zz.2.2.2.1) (fun zz => (row b5 26 (A2 c) :: row b4 26 (A2 DB) :: row b 71 (CZ s zz.2.1 zz.2.2.1 zz.1.next) :: F)) (AB rfl) ?_ ?_))
 ·refine tr (AC 1 rfl (Bw rfl rfl rfl rfl (fun w hw => It b s hs p lv i _ _ _ w hf OG hp (AD (row b 71 (CZ s lv i p.next)) hw)) ?_)); rintro _ J _ ⟨hJ, rfl, hp, rfl⟩
  have hL := hL.trans hJ
  have hn := hn.mono hJ
  have EX := CP (s := s) (p := p) OG
  obtain ⟨p, Fr⟩ : ∃ z, z = BE p := ⟨_, rfl⟩; rw [← Fr] at EX hp hR ⊢; obtain ⟨i, Fm⟩ : ∃ z, z = i + 1 := ⟨_, rfl⟩; rw [← Fm] at hp ⊢
  have BH := hp.len
  refine lq rfl (DT rfl Cz rfl CW rfl rfl rfl) (lq rfl (BM rfl rfl rfl) (ln (AF rfl (fun BU => ?_) (fun BU => ?_))))
  ·simp at BU
   refine AH (Ax rfl (Av ((p, lv, i, J, 4)) ?_ (AB rfl) (AB rfl) (fun _ h => by dsimp only; exact AA h)))
   ·dsimp only; exact ⟨hL, hp, hn, by omega, by omega, by omega, by rw [hR, if_pos BU]⟩
  ·simp at BU
   refine Au (Av ((p, lv, i, J, 3)) ?_ (AB rfl) (AB rfl) (fun _ h => by dsimp only; exact AA h))
   ·dsimp only; exact ⟨hL, hp, hn, by omega, by omega, by omega, by rw [hR, if_neg BU]⟩
 rintro ⟨p, lv, i, J, kk⟩ ⟨hL, hp, hn, I4, hg, Ox, hR⟩; dsimp only at *
 have BH := hp.len
 refine tr (AC 1 rfl (Bw rfl rfl rfl rfl (fun w hw => Cr b s hs p lv i _ _ _ w _ rfl (Az Bb hR) hp (AD (row b 71 (CZ s lv i p.next)) hw)) ?_)); rintro v29 J _ ⟨hJ, x29, p, lv, i, ADq, AIO, hp, ⟨rfl, hf, hk⟩, rfl⟩
 have hL := hL.trans hJ
 rw [AY ADq] at hR
 have BH := hp.len
 have hn := hn.mono hJ
 refine BQ (AC 2 rfl (Bw rfl rfl rfl rfl (fun w hw => hP p lv i _ _ _ w _ rfl (Az Bb hR) hp (AD (row b 71 (CZ s lv i p.next)) hw)) ?_)); rintro v32 J _ ⟨hJ, x32, p, lv, i, Uu, Y0, hp, ⟨c32, rfl, Yu⟩, rfl⟩
 have hL := hL.trans hJ
 rw [AY Uu] at hR
 have BH := hp.len
 have hn := hn.mono hJ
 refine le rfl (Ah rfl Ab rfl) ?_; rintro _ _ _ ⟨b7, rfl, rfl, rfl⟩; refine An rfl rfl ((by exact AE rfl Ab rfl rfl rfl (by exact Yu.ones) rfl)) ?_; rintro _ _ _ ⟨rfl, rfl⟩; refine AI (H' := row b7 26 (A2 c32) :: _) ?_ (fun _ h => h); refine ln (AH (AC 1 rfl (lq rfl (Af rfl BR Ab rfl rfl rfl) (lq rfl (Af rfl BR Ab rfl rfl rfl) (le rfl (Cb (vs := [_, _]) (css := [A2 c, A2 c32]) rfl CJ Ab rfl rfl rfl rfl (rfl) (by simp [A2])) ?_))))); rintro _ _ _ ⟨b36, rfl, rfl, rfl⟩; refine AI (H' := BO 26 7 A2 (.slice (some ⟨b36, 0, none⟩) 2 2) [c, c32] :: _) ?_ (fun _ h => A7 h rfl (by decide)); refine BG (f := A2) (l := [c, c32]) (.slice (some ⟨b36, 0, none⟩) 2 2) (fun _ => rfl) (fun Jf B4 Ck => ?_)
 have hL := hL.trans B4
 have hp := hp.mono B4
 have Fg : A0 Jf [n, x32] [c, c32] := by unfold A0; exact ⟨hn.mono B4, A0.one (Yu.mono B4)⟩
 refine lq rfl (A6 (pl := [(_, _), (_, _), (_, _), (_, _), (_, _), (_, _), (_, _)]) (cs := (A2 ⟨kk, false, false, [], AO, AO, (.slice (some ⟨b36, 0, none⟩) 2 2)⟩).toArray) rfl BR Ab ⟨rfl, ⟨_, _, B0⟩, rfl, ⟨_, _, De⟩, rfl, ⟨_, _, De⟩, rfl, ⟨_, _, CU⟩, rfl, ⟨_, _, EE⟩, rfl, ⟨_, _, El⟩, rfl, ⟨_, _, D6⟩, trivial⟩ rfl rfl) (An rfl rfl ((by exact AE rfl Ab rfl rfl rfl (by exact (Bm.kids (k := kk) (nt := false) Ck Fg).ones) rfl)) ?_); rintro _ _ _ ⟨rfl, rfl⟩; refine AI (H' := row b5 26 (A2 ⟨kk, false, false, [], AO, AO, (.slice (some ⟨b36, 0, none⟩) 2 2)⟩) :: _) ?_ (fun _ h => h); refine BX (AV (Ak ((p, lv, i, Jf, g, Ip kk [n, x32], ⟨kk, false, false, [], AO, AO, (.slice (some ⟨b36, 0, none⟩) 2 2)⟩)) ?_ ?_ (AW) (AB rfl) (fun _ h => by dsimp only; exact AA h)))
 ·dsimp only; exact ⟨hL, hp, Bm.kids Ck Fg, by omega, by omega, hR⟩
 ·dsimp only
  omega
end Go.Tri

namespace Go.Tri
open Go.Proofs Go.RowKit
set_option maxRecDepth 10000
theorem CR {α β : Type} {r : CC α} {K : α → PS → CC β} {R : CC β} (Bb : ∃ x q, R = .ok x q) (hR : R = GP r K) : ∃ x q, r = .ok x q := by
 cases r with
 | ok y q => exact ⟨y, q, rfl⟩
 | bad a e => obtain ⟨x, q, rfl⟩ := Bb; cases hR
def PN (n : Nd) (t : CX) (r : PS) : CC (Nd × Bool) := if C8 [38] t then .ok (Ip 6 [n], true) (BE r) else if C8 [59] t then .ok (n, true) (BE r) else .ok (n, false) r
def Sz (s : List UInt8) (A : PS → CC Nd) (g : Nat) (l : List Nd) (ended : Bool) (q : PS) : CC Nd := Cf (Dj s) (fun _ q => if ended then Cf (C4 s) (fun t q => if E5 t then KA s A g l q else .ok (Ct l) q) q else .ok (Ct l) q) q
def ADJ (s : List UInt8) (A : PS → CC Nd) (g : Nat) (l : List Nd) (x : Nd × Bool) (q : PS) : CC Nd := Cf (if x.2 then fun q => .ok true q else QM s (fun t => decide (t.kind = 3))) (fun ended q => Sz s A g (l ++ [x.1]) ended q) q
theorem AAC (s : List UInt8) (A : PS → CC Nd) (g : Nat) (l : List Nd) (p : PS) : KA s A (g + 1) l p = GP (Cf A (fun n q => Cf (C4 s) (fun t r => PN n t r) q) p) (ADJ s A g l) := rfl
def mN (t : CX) (n : Nd) : Nd := if C8 [38] t = true then Ip 6 [n] else n
def eB (t : CX) : Bool := C8 [38] t || C8 [59] t || decide (t.kind = 3)
def pS (t : CX) (p : PS) : PS := if (C8 [38] t || C8 [59] t) = true then BE p else p
theorem ABm {s : List UInt8} {A : PS → CC Nd} {g : Nat} {l : List Nd} {n : Nd} {p : PS} (hf : CH s p) : GP (PN n (AP s p) p) (ADJ s A g l) = Sz s A g (l ++ [mN (AP s p) n]) (eB (AP s p)) (pS (AP s p) p) := by
 unfold PN mN eB pS
 cases h1 : C8 [38] (AP s p) with
 | true => rfl
 | false =>
  cases h2 : C8 [59] (AP s p) with
  | true => rfl
  | false =>
   show Cf (QM s fun t => decide (t.kind = 3)) _ p = _
   rw [AY (Ta (fun t => decide (t.kind = 3)) hf)]
   simp
set_option maxHeartbeats 2000000 in
theorem RE (b : Nat) (s : List UInt8) (hs : s.length ≤ 65536) (lev : Nat) (Kj : lev ≤ 1000) (A : PS → CC Nd) (hA : FX 25 b s [.int .i64 (lev : Int)] A Fy 1) : FX 97 b s [.int .i64 (lev : Int)] (MP s A) Fy 1 := by
 intro p lv i I F w0 w R hR Bb hp CE
 have hL := Le.refl I
 obtain ⟨M, hM⟩ : ∃ M, M = Bp s p := ⟨_, rfl⟩; unfold MP at hR
 have Qi := FD hp.1
 refine enter Tryz.func97 rfl Tryz.ntmps97 rfl (CE.self) (tr (le rfl (Ah rfl Ab rfl) ?_)); rintro _ _ _ ⟨b4, rfl, rfl, rfl⟩; refine AI (H' := row b4 26 (A2 DB) :: _) ?_ (fun _ h => h); refine BQ (AC 1 rfl (Bw rfl rfl rfl rfl (fun w hw => Cr b s hs p lv i _ _ _ w _ rfl (Az Bb hR) hp (AD (row b 71 (CZ s lv i p.next)) hw)) ?_)); rintro v9 J _ ⟨hJ, x9, p, lv, i, OY, Nz, hp, ⟨rfl, hf, hk⟩, rfl⟩
 have hL := hL.trans hJ
 rw [AY OY] at hR
 have BH := hp.len
 refine BQ (Ae rfl (AN (AR (A8 (ι := PS × Value × Nat × AU × Nat × List Nd × List NC × Value) (fun zz => Le I zz.2.2.2.1 ∧ GU s zz.1 zz.2.1 zz.2.2.1 zz.2.2.2.1 ∧ A0 zz.2.2.2.1 zz.2.2.2.2.2.1 zz.2.2.2.2.2.2.1 ∧ zz.2.2.2.2.2.1.length + Bp s zz.1 ≤ M ∧ Bp s zz.1 < zz.2.2.2.2.1 ∧ R = KA s A zz.2.2.2.2.1 zz.2.2.2.2.2.1 zz.1) (fun zz => Bp s zz.1) (fun zz => [(5, zz.2.2.2.2.2.2.2)]) [(0, _), (1, _), (4, _)] (fun zz => zz.2.2.2.1) (fun zz => (BO 26 7 A2 zz.2.2.2.2.2.2.2 zz.2.2.2.2.2.2.1 :: row b4 26 (A2 DB) :: row b 71 (CZ s zz.2.1 zz.2.2.1 zz.1.next) :: F)) (p, lv, i, J, Bp s p + 1, [], [], .slice none 0 0) ?_ (AB rfl) (AB rfl) (fun _ h => AA (CS 26 7 A2 h)) ?_))))
 ·dsimp only; exact ⟨hL, hp, A0.nil, by simp; omega, Nat.lt_succ_self _, hR⟩
 rintro ⟨p, lv, i, J, g, l, cs, tv⟩ ⟨hL, hp, Fg, I4, hg, hR⟩; dsimp only at *
 have EP := Fg.len
 obtain ⟨M2, hM2⟩ : ∃ z, z = Bp s p := ⟨_, rfl⟩; refine AN (tr (AC 3 rfl (lq rfl (AZ rfl rfl (by rfl)) ?_))); refine Ae rfl (AF rfl (fun hc0 => ?_) (fun hc0 => ?_))
 ·simp at hc0
  refine Al (AR (tr (AC 2 rfl ?_))); obtain ⟨g, rfl⟩ : ∃ g', g = g' + 1 := ⟨g - 1, by omega⟩; rw [AAC] at hR; refine Bw rfl rfl rfl rfl (fun w hw => hA p lv i _ _ _ w _ rfl (Az (CR Bb hR) rfl) hp (AD (row b 71 (CZ s lv i p.next)) hw)) ?_; rintro v17 J _ ⟨hJ, x17, p, lv, i, Tt, ZJ, hp, ⟨c17, rfl, Wx⟩, rfl⟩
  have hL := hL.trans hJ
  rw [AY Tt] at hR
  have BH := hp.len
  have Fg := Fg.mono hJ
  refine le rfl (Ah rfl Ab rfl) ?_; rintro _ _ _ ⟨b6, rfl, rfl, rfl⟩; refine An rfl rfl ((by exact AE rfl Ab rfl rfl rfl (by exact Wx.ones) rfl)) ?_; rintro _ _ _ ⟨rfl, rfl⟩; refine AI (H' := row b6 26 (A2 c17) :: _) ?_ (fun _ h => h); refine ln (Bh (ι := PS × Value × Nat × AU × Nd × NC) (fun zz => Le I zz.2.2.2.1 ∧ GU s zz.1 zz.2.1 zz.2.2.1 zz.2.2.2.1 ∧ CH s zz.1 ∧ A0 zz.2.2.2.1 l cs ∧ Bm zz.2.2.2.1 zz.2.2.2.2.1 zz.2.2.2.2.2 ∧ Bp s zz.1 + 1 ≤ M2 ∧ R = Sz s A g (l ++ [zz.2.2.2.2.1]) (eB (AP s zz.1)) (pS (AP s zz.1) zz.1)) (fun zz => []) [(5, _), (0, _), (1, _), (4, _), (14, _), (6, _)] (fun zz => zz.2.2.2.1) (fun zz => (row b6 26 (A2 zz.2.2.2.2.2) :: BO 26 7 A2 tv cs :: row b4 26 (A2 DB) :: row b 71 (CZ s zz.2.1 zz.2.2.1 zz.1.next) :: F)) (AB rfl) ?_ ?_)
  ·refine tr (AC 1 rfl (Bw rfl rfl rfl rfl (fun w hw => ED b s hs 2 [38] (C8 [38]) (fun _ _ => EH) p lv i _ _ _ w _ rfl (Az (CR Bb hR) rfl) hp (AD (row b 71 (CZ s lv i p.next)) hw)) ?_)); rintro v19 J _ ⟨hJ, x19, p, lv, i, Xx, ADB, hp, ⟨rfl, hf, rfl⟩, rfl⟩
   have hL := hL.trans hJ
   rw [AY Xx] at hR
   have BH := hp.len
   have Fg := Fg.mono hJ
   rw [ABm hf] at hR
   have Wx := Wx.mono hJ
   refine ln (AF rfl (fun BI => ?_) (fun BI => ?_))
   ·refine AH (lq rfl (Af rfl BR Ab rfl rfl rfl) (le rfl (AS rfl CJ Ab rfl rfl rfl (by rfl) rfl) ?_)); rintro _ _ _ ⟨b21, rfl, rfl, rfl⟩; refine AI (H' := BO 26 7 A2 (.slice (some ⟨b21, 0, none⟩) 1 1) [c17] :: _) ?_ (fun _ h => A7 h rfl (by decide)); refine BG (f := A2) (l := [c17]) (.slice (some ⟨b21, 0, none⟩) 1 1) (fun _ => rfl) (fun Jf B4 Ck => ?_); refine lq rfl (A6 (pl := [(_, _), (_, _), (_, _), (_, _), (_, _), (_, _), (_, _)]) (cs := (A2 ⟨6, false, false, [], AO, AO, (.slice (some ⟨b21, 0, none⟩) 1 1)⟩).toArray) rfl BR Ab ⟨rfl, ⟨_, _, B0⟩, rfl, ⟨_, _, De⟩, rfl, ⟨_, _, De⟩, rfl, ⟨_, _, CU⟩, rfl, ⟨_, _, EE⟩, rfl, ⟨_, _, El⟩, rfl, ⟨_, _, D6⟩, trivial⟩ rfl rfl) (An rfl rfl ((by exact AE rfl Ab rfl rfl rfl (by exact (Bm.kids (k := 6) (nt := false) Ck (A0.one (Wx.mono B4))).ones) rfl)) ?_); rintro _ _ _ ⟨rfl, rfl⟩; refine AI (H' := row b6 26 (A2 ⟨6, false, false, [], AO, AO, (.slice (some ⟨b21, 0, none⟩) 1 1)⟩) :: _) ?_ (fun _ h => h); refine BX (Av ((p, lv, i, Jf, Ip 6 [x17], ⟨6, false, false, [], AO, AO, (.slice (some ⟨b21, 0, none⟩) 1 1)⟩)) ?_ (AW) (AB rfl) (fun _ h => by dsimp only; exact AA h))
    ·dsimp only; exact ⟨hL.trans B4, hp.mono B4, hf, Fg.mono B4, Bm.kids Ck (A0.one (Wx.mono B4)), by omega, by rw [hR, show mN (AP s p) x17 = Ip 6 [x17] from if_pos BI]⟩
   ·refine Au (Av ((p, lv, i, J, x17, c17)) ?_ (AW) (AB rfl) (fun _ h => by dsimp only; exact AA h))
    ·dsimp only; exact ⟨hL, hp, hf, Fg, Wx, by omega, by rw [hR, show mN (AP s p) x17 = x17 from if_neg (by rw [BI]; simp)]⟩
  rintro ⟨p, lv, i, J, m, c⟩ ⟨hL, hp, hf, Fg, hm, Ox, hR⟩; dsimp only at *
  have BH := hp.len
  have EP := Fg.len
  have Ml := A0.snoc hm Fg
  obtain ⟨eb, heb⟩ : ∃ z, z = eB (AP s p) := ⟨_, rfl⟩; rw [← heb] at hR
  have hk9 : (C8 [38] (AP s p) || C8 [59] (AP s p)) = true → (AP s p).kind ≠ 0 := fun h => by
   rw [Bool.or_eq_true] at h; rcases h with h | h
   ·exact Bq h
   ·exact Bq h
  have hpS : pS (AP s p) p = if (C8 [38] (AP s p) || C8 [59] (AP s p)) = true then BE p else p := rfl
  refine tr (AC 1 rfl (lq rfl (Af rfl BR Ab rfl rfl rfl) (le rfl (AS rfl CJ Ab rfl rfl rfl (by rfl) rfl) ?_))); rintro _ _ _ ⟨b25, rfl, rfl, rfl⟩; refine le rfl (Ba (f := A2) (c := c) rfl CJ Ab rfl rfl rfl rfl rfl rfl rfl hm.ones (by simp only [maxLen]; omega) (by omega)) ?_; rintro v26 _ _ ⟨rfl, rfl⟩; refine FV v26 (fun Df => ?_); refine Ae rfl (tq (AK 1 rfl (sq rfl (qc rfl rfl rfl ((fun w hw => Da b s p lv i 2 [38] (C8 [38]) (fun _ _ => EH) w hs hf (hp.mono hw.le) (Bn hw)))) (AK 1 rfl ?_))))
  refine Bf 2 2 29 32 31 _ _ rfl rfl rfl rfl rfl rfl (fun On => by
    refine AJ 1 rfl (sg rfl (qc rfl rfl rfl ((fun w hw => Da b s p lv i 2 [59] (C8 [59]) (fun _ _ => EH) w hs hf (hp.mono hw.le) (Bn hw)))) ?_); exact Ao rfl
   ) (AM rfl) rfl rfl rfl ?_
  refine AK 1 rfl ?_
  refine Bf 2 6 33 36 35 _ _ rfl rfl rfl rfl rfl rfl (fun h36 => by
    simp at h36
    refine AJ 1 rfl (sg rfl (qc rfl rfl rfl ((fun w hw => Da b s p lv i 3 [10] (fun t => decide (t.kind = 3)) (fun _ h => T1 h) w hs hf (hp.mono hw.le) (Bn hw)))) ?_); exact Ao rfl
   ) (AM rfl) rfl rfl rfl ?_
  refine AK 1 rfl (Cy (Bh (ι := PS × Value × Nat × AU) (fun zz => Le I zz.2.2.2 ∧ GU s zz.1 zz.2.1 zz.2.2.1 zz.2.2.2 ∧ A0 zz.2.2.2 (l ++ [m]) (cs ++ [c]) ∧ Bp s zz.1 + 1 ≤ M2 ∧ Bp s zz.1 ≤ g ∧ (l ++ [m]).length + Bp s zz.1 ≤ M ∧ R = Sz s A g (l ++ [m]) eb zz.1) (fun zz => [(7, .bool eb)]) [(5, _), (0, _), (1, _), (4, _), (14, _), (6, _)] (fun zz => zz.2.2.2) (fun zz => (row b6 26 (A2 c) :: BO 26 7 A2 v26 (cs ++ [c]) :: row b4 26 (A2 DB) :: row b 71 (CZ s zz.2.1 zz.2.2.1 zz.1.next) :: F)) (AB rfl) ?_ ?_))
  ·refine tq (AK 1 rfl (sq rfl (qc rfl rfl rfl ((fun w hw => Da b s p lv i 2 [38] (C8 [38]) (fun _ _ => EH) w hs hf (hp.mono hw.le) (Bn hw)))) (AK 1 rfl ?_)))
   refine Bf 2 2 39 42 41 _ _ rfl rfl rfl rfl rfl rfl (fun h42 => by
     refine AJ 1 rfl (sg rfl (qc rfl rfl rfl ((fun w hw => Da b s p lv i 2 [59] (C8 [59]) (fun _ _ => EH) w hs hf (hp.mono hw.le) (Bn hw)))) ?_); exact Ao rfl
    ) (AM rfl) rfl rfl rfl ?_
   refine Cy (AF rfl (fun BU => ?_) (fun BU => ?_))
   ·refine AH (AC 3 rfl (lq rfl (AZ rfl rfl (by rfl)) ?_)); refine lq rfl (AX rfl rfl rfl (by omega)) ?_; refine AC 2 rfl ?_; refine An rfl rfl (Ac rfl B0 rfl rfl (by exact ⟨rfl, rfl⟩) rfl (by rfl)) ?_; rintro _ _ _ ⟨rfl, rfl⟩; rw [if_pos BU] at hpS; rw [hpS] at hR
    have EX := CP (s := s) (p := p) (hk9 BU)
    have hp := hp.step (hk9 BU)
    refine AI (H' := row b 71 (CZ s lv (i + 1) (BE p).next) :: _) ?_ (fun _ h => h); obtain ⟨p, Fr⟩ : ∃ z, z = BE p := ⟨_, rfl⟩; rw [← Fr] at EX hp hR ⊢; obtain ⟨i, Fm⟩ : ∃ z, z = i + 1 := ⟨_, rfl⟩; rw [← Fm] at hp ⊢
    have BH := hp.len
    refine BX (Av ((p, lv, i, J)) ?_ (Bl rfl (congrArg Value.bool (by rw [heb]; try rfl)) (AW)) (AB rfl) (fun _ h => by dsimp only; exact AA h))
    ·dsimp only; exact ⟨hL, hp, Ml, by omega, by omega, by simp; omega, hR⟩
   ·refine Au (Av ((p, lv, i, J)) ?_ (Bl rfl (congrArg Value.bool (by rw [heb]; try rfl)) (AW)) (AB rfl) (fun _ h => by dsimp only; exact AA h))
    ·dsimp only; exact ⟨hL, hp, Ml, by omega, by omega, by simp; omega, by rw [hR, hpS, if_neg (by rw [BU]; simp)]⟩
  rintro ⟨p, lv, i, J⟩ ⟨hL, hp, Ml, Ox, hg, I4, hR⟩; dsimp only at *; unfold Sz at hR; refine tr (AC 1 rfl (Bw rfl rfl rfl rfl (fun w hw => Cr b s hs p lv i _ _ _ w _ rfl (Az Bb hR) hp (AD (row b 71 (CZ s lv i p.next)) hw)) ?_)); rintro v51 J _ ⟨hJ, x51, p, lv, i, AMs, APx, hp, ⟨rfl, hf, hk⟩, rfl⟩
  have hL := hL.trans hJ
  rw [AY AMs] at hR
  have BH := hp.len
  have Ml := Ml.mono hJ
  refine Gb (Dw (AK 3 rfl ?_))
  refine Bf 3 2 54 58 57 _ _ rfl rfl rfl rfl rfl rfl (fun h58 => by
    simp at h58
    refine AJ 1 rfl (sg rfl (qc rfl rfl rfl ((fun w hw => KL b s p lv i w hs hf (hp.mono hw.le) (Bn hw)))) (AJ 1 rfl ?_)); exact Ao rfl
   ) (AM rfl) rfl rfl rfl ?_
  refine Cy (AF rfl (fun Bd => ?_) (fun Bd => ?_))
  ·have hR : R = .ok (Ct (l ++ [m])) p := by
    rw [hR]
    cases he : eb with
    | false => rfl
    | true =>
     rw [if_pos rfl, AY (CT hf)]
     have h9 := Bd
     rw [he] at h9; rw [if_neg (fun h8 => by rw [h8] at h9; cases h9)]
   refine BB (CB rfl (AG (AQ (Ai (AN (CG (f := A2) (l := cs ++ [c]) v26 (fun _ => rfl) (fun Jf B4 Ck => ?_)))))))
   have hL := hL.trans B4
   have hp := hp.mono B4
   have Ml := Ml.mono B4
   refine AH (AC 1 rfl (Bw rfl rfl rfl rfl (fun w hw => Me v26 (l ++ [m]) (cs ++ [c]) _ _ _ w Ck Ml hw) ?_)); rintro _ _ _ ⟨rfl, rfl, c60, rfl, AJg⟩; refine An rfl rfl ((by exact AE rfl Ab rfl rfl rfl (by exact AJg.ones) rfl)) ?_; rintro _ _ _ ⟨rfl, rfl⟩; refine ln (Aq (A3 (.inl rfl) rfl (by exact BK rfl BR Ab rfl rfl (BJ)) (fun w' hw => ?_))); exact ⟨_, rfl, Jf, _, ⟨hL, _, p, lv, i, hR, (by omega), hp, ⟨_, rfl, AJg⟩, rfl⟩, AA hw⟩
  ·have hR : R = KA s A g (l ++ [m]) p := by
    have h9 := Bd
    rw [Bool.or_eq_false_iff, Bool.not_eq_false', Bool.not_eq_false'] at h9; rw [hR, if_pos h9.1, AY (CT hf), if_pos h9.2]
   refine Au (AV (Ak ((p, lv, i, J, g, l ++ [m], cs ++ [c], v26)) ?_ ?_ (AB rfl) (AB rfl) (fun _ h => by dsimp only; exact AA h)))
   ·dsimp only; exact ⟨hL, hp, Ml, by omega, by omega, hR⟩
   ·dsimp only
    omega
 ·simp at hc0
end Go.Tri

namespace Go.Tri
open Go.Proofs Go.RowKit
set_option maxRecDepth 10000
theorem Vj {s : List UInt8} {p : PS} : ¬ ∃ x q, Lc s p = CC.ok x q := fun ⟨x, q, h⟩ => by
 unfold Lc Cf at h
 cases hn : C4 s p with
 | ok t r => rw [hn] at h; cases h
 | bad a e => rw [hn] at h; cases h
theorem Y9 {s : List UInt8} {p : PS} {k : Nat} (h : ∃ x q, (Hr s (k + 1)).2 p = CC.ok x q) : ∃ t q, C4 s p = CC.ok t q := by
 cases hn : C4 s p with
 | ok t r => exact ⟨t, r, rfl⟩
 | bad a e => obtain ⟨x, q, h⟩ := h; rw [show (Hr s (k + 1)).2 p = _ from Sx hn] at h; cases h
set_option maxHeartbeats 1000000 in
theorem Mr (b : Nat) (s : List UInt8) (hs : s.length ≤ 65536) (lev : Nat) (name : List UInt8) (n : Nat) (EL : n + lev = 24) (hK : ∀ m, n = m + 1 → FX 80 b s [.int .i64 ((lev + 1 : Nat) : Int)] (Hr s (m + 1)).2 Fy 1) : FX 106 b s [Bj name, .int .i64 (lev : Int)] (XT (Hr s n).2 name) Fy 1 := by
 intro p lv i I F w0 w R hR Bb hp CE
 have hL := Le.refl I
 obtain ⟨M, hM⟩ : ∃ M, M = Bp s p := ⟨_, rfl⟩; unfold XT at hR
 have BH := hp.len
 obtain ⟨m, rfl⟩ : ∃ m, n = m + 1 := by
  cases n with
  | zero => exact absurd (Az Bb hR) Vj
  | succ m => exact ⟨m, rfl⟩
 refine enter Tryz.func106 rfl Tryz.ntmps106 rfl (CE.self) (tr (le rfl (Ah rfl Ab rfl) ?_)); rintro _ _ _ ⟨b6, rfl, rfl, rfl⟩; refine AI (H' := row b6 26 (A2 DB) :: _) ?_ (fun _ h => h); refine BQ (AC 1 rfl (Bw rfl rfl rfl rfl (fun w hw => DW b s hs p lv i _ _ _ w _ rfl (Y9 (Az Bb hR)) hp (AD (row b 71 (CZ s lv i p.next)) hw)) ?_)); rintro v9 J _ ⟨hJ, x9, p, lv, i, OY, Nz, hp, ⟨rfl, hf, rfl⟩, rfl⟩
 have hL := hL.trans hJ
 rw [Hy, show (Hr s (m + 1)).2 _ = (Hr s (m + 1)).2 p from Pf OY hf rfl, ← Hy] at hR
 have BH := hp.len
 refine le rfl (Ah rfl BL rfl) ?_; rintro _ _ _ ⟨b7, rfl, rfl, rfl⟩; refine An rfl rfl ((by exact AE rfl BL rfl rfl rfl (by exact A4 _) rfl)) ?_; rintro _ _ _ ⟨rfl, rfl⟩; refine AI (H' := row b7 73 (BZ (AP s p)) :: _) ?_ (fun _ h => h); refine Gb (tq (AK 3 rfl (sq rfl (AZ rfl rfl (by rfl)) ?_))); refine AK 2 rfl ?_
 refine BA 3 5 15 19 18 _ _ rfl rfl rfl rfl rfl rfl (fun h19 => by
   simp at h19
   refine AJ 1 rfl (sg rfl (AX rfl rfl rfl (by omega)) ?_); refine AJ 1 rfl ?_; exact Ao rfl
  ) (AM rfl) rfl rfl rfl ?_
 refine Cy (AF rfl (fun hc0 => ?_) (fun hc0 => ?_))
 ·exfalso
  have h9 := hc0
  rw [Bool.and_eq_true, decide_eq_true_eq, decide_eq_true_eq] at h9
  omega
 ·refine Al (AN (tr (AC 3 rfl (lq rfl (AZ rfl rfl (by rfl)) ?_)))); refine Ae rfl (AF rfl (fun BI => ?_) (fun BI => ?_))
  ·simp at BI
  ·simp at BI
   refine Al (tr (AC 3 rfl (lq rfl (AX rfl rfl rfl (by omega)) ?_))); refine Bw rfl rfl rfl rfl (fun w hw => (hK m rfl) p lv i _ _ _ w _ rfl (Az Bb hR) hp (AD (row b 71 (CZ s lv i p.next)) hw)) ?_; rintro v38 J _ ⟨hJ, x38, p, lv, i, Un, Xl, hp, ⟨c38, rfl, Xn⟩, rfl⟩
   have hL := hL.trans hJ
   rw [AY Un] at hR
   have BH := hp.len
   refine le rfl (AS rfl CJ Ab rfl rfl rfl (by rfl) rfl) ?_; rintro _ _ _ ⟨b39, rfl, rfl, rfl⟩; refine AI (H' := BO 26 7 A2 (.slice (some ⟨b39, 0, none⟩) 1 1) [c38] :: _) ?_ (fun _ h => A7 h rfl (by decide)); refine BG (f := A2) (l := [c38]) (.slice (some ⟨b39, 0, none⟩) 1 1) (fun _ => rfl) (fun Jf B4 Ck => ?_)
   have hL := hL.trans B4
   have hp := hp.mono B4
   refine lq rfl (A6 (pl := [(_, _), (_, _), (_, _), (_, _), (_, _), (_, _), (_, _)]) (cs := (A2 ⟨14, false, false, name, AO, AO, (.slice (some ⟨b39, 0, none⟩) 1 1)⟩).toArray) rfl BR Ab ⟨rfl, ⟨_, _, B0⟩, rfl, ⟨_, _, De⟩, rfl, ⟨_, _, De⟩, rfl, ⟨_, _, CU⟩, rfl, ⟨_, _, EE⟩, rfl, ⟨_, _, El⟩, rfl, ⟨_, _, D6⟩, trivial⟩ rfl rfl) (An rfl rfl ((by exact AE rfl Ab rfl rfl rfl (by exact (FP (c := ⟨14, false, false, name, AO, AO, (.slice (some ⟨b39, 0, none⟩) 1 1)⟩) B3 B3 Ck.one)) rfl)) ?_); rintro _ _ _ ⟨rfl, rfl⟩; refine AI (H' := row b6 26 (A2 ⟨14, false, false, name, AO, AO, (.slice (some ⟨b39, 0, none⟩) 1 1)⟩) :: _) ?_ (fun _ h => h); refine ln (Aq (A3 (.inl rfl) rfl (by exact BK rfl BR Ab rfl rfl (BJ)) (fun w' hw => ?_))); exact ⟨_, rfl, Jf, _, ⟨hL, _, p, lv, i, hR, (by omega), hp, ⟨_, rfl, Bm.of DP DP Ck (A0.one (Xn.mono B4))⟩, rfl⟩, AA hw⟩
set_option maxHeartbeats 1000000 in
theorem JH (b : Nat) (s : List UInt8) (hs : s.length ≤ 65536) (lev : Nat) (n : Nat) (EL : n + lev = 25) (hK : ∀ m, n = m + 1 → FX 80 b s [.int .i64 (lev : Int)] (Hr s (m + 1)).2 Fy 1) (hS : ∀ m, n = m + 1 → FX 81 b s [.int .i64 (lev : Int)] (KG s (XT (Hr s m).2)) Fy 1) : FX 64 b s [.int .i64 (lev : Int)] (Hr s n).1 Fy 1 := by
 intro p lv i I F w0 w R hR Bb hp CE
 have hL := Le.refl I
 obtain ⟨M, hM⟩ : ∃ M, M = Bp s p := ⟨_, rfl⟩
 have BH := hp.len
 obtain ⟨m, rfl⟩ : ∃ m, n = m + 1 := by
  cases n with
  | zero =>
   have h9 := Bb
   rw [hR] at h9; exact absurd (show ∃ x q, Lc s p = CC.ok x q from h9) Vj
  | succ m => exact ⟨m, rfl⟩
 have hR : R = AEe s (Hr s (m + 1)).2 (KG s (XT (Hr s m).2)) p := hR
 unfold AEe at hR; refine enter Tryz.func64 rfl Tryz.ntmps64 rfl (CE.self) (tr (le rfl (Ah rfl Ab rfl) ?_)); rintro _ _ _ ⟨b4, rfl, rfl, rfl⟩; refine AI (H' := row b4 26 (A2 DB) :: _) ?_ (fun _ h => h); refine BQ (AC 1 rfl (Bw rfl rfl rfl rfl (fun w hw => DW b s hs p lv i _ _ _ w _ rfl (Az Bb hR) hp (AD (row b 71 (CZ s lv i p.next)) hw)) ?_)); rintro v7 J _ ⟨hJ, x7, p, lv, i, UT, SH, hp, ⟨rfl, hf, rfl⟩, rfl⟩
 have hL := hL.trans hJ
 rw [AY UT] at hR
 have BH := hp.len
 refine le rfl (Ah rfl BL rfl) ?_; rintro _ _ _ ⟨b5, rfl, rfl, rfl⟩; refine An rfl rfl ((by exact AE rfl BL rfl rfl rfl (by exact A4 _) rfl)) ?_; rintro _ _ _ ⟨rfl, rfl⟩; refine AI (H' := row b5 73 (BZ (AP s p)) :: _) ?_ (fun _ h => h); refine K6 (AC 3 rfl (lq rfl (AZ rfl rfl (by rfl)) ?_)); refine Ae rfl (AF rfl (fun hc0 => ?_) (fun hc0 => ?_))
 ·simp at hc0
 ·simp at hc0
  refine Al (AN (Ar rfl (AF rfl (fun BI => ?_) (fun BI => ?_))))
  ·simp at BI
   exfalso
   omega
  ·simp at BI
   refine Al (AN (tq (AK 1 rfl (sq rfl (AZ rfl rfl (by rfl)) ?_)))); refine AK 2 rfl ?_
   refine BA 3 3 28 32 31 _ _ rfl rfl rfl rfl rfl rfl (fun On => by
     simp at On
     refine AJ 1 rfl (sg rfl (AZ rfl rfl (by rfl)) ?_); refine sg rfl (BM rfl rfl rfl) ?_; exact Ao rfl
    ) (AM rfl) rfl rfl rfl ?_
   refine AK 1 rfl ?_
   refine Bf 8 8 33 42 41 _ _ rfl rfl rfl rfl rfl rfl (fun h42 => by
     simp at h42
     refine AJ 1 rfl (sg rfl (AZ rfl rfl (by rfl)) ?_); refine AJ 2 rfl ?_
     refine BA 3 12 37 41 40 _ _ rfl rfl rfl rfl rfl rfl (fun h41 => by
       simp at h41
       refine AJ 1 rfl (sg rfl (AZ rfl rfl (by rfl)) ?_); refine sg rfl (qc rfl rfl rfl ((fun w hw => JN (AP s p).text w))) ?_; exact Ao rfl
      ) (Be rfl rfl rfl rfl) rfl rfl rfl ?_
     exact Ao rfl
    ) (AM rfl) rfl rfl rfl ?_
   refine Cy (AF rfl (fun BU => ?_) (fun BU => ?_))
   ·rw [if_pos (by rw [← IK, ← BU]; congr 2; exact decide_eq_decide.2 (by omega))] at hR; refine tr (AC 2 rfl (Bw rfl rfl rfl rfl (fun w hw => (hK m rfl) p lv i _ _ _ w _ rfl (hR ▸ Bb) hp (AD (row b 71 (CZ s lv i p.next)) hw)) ?_)); rintro v45 J _ ⟨hJ, x45, p, lv, i, Uh, ZA, hp, ⟨c45, rfl, AIk⟩, rfl⟩
    have hL := hL.trans hJ
    rw [Uh] at hR; refine An rfl rfl ((by exact AE rfl Ab rfl rfl rfl (by exact AIk.ones) rfl)) ?_; rintro _ _ _ ⟨rfl, rfl⟩; refine AI (H' := row b4 26 (A2 c45) :: _) ?_ (fun _ h => h); refine ln (Aq (Ag (A3 (.inl rfl) rfl (by exact BK rfl BR Ab rfl rfl (BJ)) (fun w' hw => ?_)))); exact ⟨_, rfl, J, _, ⟨hL, _, p, lv, i, hR, (by omega), hp, ⟨_, rfl, AIk⟩, rfl⟩, AA hw⟩
   ·rw [if_neg (by rw [← IK, Bool.not_eq_true, ← BU]; congr 2; exact decide_eq_decide.2 (by omega))] at hR; refine Al (tr (AC 2 rfl (Bw rfl rfl rfl rfl (fun w hw => (hS m rfl) p lv i _ _ _ w _ rfl (hR ▸ Bb) hp (AD (row b 71 (CZ s lv i p.next)) hw)) ?_))); rintro v48 J _ ⟨hJ, x48, p, lv, i, Uc, ZE, hp, ⟨c48, rfl, Xz⟩, rfl⟩
    have hL := hL.trans hJ
    rw [Uc] at hR; refine An rfl rfl ((by exact AE rfl Ab rfl rfl rfl (by exact Xz.ones) rfl)) ?_; rintro _ _ _ ⟨rfl, rfl⟩; refine AI (H' := row b4 26 (A2 c48) :: _) ?_ (fun _ h => h); refine ln (Aq (A3 (.inl rfl) rfl (by exact BK rfl BR Ab rfl rfl (BJ)) (fun w' hw => ?_))); exact ⟨_, rfl, J, _, ⟨hL, _, p, lv, i, hR, (by omega), hp, ⟨_, rfl, Xz⟩, rfl⟩, AA hw⟩
end Go.Tri

namespace Go.Tri
open Go.Proofs Go.RowKit
set_option maxRecDepth 10000
set_option maxHeartbeats 4000000 in
theorem Oh (b : Nat) (s : List UInt8) (hs : s.length ≤ 65536) (lev : Nat) (Kj : lev ≤ 1000) (Fn : List UInt8 → PS → CC Nd) (hF : ∀ name, FX 106 b s [Bj name, .int .i64 (lev : Int)] (Fn name) Fy 1) : FX 81 b s [.int .i64 (lev : Int)] (KG s Fn) Fy 1 := by
 intro p lv i I F w0 w R hR Bb hp CE
 have hL := Le.refl I
 obtain ⟨M, hM⟩ : ∃ M, M = Bp s p := ⟨_, rfl⟩; unfold KG at hR
 have Qi := FD hp.1
 refine enter Tryz.func81 rfl Tryz.ntmps81 rfl (CE.self) (tr (le rfl (Ah rfl Ab rfl) ?_)); rintro _ _ _ ⟨b4, rfl, rfl, rfl⟩; refine AI (H' := row b4 26 (A2 DB) :: _) ?_ (fun _ h => h); refine BQ (lq rfl (A6 (pl := [(_, _), (_, _), (_, _), (_, _), (_, _), (_, _), (_, _)]) (cs := (A2 ⟨1, false, false, [], AO, AO, AO⟩).toArray) rfl BR Ab ⟨rfl, ⟨_, _, B0⟩, rfl, ⟨_, _, De⟩, rfl, ⟨_, _, De⟩, rfl, ⟨_, _, CU⟩, rfl, ⟨_, _, EE⟩, rfl, ⟨_, _, El⟩, rfl, ⟨_, _, D6⟩, trivial⟩ rfl rfl) (le rfl (Ah rfl Ab rfl) ?_)); rintro _ _ _ ⟨b5, rfl, rfl, rfl⟩; refine An rfl rfl ((by exact AE rfl Ab rfl rfl rfl (by exact (HO B3 B3 B3)) rfl)) ?_; rintro _ _ _ ⟨rfl, rfl⟩; refine AI (H' := row b5 26 (A2 ⟨1, false, false, [], AO, AO, AO⟩) :: _) ?_ (fun _ h => h)
 refine Gb (AR (A8 (ι := PS × Value × Nat × AU × Nat × Value × List (List UInt8) × Value × List EK) (fun zz => Le I zz.2.2.2.1 ∧ GU s zz.1 zz.2.1 zz.2.2.1 zz.2.2.2.1 ∧ zz.2.2.2.2.2.2.1.length + zz.2.2.2.2.2.2.2.2.length + Bp s zz.1 ≤ M ∧ Bp s zz.1 < zz.2.2.2.2.1 ∧ R = JY s Fn zz.2.2.2.2.1 zz.2.2.2.2.2.2.1 zz.2.2.2.2.2.2.2.2 zz.1) (fun zz => Bp s zz.1) (fun zz => []) [(0, _), (1, _), (4, _), (5, _)] (fun zz => zz.2.2.2.1) (fun zz => (BO 9 1 Bo zz.2.2.2.2.2.1 zz.2.2.2.2.2.2.1 :: BO 37 5 BT zz.2.2.2.2.2.2.2.1 zz.2.2.2.2.2.2.2.2 :: row b5 26 (A2 ⟨1, false, false, [], zz.2.2.2.2.2.1, zz.2.2.2.2.2.2.2.1, AO⟩) :: row b4 26 (A2 DB) :: row b 71 (CZ s zz.2.1 zz.2.2.1 zz.1.next) :: F)) (p, lv, i, I, Bp s p + 1, AO, [], AO, []) ?_ (AW) (AB rfl) (fun _ h => AA (CS 9 1 Bo (CS 37 5 BT h))) ?_))
 ·dsimp only; exact ⟨hL, hp, by simp; omega, Nat.lt_succ_self _, hR⟩
 rintro ⟨p, lv, i, J, g, wv, ws, rv, rs⟩ ⟨hL, hp, I4, hg, hR⟩; dsimp only at *
 have BH := hp.len
 obtain ⟨M2, hM2⟩ : ∃ z, z = Bp s p := ⟨_, rfl⟩; refine AN (tr (AC 3 rfl (lq rfl (AZ rfl rfl (by rfl)) ?_))); refine Ae rfl (AF rfl (fun hc0 => ?_) (fun hc0 => ?_))
 ·simp at hc0
  refine Al (AR (tr (AC 1 rfl ?_))); obtain ⟨g, rfl⟩ : ∃ g', g = g' + 1 := ⟨g - 1, by omega⟩; rw [JY] at hR; refine Bw rfl rfl rfl rfl (fun w hw => DW b s hs p lv i _ _ _ w _ rfl (Az Bb hR) hp (AD (row b 71 (CZ s lv i p.next)) hw)) ?_; rintro v14 J _ ⟨hJ, x14, p, lv, i, Yh, ACl, hp, ⟨rfl, hf, rfl⟩, rfl⟩
  have hL := hL.trans hJ
  rw [AY Yh] at hR
  have BH := hp.len
  obtain ⟨tk, Js⟩ : ∃ z, z = AP s p := ⟨_, rfl⟩; rw [← Js] at hR ⊢
  have XR : tk.text.length ≤ s.length := by rw [Js]; exact Dq hp.1
  refine le rfl (Ah rfl BL rfl) ?_; rintro _ _ _ ⟨b6, rfl, rfl, rfl⟩; refine An rfl rfl ((by exact AE rfl BL rfl rfl rfl (by exact A4 _) rfl)) ?_; rintro _ _ _ ⟨rfl, rfl⟩; refine AI (H' := row b6 73 (BZ tk) :: _) ?_ (fun _ h => h); refine K6 (AC 1 rfl (lq rfl (qc rfl rfl rfl ((fun w hw => H5 b s p lv i w hs hf (hp.mono hw.le) (Bn hw)))) (ln (AF rfl (fun BI => ?_) (fun BI => ?_)))))
  ·rw [if_pos (show Cj tk = true by rw [Js]; exact BI)] at hR; refine AN (DH [3, 4, 5, 7] [7] [row b5 26 (A2 ⟨1, false, false, [], wv, rv, AO⟩)] mo (by kernel_rfl) (fun _ _ _ _ _ h => h) (Bg [0] (by kernel_rfl) rfl rfl rfl (Ko 1 (by kernel_rfl) rfl (Le.refl _) rfl (fun _ hI => AZ rfl rfl (by rfl)) ?_))); refine Bg [2] (by kernel_rfl) rfl rfl rfl (re 3 (by kernel_rfl) rfl (Le.refl _) rfl (ec rfl rfl rfl (fun w hw => K7 b s hs p lv i _ _ _ w _ rfl (Az Bb hR) hf BI hp (AD (row b 71 (CZ s lv i p.next)) hw))) ?_); rintro v20 J _ ⟨hJ, x20, p, lv, i, AMv, AQA, hp, rfl, rfl⟩; refine ⟨hJ, .inr CY.sub, ?_⟩
   have hL := hL.trans hJ
   rw [AY AMv] at hR
   have BH := hp.len
   refine re 4 (by kernel_rfl) rfl (hJ) rfl (AS rfl GX D1 rfl rfl rfl (by rfl) rfl) ?_; rintro _ _ _ ⟨b21, rfl, rfl, rfl⟩; refine ⟨Le.refl _, .inr CY.sub, ?_⟩; refine re 5 (by kernel_rfl) rfl (hJ) rfl (Ba (f := BT) (c := x20) rfl GX D1 rfl rfl rfl rfl rfl rfl rfl (C2 _) (by simp only [maxLen]; omega) (by omega)) ?_; rintro v22 _ _ ⟨rfl, rfl⟩; refine ⟨Le.refl _, .inr CY.sub, ?_⟩; refine Iz v22 (fun Df => ?_); refine Bg [6] (by kernel_rfl) rfl rfl rfl ?_; refine Eu 7 (by kernel_rfl) (by kernel_rfl) rfl (hJ) rfl rfl (Ac rfl El rfl rfl (by assumption) rfl (by rfl)) ?_; rintro _ _ _ ⟨rfl, rfl⟩; refine ⟨Le.refl _, .inl rfl, ?_⟩; refine ES (H' := row b5 26 (A2 ⟨1, false, false, [], wv, v22, AO⟩) :: _) ?_ (fun _ h => h); refine D3 (by kernel_rfl) (Ai (BB (AG (AQ (Ak ((p, lv, i, J, g, wv, ws, v22, rs ++ [x20])) ?_ ?_ (AW) (AB rfl) (fun _ h => by dsimp only; exact AA h))))))
   ·dsimp only; exact ⟨hL, hp, by simp; omega, by omega, hR⟩
   ·dsimp only
    omega
  ·rw [if_neg (show ¬ Cj tk = true by rw [Js, BI]; simp)] at hR; refine Al (AN (tq (AK 3 rfl (sq rfl (AZ rfl rfl (by rfl)) ?_)))); refine AK 2 rfl ?_
   refine Bf 3 5 29 33 32 _ _ rfl rfl rfl rfl rfl rfl (fun h33 => by
     simp at h33
     refine AJ 1 rfl (sg rfl (AZ rfl rfl (by rfl)) ?_); refine AJ 1 rfl ?_; exact Ao rfl
    ) (AM rfl) rfl rfl rfl ?_
   refine Cy (AF rfl (fun BU => ?_) (fun BU => ?_))
   ·have GO : ¬ tk.kind = 1 := fun h1 => by
     have h9 := BU
     rw [decide_eq_false (show ¬ ((tk.kind : Int) ≠ 1) by omega)] at h9
     cases h9
    rw [if_neg GO] at hR; refine BB (AG (CB rfl (AG (AQ (Ai (AN (tq (AK 3 rfl (sq rfl (AZ rfl rfl (by rfl)) ?_))))))))); refine AK 2 rfl ?_
    refine BA 4 5 99 104 103 _ _ rfl rfl rfl rfl rfl rfl (fun ALS => by
      simp at ALS
      refine AJ 1 rfl (sg rfl (AZ rfl rfl (by rfl)) ?_); refine sg rfl ((by exact Eq rfl CD rfl)) ?_; refine AJ 1 rfl ?_; exact Ao rfl
     ) (AM rfl) rfl rfl rfl ?_
    refine AK 1 rfl ?_
    refine BA 4 11 105 110 109 _ _ rfl rfl rfl rfl rfl rfl (fun AMP => by
      simp at AMP
      refine AJ 1 rfl (sg rfl (AZ rfl rfl (by rfl)) ?_); refine sg rfl ((by exact Eq rfl GX rfl)) ?_; refine AJ 1 rfl ?_; exact Ao rfl
     ) (AM rfl) rfl rfl rfl ?_
    refine Cy (AF rfl (fun Bd => ?_) (fun Bd => ?_))
    ·have h3 : ws = [] ∧ rs = [] := by
      have h9 := Bd
      rw [Bool.and_eq_true, Bool.and_eq_true, decide_eq_true_eq, decide_eq_true_eq, decide_eq_true_eq] at h9; exact ⟨List.eq_nil_of_length_eq_zero (by omega), List.eq_nil_of_length_eq_zero (by omega)⟩
     rw [if_pos h3] at hR
     exfalso
     obtain ⟨_, _, h9⟩ := Bb; rw [hR] at h9
     cases h9
    ·have h3 : ¬ (ws = [] ∧ rs = []) := fun ⟨h1, h2⟩ => by
      have h9 := Bd
      rw [h1, h2] at h9
      simp at h9
     rw [if_neg h3] at hR
     have h8 : 1 ≤ ws.length + rs.length := by
      rcases Nat.eq_zero_or_pos (ws.length + rs.length) with h | h
      ·exact absurd ⟨List.eq_nil_of_length_eq_zero (by omega), List.eq_nil_of_length_eq_zero (by omega)⟩ h3
      ·exact h
     refine Al (AN (CG (f := Bo) (l := ws) wv (fun _ => rfl) (fun Jf B4 Ck => ?_))); refine CG (f := BT) (l := rs) rv (fun _ => rfl) (fun Jg hJg hvg => ?_)
     have hL := hL.trans (B4.trans hJg)
     have hp := hp.mono (B4.trans hJg)
     have Is : Bm Jg (.mk 1 false false [] ws rs []) ⟨1, false, false, [], wv, rv, AO⟩ := Bm.of (Ck.mono hJg) hvg DP A0.nil
     refine AH (lq rfl (Af rfl BR Ab rfl rfl rfl) (An rfl rfl ((by exact AE rfl Ab rfl rfl rfl (by exact Is.ones) rfl)) ?_)); rintro _ _ _ ⟨rfl, rfl⟩; refine AI (H' := row b4 26 (A2 ⟨1, false, false, [], wv, rv, AO⟩) :: _) ?_ (fun _ h => h); refine ln (Aq (A3 (.inl rfl) rfl (by exact BK rfl BR Ab rfl rfl (BJ)) (fun w' hw => ?_))); exact ⟨_, rfl, Jg, _, ⟨hL, _, p, lv, i, hR, (by omega), hp, ⟨_, rfl, Is⟩, rfl⟩, AA hw⟩
   ·have GO : tk.kind = 1 := by
     have h9 := BU
     rw [Bool.or_eq_false_iff] at h9
     have h8 := of_decide_eq_false h9.2
     omega
    rw [if_pos GO] at hR; refine Al (AN (tq (AK 1 rfl (sq rfl (AZ rfl rfl (by rfl)) ?_)))); refine sq rfl ((by exact Eq rfl CD rfl)) ?_; refine AK 2 rfl ?_
    refine BA 3 4 38 42 41 _ _ rfl rfl rfl rfl rfl rfl (fun h42 => by
      simp at h42
      refine AJ 1 rfl (sg rfl (AZ rfl rfl (by rfl)) ?_); refine sg rfl (qc rfl rfl rfl ((fun w hw => JN tk.text w))) ?_; exact Ao rfl
     ) (AM rfl) rfl rfl rfl ?_
    refine Cy (AF rfl (fun Cg => ?_) (fun Cg => ?_))
    ·have h3 : ws = [] ∧ Dy Dp tk.text = true := by
      have h9 := Cg
      rw [Bool.and_eq_true, decide_eq_true_eq] at h9; exact ⟨List.eq_nil_of_length_eq_zero (by omega), h9.2⟩
     rw [if_pos h3] at hR
     exfalso
     obtain ⟨_, _, h9⟩ := Bb; rw [hR] at h9
     cases h9
    ·have h3 : ¬ (ws = [] ∧ Dy Dp tk.text = true) := fun ⟨h1, h2⟩ => by
      have h9 := Cg
      subst h1; rw [h2] at h9
      simp at h9
     rw [if_neg h3] at hR; refine Al (tr (AC 3 rfl (lq rfl (AZ rfl rfl (by rfl)) ?_))); refine lq rfl (AX rfl rfl rfl (by omega)) ?_; refine AC 2 rfl ?_; refine An rfl rfl (Ac rfl B0 rfl rfl (by exact ⟨rfl, rfl⟩) rfl (by rfl)) ?_; rintro _ _ _ ⟨rfl, rfl⟩
     have EX := CP (s := s) (p := p) (by rw [← Js]; omega)
     have hp := hp.step (by rw [← Js]; omega)
     refine AI (H' := row b 71 (CZ s lv (i + 1) (BE p).next) :: _) ?_ (fun _ h => h); obtain ⟨p, Fr⟩ : ∃ z, z = BE p := ⟨_, rfl⟩; rw [← Fr] at EX hp hR ⊢; obtain ⟨i, Fm⟩ : ∃ z, z = i + 1 := ⟨_, rfl⟩; rw [← Fm] at hp ⊢
     have BH := hp.len
     refine BQ (AC 1 rfl (lq rfl (AZ rfl rfl (by rfl)) ?_)); refine AC 1 rfl (lq rfl (AZ rfl rfl (by rfl)) ?_); refine le rfl (AS rfl CD CU rfl rfl rfl (by rfl) rfl) ?_; rintro _ _ _ ⟨b56, rfl, rfl, rfl⟩; refine le rfl (Ba (f := Bo) (c := tk.text) rfl CD CU rfl rfl rfl rfl rfl rfl rfl (Ev _) (by simp only [maxLen]; omega) (by omega)) ?_; rintro v57 _ _ ⟨rfl, rfl⟩; refine FV v57 (fun Df => ?_); refine AC 1 rfl ?_; refine An rfl rfl (Ac rfl EE rfl rfl (by assumption) rfl (by rfl)) ?_; rintro _ _ _ ⟨rfl, rfl⟩; refine AI (H' := row b5 26 (A2 ⟨1, false, false, [], v57, rv, AO⟩) :: _) ?_ (fun _ h => h); refine BQ (Dl 10 (AK 1 rfl (sq rfl (AZ rfl rfl (by rfl)) ?_))); refine sq rfl ((by exact Eq rfl CD rfl)) ?_; refine AK 2 rfl ?_
     refine BA 4 4 63 68 67 _ _ rfl rfl rfl rfl rfl rfl (fun h68 => by
       simp at h68
       refine AJ 1 rfl (sg rfl (AZ rfl rfl (by rfl)) ?_); refine sg rfl ((by exact Eq rfl GX rfl)) ?_; refine AJ 1 rfl ?_; exact Ao rfl
      ) (AM rfl) rfl rfl rfl ?_
     refine Hb (Dl 5 (AK 1 rfl ?_))
     refine BA 3 10 69 73 72 _ _ rfl rfl rfl rfl rfl rfl (fun h73 => by
       simp at h73
       refine AJ 1 rfl (sg rfl (AZ rfl rfl (by rfl)) ?_); refine sg rfl (qc rfl rfl rfl ((fun w _ => OM tk.text w (by omega)))) ?_; exact Ao rfl
      ) (AM rfl) rfl rfl rfl ?_
     refine Hb (AC 1 rfl (Gp (t := 74) rfl (fun Ik => ?_) (fun Ik => ?_)))
     ·have hcn : ws = [] ∧ rs = [] ∧ FSt tk.text = true := by
       have h9 := Ik
       rw [Bool.and_eq_true, Bool.and_eq_true, decide_eq_true_eq, decide_eq_true_eq] at h9
       have h1 : (ws ++ [tk.text]).length = 1 := by omega
       simp at h1
       exact ⟨h1, List.eq_nil_of_length_eq_zero (by omega), h9.2⟩
      rw [if_pos hcn] at hR; refine H9 (Be rfl rfl rfl rfl) rfl rfl (Gc rfl rfl) (Zh (Be rfl rfl rfl rfl) rfl rfl (ec rfl rfl rfl (fun w hw => ED b s hs 2 [40] (C8 [40]) (fun _ _ => EH) p lv i _ _ _ w _ rfl (Az Bb hR) hp (AD (row b 71 (CZ s lv i p.next)) hw))) ?_); rintro v76 J _ ⟨hJ, x76, p, lv, i, AES, AHw, hp, ⟨rfl, hf, rfl⟩, rfl⟩
      have hL := hL.trans hJ
      rw [AY AES] at hR
      have BH := hp.len
      refine lq rfl (E6 rfl rfl rfl rfl) (ln (AF rfl (fun C1 => ?_) (fun C1 => ?_)))
      ·have q4 : C8 [40] (AP s p) = true := C1
       rw [if_pos q4] at hR; refine tr (AC 3 rfl (lq rfl (AZ rfl rfl (by rfl)) ?_)); refine lq rfl (AX rfl rfl rfl (by omega)) ?_; refine AC 2 rfl ?_; refine An rfl rfl (Ac rfl B0 rfl rfl (by exact ⟨rfl, rfl⟩) rfl (by rfl)) ?_; rintro _ _ _ ⟨rfl, rfl⟩
       have EX := CP (s := s) (p := p) (Bq q4)
       have hp := hp.step (Bq q4)
       refine AI (H' := row b 71 (CZ s lv (i + 1) (BE p).next) :: _) ?_ (fun _ h => h); obtain ⟨p, Fr⟩ : ∃ z, z = BE p := ⟨_, rfl⟩; rw [← Fr] at EX hp hR ⊢; obtain ⟨i, Fm⟩ : ∃ z, z = i + 1 := ⟨_, rfl⟩; rw [← Fm] at hp ⊢
       have BH := hp.len
       refine BQ (AC 1 rfl (Bw rfl rfl rfl rfl (fun w hw => C6 b s hs 2 [41] (C8 [41]) (fun _ _ => EH) (fun _ h => Bq h) p lv i _ _ _ w _ rfl (Az Bb hR) hp (AD (row b 71 (CZ s lv i p.next)) hw)) ?_)); rintro v86 J _ ⟨hJ, x86, p, lv, i, AMa, AOw, hp, rfl, rfl⟩
       have hL := hL.trans hJ
       rw [AY AMa] at hR
       have BH := hp.len
       refine BQ (AC 1 rfl (Bw rfl rfl rfl rfl (fun w hw => Cr b s hs p lv i _ _ _ w _ rfl (Az Bb hR) hp (AD (row b 71 (CZ s lv i p.next)) hw)) ?_)); rintro v88 J _ ⟨hJ, x88, p, lv, i, AMm, APm, hp, ⟨rfl, hf, hk⟩, rfl⟩
       have hL := hL.trans hJ
       rw [AY AMm] at hR
       have BH := hp.len
       refine BQ (AC 2 rfl (lq rfl (AZ rfl rfl (by rfl)) ?_)); refine AC 1 rfl (Bw rfl rfl rfl rfl (fun w hw => (hF tk.text) p lv i _ _ _ w _ rfl (hR ▸ Bb) hp (AD (row b 71 (CZ s lv i p.next)) hw)) ?_); rintro v93 J _ ⟨hJ, x93, p, lv, i, AMf, APV, hp, ⟨c93, rfl, AJk⟩, rfl⟩
       have hL := hL.trans hJ
       rw [AMf] at hR; refine An rfl rfl ((by exact AE rfl Ab rfl rfl rfl (by exact AJk.ones) rfl)) ?_; rintro _ _ _ ⟨rfl, rfl⟩; refine AI (H' := row b4 26 (A2 c93) :: _) ?_ (fun _ h => h); refine ln (Aq (As (Ag (As (Ag (A3 (.inl rfl) rfl (by exact BK rfl BR Ab rfl rfl (BJ)) (fun w' hw => ?_))))))); exact ⟨_, rfl, J, _, ⟨hL, _, p, lv, i, hR, (by omega), hp, ⟨_, rfl, AJk⟩, rfl⟩, AA hw⟩
      ·have q4 : C8 [40] (AP s p) = false := C1
       rw [if_neg (by rw [q4]; simp)] at hR; refine Au (AV (Ak ((p, lv, i, J, g, v57, ws ++ [tk.text], rv, rs)) ?_ ?_ (AW) (AB rfl) (fun _ h => by dsimp only; exact AA h)))
       ·dsimp only; exact ⟨hL, hp, by simp; omega, by omega, by rw [hR, hcn.1]; try rfl⟩
       ·dsimp only
        omega
     ·have hcn : ¬ (ws = [] ∧ rs = [] ∧ FSt tk.text = true) := fun ⟨h1, h2, h7⟩ => by
       have h9 := Ik
       rw [h1, h2, h7] at h9
       simp at h9
      rw [if_neg hcn] at hR; refine GT rfl rfl rfl rfl rfl rfl rfl (GT rfl rfl rfl rfl rfl rfl rfl (lq rfl (E6 rfl rfl rfl rfl) (ln (AF rfl (fun Dd => ?_) (fun Dd => ?_)))))
      ·simp at Dd
      ·simp at Dd
       refine Au (AV (Ak ((p, lv, i, J, g, v57, ws ++ [tk.text], rv, rs)) ?_ ?_ (AW) (AB rfl) (fun _ h => by dsimp only; exact AA h)))
       ·dsimp only; exact ⟨hL, hp, by simp; omega, by omega, hR⟩
       ·dsimp only
        omega
 ·simp at hc0
end Go.Tri

namespace Go.Tri
open Go.Proofs Go.RowKit
set_option maxRecDepth 10000
set_option maxHeartbeats 2000000 in
theorem Uf (b : Nat) (s : List UInt8) (hs : s.length ≤ 65536) (lev : Nat) (Kj : lev ≤ 1000) (B : PS → CC Nd) (hB : FX 97 b s [.int .i64 ((lev + 1 : Nat) : Int)] B Fy 1) : ∀ (p : PS) (lv : Value) (i : Nat) (I : AU) (F : List HA) (w0 w : World) (R : CC Nd), R = ifP s B p → (∃ x q, R = .ok x q) → CH s p → (AP s p).kind ≠ 0 → GU s p lv i I → St w0 I (row b 71 (CZ s lv i p.next) :: F) w → Calls Tryz.prog 99 (FK b :: [.int .i64 (lev : Int)]).toArray w (fun e w' => ∃ v, e = .returned v ∧ ∃ I' H', Kl b s p I F Fy 1 R v I' H' ∧ St w I' H' w') := by
 intro p lv i I F w0 w R hR Bb hf OG hp CE
 have hL := Le.refl I
 have BH := hp.len
 obtain ⟨M, hM⟩ : ∃ M, M = Bp s p := ⟨_, rfl⟩
 have Qi := FD hp.1
 unfold ifP at hR; rw [Hy] at hR; refine enter Tryz.func99 rfl Tryz.ntmps99 rfl (CE.self) (tr (le rfl (Ah rfl Ab rfl) ?_)); rintro _ _ _ ⟨b4, rfl, rfl, rfl⟩; refine AI (H' := row b4 26 (A2 DB) :: _) ?_ (fun _ h => h); refine BQ (lq rfl (A6 (pl := [(_, _), (_, _), (_, _), (_, _), (_, _), (_, _), (_, _)]) (cs := (A2 ⟨9, false, false, [], AO, AO, AO⟩).toArray) rfl BR Ab ⟨rfl, ⟨_, _, B0⟩, rfl, ⟨_, _, De⟩, rfl, ⟨_, _, De⟩, rfl, ⟨_, _, CU⟩, rfl, ⟨_, _, EE⟩, rfl, ⟨_, _, El⟩, rfl, ⟨_, _, D6⟩, trivial⟩ rfl rfl) (le rfl (Ah rfl Ab rfl) ?_)); rintro _ _ _ ⟨b5, rfl, rfl, rfl⟩; refine An rfl rfl ((by exact AE rfl Ab rfl rfl rfl (by exact (FP (c := ⟨9, false, false, [], AO, AO, AO⟩) B3 B3 B3)) rfl)) ?_; rintro _ _ _ ⟨rfl, rfl⟩; refine AI (H' := row b5 26 (A2 ⟨9, false, false, [], AO, AO, AO⟩) :: _) ?_ (fun _ h => h)
 refine K6 (Ae rfl (AR (A8 (ι := PS × Value × Nat × AU × Value × List NC × List Nd × Nat × Bool) (fun zz => Le I zz.2.2.2.1 ∧ GU s zz.1 zz.2.1 zz.2.2.1 zz.2.2.2.1 ∧ A0 zz.2.2.2.1 zz.2.2.2.2.2.2.1 zz.2.2.2.2.2.1 ∧ Bp s zz.1 + zz.2.2.2.2.2.2.1.length ≤ M ∧ Bp s zz.1 < zz.2.2.2.2.2.2.2.1 + 1 ∧ (zz.2.2.2.2.2.2.2.2 = true → R = GP (ifN s B (zz.2.2.2.2.2.2.2.1 + 1) zz.2.2.2.2.2.2.1 zz.1) (XL s B) ∧ CH s zz.1 ∧ (AP s zz.1).kind ≠ 0) ∧ (zz.2.2.2.2.2.2.2.2 = false → R = GP (Cf (C4 s) (fun t q => if Bu [101, 108, 105, 102] t then ifN s B (zz.2.2.2.2.2.2.2.1 + 1) zz.2.2.2.2.2.2.1 q else .ok zz.2.2.2.2.2.2.1 q) zz.1) (XL s B) ∧ 1 ≤ zz.2.2.2.2.2.2.1.length)) (fun zz => Bp s zz.1) (fun zz => [(6, .bool zz.2.2.2.2.2.2.2.2)]) [(0, _), (1, _), (4, _), (5, _)] (fun zz => zz.2.2.2.1) (fun zz => (BO 26 7 A2 zz.2.2.2.2.1 zz.2.2.2.2.2.1 :: row b5 26 (A2 ⟨9, false, false, [], AO, AO, zz.2.2.2.2.1⟩) :: row b4 26 (A2 DB) :: row b 71 (CZ s zz.2.1 zz.2.2.1 zz.1.next) :: F)) (p, lv, i, I, AO, [], [], Bp s p, true) ?_ (AB rfl) (AB rfl) (fun _ h => AA (CS 26 7 A2 h)) ?_)))
 ·dsimp only; exact ⟨hL, hp, A0.nil, by simp only [List.length_nil]; omega, Nat.lt_succ_self _, fun _ => ⟨hR, hf, OG⟩, fun h => by cases h⟩
 rintro ⟨p, lv, i, J, v, cs, l, g, ff⟩ ⟨hL, hp, CV, I4, hg, Vz, ANi⟩; dsimp only at *
 have hmf := fun h => (ANi h).1
 have EP := CV.len
 obtain ⟨M2, hM2⟩ : ∃ z, z = Bp s p := ⟨_, rfl⟩; refine Bh (ι := PS × Value × Nat × AU) (fun zz => Le I zz.2.2.2 ∧ GU s zz.1 zz.2.1 zz.2.2.1 zz.2.2.2 ∧ CH s zz.1 ∧ (AP s zz.1).kind ≠ 0 ∧ A0 zz.2.2.2 l cs ∧ Bp s zz.1 ≤ M2 ∧ R = GP (ifN s B (g + 1) l zz.1) (XL s B)) (fun zz => []) [(6, _), (0, _), (1, _), (4, _), (5, _)] (fun zz => zz.2.2.2) (fun zz => (BO 26 7 A2 v cs :: row b5 26 (A2 ⟨9, false, false, [], AO, AO, v⟩) :: row b4 26 (A2 DB) :: row b 71 (CZ s zz.2.1 zz.2.2.1 zz.1.next) :: F)) (AB rfl) ?_ ?_
 ·refine tr (AC 3 rfl (lq rfl (AZ rfl rfl (by rfl)) ?_)); refine AC 2 rfl (Gp (t := 13) rfl (fun Ik => ?_) (fun Ik => ?_))
  ·simp at Ik
   refine H9 (Be rfl rfl rfl rfl) rfl rfl (Gc rfl rfl) (H9 (Be rfl rfl rfl rfl) rfl rfl (Gc rfl rfl) (Gp (t := 15) rfl (fun En => ?_) (fun En => ?_)))
   ·have hR := (Vz En).1
    have hf := (Vz En).2.1
    have OG := (Vz En).2.2
    refine GT rfl rfl rfl rfl rfl rfl rfl (GT rfl rfl rfl rfl rfl rfl rfl (H9 (Be rfl rfl rfl rfl) rfl rfl (E6 rfl rfl rfl rfl) (lq rfl (E6 rfl rfl rfl rfl) (ln (AF rfl (fun hc0 => ?_) (fun hc0 => ?_))))))
    ·simp at hc0
     refine Au (Av ((p, lv, i, J)) ?_ (AW) (AB rfl) (fun _ h => by dsimp only; exact AA h))
     ·dsimp only; exact ⟨hL, hp, hf, OG, CV, by omega, hR⟩
    ·simp at hc0
   ·have hR := hmf En
    refine H9 (Be rfl rfl rfl rfl) rfl rfl (Gc rfl rfl) (Zh (Be rfl rfl rfl rfl) rfl rfl (ec rfl rfl rfl (fun w hw => ED b s hs 1 [101, 108, 105, 102] (Bu [101, 108, 105, 102]) (fun _ _ => Eh) p lv i _ _ _ w _ rfl (Az (CR Bb hR) rfl) hp (AD (row b 71 (CZ s lv i p.next)) hw))) ?_); rintro v17 J _ ⟨hJ, x17, p, lv, i, Tt, ZJ, hp, ⟨rfl, hf, rfl⟩, rfl⟩
    have hL := hL.trans hJ
    rw [AY Tt] at hR
    have BH := hp.len
    have CV := CV.mono hJ
    refine H9 (Be rfl rfl rfl rfl) rfl rfl (E6 rfl rfl rfl rfl) (lq rfl (E6 rfl rfl rfl rfl) (ln (AF rfl (fun BI => ?_) (fun BI => ?_))))
    ·refine Au (Av ((p, lv, i, J)) ?_ (AW) (AB rfl) (fun _ h => by dsimp only; exact AA h))
     ·dsimp only; exact ⟨hL, hp, hf, Cc BI, CV, by omega, by rw [hR, if_pos BI]⟩
    ·rw [if_neg (by rw [BI]; simp)] at hR; rw [show GP (CC.ok l p) (XL s B) = XL s B l p from rfl, XL, AY (CT hf)] at hR; refine BB (AG (AG (AQ (Ai (Bh (ι := PS × Value × Nat × AU × Value × List NC × List Nd) (fun zz => Le I zz.2.2.2.1 ∧ GU s zz.1 zz.2.1 zz.2.2.1 zz.2.2.2.1 ∧ A0 zz.2.2.2.1 zz.2.2.2.2.2.2 zz.2.2.2.2.2.1 ∧ Bp s zz.1 + zz.2.2.2.2.2.2.length ≤ M ∧ R = Cf (Ep s (Bu [102, 105])) (fun _ q => .ok (Ip 9 zz.2.2.2.2.2.2) q) zz.1) (fun zz => []) [(0, _), (1, _), (4, _), (5, _), (19, _)] (fun zz => zz.2.2.2.1) (fun zz => (BO 26 7 A2 zz.2.2.2.2.1 zz.2.2.2.2.2.1 :: row b5 26 (A2 ⟨9, false, false, [], AO, AO, zz.2.2.2.2.1⟩) :: row b4 26 (A2 DB) :: row b 71 (CZ s zz.2.1 zz.2.2.1 zz.1.next) :: F)) (AB rfl) ?_ ?_)))))
     ·refine tr (AC 1 rfl (lq rfl (qc rfl rfl rfl ((fun w hw => Da b s p lv i 1 [101, 108, 115, 101] (Bu [101, 108, 115, 101]) (fun _ _ => Eh) w hs hf (hp.mono hw.le) (Bn hw)))) (ln (AF rfl (fun BU => ?_) (fun BU => ?_)))))
      ·have q2 : Bu [101, 108, 115, 101] (AP s p) = true := BU
       rw [if_pos q2] at hR; refine tr (AC 3 rfl (lq rfl (AZ rfl rfl (by rfl)) ?_)); refine lq rfl (AX rfl rfl rfl (by omega)) ?_; refine AC 2 rfl ?_; refine An rfl rfl (Ac rfl B0 rfl rfl (by exact ⟨rfl, rfl⟩) rfl (by rfl)) ?_; rintro _ _ _ ⟨rfl, rfl⟩
       have EX := CP (s := s) (p := p) (Cc q2)
       have hp := hp.step (Cc q2)
       refine AI (H' := row b 71 (CZ s lv (i + 1) (BE p).next) :: _) ?_ (fun _ h => h); obtain ⟨p, Fr⟩ : ∃ z, z = BE p := ⟨_, rfl⟩; rw [← Fr] at EX hp hR ⊢; obtain ⟨i, Fm⟩ : ∃ z, z = i + 1 := ⟨_, rfl⟩; rw [← Fm] at hp ⊢
       have BH := hp.len
       refine ln (DH [5, 6, 7, 9] [9] [row b5 26 (A2 ⟨9, false, false, [], AO, AO, v⟩)] mo (by kernel_rfl) (fun _ _ _ _ _ h => h) (Bg [0] (by kernel_rfl) rfl rfl rfl (Ko 1 (by kernel_rfl) rfl (Le.refl _) rfl (fun _ hI => AZ rfl rfl (by rfl)) ?_))); refine Bg [2, 3] (by kernel_rfl) rfl rfl rfl (IC 4 (by kernel_rfl) rfl rfl (AX rfl rfl rfl (by omega)) ?_); refine re 5 (by kernel_rfl) rfl (Le.refl _) rfl (ec rfl rfl rfl (fun w hw => hB p lv i _ _ _ w _ rfl (Az Bb hR) hp (AD (row b 71 (CZ s lv i p.next)) hw))) ?_; rintro v66 J _ ⟨hJ, x66, p, lv, i, ADr, AHs, hp, ⟨c66, rfl, Vw⟩, rfl⟩; refine ⟨hJ, .inr CY.sub, ?_⟩
       have hL := hL.trans hJ
       rw [AY ADr] at hR
       have BH := hp.len
       have CV := A0.snoc Vw (CV.mono hJ)
       refine re 6 (by kernel_rfl) rfl (hJ) rfl (AS rfl CJ Ab rfl rfl rfl (by rfl) rfl) ?_; rintro _ _ _ ⟨b67, rfl, rfl, rfl⟩; refine ⟨Le.refl _, .inr CY.sub, ?_⟩; refine re 7 (by kernel_rfl) rfl (hJ) rfl (Ba (f := A2) (c := c66) rfl CJ Ab rfl rfl rfl rfl rfl rfl rfl (by exact Vw.ones) (by simp only [maxLen]; omega) (by omega)) ?_; rintro v68 _ _ ⟨rfl, rfl⟩; refine ⟨Le.refl _, .inr CY.sub, ?_⟩; refine Iz v68 (fun Df => ?_); refine Bg [8] (by kernel_rfl) rfl rfl rfl ?_; refine Eu 9 (by kernel_rfl) (by kernel_rfl) rfl (hJ) rfl rfl (Ac rfl D6 rfl rfl (by assumption) rfl (by rfl)) ?_; rintro _ _ _ ⟨rfl, rfl⟩; refine ⟨Le.refl _, .inl rfl, ?_⟩; refine ES (H' := row b5 26 (A2 ⟨9, false, false, [], AO, AO, v68⟩) :: _) ?_ (fun _ h => h); refine D3 (by kernel_rfl) (Av ((p, lv, i, J, v68, cs ++ [c66], l ++ [x66])) ?_ (AW) (AB rfl) (fun _ h => by dsimp only; exact AA h))
       ·dsimp only; exact ⟨hL, hp, CV, by rw [List.length_append, List.length_singleton]; omega, hR⟩
      ·have q2 : ¬ Bu [101, 108, 115, 101] (AP s p) = true := by rw [show Bu [101, 108, 115, 101] (AP s p) = false from BU]; simp
       rw [if_neg q2] at hR; refine Au (Av ((p, lv, i, J, v, cs, l)) ?_ (AW) (AB rfl) (fun _ h => by dsimp only; exact AA h))
       ·dsimp only; exact ⟨hL, hp, CV, by omega, hR⟩
     rintro ⟨p, lv, i, J, v, cs, l⟩ ⟨hL, hp, CV, I4, hR⟩; dsimp only at *
     have EP := CV.len
     refine tr (AC 1 rfl (Bw rfl rfl rfl rfl (fun w hw => C6 b s hs 1 [102, 105] (Bu [102, 105]) (fun _ _ => Eh) (fun _ h => Cc h) p lv i _ _ _ w _ rfl (Az Bb hR) hp (AD (row b 71 (CZ s lv i p.next)) hw)) ?_)); rintro v71 J _ ⟨hJ, x71, p, lv, i, ADe, AJl, hp, rfl, rfl⟩
     have hL := hL.trans hJ
     rw [AY ADe] at hR
     have BH := hp.len
     have CV := CV.mono hJ
     refine Gb (CG (f := A2) (l := cs) v (fun _ => rfl) (fun Jf B4 Ck => ?_))
     have Is : Bm Jf (Ip 9 l) ⟨9, false, false, [], AO, AO, v⟩ := Bm.kids Ck (CV.mono B4)
     have hL := hL.trans B4
     have hp := hp.mono B4
     refine AH (lq rfl (Af rfl BR Ab rfl rfl rfl) (An rfl rfl ((by exact AE rfl Ab rfl rfl rfl (by exact Is.ones) rfl)) ?_)); rintro _ _ _ ⟨rfl, rfl⟩; refine AI (H' := row b4 26 (A2 ⟨9, false, false, [], AO, AO, v⟩) :: _) ?_ (fun _ h => h); refine ln (Aq (A3 (.inl rfl) rfl (by exact BK rfl BR Ab rfl rfl (BJ)) (fun w' hw => ?_))); exact ⟨_, rfl, Jf, _, ⟨hL, _, p, lv, i, hR, (by omega), hp, ⟨_, rfl, Is⟩, rfl⟩, AA hw⟩
  ·simp at Ik
 rintro ⟨p, lv, i, J⟩ ⟨hL, hp, hf, OG, CV, Ox, hR⟩; dsimp only at *
 have BH := hp.len
 have EP := CV.len
 rw [ifN, AY (FM hf)] at hR; refine AN (AR (tr (AC 3 rfl (lq rfl (AZ rfl rfl (by rfl)) ?_)))); refine lq rfl (AX rfl rfl rfl (by omega)) ?_; refine AC 2 rfl ?_; refine An rfl rfl (Ac rfl B0 rfl rfl (by exact ⟨rfl, rfl⟩) rfl (by rfl)) ?_; rintro _ _ _ ⟨rfl, rfl⟩
 have EX := CP (s := s) (p := p) OG
 have hp := hp.step OG
 refine AI (H' := row b 71 (CZ s lv (i + 1) (BE p).next) :: _) ?_ (fun _ h => h); obtain ⟨p, Fr⟩ : ∃ z, z = BE p := ⟨_, rfl⟩; rw [← Fr] at EX hp hR ⊢; obtain ⟨i, Fm⟩ : ∃ z, z = i + 1 := ⟨_, rfl⟩; rw [← Fm] at hp ⊢
 have BH := hp.len
 refine Gb (DH [5, 6, 7, 9] [9] [row b5 26 (A2 ⟨9, false, false, [], AO, AO, v⟩)] mo (by kernel_rfl) (fun _ _ _ _ _ h => h) (Bg [0] (by kernel_rfl) rfl rfl rfl (Ko 1 (by kernel_rfl) rfl (Le.refl _) rfl (fun _ hI => AZ rfl rfl (by rfl)) ?_))); refine Bg [2, 3] (by kernel_rfl) rfl rfl rfl (IC 4 (by kernel_rfl) rfl rfl (AX rfl rfl rfl (by omega)) ?_); refine re 5 (by kernel_rfl) rfl (Le.refl _) rfl (ec rfl rfl rfl (fun w hw => hB p lv i _ _ _ w _ rfl (Az (CR Bb hR) rfl) hp (AD (row b 71 (CZ s lv i p.next)) hw))) ?_; rintro v32 J _ ⟨hJ, x32, p, lv, i, Uu, Y0, hp, ⟨c32, rfl, Yu⟩, rfl⟩; refine ⟨hJ, .inr CY.sub, ?_⟩
 have hL := hL.trans hJ
 rw [AY Uu] at hR
 have BH := hp.len
 have CV := A0.snoc Yu (CV.mono hJ)
 have AOA : (cs ++ [c32]).length = cs.length + 1 := by simp
 refine re 6 (by kernel_rfl) rfl (hJ) rfl (AS rfl CJ Ab rfl rfl rfl (by rfl) rfl) ?_; rintro _ _ _ ⟨b33, rfl, rfl, rfl⟩; refine ⟨Le.refl _, .inr CY.sub, ?_⟩; refine re 7 (by kernel_rfl) rfl (hJ) rfl (Ba (f := A2) (c := c32) rfl CJ Ab rfl rfl rfl rfl rfl rfl rfl (by exact Yu.ones) (by simp only [maxLen]; omega) (by omega)) ?_; rintro v34 _ _ ⟨rfl, rfl⟩; refine ⟨Le.refl _, .inr CY.sub, ?_⟩; refine Iz v34 (fun Df => ?_); refine Bg [8] (by kernel_rfl) rfl rfl rfl ?_; refine Eu 9 (by kernel_rfl) (by kernel_rfl) rfl (hJ) rfl rfl (Ac rfl D6 rfl rfl (by assumption) rfl (by rfl)) ?_; rintro _ _ _ ⟨rfl, rfl⟩; refine ⟨Le.refl _, .inl rfl, ?_⟩; refine ES (H' := row b5 26 (A2 ⟨9, false, false, [], AO, AO, v34⟩) :: _) ?_ (fun _ h => h); refine D3 (by kernel_rfl) (Ai (tr (AC 1 rfl (Bw rfl rfl rfl rfl (fun w hw => C6 b s hs 1 [116, 104, 101, 110] (Bu [116, 104, 101, 110]) (fun _ _ => Eh) (fun _ h => Cc h) p lv i _ _ _ w _ rfl (Az (CR Bb hR) rfl) hp (AD (row b 71 (CZ s lv i p.next)) hw)) ?_)))); rintro v37 J _ ⟨hJ, x37, p, lv, i, YC, ADK, hp, rfl, rfl⟩
 have hL := hL.trans hJ
 rw [AY YC] at hR
 have BH := hp.len
 have CV := CV.mono hJ
 refine BQ (AC 3 rfl (lq rfl (AZ rfl rfl (by rfl)) ?_)); refine Ae rfl (AF rfl (fun Bd => ?_) (fun Bd => ?_))
 ·simp at Bd
  refine DH [5, 6, 7, 9] [9] [row b5 26 (A2 ⟨9, false, false, [], AO, AO, v34⟩)] mo (by kernel_rfl) (fun _ _ _ _ _ h => h) (Bg [0] (by kernel_rfl) rfl rfl rfl (Ko 1 (by kernel_rfl) rfl (Le.refl _) rfl (fun _ hI => AZ rfl rfl (by rfl)) ?_)); refine Bg [2, 3] (by kernel_rfl) rfl rfl rfl (IC 4 (by kernel_rfl) rfl rfl (AX rfl rfl rfl (by omega)) ?_); refine re 5 (by kernel_rfl) rfl (Le.refl _) rfl (ec rfl rfl rfl (fun w hw => hB p lv i _ _ _ w _ rfl (Az (CR Bb hR) rfl) hp (AD (row b 71 (CZ s lv i p.next)) hw))) ?_; rintro v48 J _ ⟨hJ, x48, p, lv, i, Uc, ZE, hp, ⟨c48, rfl, Xz⟩, rfl⟩; refine ⟨hJ, .inr CY.sub, ?_⟩
  have hL := hL.trans hJ
  rw [AY Uc] at hR
  have BH := hp.len
  have CV := A0.snoc Xz (CV.mono hJ)
  refine re 6 (by kernel_rfl) rfl (hJ) rfl (AS rfl CJ Ab rfl rfl rfl (by rfl) rfl) ?_; rintro _ _ _ ⟨b49, rfl, rfl, rfl⟩; refine ⟨Le.refl _, .inr CY.sub, ?_⟩; refine re 7 (by kernel_rfl) rfl (hJ) rfl (Ba (f := A2) (c := c48) rfl CJ Ab rfl rfl rfl rfl rfl rfl rfl (by exact Xz.ones) (by simp only [maxLen]; omega) (by omega)) ?_; rintro v50 _ _ ⟨rfl, rfl⟩; refine ⟨Le.refl _, .inr CY.sub, ?_⟩; refine Iz v50 (fun Df => ?_); refine Bg [8] (by kernel_rfl) rfl rfl rfl ?_; refine Eu 9 (by kernel_rfl) (by kernel_rfl) rfl (hJ) rfl rfl (Ac rfl D6 rfl rfl (by assumption) rfl (by rfl)) ?_; rintro _ _ _ ⟨rfl, rfl⟩; refine ⟨Le.refl _, .inl rfl, ?_⟩; refine ES (H' := row b5 26 (A2 ⟨9, false, false, [], AO, AO, v50⟩) :: _) ?_ (fun _ h => h); refine D3 (by kernel_rfl) (AV (Ai (AH (Ax rfl (Ak ((p, lv, i, J, v50, cs ++ [c32] ++ [c48], l ++ [x32] ++ [x48], g - 1, false)) ?_ ?_ (AB rfl) (AB rfl) (fun _ h => by dsimp only; exact AA h))))))
  ·dsimp only; obtain ⟨g, rfl⟩ : ∃ g', g = g' + 1 := ⟨g - 1, by omega⟩; refine ⟨hL, hp, CV, by simp; omega, by simp only [Nat.add_sub_cancel]; omega, fun h => (by cases h), fun _ => ⟨?_, by simp⟩⟩
   rw [hR, List.append_assoc]; try rfl
  ·dsimp only
   omega
 ·simp at Bd
end Go.Tri

namespace Go.Tri
open Go.Proofs Go.RowKit
set_option maxRecDepth 10000
set_option maxHeartbeats 2000000 in
theorem SO (b : Nat) (s : List UInt8) (hs : s.length ≤ 65536) (lev : Nat) (Kj : lev ≤ 1000) (B : PS → CC Nd) (hB : FX 97 b s [.int .i64 ((lev + 1 : Nat) : Int)] B Fy 1) : ∀ (p : PS) (lv : Value) (i : Nat) (I : AU) (F : List HA) (w0 w : World) (R : CC Nd), R = T0 s B p → (∃ x q, R = .ok x q) → CH s p → (AP s p).kind ≠ 0 → GU s p lv i I → St w0 I (row b 71 (CZ s lv i p.next) :: F) w → Calls Tryz.prog 100 (FK b :: [.int .i64 (lev : Int)]).toArray w (fun e w' => ∃ v, e = .returned v ∧ ∃ I' H', Kl b s p I F Fy 1 R v I' H' ∧ St w I' H' w') := by
 intro p lv i I F w0 w R hR Bb hf OG hp CE
 have hL := Le.refl I
 have BH := hp.len
 obtain ⟨M, hM⟩ : ∃ M, M = Bp s p := ⟨_, rfl⟩
 have Qi := FD hp.1
 unfold T0 at hR; rw [AY (FM hf)] at hR; refine enter Tryz.func100 rfl Tryz.ntmps100 rfl (CE.self) (tr (le rfl (Ah rfl Ab rfl) ?_)); rintro _ _ _ ⟨b4, rfl, rfl, rfl⟩; refine AI (H' := row b4 26 (A2 DB) :: _) ?_ (fun _ h => h); refine BQ (AC 3 rfl (lq rfl (AZ rfl rfl (by rfl)) ?_)); refine lq rfl (AX rfl rfl rfl (by omega)) ?_; refine AC 2 rfl ?_; refine An rfl rfl (Ac rfl B0 rfl rfl (by exact ⟨rfl, rfl⟩) rfl (by rfl)) ?_; rintro _ _ _ ⟨rfl, rfl⟩
 have EX := CP (s := s) (p := p) OG
 have hp := hp.step OG
 refine AI (H' := row b 71 (CZ s lv (i + 1) (BE p).next) :: _) ?_ (fun _ h => h); obtain ⟨p, Fr⟩ : ∃ z, z = BE p := ⟨_, rfl⟩; rw [← Fr] at EX hp hR ⊢; obtain ⟨i, Fm⟩ : ∃ z, z = i + 1 := ⟨_, rfl⟩; rw [← Fm] at hp ⊢
 have BH := hp.len
 refine BQ (lq rfl (A6 (pl := [(_, _), (_, _), (_, _), (_, _), (_, _), (_, _), (_, _)]) (cs := (A2 ⟨12, false, false, [], AO, AO, AO⟩).toArray) rfl BR Ab ⟨rfl, ⟨_, _, B0⟩, rfl, ⟨_, _, De⟩, rfl, ⟨_, _, De⟩, rfl, ⟨_, _, CU⟩, rfl, ⟨_, _, EE⟩, rfl, ⟨_, _, El⟩, rfl, ⟨_, _, D6⟩, trivial⟩ rfl rfl) (le rfl (Ah rfl Ab rfl) ?_)); rintro _ _ _ ⟨b5, rfl, rfl, rfl⟩; refine An rfl rfl ((by exact AE rfl Ab rfl rfl rfl (by exact (HO B3 B3 B3)) rfl)) ?_; rintro _ _ _ ⟨rfl, rfl⟩; refine AI (H' := row b5 26 (A2 ⟨12, false, false, [], AO, AO, AO⟩) :: _) ?_ (fun _ h => h); refine BQ (AC 1 rfl (Bw rfl rfl rfl rfl (fun w hw => DW b s hs p lv i _ _ _ w _ rfl (Az Bb hR) hp (AD (row b 71 (CZ s lv i p.next)) hw)) ?_)); rintro v16 J _ ⟨hJ, x16, p, lv, i, AFS, AGL, hp, ⟨rfl, hf, rfl⟩, rfl⟩
 have hL := hL.trans hJ
 rw [AY AFS] at hR
 have BH := hp.len
 refine le rfl (Ah rfl BL rfl) ?_; rintro _ _ _ ⟨b6, rfl, rfl, rfl⟩; refine An rfl rfl ((by exact AE rfl BL rfl rfl rfl (by exact A4 _) rfl)) ?_; rintro _ _ _ ⟨rfl, rfl⟩; obtain ⟨tt, KD⟩ : ∃ z, z = AP s p := ⟨_, rfl⟩; refine AI (H' := row b6 73 (BZ (AP s p)) :: _) ?_ (fun _ h => h); refine Gb (tq (AK 3 rfl (sq rfl (AZ rfl rfl (by rfl)) ?_))); refine AK 2 rfl ?_
 refine Bf 3 5 22 26 25 _ _ rfl rfl rfl rfl rfl rfl (fun YZ => by
   simp at YZ
   refine AJ 1 rfl (sg rfl (AZ rfl rfl (by rfl)) ?_); refine AJ 1 rfl ?_; exact Ao rfl
  ) (AM rfl) rfl rfl rfl ?_
 refine AK 1 rfl ?_
 refine Bf 4 10 27 32 31 _ _ rfl rfl rfl rfl rfl rfl (fun On => by
   simp at On
   refine AJ 1 rfl (sg rfl (AZ rfl rfl (by rfl)) ?_); refine sg rfl (qc rfl rfl rfl ((fun w _ => OM (AP s p).text w (by have := Dq hp.1; omega)))) ?_; refine AJ 1 rfl ?_; exact Ao rfl
  ) (AM rfl) rfl rfl rfl ?_
 refine Cy (AF rfl (fun hc0 => ?_) (fun hc0 => ?_))
 ·have hc0 : (decide (((AP s p).kind : Int) ≠ 1) || !FSt (AP s p).text) = true := hc0
  rw [if_neg (X0 hc0)] at hR
  exfalso
  obtain ⟨_, _, h9⟩ := Bb; rw [hR] at h9
  cases h9
 ·have hc0 : (decide (((AP s p).kind : Int) ≠ 1) || !FSt (AP s p).text) = false := hc0
  have Xq := Yx hc0
  have GO := Xq.1
  rw [if_pos Xq] at hR; rw [← KD] at hR ⊢; refine Al (tr (AC 3 rfl (lq rfl (AZ rfl rfl (by rfl)) ?_))); refine lq rfl (AX rfl rfl rfl (by omega)) ?_; refine AC 2 rfl ?_; refine An rfl rfl (Ac rfl B0 rfl rfl (by exact ⟨rfl, rfl⟩) rfl (by rfl)) ?_; rintro _ _ _ ⟨rfl, rfl⟩
  have EX := CP (s := s) (p := p) (by omega)
  have hp := hp.step (by omega)
  refine AI (H' := row b 71 (CZ s lv (i + 1) (BE p).next) :: _) ?_ (fun _ h => h); obtain ⟨p, Fr⟩ : ∃ z, z = BE p := ⟨_, rfl⟩; rw [← Fr] at EX hp hR ⊢; obtain ⟨i, Fm⟩ : ∃ z, z = i + 1 := ⟨_, rfl⟩; rw [← Fm] at hp ⊢
  have BH := hp.len
  refine BQ (AC 1 rfl (lq rfl (AZ rfl rfl (by rfl)) ?_)); refine AC 1 rfl ?_; refine An rfl rfl (Ac rfl CU rfl rfl (by exact ⟨rfl, rfl⟩) rfl (by rfl)) ?_; rintro _ _ _ ⟨rfl, rfl⟩; refine AI (H' := row b5 26 (A2 ⟨12, false, false, tt.text, AO, AO, AO⟩) :: _) ?_ (fun _ h => h); refine BQ (AC 1 rfl (Bw rfl rfl rfl rfl (fun w hw => Cr b s hs p lv i _ _ _ w _ rfl (Az Bb hR) hp (AD (row b 71 (CZ s lv i p.next)) hw)) ?_)); rintro v47 J _ ⟨hJ, x47, p, lv, i, AEp, AGZ, hp, ⟨rfl, hf, hk⟩, rfl⟩
  have hL := hL.trans hJ
  rw [AY AEp] at hR
  have BH := hp.len
  rw [AY (CT hf)] at hR; refine ln (Bh (ι := PS × Value × Nat × AU × Bool × Value × List (List UInt8)) (fun zz => Le I zz.2.2.2.1 ∧ GU s zz.1 zz.2.1 zz.2.2.1 zz.2.2.2.1 ∧ Sl zz.2.2.2.1 1 zz.2.2.2.2.2.1 (zz.2.2.2.2.2.2.map Bo) ∧ Bp s zz.1 + 1 ≤ M ∧ R = Oj s B tt.text (zz.2.2.2.2.1, zz.2.2.2.2.2.2) zz.1) (fun zz => []) [(0, _), (1, _), (4, _), (5, _), (6, _), (32, _)] (fun zz => zz.2.2.2.1) (fun zz => (row b5 26 (A2 ⟨12, false, zz.2.2.2.2.1, tt.text, zz.2.2.2.2.2.1, AO, AO⟩) :: row b6 73 (BZ tt) :: row b4 26 (A2 DB) :: row b 71 (CZ s zz.2.1 zz.2.2.1 zz.1.next) :: F)) (AB rfl) ?_ ?_)
  ·refine tr (AC 1 rfl (lq rfl (qc rfl rfl rfl ((fun w hw => Da b s p lv i 1 [105, 110] (Bu [105, 110]) (fun _ _ => Eh) w hs hf (hp.mono hw.le) (Bn hw)))) (ln (AF rfl (fun BI => ?_) (fun BI => ?_)))))
   ·have q1 : Bu [105, 110] (AP s p) = true := BI
    rw [if_pos q1] at hR; refine tr (AC 3 rfl (lq rfl (AZ rfl rfl (by rfl)) ?_)); refine lq rfl (AX rfl rfl rfl (by omega)) ?_; refine AC 2 rfl ?_; refine An rfl rfl (Ac rfl B0 rfl rfl (by exact ⟨rfl, rfl⟩) rfl (by rfl)) ?_; rintro _ _ _ ⟨rfl, rfl⟩
    have EX := CP (s := s) (p := p) (Cc q1)
    have hp := hp.step (Cc q1)
    refine AI (H' := row b 71 (CZ s lv (i + 1) (BE p).next) :: _) ?_ (fun _ h => h); obtain ⟨p, Fr⟩ : ∃ z, z = BE p := ⟨_, rfl⟩; rw [← Fr] at EX hp hR ⊢; obtain ⟨i, Fm⟩ : ∃ z, z = i + 1 := ⟨_, rfl⟩; rw [← Fm] at hp ⊢
    have BH := hp.len
    unfold AAF at hR
    have Nz := FD hp.1
    have XB := Bb
    obtain ⟨L, Q, hN⟩ := Az Bb hR; rw [AY hN] at hR
    have hR0 := hR
    clear hR
    obtain ⟨R1, XS⟩ : ∃ z, z = CC.ok L Q := ⟨_, rfl⟩
    have Bb : ∃ x q, R1 = .ok x q := ⟨_, _, XS⟩
    have hR := XS.trans hN.symm
    unfold QC O1 at hR; refine BQ (AC 1 rfl ?_); refine An rfl rfl (Ac rfl De rfl rfl (by exact ⟨rfl, rfl⟩) rfl (by rfl)) ?_; rintro _ _ _ ⟨rfl, rfl⟩; refine AI (H' := row b5 26 (A2 ⟨12, false, true, tt.text, AO, AO, AO⟩) :: _) ?_ (fun _ h => h); refine Gb (AR (A8 (ι := PS × Value × Nat × AU × Nat × List (List UInt8) × Value) (fun zz => Le I zz.2.2.2.1 ∧ GU s zz.1 zz.2.1 zz.2.2.1 zz.2.2.2.1 ∧ zz.2.2.2.2.2.1.length + Bp s zz.1 ≤ 2 * s.length ∧ Bp s zz.1 + 1 ≤ M ∧ Bp s zz.1 < zz.2.2.2.2.1 ∧ R1 = Gt s (fun t => decide (t.kind = 1)) (FU s) zz.2.2.2.2.1 zz.2.2.2.2.2.1 zz.1) (fun zz => Bp s zz.1) (fun zz => []) [(0, _), (1, _), (4, _), (5, _), (6, _), (32, _), (49, _)] (fun zz => zz.2.2.2.1) (fun zz => (BO 9 1 Bo zz.2.2.2.2.2.2 zz.2.2.2.2.2.1 :: row b5 26 (A2 ⟨12, false, true, tt.text, zz.2.2.2.2.2.2, AO, AO⟩) :: row b6 73 (BZ tt) :: row b4 26 (A2 DB) :: row b 71 (CZ s zz.2.1 zz.2.2.1 zz.1.next) :: F)) (p, lv, i, J, Bp s p + 1, [], AO) ?_ (AW) (AB rfl) (fun _ h => AA (CS 9 1 Bo h)) ?_))
    ·dsimp only; exact ⟨hL, hp, by simp; omega, by omega, Nat.lt_succ_self _, hR⟩
    rintro ⟨p, lv, i, J, g, l, tv⟩ ⟨hL, hp, I4, hm1, hg, hR⟩; dsimp only at *
    have BH := hp.len
    obtain ⟨M2, hM2⟩ : ∃ z, z = Bp s p := ⟨_, rfl⟩; refine AN (tr (AC 3 rfl (lq rfl (AZ rfl rfl (by rfl)) ?_))); refine AC 2 rfl (Gp (t := 63) rfl (fun Ik => ?_) (fun Ik => ?_))
    ·simp at Ik
     refine H9 (Be rfl rfl rfl rfl) rfl rfl (Gc rfl rfl) ?_; obtain ⟨g, rfl⟩ : ∃ g', g = g' + 1 := ⟨g - 1, by omega⟩; rw [Gt] at hR; refine Zh (Be rfl rfl rfl rfl) rfl rfl (ec rfl rfl rfl (fun w hw => DW b s hs p lv i _ _ _ w _ rfl (Az Bb hR) hp (AD (row b 71 (CZ s lv i p.next)) hw))) ?_; rintro v65 J _ ⟨hJ, x65, p, lv, i, Xy, ACW, hp, ⟨rfl, hf, rfl⟩, rfl⟩
     have hL := hL.trans hJ
     rw [AY Xy] at hR
     have BH := hp.len
     refine H9 (Be rfl rfl rfl rfl) rfl rfl (DT rfl Cz rfl Li rfl rfl rfl) (H9 (Be rfl rfl rfl rfl) rfl rfl (Vo rfl rfl rfl) (lq rfl (E6 rfl rfl rfl rfl) (ln (AF rfl (fun BU => ?_) (fun BU => ?_)))))
     ·simp at BU
      have GO : (AP s p).kind = 1 := by omega
      rw [if_pos (decide_eq_true GO)] at hR; refine Al (AR (DH [3, 5, 6, 8] [8] [row b5 26 (A2 ⟨12, false, true, tt.text, tv, AO, AO⟩)] mo (by kernel_rfl) (fun _ _ _ _ _ h => h) (Bg [0] (by kernel_rfl) rfl rfl rfl (Ko 1 (by kernel_rfl) rfl (Le.refl _) rfl (fun _ hI => AZ rfl rfl (by rfl)) ?_)))); refine Bg [2] (by kernel_rfl) rfl rfl rfl (re 3 (by kernel_rfl) rfl (Le.refl _) rfl (ec rfl rfl rfl (fun w hw => It b s hs p lv i _ _ _ w hf (by omega) hp (AD (row b 71 (CZ s lv i p.next)) hw))) ?_); rintro _ J _ ⟨hJ, rfl, hp, rfl⟩; refine ⟨hJ, .inr CY.sub, ?_⟩
      have hL := hL.trans hJ
      rw [AY (Gl hf GO)] at hR; refine Ko 4 (by kernel_rfl) rfl (hJ) rfl (fun _ hI => DT rfl Cz rfl CW rfl rfl rfl) (re 5 (by kernel_rfl) rfl (hJ) rfl (AS rfl CD CU rfl rfl rfl (by exact Lh.cells ⟨rfl, rfl⟩) rfl) ?_); rintro _ _ _ ⟨b74, rfl, rfl, rfl⟩; refine ⟨Le.refl _, .inr CY.sub, ?_⟩; refine re 6 (by kernel_rfl) rfl (hJ) rfl (Ba (f := Bo) (c := (AP s p).text) rfl CD CU rfl rfl rfl rfl rfl rfl rfl (by exact Ev _) (by simp only [maxLen]; omega) (by omega)) ?_; rintro v75 _ _ ⟨rfl, rfl⟩; refine ⟨Le.refl _, .inr CY.sub, ?_⟩; refine Iz v75 (fun Df => ?_); refine Bg [7] (by kernel_rfl) rfl rfl rfl ?_; refine Eu 8 (by kernel_rfl) (by kernel_rfl) rfl (hJ) rfl rfl (Ac rfl EE rfl rfl (by assumption) rfl (by rfl)) ?_; rintro _ _ _ ⟨rfl, rfl⟩; refine ⟨Le.refl _, .inl rfl, ?_⟩; refine ES (H' := row b5 26 (A2 ⟨12, false, true, tt.text, v75, AO, AO⟩) :: _) ?_ (fun _ h => h); refine D3 (by kernel_rfl) (AV (Ak ((BE p, lv, i + 1, J, g, l ++ [(AP s p).text], v75)) ?_ ?_ (AW) (AB rfl) (fun _ h => by dsimp only; exact AA h)))
      ·dsimp only
       have EX := CP (s := s) (p := p) (by omega)
       exact ⟨hL, hp, by simp; omega, by omega, by omega, hR⟩
      ·dsimp only
       have EX := CP (s := s) (p := p) (by omega)
       show Bp s (BE p) < _
       omega
     ·simp at BU
      have GO : ¬ (AP s p).kind = 1 := by omega
      rw [if_neg (by simpa using GO)] at hR; rw [XS] at hR
      obtain ⟨rfl, rfl⟩ : l = L ∧ p = Q := by cases hR; exact ⟨rfl, rfl⟩
      have hR := hR0
      rw [AY (CT hf)] at hR
      have Bb := XB
      refine BB (AG (AG (AQ (Ai (Bh (ι := PS × Value × Nat × AU) (fun zz => Le I zz.2.2.2 ∧ GU s zz.1 zz.2.1 zz.2.2.1 zz.2.2.2 ∧ Bp s zz.1 + 1 ≤ M ∧ R = Cf (Dj s) (fun _ q => Oj s B tt.text (true, l) q) zz.1) (fun zz => []) [(0, _), (1, _), (4, _), (5, _), (6, _), (32, _), (49, _), (68, _)] (fun zz => zz.2.2.2) (fun zz => (BO 9 1 Bo tv l :: row b5 26 (A2 ⟨12, false, true, tt.text, tv, AO, AO⟩) :: row b6 73 (BZ tt) :: row b4 26 (A2 DB) :: row b 71 (CZ s zz.2.1 zz.2.2.1 zz.1.next) :: F)) (AB rfl) ?_ ?_)))))
      ·refine tr (AC 1 rfl (lq rfl (qc rfl rfl rfl ((fun w hw => Da b s p lv i 3 [10] (fun t => decide (t.kind = 3)) (fun _ h => T1 h) w hs hf (hp.mono hw.le) (Bn hw)))) (Ae rfl (AF rfl (fun Bd => ?_) (fun Bd => ?_)))))
       ·rw [if_neg (show ¬ (AP s p).kind = 3 from fun h => by rw [decide_eq_true h] at Bd; cases Bd)] at hR; refine AH (AC 1 rfl (Bw rfl rfl rfl rfl (fun w hw => C6 b s hs 2 [59] (C8 [59]) (fun _ _ => EH) (fun _ h => Bq h) p lv i _ _ _ w _ rfl (Az Bb hR) hp (AD (row b 71 (CZ s lv i p.next)) hw)) ?_)); rintro v81 J _ ⟨hJ, x81, p, lv, i, AKi, AOy, hp, rfl, rfl⟩
        have hL := hL.trans hJ
        rw [AY AKi] at hR
        have BH := hp.len
        refine BX (Av ((p, lv, i, J)) ?_ (AW) (AB rfl) (fun _ h => by dsimp only; exact AA h))
        ·dsimp only; exact ⟨hL, hp, by omega, hR⟩
       ·rw [if_pos (show (AP s p).kind = 3 from by simpa using Bd)] at hR; refine Au (Av ((p, lv, i, J)) ?_ (AW) (AB rfl) (fun _ h => by dsimp only; exact AA h))
        ·dsimp only; exact ⟨hL, hp, by omega, hR⟩
      rintro ⟨p, lv, i, J⟩ ⟨hL, hp, I4, hR⟩; dsimp only at *
      have BH := hp.len
      refine CG (f := Bo) (l := l) tv (fun _ => rfl) (fun Jf B4 Ck => ?_)
      have hL := hL.trans B4
      have hp := hp.mono B4
      refine AH (AC 1 rfl (Bw rfl rfl rfl rfl (fun w hw => Cr b s hs p lv i _ _ _ w _ rfl (Az Bb hR) hp (AD (row b 71 (CZ s lv i p.next)) hw)) ?_)); rintro v83 J _ ⟨hJ, x83, p, lv, i, ALD, APn, hp, ⟨rfl, hf, hk⟩, rfl⟩
      have hL := hL.trans hJ
      rw [AY ALD] at hR
      have BH := hp.len
      have Ck := Ck.mono hJ
      refine BX (Av ((p, lv, i, J, true, tv, l)) ?_ (AW) (AB rfl) (fun _ h => by dsimp only; exact AA h))
      ·dsimp only; exact ⟨hL, hp, Ck, by omega, hR⟩
    ·simp at Ik
   ·have q1 : ¬ Bu [105, 110] (AP s p) = true := by rw [show Bu [105, 110] (AP s p) = false from BI]; simp
    rw [if_neg q1] at hR; refine tr (AC 1 rfl (lq rfl (qc rfl rfl rfl ((fun w hw => Da b s p lv i 2 [59] (C8 [59]) (fun _ _ => EH) w hs hf (hp.mono hw.le) (Bn hw)))) (ln (AF rfl (fun Cg => ?_) (fun Cg => ?_)))))
    ·have q3 : C8 [59] (AP s p) = true := Cg
     rw [if_pos q3] at hR; refine tr (AC 3 rfl (lq rfl (AZ rfl rfl (by rfl)) ?_)); refine lq rfl (AX rfl rfl rfl (by omega)) ?_; refine AC 2 rfl ?_; refine An rfl rfl (Ac rfl B0 rfl rfl (by exact ⟨rfl, rfl⟩) rfl (by rfl)) ?_; rintro _ _ _ ⟨rfl, rfl⟩
     have EX := CP (s := s) (p := p) (Bq q3)
     have hp := hp.step (Bq q3)
     refine AI (H' := row b 71 (CZ s lv (i + 1) (BE p).next) :: _) ?_ (fun _ h => h); obtain ⟨p, Fr⟩ : ∃ z, z = BE p := ⟨_, rfl⟩; rw [← Fr] at EX hp hR ⊢; obtain ⟨i, Fm⟩ : ∃ z, z = i + 1 := ⟨_, rfl⟩; rw [← Fm] at hp ⊢
     have BH := hp.len
     refine ln (AH (AC 1 rfl (Bw rfl rfl rfl rfl (fun w hw => Cr b s hs p lv i _ _ _ w _ rfl (Az Bb hR) hp (AD (row b 71 (CZ s lv i p.next)) hw)) ?_))); rintro v94 J _ ⟨hJ, x94, p, lv, i, ANa, API, hp, ⟨rfl, hf, hk⟩, rfl⟩
     have hL := hL.trans hJ
     rw [AY ANa] at hR
     have BH := hp.len
     refine BX (Av ((p, lv, i, J, false, AO, [])) ?_ (AW) (AB rfl) (fun _ h => by dsimp only; exact AA h))
     ·dsimp only; exact ⟨hL, hp, DP, by omega, hR⟩
    ·have q3 : ¬ C8 [59] (AP s p) = true := by rw [show C8 [59] (AP s p) = false from Cg]; simp
     rw [if_neg q3] at hR; refine Au (Av ((p, lv, i, J, false, AO, [])) ?_ (AW) (AB rfl) (fun _ h => by dsimp only; exact AA h))
     ·dsimp only; exact ⟨hL, hp, DP, by omega, hR⟩
  rintro ⟨p, lv, i, J, isin, wv, ws⟩ ⟨hL, hp, Kg, I4, hR⟩; dsimp only at *
  have BH := hp.len
  unfold Oj at hR; refine tr (AC 1 rfl (Bw rfl rfl rfl rfl (fun w hw => C6 b s hs 1 [100, 111] (Bu [100, 111]) (fun _ _ => Eh) (fun _ h => Cc h) p lv i _ _ _ w _ rfl (Az Bb hR) hp (AD (row b 71 (CZ s lv i p.next)) hw)) ?_)); rintro v96 J _ ⟨hJ, x96, p, lv, i, AFG, AHc, hp, rfl, rfl⟩
  have hL := hL.trans hJ
  rw [AY AFG] at hR
  have BH := hp.len
  have Kg := Kg.mono hJ
  refine K6 (AC 3 rfl (lq rfl (AZ rfl rfl (by rfl)) ?_)); refine Ae rfl (AF rfl (fun C1 => ?_) (fun C1 => ?_))
  ·simp at C1
   refine AH (AC 2 rfl (lq rfl (AX rfl rfl rfl (by omega)) ?_)); refine Bw rfl rfl rfl rfl (fun w hw => hB p lv i _ _ _ w _ rfl (Az Bb hR) hp (AD (row b 71 (CZ s lv i p.next)) hw)) ?_; rintro v105 J _ ⟨hJ, x105, p, lv, i, AIV, ANN, hp, ⟨c105, rfl, AHW⟩, rfl⟩
   have hL := hL.trans hJ
   rw [AY AIV] at hR
   have BH := hp.len
   have Kg := Kg.mono hJ
   refine le rfl (AS rfl CJ Ab rfl rfl rfl (by rfl) rfl) ?_; rintro _ _ _ ⟨b106, rfl, rfl, rfl⟩; refine AI (H' := BO 26 7 A2 (.slice (some ⟨b106, 0, none⟩) 1 1) [c105] :: _) ?_ (fun _ h => A7 h rfl (by decide)); refine BG (f := A2) (l := [c105]) (.slice (some ⟨b106, 0, none⟩) 1 1) (fun _ => rfl) (fun Jf B4 Ck => ?_)
   have hL := hL.trans B4
   have hp := hp.mono B4
   have Is : Bm Jf (.mk 12 false isin tt.text ws [] [x105]) ⟨12, false, isin, tt.text, wv, AO, (.slice (some ⟨b106, 0, none⟩) 1 1)⟩ := Bm.of (Kg.mono B4) DP Ck (A0.one (AHW.mono B4))
   refine AC 1 rfl ?_; refine An rfl rfl (Ac rfl D6 rfl rfl (by exact ⟨rfl, rfl⟩) rfl (by rfl)) ?_; rintro _ _ _ ⟨rfl, rfl⟩; refine AI (H' := row b5 26 (A2 ⟨12, false, isin, tt.text, wv, AO, (.slice (some ⟨b106, 0, none⟩) 1 1)⟩) :: _) ?_ (fun _ h => h); refine BQ (AC 1 rfl (Bw rfl rfl rfl rfl (fun w hw => C6 b s hs 1 [100, 111, 110, 101] (Bu [100, 111, 110, 101]) (fun _ _ => Eh) (fun _ h => Cc h) p lv i _ _ _ w _ rfl (Az Bb hR) hp (AD (row b 71 (CZ s lv i p.next)) hw)) ?_)); rintro v109 J _ ⟨hJ, x109, p, lv, i, AIF, ANP, hp, rfl, rfl⟩
   have hL := hL.trans hJ
   rw [AY AIF] at hR
   have BH := hp.len
   have Is := Is.mono hJ
   refine BQ (lq rfl (Af rfl BR Ab rfl rfl rfl) (An rfl rfl ((by exact AE rfl Ab rfl rfl rfl (by exact Is.ones) rfl)) ?_)); rintro _ _ _ ⟨rfl, rfl⟩; refine AI (H' := row b4 26 (A2 ⟨12, false, isin, tt.text, wv, AO, (.slice (some ⟨b106, 0, none⟩) 1 1)⟩) :: _) ?_ (fun _ h => h); refine ln (Aq (A3 (.inl rfl) rfl (by exact BK rfl BR Ab rfl rfl (BJ)) (fun w' hw => ?_))); exact ⟨_, rfl, J, _, ⟨hL, _, p, lv, i, hR, (by omega), hp, ⟨_, rfl, Is⟩, rfl⟩, AA hw⟩
  ·simp at C1
end Go.Tri

namespace Go.Tri
open Go.Proofs Go.RowKit
set_option maxRecDepth 10000
theorem S2 {α : Type} {s : List UInt8} {K : List UInt8 → PS → CC α} {p : PS} : Cf (FU s) K p = Cf (C4 s) (fun t q => Cf (fun q => if t.kind = 1 then .ok t.text (BE q) else .bad t.pos 56) K q) p := by
 unfold Cf FU Cf
 cases C4 s p with
 | ok t q => rfl
 | bad a e => rfl
theorem Q4 {α : Type} {t : CX} {K : List UInt8 → PS → CC α} {q : PS} (h : t.kind = 1) : Cf (fun q => if t.kind = 1 then .ok t.text (BE q) else .bad t.pos 56) K q = K t.text (BE q) := AY (if_pos h)
theorem Vc {α : Type} {t : CX} {K : List UInt8 → PS → CC α} {q : PS} (h : ¬ t.kind = 1) : Cf (fun q => if t.kind = 1 then .ok t.text (BE q) else .bad t.pos 56) K q = .bad t.pos 56 := Ay (if_neg h)
theorem YM {s : List UInt8} {ws : List (List UInt8)} {K : List (List UInt8) → PS → CC (List (List UInt8) × List Nd)} {p : PS} : Cf (FU s) (fun x q => Cf (Mk s (Bp s q + 1) (ws ++ [x])) K q) p = GP (Cf (FU s) (fun x q => Mk s (Bp s q + 1) (ws ++ [x]) q) p) K := by
 unfold Cf GP
 cases FU s p with
 | ok x q => rfl
 | bad a e => rfl
set_option maxHeartbeats 4000000 in
theorem Qf (b : Nat) (s : List UInt8) (hs : s.length ≤ 65536) (lev : Nat) (Kj : lev ≤ 1000) (B : PS → CC Nd) (hB : FX 97 b s [.int .i64 ((lev + 1 : Nat) : Int)] B Fy 1) : ∀ (p : PS) (lv : Value) (i : Nat) (I : AU) (F : List HA) (w0 w : World) (R : CC Nd), R = Nq s B p → (∃ x q, R = .ok x q) → CH s p → (AP s p).kind ≠ 0 → GU s p lv i I → St w0 I (row b 71 (CZ s lv i p.next) :: F) w → Calls Tryz.prog 101 (FK b :: [.int .i64 (lev : Int)]).toArray w (fun e w' => ∃ v, e = .returned v ∧ ∃ I' H', Kl b s p I F Fy 1 R v I' H' ∧ St w I' H' w') := by
 intro p lv i I F w0 w R hR Bb hf OG hp CE
 have hL := Le.refl I
 have BH := hp.len
 obtain ⟨M, hM⟩ : ∃ M, M = Bp s p := ⟨_, rfl⟩
 have Qi := FD hp.1
 unfold Nq at hR; rw [AY (FM hf), S2] at hR; refine enter Tryz.func101 rfl Tryz.ntmps101 rfl (CE.self) (tr (le rfl (Ah rfl Ab rfl) ?_)); rintro _ _ _ ⟨b4, rfl, rfl, rfl⟩; refine AI (H' := row b4 26 (A2 DB) :: _) ?_ (fun _ h => h); refine BQ (AC 3 rfl (lq rfl (AZ rfl rfl (by rfl)) ?_)); refine lq rfl (AX rfl rfl rfl (by omega)) ?_; refine AC 2 rfl ?_; refine An rfl rfl (Ac rfl B0 rfl rfl (by exact ⟨rfl, rfl⟩) rfl (by rfl)) ?_; rintro _ _ _ ⟨rfl, rfl⟩
 have EX := CP (s := s) (p := p) OG
 have hp := hp.step OG
 refine AI (H' := row b 71 (CZ s lv (i + 1) (BE p).next) :: _) ?_ (fun _ h => h); obtain ⟨p, Fr⟩ : ∃ z, z = BE p := ⟨_, rfl⟩; rw [← Fr] at EX hp hR ⊢; obtain ⟨i, Fm⟩ : ∃ z, z = i + 1 := ⟨_, rfl⟩; rw [← Fm] at hp ⊢
 have BH := hp.len
 refine BQ (lq rfl (A6 (pl := [(_, _), (_, _), (_, _), (_, _), (_, _), (_, _), (_, _)]) (cs := (A2 ⟨13, false, false, [], AO, AO, AO⟩).toArray) rfl BR Ab ⟨rfl, ⟨_, _, B0⟩, rfl, ⟨_, _, De⟩, rfl, ⟨_, _, De⟩, rfl, ⟨_, _, CU⟩, rfl, ⟨_, _, EE⟩, rfl, ⟨_, _, El⟩, rfl, ⟨_, _, D6⟩, trivial⟩ rfl rfl) (le rfl (Ah rfl Ab rfl) ?_)); rintro _ _ _ ⟨b5, rfl, rfl, rfl⟩; refine An rfl rfl ((by exact AE rfl Ab rfl rfl rfl (by exact (HO B3 B3 B3)) rfl)) ?_; rintro _ _ _ ⟨rfl, rfl⟩; refine AI (H' := row b5 26 (A2 ⟨13, false, false, [], AO, AO, AO⟩) :: _) ?_ (fun _ h => h); refine BQ (AC 1 rfl (Bw rfl rfl rfl rfl (fun w hw => DW b s hs p lv i _ _ _ w _ rfl (Az Bb hR) hp (AD (row b 71 (CZ s lv i p.next)) hw)) ?_)); rintro v17 J _ ⟨hJ, x17, p, lv, i, Tt, ZJ, hp, ⟨rfl, hf, rfl⟩, rfl⟩
 have hL := hL.trans hJ
 rw [AY Tt] at hR
 have BH := hp.len
 refine le rfl (Ah rfl BL rfl) ?_; rintro _ _ _ ⟨b6, rfl, rfl, rfl⟩; refine An rfl rfl ((by exact AE rfl BL rfl rfl rfl (by exact A4 _) rfl)) ?_; rintro _ _ _ ⟨rfl, rfl⟩; refine AI (H' := row b6 73 (BZ (AP s p)) :: _) ?_ (fun _ h => h); obtain ⟨tk, Js⟩ : ∃ z, z = AP s p := ⟨_, rfl⟩; rw [← Js] at hR ⊢; refine Gb (tq (AK 3 rfl (sq rfl (AZ rfl rfl (by rfl)) ?_))); refine AK 2 rfl ?_
 refine Bf 3 5 23 27 26 _ _ rfl rfl rfl rfl rfl rfl (fun h27 => by
   simp at h27
   refine AJ 1 rfl (sg rfl (AZ rfl rfl (by rfl)) ?_); refine AJ 1 rfl ?_; exact Ao rfl
  ) (AM rfl) rfl rfl rfl ?_
 refine Cy (AF rfl (fun hc0 => ?_) (fun hc0 => ?_))
 ·have hnk : ¬ tk.kind = 1 := fun h1 => by
   have h9 := hc0
   rw [decide_eq_false (show ¬ ((tk.kind : Int) ≠ 1) by omega)] at h9
   cases h9
  rw [Vc hnk] at hR
  exfalso
  obtain ⟨_, _, h9⟩ := Bb; rw [hR] at h9
  cases h9
 ·have GO : tk.kind = 1 := by
   have h9 := hc0
   rw [Bool.or_eq_false_iff] at h9
   have h8 := of_decide_eq_false h9.2
   omega
  rw [Q4 GO] at hR; refine Al (tr (AC 3 rfl (lq rfl (AZ rfl rfl (by rfl)) ?_))); refine lq rfl (AX rfl rfl rfl (by omega)) ?_; refine AC 2 rfl ?_; refine An rfl rfl (Ac rfl B0 rfl rfl (by exact ⟨rfl, rfl⟩) rfl (by rfl)) ?_; rintro _ _ _ ⟨rfl, rfl⟩
  have EX := CP (s := s) (p := p) (by rw [← Js]; omega)
  have hp := hp.step (by rw [← Js]; omega)
  refine AI (H' := row b 71 (CZ s lv (i + 1) (BE p).next) :: _) ?_ (fun _ h => h); obtain ⟨p, Fr⟩ : ∃ z, z = BE p := ⟨_, rfl⟩; rw [← Fr] at EX hp hR ⊢; obtain ⟨i, Fm⟩ : ∃ z, z = i + 1 := ⟨_, rfl⟩; rw [← Fm] at hp ⊢
  have BH := hp.len
  refine BQ (AC 1 rfl (lq rfl (AZ rfl rfl (by rfl)) ?_)); refine AC 1 rfl ?_; refine An rfl rfl (Ac rfl CU rfl rfl (by exact ⟨rfl, rfl⟩) rfl (by rfl)) ?_; rintro _ _ _ ⟨rfl, rfl⟩; refine AI (H' := row b5 26 (A2 ⟨13, false, false, tk.text, AO, AO, AO⟩) :: _) ?_ (fun _ h => h); obtain ⟨nm, M5⟩ : ∃ z, z = tk.text := ⟨_, rfl⟩; rw [← M5] at hR ⊢; refine BQ (AC 1 rfl (Bw rfl rfl rfl rfl (fun w hw => Cr b s hs p lv i _ _ _ w _ rfl (Az Bb hR) hp (AD (row b 71 (CZ s lv i p.next)) hw)) ?_)); rintro v42 J _ ⟨hJ, x42, p, lv, i, Yo, ACV, hp, ⟨rfl, hf, hk⟩, rfl⟩
  have hL := hL.trans hJ
  rw [AY Yo] at hR
  have BH := hp.len
  refine BQ (AC 1 rfl (Bw rfl rfl rfl rfl (fun w hw => C6 b s hs 1 [105, 110] (Bu [105, 110]) (fun _ _ => Eh) (fun _ h => Cc h) p lv i _ _ _ w _ rfl (Az Bb hR) hp (AD (row b 71 (CZ s lv i p.next)) hw)) ?_)); rintro v44 J _ ⟨hJ, x44, p, lv, i, ZV, ACU, hp, rfl, rfl⟩
  have hL := hL.trans hJ
  rw [AY ZV] at hR
  have BH := hp.len
  refine BQ (AC 1 rfl (Bw rfl rfl rfl rfl (fun w hw => Cr b s hs p lv i _ _ _ w _ rfl (Az Bb hR) hp (AD (row b 71 (CZ s lv i p.next)) hw)) ?_)); rintro v46 J _ ⟨hJ, x46, p, lv, i, ALV, AOq, hp, ⟨rfl, hf, hk⟩, rfl⟩
  have hL := hL.trans hJ
  rw [AY ALV] at hR
  have BH := hp.len
  have Nz := FD hp.1
  have XB := Bb
  obtain ⟨Y, Q, hN⟩ := Az Bb hR; rw [AY hN] at hR
  have hR0 := hR
  clear hR
  obtain ⟨R1, XS⟩ : ∃ z, z = CC.ok Y Q := ⟨_, rfl⟩
  have Bb : ∃ x q, R1 = .ok x q := ⟨_, _, XS⟩
  have hR := XS.trans hN.symm
  refine ln (Bh (ι := PS × Value × Nat × AU × Value × List (List UInt8) × Value × List NC × List Nd × CX) (fun zz => Le I zz.2.2.2.1 ∧ GU s zz.1 zz.2.1 zz.2.2.1 zz.2.2.2.1 ∧ A0 zz.2.2.2.1 zz.2.2.2.2.2.2.2.2.1 zz.2.2.2.2.2.2.2.1 ∧ Bp s zz.1 + 1 ≤ M ∧ R = Iy s nm (zz.2.2.2.2.2.1, zz.2.2.2.2.2.2.2.2.1) zz.1) (fun zz => []) [(0, _), (1, _), (4, _), (5, _), (6, _), (27, _)] (fun zz => zz.2.2.2.1) (fun zz => (BO 9 1 Bo zz.2.2.2.2.1 zz.2.2.2.2.2.1 :: BO 26 7 A2 zz.2.2.2.2.2.2.1 zz.2.2.2.2.2.2.2.1 :: row b5 26 (A2 ⟨13, false, false, nm, zz.2.2.2.2.1, AO, zz.2.2.2.2.2.2.1⟩) :: row b6 73 (BZ zz.2.2.2.2.2.2.2.2.2) :: row b4 26 (A2 DB) :: row b 71 (CZ s zz.2.1 zz.2.2.1 zz.1.next) :: F)) (AB rfl) ?_ ?_)
  ·refine AR (A8 (ι := PS × Value × Nat × AU × Nat × Value × List (List UInt8) × Value × List NC × List Nd × CX) (fun zz => Le I zz.2.2.2.1 ∧ GU s zz.1 zz.2.1 zz.2.2.1 zz.2.2.2.1 ∧ CH s zz.1 ∧ A0 zz.2.2.2.1 zz.2.2.2.2.2.2.2.2.2.1 zz.2.2.2.2.2.2.2.2.1 ∧ zz.2.2.2.2.2.2.1.length + zz.2.2.2.2.2.2.2.2.2.1.length + 2 * Bp s zz.1 ≤ 4 * s.length ∧ Bp s zz.1 + 1 ≤ M ∧ Bp s zz.1 < zz.2.2.2.2.1 ∧ R1 = Fs s B zz.2.2.2.2.1 zz.2.2.2.2.2.2.1 zz.2.2.2.2.2.2.2.2.2.1 zz.1) (fun zz => Bp s zz.1) (fun zz => []) [(0, _), (1, _), (4, _), (5, _), (6, _), (27, _)] (fun zz => zz.2.2.2.1) (fun zz => (BO 9 1 Bo zz.2.2.2.2.2.1 zz.2.2.2.2.2.2.1 :: BO 26 7 A2 zz.2.2.2.2.2.2.2.1 zz.2.2.2.2.2.2.2.2.1 :: row b5 26 (A2 ⟨13, false, false, nm, zz.2.2.2.2.2.1, AO, zz.2.2.2.2.2.2.2.1⟩) :: row b6 73 (BZ zz.2.2.2.2.2.2.2.2.2.2) :: row b4 26 (A2 DB) :: row b 71 (CZ s zz.2.1 zz.2.2.1 zz.1.next) :: F)) (p, lv, i, J, Bp s p + 1, AO, [], AO, [], [], tk) ?_ (AW) (AB rfl) (fun _ h => AA (CS 9 1 Bo (CS 26 7 A2 h))) ?_)
   ·dsimp only; exact ⟨hL, hp, hf, A0.nil, by simp; omega, by omega, Nat.lt_succ_self _, hR⟩
   rintro ⟨p, lv, i, J, g, tv, ws, kvv, cs, l, tk⟩ ⟨hL, hp, hf, CV, I4, hm1, hg, hR⟩; dsimp only at *
   have BH := hp.len
   have EP := CV.len
   obtain ⟨M2, hM2⟩ : ∃ z, z = Bp s p := ⟨_, rfl⟩; obtain ⟨g, rfl⟩ : ∃ g', g = g' + 1 := ⟨g - 1, by omega⟩; rw [Fs, AY (CT hf)] at hR; refine AN (tq (AK 3 rfl (sq rfl (AZ rfl rfl (by rfl)) ?_))); refine AK 2 rfl ?_
   refine BA 3 5 52 56 55 _ _ rfl rfl rfl rfl rfl rfl (fun h56 => by
     simp at h56
     refine AJ 1 rfl (sg rfl (qc rfl rfl rfl ((fun w hw => Da b s p lv i 1 [101, 115, 97, 99] (Bu [101, 115, 97, 99]) (fun _ _ => Eh) w hs hf (hp.mono hw.le) (Bn hw)))) (AJ 1 rfl ?_)); exact Ao rfl
    ) (AM rfl) rfl rfl rfl ?_
   refine Cy (AF rfl (fun BI => ?_) (fun BI => ?_))
   ·have q1 : Bu [101, 115, 97, 99] (AP s p) = false := by simpa using BI
    rw [if_neg (by rw [q1]; simp)] at hR; refine Al (AR (Bh (ι := PS × Value × Nat × AU) (fun zz => Le I zz.2.2.2 ∧ GU s zz.1 zz.2.1 zz.2.2.1 zz.2.2.2 ∧ A0 zz.2.2.2 l cs ∧ Bp s zz.1 ≤ M2 ∧ R1 = GP (Cf (FU s) (fun x q => Mk s (Bp s q + 1) (ws ++ [x]) q) zz.1) (FZ s B (Fs s B g) l)) (fun zz => []) [(0, _), (1, _), (4, _), (5, _), (6, _), (27, _), (56, _)] (fun zz => zz.2.2.2) (fun zz => (BO 9 1 Bo tv ws :: BO 26 7 A2 kvv cs :: row b5 26 (A2 ⟨13, false, false, nm, tv, AO, kvv⟩) :: row b6 73 (BZ tk) :: row b4 26 (A2 DB) :: row b 71 (CZ s zz.2.1 zz.2.2.1 zz.1.next) :: F)) (AB rfl) ?_ ?_))
    ·refine tr (AC 1 rfl (lq rfl (qc rfl rfl rfl ((fun w hw => Da b s p lv i 2 [40] (C8 [40]) (fun _ _ => EH) w hs hf (hp.mono hw.le) (Bn hw)))) (ln (AF rfl (fun BU => ?_) (fun BU => ?_)))))
     ·have BU : C8 [40] (AP s p) = true := BU
      rw [if_pos BU] at hR; refine AH (AC 3 rfl (lq rfl (AZ rfl rfl (by rfl)) ?_)); refine lq rfl (AX rfl rfl rfl (by omega)) ?_; refine AC 2 rfl ?_; refine An rfl rfl (Ac rfl B0 rfl rfl (by exact ⟨rfl, rfl⟩) rfl (by rfl)) ?_; rintro _ _ _ ⟨rfl, rfl⟩
      have EX := CP (s := s) (p := p) (Bq BU)
      have hp := hp.step (Bq BU)
      refine AI (H' := row b 71 (CZ s lv (i + 1) (BE p).next) :: _) ?_ (fun _ h => h); obtain ⟨p, Fr⟩ : ∃ z, z = BE p := ⟨_, rfl⟩; rw [← Fr] at EX hp hR ⊢; obtain ⟨i, Fm⟩ : ∃ z, z = i + 1 := ⟨_, rfl⟩; rw [← Fm] at hp ⊢
      have BH := hp.len
      refine BX (Av ((p, lv, i, J)) ?_ (AW) (AB rfl) (fun _ h => by dsimp only; exact AA h))
      ·dsimp only; exact ⟨hL, hp, CV, by omega, by rw [hR, YM]⟩
     ·rw [if_neg (by rw [BU]; simp)] at hR; refine Au (Av ((p, lv, i, J)) ?_ (AW) (AB rfl) (fun _ h => by dsimp only; exact AA h))
      ·dsimp only; exact ⟨hL, hp, CV, by omega, by rw [hR, YM]⟩
    rintro ⟨p, lv, i, J⟩ ⟨hL, hp, CV, Ox, hR⟩; dsimp only at *
    have BH := hp.len
    refine AN (AR (A8 (ι := PS × Value × Nat × AU × Value × List (List UInt8) × CX × (PS → Nat)) (fun zz => Le I zz.2.2.2.1 ∧ GU s zz.1 zz.2.1 zz.2.2.1 zz.2.2.2.1 ∧ A0 zz.2.2.2.1 l cs ∧ Bp s zz.1 ≤ M2 ∧ zz.2.2.2.2.2.1.length + l.length + 2 * Bp s zz.1 ≤ 4 * s.length ∧ (∀ q, Bp s q + 1 ≤ Bp s zz.1 → Bp s q < zz.2.2.2.2.2.2.2 q) ∧ R1 = GP (Cf (FU s) (fun x q => Mk s (zz.2.2.2.2.2.2.2 q) (zz.2.2.2.2.2.1 ++ [x]) q) zz.1) (FZ s B (Fs s B g) l)) (fun zz => Bp s zz.1) (fun zz => []) [(0, _), (1, _), (4, _), (5, _), (6, _), (27, _), (56, _)] (fun zz => zz.2.2.2.1) (fun zz => (BO 9 1 Bo zz.2.2.2.2.1 zz.2.2.2.2.2.1 :: BO 26 7 A2 kvv cs :: row b5 26 (A2 ⟨13, false, false, nm, zz.2.2.2.2.1, AO, kvv⟩) :: row b6 73 (BZ zz.2.2.2.2.2.2.1) :: row b4 26 (A2 DB) :: row b 71 (CZ s zz.2.1 zz.2.2.1 zz.1.next) :: F)) (p, lv, i, J, tv, ws, tk, fun q => Bp s q + 1) ?_ (AW) (AB rfl) (fun _ h => AA h) ?_))
    ·dsimp only; exact ⟨hL, hp, CV, by omega, by omega, fun q _ => Nat.lt_succ_self _, hR⟩
    rintro ⟨p, lv, i, J, tv, ws, tk, fu⟩ ⟨hL, hp, CV, Ox, I4, hfu, hR⟩; dsimp only at *
    have BH := hp.len
    refine AR (tr (AC 1 rfl ?_)); rw [S2] at hR; refine Bw rfl rfl rfl rfl (fun w hw => DW b s hs p lv i _ _ _ w _ rfl (Az (CR Bb hR) rfl) hp (AD (row b 71 (CZ s lv i p.next)) hw)) ?_; rintro v67 J _ ⟨hJ, x67, p, lv, i, AEP, AIo, hp, ⟨rfl, hf, rfl⟩, rfl⟩
    have hL := hL.trans hJ
    rw [AY AEP] at hR
    have BH := hp.len
    have CV := CV.mono hJ
    refine An rfl rfl ((by exact AE rfl BL rfl rfl rfl (by exact A4 _) rfl)) ?_; rintro _ _ _ ⟨rfl, rfl⟩; obtain ⟨tk, Js⟩ : ∃ z, z = AP s p := ⟨_, rfl⟩; rw [← Js] at hR ⊢; refine AI (H' := row b6 73 (BZ tk) :: _) ?_ (fun _ h => h); refine Gb (tq (AK 3 rfl (sq rfl (AZ rfl rfl (by rfl)) ?_))); refine AK 2 rfl ?_
    refine Bf 3 5 73 77 76 _ _ rfl rfl rfl rfl rfl rfl (fun h77 => by
      simp at h77
      refine AJ 1 rfl (sg rfl (AZ rfl rfl (by rfl)) ?_); refine AJ 1 rfl ?_; exact Ao rfl
     ) (AM rfl) rfl rfl rfl ?_
    refine Cy (AF rfl (fun Bd => ?_) (fun Bd => ?_))
    ·have hnk : ¬ tk.kind = 1 := fun h1 => by
      have h9 := Bd
      rw [decide_eq_false (show ¬ ((tk.kind : Int) ≠ 1) by omega)] at h9
      cases h9
     rw [Vc hnk] at hR
     exfalso
     obtain ⟨_, _, h9⟩ := Bb; rw [hR] at h9
     cases h9
    ·have GO : tk.kind = 1 := by
      have h9 := Bd
      rw [Bool.or_eq_false_iff] at h9
      have h8 := of_decide_eq_false h9.2
      omega
     rw [Q4 GO] at hR; refine Al (tr (AC 3 rfl (lq rfl (AZ rfl rfl (by rfl)) ?_))); refine lq rfl (AX rfl rfl rfl (by omega)) ?_; refine AC 2 rfl ?_; refine An rfl rfl (Ac rfl B0 rfl rfl (by exact ⟨rfl, rfl⟩) rfl (by rfl)) ?_; rintro _ _ _ ⟨rfl, rfl⟩
     have EX := CP (s := s) (p := p) (by rw [← Js]; omega)
     have hp := hp.step (by rw [← Js]; omega)
     refine AI (H' := row b 71 (CZ s lv (i + 1) (BE p).next) :: _) ?_ (fun _ h => h); obtain ⟨p, Fr⟩ : ∃ z, z = BE p := ⟨_, rfl⟩; rw [← Fr] at EX hp hR ⊢; obtain ⟨i, Fm⟩ : ∃ z, z = i + 1 := ⟨_, rfl⟩; rw [← Fm] at hp ⊢
     have BH := hp.len
     have ARb := hfu p (by omega)
     refine BQ (AC 1 rfl (lq rfl (AZ rfl rfl (by rfl)) ?_)); refine AC 1 rfl (lq rfl (AZ rfl rfl (by rfl)) ?_); refine le rfl (AS rfl CD CU rfl rfl rfl (by exact Lh.cells ⟨rfl, rfl⟩) rfl) ?_; rintro _ _ _ ⟨b92, rfl, rfl, rfl⟩; refine le rfl (Ba (f := Bo) (c := tk.text) rfl CD CU rfl rfl rfl rfl rfl rfl rfl (Ev _) (by simp only [maxLen]; omega) (by omega)) ?_; rintro v93 _ _ ⟨rfl, rfl⟩; refine FV v93 (fun Df => ?_); refine AC 1 rfl ?_; refine An rfl rfl (Ac rfl EE rfl rfl (by assumption) rfl (by rfl)) ?_; rintro _ _ _ ⟨rfl, rfl⟩; refine AI (H' := row b5 26 (A2 ⟨13, false, false, nm, v93, AO, kvv⟩) :: _) ?_ (fun _ h => h); refine K6 (AC 1 rfl ?_); obtain ⟨g2, hg2⟩ : ∃ z, fu p = z + 1 := ⟨fu p - 1, by omega⟩; rw [hg2, Mk] at hR; refine Bw rfl rfl rfl rfl (fun w hw => ED b s hs 2 [124] (C8 [124]) (fun _ _ => EH) p lv i _ _ _ w _ rfl (Az (CR Bb hR) rfl) hp (AD (row b 71 (CZ s lv i p.next)) hw)) ?_; rintro v96 J _ ⟨hJ, x96, p, lv, i, AFG, AHc, hp, ⟨rfl, hf, rfl⟩, rfl⟩
     have hL := hL.trans hJ
     rw [AY AFG] at hR
     have BH := hp.len
     have CV := CV.mono hJ
     refine Ae rfl (AF rfl (fun Cg => ?_) (fun Cg => ?_))
     ·have q4 : C8 [124] (AP s p) = false := by simpa using Cg
      rw [if_neg (by rw [q4]; simp)] at hR
      have hR : R1 = (FZ s B (Fs s B g) l) (ws ++ [tk.text]) p := hR
      unfold FZ at hR; obtain ⟨ws, hws⟩ : ∃ z, z = ws ++ [tk.text] := ⟨_, rfl⟩; rw [← hws] at hR ⊢
      have hwl := congrArg List.length hws
      simp only [List.length_append, List.length_cons, List.length_nil] at hwl; refine BB (AG (CB rfl (AG (AQ (Ai (tr (AC 1 rfl (Bw rfl rfl rfl rfl (fun w hw => C6 b s hs 2 [41] (C8 [41]) (fun _ _ => EH) (fun _ h => Bq h) p lv i _ _ _ w _ rfl (Az Bb hR) hp (AD (row b 71 (CZ s lv i p.next)) hw)) ?_)))))))); rintro v106 J _ ⟨hJ, x106, p, lv, i, AAL, AEt, hp, rfl, rfl⟩
      have hL := hL.trans hJ
      rw [AY AAL] at hR
      have BH := hp.len
      have CV := CV.mono hJ
      refine BQ (AC 1 rfl (lq rfl (AZ rfl rfl (by rfl)) ?_)); refine le rfl (AS rfl CD CU rfl rfl rfl (by exact Lh.cells ⟨rfl, rfl⟩) rfl) ?_; rintro _ _ _ ⟨b109, rfl, rfl, rfl⟩; refine le rfl (Ba (f := Bo) (c := [41]) rfl CD CU rfl rfl rfl rfl rfl rfl rfl (Ev _) (by simp only [maxLen]; omega) (by omega)) ?_; rintro v110 _ _ ⟨rfl, rfl⟩; refine FV v110 (fun Df => ?_); refine AC 1 rfl ?_; refine An rfl rfl (Ac rfl EE rfl rfl (by assumption) rfl (by rfl)) ?_; rintro _ _ _ ⟨rfl, rfl⟩; refine AI (H' := row b5 26 (A2 ⟨13, false, false, nm, v110, AO, kvv⟩) :: _) ?_ (fun _ h => h); refine BQ (AC 1 rfl (Bw rfl rfl rfl rfl (fun w hw => Cr b s hs p lv i _ _ _ w _ rfl (Az Bb hR) hp (AD (row b 71 (CZ s lv i p.next)) hw)) ?_)); rintro v113 J _ ⟨hJ, x113, p, lv, i, AJZ, ANh, hp, ⟨rfl, hf, hk⟩, rfl⟩
      have hL := hL.trans hJ
      rw [AY AJZ] at hR
      have BH := hp.len
      have CV := CV.mono hJ
      rw [AY (CT hf)] at hR; refine BQ (lq rfl (A6 (pl := [(_, _), (_, _), (_, _), (_, _), (_, _), (_, _), (_, _)]) (cs := (A2 ⟨5, false, false, [], AO, AO, AO⟩).toArray) rfl BR Ab ⟨rfl, ⟨_, _, B0⟩, rfl, ⟨_, _, De⟩, rfl, ⟨_, _, De⟩, rfl, ⟨_, _, CU⟩, rfl, ⟨_, _, EE⟩, rfl, ⟨_, _, El⟩, rfl, ⟨_, _, D6⟩, trivial⟩ rfl rfl) (le rfl (Ah rfl Ab rfl) ?_)); rintro _ _ _ ⟨b7, rfl, rfl, rfl⟩; refine An rfl rfl ((by exact AE rfl Ab rfl rfl rfl (by exact (HO B3 B3 B3)) rfl)) ?_; rintro _ _ _ ⟨rfl, rfl⟩; refine AI (H' := row b7 26 (A2 ⟨5, false, false, [], AO, AO, AO⟩) :: _) ?_ (fun _ h => h); refine ln (Bh (ι := PS × Value × Nat × AU × Nd × NC) (fun zz => Le I zz.2.2.2.1 ∧ GU s zz.1 zz.2.1 zz.2.2.1 zz.2.2.2.1 ∧ A0 zz.2.2.2.1 l cs ∧ Bm zz.2.2.2.1 zz.2.2.2.2.1 zz.2.2.2.2.2 ∧ Bp s zz.1 + 1 ≤ M2 ∧ ws.length + l.length + 2 + 2 * Bp s zz.1 ≤ 4 * s.length ∧ R1 = Ia s (Fs s B g) (ws ++ [[41]]) (l ++ [zz.2.2.2.2.1]) zz.1) (fun zz => []) [(0, _), (1, _), (4, _), (5, _), (6, _), (27, _), (56, _), (77, _), (97, _), (7, _)] (fun zz => zz.2.2.2.1) (fun zz => (row b7 26 (A2 zz.2.2.2.2.2) :: BO 9 1 Bo v110 (ws ++ [[41]]) :: BO 26 7 A2 kvv cs :: row b5 26 (A2 ⟨13, false, false, nm, v110, AO, kvv⟩) :: row b6 73 (BZ tk) :: row b4 26 (A2 DB) :: row b 71 (CZ s zz.2.1 zz.2.2.1 zz.1.next) :: F)) (AB rfl) ?_ ?_)
      ·refine tq (AK 3 rfl (sq rfl (AZ rfl rfl (by rfl)) ?_)); refine AK 2 rfl ?_
       refine BA 2 5 120 123 122 _ _ rfl rfl rfl rfl rfl rfl (fun AMM => by
         simp at AMM
         refine AJ 1 rfl (sg rfl (qc rfl rfl rfl ((fun w hw => KL b s p lv i w hs hf (hp.mono hw.le) (Bn hw)))) ?_); exact Ao rfl
        ) (AM rfl) rfl rfl rfl ?_
       refine Cy (AF rfl (fun C1 => ?_) (fun C1 => ?_))
       ·have q5 : E5 (AP s p) = true := C1
        rw [if_pos q5] at hR; refine AH (AC 2 rfl (lq rfl (AX rfl rfl rfl (by omega)) ?_)); refine Bw rfl rfl rfl rfl (fun w hw => hB p lv i _ _ _ w _ rfl (Az Bb hR) hp (AD (row b 71 (CZ s lv i p.next)) hw)) ?_; rintro v127 J _ ⟨hJ, x127, p, lv, i, AIf, AOE, hp, ⟨c127, rfl, ACc⟩, rfl⟩
        have hL := hL.trans hJ
        rw [AY AIf] at hR
        have BH := hp.len
        have CV := CV.mono hJ
        refine An rfl rfl ((by exact AE rfl Ab rfl rfl rfl (by exact ACc.ones) rfl)) ?_; rintro _ _ _ ⟨rfl, rfl⟩; refine AI (H' := row b7 26 (A2 c127) :: _) ?_ (fun _ h => h); refine BX (Av ((p, lv, i, J, x127, c127)) ?_ (AW) (AB rfl) (fun _ h => by dsimp only; exact AA h))
        ·dsimp only; exact ⟨hL, hp, CV, ACc, by omega, by omega, hR⟩
       ·have q5 : E5 (AP s p) = false := C1
        rw [if_neg (by rw [q5]; simp)] at hR; refine Au (Av ((p, lv, i, J, Ip 5 [], ⟨5, false, false, [], AO, AO, AO⟩)) ?_ (AW) (AB rfl) (fun _ h => by dsimp only; exact AA h))
        ·dsimp only; exact ⟨hL, hp, CV, Bm.kids DP A0.nil, by omega, by omega, hR⟩
      rintro ⟨p, lv, i, J, m, c⟩ ⟨hL, hp, CV, hm, Ox, SH, hR⟩; dsimp only at *
      have BH := hp.len
      have Ml := A0.snoc hm CV
      unfold Ia at hR; refine tr (AC 1 rfl (lq rfl (AZ rfl rfl (by rfl)) ?_)); refine lq rfl (Af rfl BR Ab rfl rfl rfl) (le rfl (AS rfl CJ Ab rfl rfl rfl (by rfl) rfl) ?_); rintro _ _ _ ⟨b131, rfl, rfl, rfl⟩; refine le rfl (Ba (f := A2) (c := c) rfl CJ Ab rfl rfl rfl rfl rfl rfl rfl hm.ones (by simp only [maxLen]; omega) (by omega)) ?_; rintro v132 _ _ ⟨rfl, rfl⟩; refine FV v132 (fun Df => ?_); refine AC 1 rfl ?_; refine An rfl rfl (Ac rfl D6 rfl rfl (by assumption) rfl (by rfl)) ?_; rintro _ _ _ ⟨rfl, rfl⟩; refine AI (H' := row b5 26 (A2 ⟨13, false, false, nm, v110, AO, v132⟩) :: _) ?_ (fun _ h => h); refine K6 (AC 1 rfl (Bw rfl rfl rfl rfl (fun w hw => ED b s hs 2 [59, 59] (C8 [59, 59]) (fun _ _ => EH) p lv i _ _ _ w _ rfl (Az Bb hR) hp (AD (row b 71 (CZ s lv i p.next)) hw)) ?_)); rintro v135 J _ ⟨hJ, x135, p, lv, i, AHl, AKm, hp, ⟨rfl, hf, rfl⟩, rfl⟩
      have hL := hL.trans hJ
      rw [AY AHl] at hR
      have BH := hp.len
      have Ml := Ml.mono hJ
      refine Ae rfl (AF rfl (fun Dd => ?_) (fun Dd => ?_))
      ·have q6 : C8 [59, 59] (AP s p) = false := by simpa using Dd
       rw [if_neg (by rw [q6]; simp)] at hR; rw [XS] at hR
       obtain ⟨rfl, rfl⟩ : (ws ++ [[41]], l ++ [m]) = Y ∧ p = Q := by cases hR; exact ⟨rfl, rfl⟩
       have hR := hR0
       have Bb := XB
       refine BB (AG (CB rfl (AG (AQ (Av ((p, lv, i, J, v110, ws ++ [[41]], v132, cs ++ [c], l ++ [m], tk)) ?_ (AW) (AB rfl) (fun _ h => by dsimp only; exact AA h))))))
       ·dsimp only; exact ⟨hL, hp, Ml, by omega, hR⟩
      ·have q6 : C8 [59, 59] (AP s p) = true := by simpa using Dd
       rw [if_pos q6] at hR; refine Al (tr (AC 3 rfl (lq rfl (AZ rfl rfl (by rfl)) ?_))); refine lq rfl (AX rfl rfl rfl (by omega)) ?_; refine AC 2 rfl ?_; refine An rfl rfl (Ac rfl B0 rfl rfl (by exact ⟨rfl, rfl⟩) rfl (by rfl)) ?_; rintro _ _ _ ⟨rfl, rfl⟩
       have EX := CP (s := s) (p := p) (Bq q6)
       have hp := hp.step (Bq q6)
       refine AI (H' := row b 71 (CZ s lv (i + 1) (BE p).next) :: _) ?_ (fun _ h => h); obtain ⟨p, Fr⟩ : ∃ z, z = BE p := ⟨_, rfl⟩; rw [← Fr] at EX hp hR ⊢; obtain ⟨i, Fm⟩ : ∃ z, z = i + 1 := ⟨_, rfl⟩; rw [← Fm] at hp ⊢
       have BH := hp.len
       refine ln (AH (AC 1 rfl (Bw rfl rfl rfl rfl (fun w hw => Cr b s hs p lv i _ _ _ w _ rfl (Az Bb hR) hp (AD (row b 71 (CZ s lv i p.next)) hw)) ?_))); rintro v145 J _ ⟨hJ, x145, p, lv, i, AHZ, ANm, hp, ⟨rfl, hf, hk⟩, rfl⟩
       have hL := hL.trans hJ
       rw [AY AHZ] at hR
       have BH := hp.len
       have Ml := Ml.mono hJ
       refine BX (AV (Ak ((p, lv, i, J, g, v110, ws ++ [[41]], v132, cs ++ [c], l ++ [m], tk)) ?_ ?_ (AW) (AB rfl) (fun _ h => by dsimp only; exact AA h)))
       ·dsimp only; exact ⟨hL, hp, hf, Ml, by simp; omega, by omega, by omega, hR⟩
       ·dsimp only
        omega
     ·have q4 : C8 [124] (AP s p) = true := by simpa using Cg
      rw [if_pos q4] at hR; refine Al (AH (AC 3 rfl (lq rfl (AZ rfl rfl (by rfl)) ?_))); refine lq rfl (AX rfl rfl rfl (by omega)) ?_; refine AC 2 rfl ?_; refine An rfl rfl (Ac rfl B0 rfl rfl (by exact ⟨rfl, rfl⟩) rfl (by rfl)) ?_; rintro _ _ _ ⟨rfl, rfl⟩
      have EX := CP (s := s) (p := p) (Bq q4)
      have hp := hp.step (Bq q4)
      refine AI (H' := row b 71 (CZ s lv (i + 1) (BE p).next) :: _) ?_ (fun _ h => h); obtain ⟨p, Fr⟩ : ∃ z, z = BE p := ⟨_, rfl⟩; rw [← Fr] at EX hp hR ⊢; obtain ⟨i, Fm⟩ : ∃ z, z = i + 1 := ⟨_, rfl⟩; rw [← Fm] at hp ⊢
      have BH := hp.len
      refine BX (AV (Ak ((p, lv, i, J, v93, ws ++ [tk.text], tk, fun _ => g2)) ?_ ?_ (AW) (AB rfl) (fun _ h => by dsimp only; exact AA h)))
      ·dsimp only; exact ⟨hL, hp, CV, by omega, by simp; omega, fun q hq => by show Bp s q < g2; omega, hR⟩
      ·dsimp only
       omega
   ·have q1 : Bu [101, 115, 97, 99] (AP s p) = true := by simpa using BI
    rw [if_pos q1] at hR; rw [XS] at hR
    obtain ⟨rfl, rfl⟩ : (ws, l) = Y ∧ p = Q := by cases hR; exact ⟨rfl, rfl⟩
    have hR := hR0
    have Bb := XB
    refine BB (AG (AG (AQ (Av ((p, lv, i, J, tv, ws, kvv, cs, l, tk)) ?_ (AW) (AB rfl) (fun _ h => by dsimp only; exact AA h)))))
    ·dsimp only; exact ⟨hL, hp, CV, by omega, hR⟩
  rintro ⟨p, lv, i, J, tv, ws, kvv, cs, l, tk⟩ ⟨hL, hp, CV, I4, hR⟩; dsimp only at *
  have BH := hp.len
  unfold Iy at hR
  have Bb := XB
  refine AN (CG (f := Bo) (l := ws) tv (fun _ => rfl) (fun Jf B4 Ck => ?_)); refine CG (f := A2) (l := cs) kvv (fun _ => rfl) (fun Jg hJg hvg => ?_)
  have hL := hL.trans (B4.trans hJg)
  have hp := hp.mono (B4.trans hJg)
  have Is : Bm Jg (.mk 13 false false nm ws [] l) ⟨13, false, false, nm, tv, AO, kvv⟩ := Bm.of (Ck.mono hJg) DP hvg (CV.mono (B4.trans hJg))
  refine AH (AC 1 rfl (Bw rfl rfl rfl rfl (fun w hw => C6 b s hs 1 [101, 115, 97, 99] (Bu [101, 115, 97, 99]) (fun _ _ => Eh) (fun _ h => Cc h) p lv i _ _ _ w _ rfl (Az Bb hR) hp (AD (row b 71 (CZ s lv i p.next)) hw)) ?_)); rintro v147 J _ ⟨hJ, x147, p, lv, i, AKE, AKw, hp, rfl, rfl⟩
  have hL := hL.trans hJ
  rw [AY AKE] at hR
  have BH := hp.len
  have Is := Is.mono hJ
  refine BQ (lq rfl (Af rfl BR Ab rfl rfl rfl) (An rfl rfl ((by exact AE rfl Ab rfl rfl rfl (by exact Is.ones) rfl)) ?_)); rintro _ _ _ ⟨rfl, rfl⟩; refine AI (H' := row b4 26 (A2 ⟨13, false, false, nm, tv, AO, kvv⟩) :: _) ?_ (fun _ h => h); refine ln (Aq (A3 (.inl rfl) rfl (by exact BK rfl BR Ab rfl rfl (BJ)) (fun w' hw => ?_))); exact ⟨_, rfl, J, _, ⟨hL, _, p, lv, i, hR, (by omega), hp, ⟨_, rfl, Is⟩, rfl⟩, AA hw⟩
end Go.Tri

namespace Go.Tri
open Go.Proofs Go.RowKit
set_option maxRecDepth 10000
theorem Va {I : AU} {n : Nd} {c : NC} {l : List EK} {v : Value} (h : Bm I n c) (hv : Sl I 5 v (l.map BT)) : Bm I (TG n l) ⟨c.kind, c.not, c.isin, c.name, c.wv, v, c.kv⟩ := by
 obtain ⟨k, nt, ii, nm, ws, rs, ks⟩ := n; unfold Bm at h; obtain ⟨rfl, rfl, rfl, rfl, h5, h6, cs, h7, h8⟩ := h; exact Bm.of h5 hv h7 h8
theorem Qk {x : List UInt8} {t : CX} (h1 : t.kind = 1) (h : t.text = x) : Bu x t = true := by unfold Bu; rw [decide_eq_true h1, decide_eq_true h]; try rfl
theorem M4 {x : List UInt8} {t : CX} (h : ¬ t.text = x) : ¬ Bu x t = true := fun h9 => by
 unfold Bu at h9; rw [Bool.and_eq_true, decide_eq_true_eq, decide_eq_true_eq] at h9; exact h h9.2
set_option maxHeartbeats 4000000 in
theorem Mu (b : Nat) (s : List UInt8) (hs : s.length ≤ 65536) (lev : Nat) (Kj : lev ≤ 999) (B : PS → CC Nd) (hB : FX 97 b s [.int .i64 ((lev + 1 : Nat) : Int)] B Fy 1) : FX 80 b s [.int .i64 (lev : Int)] (I1 s B) Fy 1 := by
 intro p lv i I F w0 w R hR Bb hp CE
 have hL := Le.refl I
 obtain ⟨M, hM⟩ : ∃ M, M = Bp s p := ⟨_, rfl⟩; unfold I1 at hR; rw [Hy] at hR; unfold R3 at hR
 have Qi := FD hp.1
 refine enter Tryz.func80 rfl Tryz.ntmps80 rfl (CE.self) (tr (le rfl (Ah rfl Ab rfl) ?_)); rintro _ _ _ ⟨b4, rfl, rfl, rfl⟩; refine AI (H' := row b4 26 (A2 DB) :: _) ?_ (fun _ h => h); refine BQ (le rfl (Ah rfl Ab rfl) ?_); rintro _ _ _ ⟨b5, rfl, rfl, rfl⟩; refine AI (H' := row b5 26 (A2 DB) :: _) ?_ (fun _ h => h); refine BQ (AC 1 rfl (Bw rfl rfl rfl rfl (fun w hw => DW b s hs p lv i _ _ _ w _ rfl (Az (CR Bb hR) rfl) hp (AD (row b 71 (CZ s lv i p.next)) hw)) ?_)); rintro v10 J _ ⟨hJ, x10, p, lv, i, Hj, Mb, hp, ⟨rfl, hf, rfl⟩, rfl⟩
 have hL := hL.trans hJ
 rw [AY Hj] at hR
 have BH := hp.len
 refine le rfl (Ah rfl BL rfl) ?_; rintro _ _ _ ⟨b6, rfl, rfl, rfl⟩; refine An rfl rfl ((by exact AE rfl BL rfl rfl rfl (by exact A4 _) rfl)) ?_; rintro _ _ _ ⟨rfl, rfl⟩; obtain ⟨tk, Js⟩ : ∃ z, z = AP s p := ⟨_, rfl⟩; rw [← Js] at hR ⊢; refine AI (H' := row b6 73 (BZ tk) :: _) ?_ (fun _ h => h); refine K6 (AC 3 rfl (lq rfl (AZ rfl rfl (by rfl)) ?_)); refine Ae rfl (AF rfl (fun hc0 => ?_) (fun hc0 => ?_))
 ·simp at hc0
 ·simp at hc0
  refine Al (Bh (ι := PS × Value × Nat × AU × Nd × NC) (fun zz => Le I zz.2.2.2.1 ∧ GU s zz.1 zz.2.1 zz.2.2.1 zz.2.2.2.1 ∧ Bm zz.2.2.2.1 zz.2.2.2.2.1 zz.2.2.2.2.2 ∧ Bp s zz.1 + 1 ≤ M ∧ R = Cf (Gh s) (fun l q => .ok (TG zz.2.2.2.2.1 l) q) zz.1) (fun zz => []) [(0, _), (1, _), (4, _), (5, _), (6, _), (15, _)] (fun zz => zz.2.2.2.1) (fun zz => (row b5 26 (A2 zz.2.2.2.2.2) :: row b4 26 (A2 DB) :: row b 71 (CZ s zz.2.1 zz.2.2.1 zz.1.next) :: F)) (AB rfl) ?_ ?_)
  ·refine tq (AK 1 rfl (sq rfl (AZ rfl rfl (by rfl)) ?_)); refine AK 2 rfl ?_
   refine BA 3 3 20 24 23 _ _ rfl rfl rfl rfl rfl rfl (fun P8 => by
     simp at P8
     refine AJ 1 rfl (sg rfl (AZ rfl rfl (by rfl)) ?_); refine sg rfl (BM rfl rfl rfl) ?_; exact Ao rfl
    ) (AM rfl) rfl rfl rfl ?_
   refine Cy (AF rfl (fun BI => ?_) (fun BI => ?_))
   ·have q1 : C8 [40] tk = true := by rw [← IK]; exact BI
    rw [if_pos q1] at hR; refine tr (AC 3 rfl (lq rfl (AZ rfl rfl (by rfl)) ?_)); refine lq rfl (AX rfl rfl rfl (by omega)) ?_; refine AC 2 rfl ?_; refine An rfl rfl (Ac rfl B0 rfl rfl (by exact ⟨rfl, rfl⟩) rfl (by rfl)) ?_; rintro _ _ _ ⟨rfl, rfl⟩
    have EX := CP (s := s) (p := p) (by rw [← Js]; exact Bq q1)
    have hp := hp.step (by rw [← Js]; exact Bq q1)
    refine AI (H' := row b 71 (CZ s lv (i + 1) (BE p).next) :: _) ?_ (fun _ h => h); obtain ⟨p, Fr⟩ : ∃ z, z = BE p := ⟨_, rfl⟩; rw [← Fr] at EX hp hR ⊢; obtain ⟨i, Fm⟩ : ∃ z, z = i + 1 := ⟨_, rfl⟩; rw [← Fm] at hp ⊢
    have BH := hp.len
    refine BQ (AC 2 rfl (lq rfl (AX rfl rfl rfl (by omega)) ?_)); refine Bw rfl rfl rfl rfl (fun w hw => hB p lv i _ _ _ w _ rfl (Az (CR Bb hR) rfl) hp (AD (row b 71 (CZ s lv i p.next)) hw)) ?_; rintro v35 J _ ⟨hJ, x35, p, lv, i, ANv, APh, hp, ⟨c35, rfl, ANL⟩, rfl⟩
    have hL := hL.trans hJ
    rw [AY ANv] at hR
    have BH := hp.len
    refine le rfl (AS rfl CJ Ab rfl rfl rfl (by rfl) rfl) ?_; rintro _ _ _ ⟨b36, rfl, rfl, rfl⟩; refine AI (H' := BO 26 7 A2 (.slice (some ⟨b36, 0, none⟩) 1 1) [c35] :: _) ?_ (fun _ h => A7 h rfl (by decide)); refine BG (f := A2) (l := [c35]) (.slice (some ⟨b36, 0, none⟩) 1 1) (fun _ => rfl) (fun Jf B4 Ck => ?_)
    have hL := hL.trans B4
    have hp := hp.mono B4
    have Is : Bm Jf (Ip 7 [x35]) ⟨7, false, false, [], AO, AO, (.slice (some ⟨b36, 0, none⟩) 1 1)⟩ := Bm.kids Ck (A0.one (ANL.mono B4))
    refine lq rfl (A6 (pl := [(_, _), (_, _), (_, _), (_, _), (_, _), (_, _), (_, _)]) (cs := (A2 ⟨7, false, false, [], AO, AO, (.slice (some ⟨b36, 0, none⟩) 1 1)⟩).toArray) rfl BR Ab ⟨rfl, ⟨_, _, B0⟩, rfl, ⟨_, _, De⟩, rfl, ⟨_, _, De⟩, rfl, ⟨_, _, CU⟩, rfl, ⟨_, _, EE⟩, rfl, ⟨_, _, El⟩, rfl, ⟨_, _, D6⟩, trivial⟩ rfl rfl) (An rfl rfl ((by exact AE rfl Ab rfl rfl rfl (by exact Is.ones) rfl)) ?_); rintro _ _ _ ⟨rfl, rfl⟩; refine AI (H' := row b5 26 (A2 ⟨7, false, false, [], AO, AO, (.slice (some ⟨b36, 0, none⟩) 1 1)⟩) :: _) ?_ (fun _ h => h); refine ln (AH (AC 1 rfl (Bw rfl rfl rfl rfl (fun w hw => C6 b s hs 2 [41] (C8 [41]) (fun _ _ => EH) (fun _ h => Bq h) p lv i _ _ _ w _ rfl (Az (CR Bb hR) rfl) hp (AD (row b 71 (CZ s lv i p.next)) hw)) ?_))); rintro v39 J _ ⟨hJ, x39, p, lv, i, AEx, AGl, hp, rfl, rfl⟩
    have hL := hL.trans hJ
    rw [AY AEx] at hR
    have BH := hp.len
    have Is := Is.mono hJ
    refine BX (Av ((p, lv, i, J, Ip 7 [x35], ⟨7, false, false, [], AO, AO, (.slice (some ⟨b36, 0, none⟩) 1 1)⟩)) ?_ (AW) (AB rfl) (fun _ h => by dsimp only; exact AA h))
    ·dsimp only; exact ⟨hL, hp, Is, by omega, hR⟩
   ·have q1 : ¬ C8 [40] tk = true := by rw [← IK]; rw [show _ = false from BI]; simp
    rw [if_neg q1] at hR; refine tr (AC 1 rfl (lq rfl (AZ rfl rfl (by rfl)) ?_)); refine Ae rfl (AF rfl (fun BU => ?_) (fun BU => ?_))
    ·simp at BU
     have Xq : ∀ x, ¬ Bu x tk = true := fun x h => by
      unfold Bu at h; rw [Bool.and_eq_true, decide_eq_true_eq] at h
      omega
     rw [if_neg (Xq _), if_neg (Xq _), if_neg (by rw [Bool.or_eq_true]; rintro (h | h) <;> exact Xq _ h), if_neg (Xq _), if_neg (Xq _)] at hR
     exfalso
     obtain ⟨_, _, h9⟩ := Bb; rw [hR] at h9
     cases h9
    ·simp at BU
     have GO : tk.kind = 1 := by omega
     have OG : (AP s p).kind ≠ 0 := by rw [← Js]; omega
     refine tr (AC 1 rfl (lq rfl (AZ rfl rfl (by rfl)) ?_)); refine ln (AR (tr (lq rfl (BM rfl rfl rfl) (Ae rfl (AF rfl (fun Bd => ?_) (fun Bd => ?_))))))
     ·simp at Bd
      rw [if_pos (Qk GO Bd)] at hR; refine tr (AC 3 rfl (lq rfl (AZ rfl rfl (by rfl)) ?_)); refine lq rfl (AX rfl rfl rfl (by omega)) ?_; refine AC 2 rfl ?_; refine An rfl rfl (Ac rfl B0 rfl rfl (by exact ⟨rfl, rfl⟩) rfl (by rfl)) ?_; rintro _ _ _ ⟨rfl, rfl⟩
      have EX := CP (s := s) (p := p) (by rw [← Js]; omega)
      have hp := hp.step (by rw [← Js]; omega)
      refine AI (H' := row b 71 (CZ s lv (i + 1) (BE p).next) :: _) ?_ (fun _ h => h); obtain ⟨p, Fr⟩ : ∃ z, z = BE p := ⟨_, rfl⟩; rw [← Fr] at EX hp hR ⊢; obtain ⟨i, Fm⟩ : ∃ z, z = i + 1 := ⟨_, rfl⟩; rw [← Fm] at hp ⊢
      have BH := hp.len
      refine BQ (AC 2 rfl (lq rfl (AX rfl rfl rfl (by omega)) ?_)); refine Bw rfl rfl rfl rfl (fun w hw => hB p lv i _ _ _ w _ rfl (Az (CR Bb hR) rfl) hp (AD (row b 71 (CZ s lv i p.next)) hw)) ?_; rintro v61 J _ ⟨hJ, x61, p, lv, i, ANC, AOV, hp, ⟨c61, rfl, AGo⟩, rfl⟩
      have hL := hL.trans hJ
      rw [AY ANC] at hR
      have BH := hp.len
      refine le rfl (AS rfl CJ Ab rfl rfl rfl (by rfl) rfl) ?_; rintro _ _ _ ⟨b62, rfl, rfl, rfl⟩; refine AI (H' := BO 26 7 A2 (.slice (some ⟨b62, 0, none⟩) 1 1) [c61] :: _) ?_ (fun _ h => A7 h rfl (by decide)); refine BG (f := A2) (l := [c61]) (.slice (some ⟨b62, 0, none⟩) 1 1) (fun _ => rfl) (fun Jf B4 Ck => ?_)
      have hL := hL.trans B4
      have hp := hp.mono B4
      have Is : Bm Jf (Ip 8 [x61]) ⟨8, false, false, [], AO, AO, (.slice (some ⟨b62, 0, none⟩) 1 1)⟩ := Bm.kids Ck (A0.one (AGo.mono B4))
      refine lq rfl (A6 (pl := [(_, _), (_, _), (_, _), (_, _), (_, _), (_, _), (_, _)]) (cs := (A2 ⟨8, false, false, [], AO, AO, (.slice (some ⟨b62, 0, none⟩) 1 1)⟩).toArray) rfl BR Ab ⟨rfl, ⟨_, _, B0⟩, rfl, ⟨_, _, De⟩, rfl, ⟨_, _, De⟩, rfl, ⟨_, _, CU⟩, rfl, ⟨_, _, EE⟩, rfl, ⟨_, _, El⟩, rfl, ⟨_, _, D6⟩, trivial⟩ rfl rfl) (An rfl rfl ((by exact AE rfl Ab rfl rfl rfl (by exact Is.ones) rfl)) ?_); rintro _ _ _ ⟨rfl, rfl⟩; refine AI (H' := row b5 26 (A2 ⟨8, false, false, [], AO, AO, (.slice (some ⟨b62, 0, none⟩) 1 1)⟩) :: _) ?_ (fun _ h => h); refine ln (AH (AC 1 rfl (Bw rfl rfl rfl rfl (fun w hw => C6 b s hs 1 [125] (Bu [125]) (fun _ _ => Eh) (fun _ h => Cc h) p lv i _ _ _ w _ rfl (Az (CR Bb hR) rfl) hp (AD (row b 71 (CZ s lv i p.next)) hw)) ?_))); rintro v65 J _ ⟨hJ, x65, p, lv, i, Xy, ACW, hp, rfl, rfl⟩
      have hL := hL.trans hJ
      rw [AY Xy] at hR
      have BH := hp.len
      have Is := Is.mono hJ
      refine BX (AV (Av ((p, lv, i, J, Ip 8 [x61], ⟨8, false, false, [], AO, AO, (.slice (some ⟨b62, 0, none⟩) 1 1)⟩)) ?_ (AW) (AB rfl) (fun _ h => by dsimp only; exact AA h)))
      ·dsimp only; exact ⟨hL, hp, Is, by omega, hR⟩
     ·simp at Bd
      rw [if_neg (M4 Bd)] at hR; refine tr (lq rfl (BM rfl rfl rfl) (Ae rfl (AF rfl (fun Cg => ?_) (fun Cg => ?_))))
      ·simp at Cg
       rw [if_pos (Qk GO Cg)] at hR; refine AH (AC 2 rfl (Bw rfl rfl rfl rfl (fun w hw => Uf b s hs lev (by omega) B hB p lv i _ _ _ w _ rfl (CR Bb hR) hf OG hp (AD (row b 71 (CZ s lv i p.next)) hw)) ?_)); rintro v70 J _ ⟨hJ, x70, p, lv, i, Z9, ACg, hp, ⟨c70, rfl, AGK⟩, rfl⟩
       have hL := hL.trans hJ
       rw [Z9] at hR
       have BH := hp.len
       refine An rfl rfl ((by exact AE rfl Ab rfl rfl rfl (by exact AGK.ones) rfl)) ?_; rintro _ _ _ ⟨rfl, rfl⟩; refine AI (H' := row b5 26 (A2 c70) :: _) ?_ (fun _ h => h); refine BX (AV (Av ((p, lv, i, J, x70, c70)) ?_ (AW) (AB rfl) (fun _ h => by dsimp only; exact AA h)))
       ·dsimp only; exact ⟨hL, hp, AGK, by omega, hR⟩
      ·simp at Cg
       rw [if_neg (M4 Cg)] at hR; refine Bh (ι := Bool) (fun zz => zz = (Bu [119, 104, 105, 108, 101] tk || Bu [117, 110, 116, 105, 108] tk)) (fun zz => [(71, .bool zz)]) [(0, _), (1, _), (4, _), (5, _), (6, _), (15, _), (24, _), (42, _), (46, _), (49, _), (66, _)] (fun zz => J) (fun zz => (row b6 73 (BZ tk) :: row b5 26 (A2 DB) :: row b4 26 (A2 DB) :: row b 71 (CZ s lv i p.next) :: F)) (AB rfl) ?_ ?_
       ·refine tr (lq rfl (BM rfl rfl rfl) (Ae rfl (AF rfl (fun C1 => ?_) (fun C1 => ?_))))
        ·simp at C1
         refine Au (Av (_) ?_ (AB rfl) (AB rfl) (fun _ h => by dsimp only; exact AA h))
         ·unfold Bu; rw [decide_eq_true GO, Bool.true_and, Bool.true_and]; have h9 := C1; rw [decide_eq_true h9]; try rfl
        ·simp at C1
         refine AH (lq rfl (BM rfl rfl rfl) (Ax rfl (Av (_) ?_ (AB rfl) (AB rfl) (fun _ h => by dsimp only; exact AA h))))
         ·unfold Bu; rw [decide_eq_true GO, Bool.true_and, Bool.true_and]; have h9 := C1; rw [decide_eq_false h9, Bool.false_or]
       rintro z hz; refine AF rfl (fun Dd => ?_) (fun Dd => ?_)
       ·have q6 : (Bu [119, 104, 105, 108, 101] tk || Bu [117, 110, 116, 105, 108] tk) = true := by rw [← hz]; exact Dd
        rw [if_pos q6] at hR; refine tr (AC 3 rfl (lq rfl (AZ rfl rfl (by rfl)) ?_)); refine lq rfl (AX rfl rfl rfl (by omega)) ?_; refine AC 2 rfl ?_; refine An rfl rfl (Ac rfl B0 rfl rfl (by exact ⟨rfl, rfl⟩) rfl (by rfl)) ?_; rintro _ _ _ ⟨rfl, rfl⟩
        have EX := CP (s := s) (p := p) (by rw [← Js]; omega)
        have hp := hp.step (by rw [← Js]; omega)
        refine AI (H' := row b 71 (CZ s lv (i + 1) (BE p).next) :: _) ?_ (fun _ h => h); obtain ⟨p, Fr⟩ : ∃ z, z = BE p := ⟨_, rfl⟩; rw [← Fr] at EX hp hR ⊢; obtain ⟨i, Fm⟩ : ∃ z, z = i + 1 := ⟨_, rfl⟩; rw [← Fm] at hp ⊢
        have BH := hp.len
        refine BQ (AC 1 rfl ?_); refine An rfl rfl (Ac rfl B0 rfl rfl (by exact ⟨rfl, rfl⟩) rfl (by rfl)) ?_; rintro _ _ _ ⟨rfl, rfl⟩; refine AI (H' := row b5 26 (A2 ⟨10, false, false, [], AO, AO, AO⟩) :: _) ?_ (fun _ h => h); refine ln (Bh (ι := Nat) (fun zz => zz = (if tk.text = [117, 110, 116, 105, 108] then 11 else 10)) (fun zz => []) [(71, _), (0, _), (1, _), (4, _), (5, _), (6, _), (15, _), (24, _), (42, _), (46, _), (49, _), (66, _)] (fun zz => J) (fun zz => (row b6 73 (BZ tk) :: row b5 26 (A2 ⟨zz, false, false, [], AO, AO, AO⟩) :: row b4 26 (A2 DB) :: row b 71 (CZ s lv i p.next) :: F)) (AB rfl) ?_ ?_)
        ·refine tr (AC 1 rfl (lq rfl (AZ rfl rfl (by rfl)) ?_)); refine lq rfl (BM rfl rfl rfl) (ln (AF rfl (fun EW => ?_) (fun EW => ?_)))
         ·simp at EW
          refine AH (AC 1 rfl ?_); refine An rfl rfl (Ac rfl B0 rfl rfl (by exact ⟨rfl, rfl⟩) rfl (by rfl)) ?_; rintro _ _ _ ⟨rfl, rfl⟩; refine AI (H' := row b5 26 (A2 ⟨11, false, false, [], AO, AO, AO⟩) :: _) ?_ (fun _ h => h); refine BX (Av (11) ?_ (AW) (AB rfl) (fun _ h => by dsimp only; exact AA h))
          ·rw [if_pos EW]
         ·simp at EW
          refine Au (Av (10) ?_ (AW) (AB rfl) (fun _ h => by dsimp only; exact AA h))
          ·rw [if_neg EW]
        rintro kk GM; rw [← GM] at hR; refine tr (AC 2 rfl (lq rfl (AX rfl rfl rfl (by omega)) ?_)); refine Bw rfl rfl rfl rfl (fun w hw => hB p lv i _ _ _ w _ rfl (Az (CR Bb hR) rfl) hp (AD (row b 71 (CZ s lv i p.next)) hw)) ?_; rintro v89 J _ ⟨hJ, x89, p, lv, i, ALu, APG, hp, ⟨c89, rfl, SX⟩, rfl⟩
        have hL := hL.trans hJ
        rw [AY ALu] at hR
        have BH := hp.len
        refine le rfl (Ah rfl Ab rfl) ?_; rintro _ _ _ ⟨b7, rfl, rfl, rfl⟩; refine An rfl rfl ((by exact AE rfl Ab rfl rfl rfl (by exact SX.ones) rfl)) ?_; rintro _ _ _ ⟨rfl, rfl⟩; refine AI (H' := row b7 26 (A2 c89) :: _) ?_ (fun _ h => h); refine BQ (AC 1 rfl (Bw rfl rfl rfl rfl (fun w hw => C6 b s hs 1 [100, 111] (Bu [100, 111]) (fun _ _ => Eh) (fun _ h => Cc h) p lv i _ _ _ w _ rfl (Az (CR Bb hR) rfl) hp (AD (row b 71 (CZ s lv i p.next)) hw)) ?_)); rintro v91 J _ ⟨hJ, x91, p, lv, i, AMD, APM, hp, rfl, rfl⟩
        have hL := hL.trans hJ
        rw [AY AMD] at hR
        have BH := hp.len
        have SX := SX.mono hJ
        refine BQ (AC 2 rfl (lq rfl (AX rfl rfl rfl (by omega)) ?_)); refine Bw rfl rfl rfl rfl (fun w hw => hB p lv i _ _ _ w _ rfl (Az (CR Bb hR) rfl) hp (AD (row b 71 (CZ s lv i p.next)) hw)) ?_; rintro v95 J _ ⟨hJ, x95, p, lv, i, AOB, APN, hp, ⟨c95, rfl, ABR⟩, rfl⟩
        have hL := hL.trans hJ
        rw [AY AOB] at hR
        have BH := hp.len
        have SX := SX.mono hJ
        refine le rfl (Ah rfl Ab rfl) ?_; rintro _ _ _ ⟨b8, rfl, rfl, rfl⟩; refine An rfl rfl ((by exact AE rfl Ab rfl rfl rfl (by exact ABR.ones) rfl)) ?_; rintro _ _ _ ⟨rfl, rfl⟩; refine AI (H' := row b8 26 (A2 c95) :: _) ?_ (fun _ h => h); refine BQ (AC 1 rfl (Bw rfl rfl rfl rfl (fun w hw => C6 b s hs 1 [100, 111, 110, 101] (Bu [100, 111, 110, 101]) (fun _ _ => Eh) (fun _ h => Cc h) p lv i _ _ _ w _ rfl (Az (CR Bb hR) rfl) hp (AD (row b 71 (CZ s lv i p.next)) hw)) ?_)); rintro v97 J _ ⟨hJ, x97, p, lv, i, ALx, AOZ, hp, rfl, rfl⟩
        have hL := hL.trans hJ
        rw [AY ALx] at hR
        have BH := hp.len
        have SX := SX.mono hJ
        have ABR := ABR.mono hJ
        refine ln (AH (lq rfl (Af rfl BR Ab rfl rfl rfl) (lq rfl (Af rfl BR Ab rfl rfl rfl) (le rfl (Cb (vs := [_, _]) (css := [A2 c89, A2 c95]) rfl CJ Ab rfl rfl rfl rfl (rfl) (by simp [A2])) ?_)))); rintro _ _ _ ⟨b100, rfl, rfl, rfl⟩; refine AI (H' := BO 26 7 A2 (.slice (some ⟨b100, 0, none⟩) 2 2) [c89, c95] :: _) ?_ (fun _ h => A7 h rfl (by decide)); refine BG (f := A2) (l := [c89, c95]) (.slice (some ⟨b100, 0, none⟩) 2 2) (fun _ => rfl) (fun Jf B4 Ck => ?_)
        have hL := hL.trans B4
        have hp := hp.mono B4
        have Is : Bm Jf (Ip kk [x89, x95]) ⟨kk, false, false, [], AO, AO, (.slice (some ⟨b100, 0, none⟩) 2 2)⟩ := Bm.kids Ck (by unfold A0; exact ⟨SX.mono B4, A0.one (ABR.mono B4)⟩)
        refine AC 1 rfl ?_; refine An rfl rfl (Ac rfl D6 rfl rfl (by exact ⟨rfl, rfl⟩) rfl (by rfl)) ?_; rintro _ _ _ ⟨rfl, rfl⟩; refine AI (H' := row b5 26 (A2 ⟨kk, false, false, [], AO, AO, (.slice (some ⟨b100, 0, none⟩) 2 2)⟩) :: _) ?_ (fun _ h => h); refine BX (AV (Av ((p, lv, i, Jf, Ip kk [x89, x95], ⟨kk, false, false, [], AO, AO, (.slice (some ⟨b100, 0, none⟩) 2 2)⟩)) ?_ (AW) (AB rfl) (fun _ h => by dsimp only; exact AA h)))
        ·dsimp only; exact ⟨hL, hp, Is, by omega, hR⟩
       ·have q6 : ¬ (Bu [119, 104, 105, 108, 101] tk || Bu [117, 110, 116, 105, 108] tk) = true := by rw [← hz, Dd]; simp
        rw [if_neg q6] at hR; refine tr (lq rfl (BM rfl rfl rfl) (Ae rfl (AF rfl (fun HF => ?_) (fun HF => ?_))))
        ·simp at HF
         rw [if_pos (Qk GO HF)] at hR; refine AH (AC 2 rfl (Bw rfl rfl rfl rfl (fun w hw => SO b s hs lev (by omega) B hB p lv i _ _ _ w _ rfl (CR Bb hR) hf OG hp (AD (row b 71 (CZ s lv i p.next)) hw)) ?_)); rintro v106 J _ ⟨hJ, x106, p, lv, i, AAL, AEt, hp, ⟨c106, rfl, ACy⟩, rfl⟩
         have hL := hL.trans hJ
         rw [AAL] at hR
         have BH := hp.len
         refine An rfl rfl ((by exact AE rfl Ab rfl rfl rfl (by exact ACy.ones) rfl)) ?_; rintro _ _ _ ⟨rfl, rfl⟩; refine AI (H' := row b5 26 (A2 c106) :: _) ?_ (fun _ h => h); refine BX (AV (Av ((p, lv, i, J, x106, c106)) ?_ (AW) (AB rfl) (fun _ h => by dsimp only; exact AA h)))
         ·dsimp only; exact ⟨hL, hp, ACy, by omega, hR⟩
        ·simp at HF
         rw [if_neg (M4 HF)] at hR; refine tr (lq rfl (BM rfl rfl rfl) (Ae rfl (AF rfl (fun J0 => ?_) (fun J0 => ?_))))
         ·simp at J0
          rw [if_pos (Qk GO J0)] at hR; refine AH (AC 2 rfl (Bw rfl rfl rfl rfl (fun w hw => Qf b s hs lev (by omega) B hB p lv i _ _ _ w _ rfl (CR Bb hR) hf OG hp (AD (row b 71 (CZ s lv i p.next)) hw)) ?_)); rintro v111 J _ ⟨hJ, x111, p, lv, i, AHp, ALq, hp, ⟨c111, rfl, ACk⟩, rfl⟩
          have hL := hL.trans hJ
          rw [AHp] at hR
          have BH := hp.len
          refine An rfl rfl ((by exact AE rfl Ab rfl rfl rfl (by exact ACk.ones) rfl)) ?_; rintro _ _ _ ⟨rfl, rfl⟩; refine AI (H' := row b5 26 (A2 c111) :: _) ?_ (fun _ h => h); refine BX (AV (Av ((p, lv, i, J, x111, c111)) ?_ (AW) (AB rfl) (fun _ h => by dsimp only; exact AA h)))
          ·dsimp only; exact ⟨hL, hp, ACk, by omega, hR⟩
         ·simp at J0
          rw [if_neg (M4 J0)] at hR
          exfalso
          obtain ⟨_, _, h9⟩ := Bb; rw [hR] at h9
          cases h9
  rintro ⟨p, lv, i, J, n, c⟩ ⟨hL, hp, hn, I4, hR⟩; dsimp only at *
  have BH := hp.len
  refine AN (tr (AC 3 rfl (lq rfl (AZ rfl rfl (by rfl)) ?_))); refine Ae rfl (AF rfl (fun GH => ?_) (fun GH => ?_))
  ·simp at GH
   refine AH (AC 1 rfl (Bw rfl rfl rfl rfl (fun w hw => Of b s hs p lv i _ _ _ w _ rfl (Az Bb hR) hp (AD (row b 71 (CZ s lv i p.next)) hw)) ?_)); rintro v118 J _ ⟨hJ, x118, p, lv, i, AJK, ALd, hp, Zn, rfl⟩
   have hL := hL.trans hJ
   rw [AY AJK] at hR
   have BH := hp.len
   have hn := hn.mono hJ
   refine AC 1 rfl ?_; refine An rfl rfl (Ac rfl El rfl rfl (by exact Zn.one) rfl (by rfl)) ?_; rintro _ _ _ ⟨rfl, rfl⟩; refine AI (H' := row b5 26 (A2 ⟨c.kind, c.not, c.isin, c.name, c.wv, v118, c.kv⟩) :: _) ?_ (fun _ h => h); refine BQ (lq rfl (Af rfl BR Ab rfl rfl rfl) (An rfl rfl ((by exact AE rfl Ab rfl rfl rfl (by exact (Va hn Zn).ones) rfl)) ?_)); rintro _ _ _ ⟨rfl, rfl⟩; refine AI (H' := row b4 26 (A2 ⟨c.kind, c.not, c.isin, c.name, c.wv, v118, c.kv⟩) :: _) ?_ (fun _ h => h); refine ln (Aq (A3 (.inl rfl) rfl (by exact BK rfl BR Ab rfl rfl (BJ)) (fun w' hw => ?_))); exact ⟨_, rfl, J, _, ⟨hL, _, p, lv, i, hR, (by omega), hp, ⟨_, rfl, Va hn Zn⟩, rfl⟩, AA hw⟩
  ·simp at GH
end Go.Tri

namespace Go.Tri
open Go.Proofs Go.RowKit
theorem Vr (b : Nat) (s : List UInt8) (hs : s.length ≤ 65536) : ∀ (n lev : Nat), n + lev = 25 → FX 64 b s [.int .i64 (lev : Int)] (Hr s n).1 Fy 1 ∧ ∀ m, n = m + 1 → FX 80 b s [.int .i64 (lev : Int)] (Hr s (m + 1)).2 Fy 1
 | 0, lev, h => ⟨JH b s hs lev 0 h (fun _ h => (by cases h)) (fun _ h => (by cases h)), fun _ h => (by cases h)⟩
 | m + 1, lev, h => by
  have ih := Vr b s hs m (lev + 1) (by omega)
  have hB := RE b s hs (lev + 1) (by omega) _ (Kn b s hs (lev + 1) (by omega) _ (MH b s hs (lev + 1) (by omega) _ ih.1))
  have hK : FX 80 b s [.int .i64 (lev : Int)] (Hr s (m + 1)).2 Fy 1 := Mu b s hs lev (by omega) _ hB
  have hF : ∀ name, FX 106 b s [Bj name, .int .i64 (lev : Int)] (XT (Hr s m).2 name) Fy 1 := fun name => Mr b s hs lev name m (by omega) ih.2
  have hS := Oh b s hs lev (by omega) (XT (Hr s m).2) hF
  have hC := JH b s hs lev (m + 1) h (fun k hk => by cases hk; exact hK) (fun k hk => by cases hk; exact hS)
  exact ⟨hC, fun k hk => by cases hk; exact hK⟩
theorem Ub (b : Nat) (s : List UInt8) (hs : s.length ≤ 65536) : FX 25 b s [.int .i64 0] (V7 s 25) Fy 1 :=
 Kn b s hs 0 (by omega) _ (MH b s hs 0 (by omega) _ (Vr b s hs 25 0 rfl).1)
end Go.Tri
