/-
 Trees as texts.
-/
import Derived.Test.YthjgbalcngkjjaaGreatDoorQD5
import Derived.Test.YthjgbalcngkjjaaGreatDoorPCode
import Derived.Test.YthjgbalcngkjjaaGreatDoorPHv
namespace Go.Tri
open Go.Proofs Go.RowKit
set_option maxRecDepth 10000
theorem A0.nth {I : AU} : ∀ {ks : List Nd} {cs : List NC}, A0 I ks cs → ∀ {i : Nat}, i < ks.length → Bm I (nth ks i KK) (nth cs i DB)
 | [], _, _, i, hi => absurd hi (Nat.not_lt_zero i)
 | k :: ks, [], h, _, _ => by unfold A0 at h; exact h.elim
 | k :: ks, c :: cs, h, i, hi => by
  unfold A0 at h
  cases i with
  | zero => exact h.1
  | succ i => exact A0.nth h.2 (by simpa using hi)
theorem ADf {rs : List EK} {i : Nat} (h : i < rs.length) : (rs.map BT)[i]? = some (BT (nth rs i Ib)) := by
 rw [List.getElem?_map, List.getElem?_eq_getElem h, Ed h]; try rfl
theorem AEB {cs : List NC} {i : Nat} (h : i < cs.length) : (cs.map A2)[i]? = some (A2 (nth cs i DB)) := by
 rw [List.getElem?_map, List.getElem?_eq_getElem h, Ed h]; try rfl
theorem UI {rs : List EK} {i : Nat} (h : i < rs.length) : nth rs i Ib ∈ rs := by
 rw [Ed h]; exact List.getElem_mem h
theorem Hk (n : Int) (w : World) (h : -9223372036854775808 ≤ n ∧ n ≤ 9223372036854775807) : Cw Tryz.prog 29 [.int .i64 n] w (Bj (Lib.itoa n)) := by
 have hdl := YY 18 n.natAbs (by omega)
 refine enter Tryz.func29 rfl Tryz.ntmps29 rfl (St.start w (BF w) (Le.refl _)) (Ar rfl (Ar rfl (Bh (ι := Nat) (fun zz => zz = n.natAbs) (fun zz => [(3, .int .i64 (-(zz : Int)))]) [(0, _), (2, _)] (fun zz => BF w) (fun zz => []) (AB rfl) ?_ ?_)))
 ·refine Ar rfl (AF rfl (fun hc0 => ?_) (fun hc0 => ?_))
  ·simp at hc0
   refine AH (AC 1 rfl (lq rfl (VF rfl rfl (by omega)) ?_)); refine Ax rfl (Av (n.natAbs) ?_ (Bl rfl (congrArg (Value.int IntKind.i64) (by omega)) (AW)) (AB rfl) (fun _ h => by dsimp only; exact AA h))
   ·dsimp only
    all_goals rfl
  ·simp at hc0
   refine Au (Av (n.natAbs) ?_ (Bl rfl (congrArg (Value.int IntKind.i64) (by omega)) (AW)) (AB rfl) (fun _ h => by dsimp only; exact AA h))
   ·dsimp only
    all_goals rfl
 rintro u hu0; refine Ar rfl (AN (AR (A8 (ι := Nat × List UInt8 × Value × AU) (fun zz => Le (BF w) zz.2.2.2 ∧ Lib.decDigits n.natAbs = Lib.decDigits zz.1 ++ zz.2.1 ∧ zz.1 ≤ 9223372036854775808) (fun zz => zz.1) (fun zz => [(3, .int .i64 (-(zz.1 : Int))), (4, zz.2.2.1)]) [(0, _), (2, _)] (fun zz => zz.2.2.2) (fun zz => [BO 5 1 Fo zz.2.2.1 zz.2.1]) (u, [], .slice none 0 0, BF w) ?_ (AB rfl) (AB rfl) (fun _ h => CS 5 1 Fo h) ?_)))
 ·dsimp only
  subst hu0; exact ⟨Le.refl _, by simp, by omega⟩
 rintro ⟨u, l, v, J⟩ ⟨hJ, hdd, hub⟩; dsimp only at *
 have Ki : l.length ≤ 19 := by have := congrArg List.length hdd; rw [List.length_append] at this; omega
 refine AR (AN (CG (f := Fo) (l := l) v (fun _ => rfl) (fun J1 Qm hv => ?_))); refine AH (AC 1 rfl (lq rfl (AIE rfl rfl rfl (by decide)) ?_)); refine lq rfl (Fa rfl rfl rfl (by rw [Ri]; omega)) ?_; refine lq rfl (Oz (48 + u % 10) rfl un2 un5 rfl (by rw [Ri]; omega)) ?_; refine le rfl (AS rfl HE UY rfl rfl rfl (by rfl) rfl) ?_; rintro _ _ _ ⟨b14, rfl, rfl, rfl⟩; refine AI (H' := BO 5 1 Fo (.slice (some ⟨b14, 0, none⟩) 1 1) [UInt8.ofNat (48 + u % 10)] :: _) ?_ (fun _ h => A7 h rfl (by decide)); refine AC 1 rfl ?_; refine le rfl (Ti (f := Fo) (l := [UInt8.ofNat (48 + u % 10)]) rfl HE UY rfl rfl rfl rfl (hv) rfl (fun _ => rfl) JD (by simp only [maxLen, List.length_cons, List.length_nil]; omega) (by simp only [List.length_cons, List.length_nil]; omega)) ?_; rintro v16 _ _ ⟨rfl, rfl⟩; refine Ae rfl (tr (AC 1 rfl (lq rfl (Ks rfl rfl rfl (by decide) (by rw [Jk]; omega)) ?_))); refine Ae rfl (Ar rfl (AF rfl (fun BI => ?_) (fun BI => ?_)))
 ·have AEs : u < 10 := by have := of_decide_eq_true BI; rw [Jk] at this; omega
  have AJW := ABt hdd AEs
  refine BB (CB rfl (AG (AQ (Ai (AN (Ar rfl (AF rfl (fun BU => ?_) (fun BU => ?_))))))))
  ·simp at BU
   refine tr (AC 1 rfl (lq rfl (HU rfl HE CW un5 rfl) (lq rfl (Dk rfl rfl rfl (by (simp only [List.length_append, List.length_cons, List.length_nil]; omega))) ?_))); refine Ae rfl (C0 (A1 rfl rfl (fun w' hw => ?_))); refine ⟨?_, (hw.less (hJ.trans Qm)).below⟩
   rw [Vb, if_pos (by omega), AJW]; try rfl
  ·simp at BU
   refine Al (tr (AC 1 rfl (lq rfl (HU rfl HE CW un5 rfl) (Ae rfl (Aq (A1 rfl rfl (fun w' hw => ?_))))))); refine ⟨?_, (hw.less (hJ.trans Qm)).below⟩
   rw [Vb, if_neg (by omega), AJW]; try rfl
 ·have AEs : ¬ u < 10 := by have := of_decide_eq_false BI; rw [Jk] at this; omega
  refine Au (AV (Ak ((u / 10, [UInt8.ofNat (48 + u % 10)] ++ l, v16, J1)) ?_ ?_ (Bl rfl (congrArg (Value.int IntKind.i64) (Jk u)) (AB rfl)) (AB rfl) (fun _ h => by dsimp only; exact AA h)))
  ·dsimp only; exact ⟨hJ.trans Qm, ACP hdd AEs, by omega⟩
  ·dsimp only
   show u / 10 < u; omega
theorem H4 (s : List UInt8) (w : World) (h : (FJ s).length ≤ 9223372036854775807) : Cw Tryz.prog 30 [Bj s] w (Bj (FJ s)) := by
 have hx : (FJ s).length = (Lib.itoa (s.length : Int)).length + 1 + s.length := by unfold FJ; simp only [List.length_append, List.length_cons, List.length_nil]
 refine enter Tryz.func30 rfl Tryz.ntmps30 rfl (St.start w (BF w) (Le.refl _)) (Ar rfl (tr (AC 1 rfl (lq rfl (Ap rfl CW rfl) (lq rfl (qc rfl rfl rfl ((fun w _ => Hk (s.length : Int) w (by omega)))) ?_))))); refine lq rfl (Dk rfl rfl rfl (by (simp only [List.length_cons, List.length_nil]; omega))) ?_; refine AC 1 rfl (lq rfl (Dk rfl rfl rfl (by (simp only [List.length_append, List.length_cons, List.length_nil]; omega))) ?_); refine Ae rfl (Aq (A1 rfl rfl (fun w' hw => ?_))); exact ⟨rfl, hw.below⟩
set_option maxHeartbeats 1000000 in
theorem WO (k : Nat) (nt isin : Bool) (nm : List UInt8) (ws : List (List UInt8)) (rs : List EK) (ks : List Nd) (wv rv kv : Value) (cs : List NC) (w : World) (BH : (GC (.mk k nt isin nm ws rs ks)).length ≤ 9223372036854775807) (hk : k ≤ 9223372036854775807) (hfd : ∀ r ∈ rs, -9223372036854775808 ≤ r.fd ∧ r.fd ≤ 9223372036854775807) (h5 : Sl (BF w) 1 wv (ws.map Bo)) (h6 : Sl (BF w) 5 rv (rs.map BT)) (h7 : Sl (BF w) 7 kv (cs.map A2)) (EP : cs.length = ks.length) (Oc : ∀ i, i < ks.length → ∀ w', Le (BF w) (BF w') → Cw Tryz.prog 14 [.agg (A2 (nth cs i DB)).toArray] w' (Bj (GC (nth ks i KK)))) : Cw Tryz.prog 14 [.agg (A2 ⟨k, nt, isin, nm, wv, rv, kv⟩).toArray] w (Bj (GC (.mk k nt isin nm ws rs ks))) := by
 rw [GC] at BH ⊢; obtain ⟨X1, hX1⟩ : ∃ z, z = [40] ++ Lib.itoa (k : Int) ++ (if nt then [33] else []) := ⟨_, rfl⟩; obtain ⟨X2, hX2⟩ : ∃ z, z = X1 ++ (if isin then [105, 110] else []) := ⟨_, rfl⟩; obtain ⟨X3, hX3⟩ : ∃ z, z = X2 ++ [44] ++ FJ nm := ⟨_, rfl⟩; rw [← hX1, ← hX2, ← hX3] at BH ⊢
 have hl1 := congrArg List.length hX1
 have UQ := congrArg List.length hX2
 have hl3 := congrArg List.length hX3
 have hwl := Tc ws
 have hrl := Wi rs
 have XP := Nb ks
 simp only [List.length_append, List.length_cons, List.length_nil] at BH hl1 UQ hl3; refine enter Tryz.func14 rfl Tryz.ntmps14 rfl (St.start w (BF w) (Le.refl _)) (tr (le rfl (FE rfl rfl rfl) ?_)); rintro _ _ _ ⟨b1, rfl, rfl, rfl⟩; refine AI (H' := row b1 26 (A2 ⟨k, nt, isin, nm, wv, rv, kv⟩) :: _) ?_ (fun _ h => h); refine Ae rfl (tr (AC 1 rfl (lq rfl ((by exact AZ rfl rfl (by rfl))) ?_))); refine lq rfl (qc rfl rfl rfl ((fun w _ => Hk (k : Int) w (by omega)))) ?_; refine lq rfl (Dk rfl rfl rfl (by (simp only [List.length_cons, List.length_nil]; omega))) ?_; refine Ae rfl (Bh (ι := Unit) (fun _ => True) (fun _ => [(3, Bj X1)]) [(0, _), (1, _), (2, _)] (fun _ => BF w) (fun _ => [row b1 26 (A2 ⟨k, nt, isin, nm, wv, rv, kv⟩)]) (AB rfl) ?_ ?_)
 ·refine tr (AC 1 rfl (lq rfl ((by exact AZ rfl rfl (by rfl))) ?_)); refine ln (AF rfl (fun hc0 => ?_) (fun hc0 => ?_))
  ·refine AH (AC 1 rfl (lq rfl (Dk rfl rfl rfl (by (simp only [List.length_append, List.length_cons, List.length_nil]; omega))) ?_)); refine Ax rfl (Av (()) ?_ (Bl rfl (by rw [hX1, if_pos (show nt = true from hc0)]) (AW)) (AB rfl) (fun _ h => by dsimp only; exact AA h))
   ·dsimp only
    all_goals trivial
  ·refine Au (Av (()) ?_ (Bl rfl (by rw [hX1, if_neg (by rw [show nt = false from hc0]; simp), List.append_nil]) (AW)) (AB rfl) (fun _ h => by dsimp only; exact AA h))
   ·dsimp only
    all_goals trivial
 rintro _ _; refine Bh (ι := Unit) (fun _ => True) (fun _ => [(3, Bj X2)]) [(0, _), (1, _), (2, _)] (fun _ => BF w) (fun _ => [row b1 26 (A2 ⟨k, nt, isin, nm, wv, rv, kv⟩)]) (AB rfl) ?_ ?_
 ·refine tr (AC 1 rfl (lq rfl ((by exact AZ rfl rfl (by rfl))) ?_)); refine ln (AF rfl (fun BI => ?_) (fun BI => ?_))
  ·refine AH (AC 1 rfl (lq rfl (Dk rfl rfl rfl (by (simp only [List.length_cons, List.length_nil]; omega))) ?_)); refine Ax rfl (Av (()) ?_ (Bl rfl (by rw [hX2, if_pos (show isin = true from BI)]) (AW)) (AB rfl) (fun _ h => by dsimp only; exact AA h))
   ·dsimp only
    all_goals trivial
  ·refine Au (Av (()) ?_ (Bl rfl (by rw [hX2, if_neg (by rw [show isin = false from BI]; simp), List.append_nil]) (AW)) (AB rfl) (fun _ h => by dsimp only; exact AA h))
   ·dsimp only
    all_goals trivial
 rintro _ _; refine tr (AC 1 rfl (lq rfl (Dk rfl rfl rfl (by (simp only [List.length_cons, List.length_nil]; omega))) ?_)); refine AC 1 rfl (lq rfl ((by exact AZ rfl rfl (by rfl))) ?_); refine lq rfl (qc rfl rfl rfl ((fun w _ => H4 nm w (by omega)))) ?_; refine lq rfl (Dk rfl rfl rfl (by (simp only [List.length_append, List.length_cons, List.length_nil]; omega))) ?_; rw [← hX3]; refine Ae rfl (AN (Ar rfl (AR (A8 (ι := Nat × List UInt8) (fun zz => zz.1 ≤ ws.length ∧ zz.2 = X3 ++ E4 (ws.take zz.1)) (fun zz => ws.length - zz.1) (fun zz => [(3, Bj zz.2), (4, .int .i64 (zz.1 : Int))]) [(0, _), (1, _), (2, _)] (fun zz => BF w) (fun zz => [row b1 26 (A2 ⟨k, nt, isin, nm, wv, rv, kv⟩)]) (0, X3) ?_ (AB rfl) (AB rfl) (fun _ h => AA h) ?_))))
 ·dsimp only; exact ⟨Nat.zero_le _, by simp [E4]⟩
 rintro ⟨i, x⟩ ⟨hi, hx⟩; dsimp only at *
 have hxl := congrArg List.length hx
 rw [List.length_append] at hxl; refine AN (tr (AC 2 rfl (lq rfl ((by exact AZ rfl rfl (by rfl))) ?_))); refine lq rfl ((by exact CN rfl CD rfl (Sl.lenOf h5 (List.length_map _)))) ?_; refine Ae rfl (AF rfl (fun BU => ?_) (fun BU => ?_))
 ·simp at BU
  have XU := SV (ws := ws) (i := i) (by omega)
  have Kh := congrArg List.length XU
  have XO : (E4 (ws.take (i + 1))).length ≤ (E4 ws).length := Pd _ ws (i + 1)
  simp only [List.length_append, List.length_cons, List.length_nil] at Kh; refine Al (AN (AR (AH (AC 1 rfl (lq rfl (Dk rfl rfl rfl (by (simp only [List.length_cons, List.length_nil]; omega))) ?_))))); refine AC 1 rfl (lq rfl ((by exact AZ rfl rfl (by rfl))) ?_); refine AC 1 rfl ?_; refine lq rfl ((by exact A5 rfl CD CU rfl rfl (Sl.shape h5 (List.length_map _)) (by omega))) ?_; refine lq rfl ((by exact B1 rfl rfl (Iw (i := i) h5 (by omega)))) ?_; refine lq rfl (qc rfl rfl rfl ((fun w _ => H4 (nth ws i []) w (by omega)))) ?_; refine lq rfl (Dk rfl rfl rfl (by (simp only [List.length_append, List.length_cons, List.length_nil]; omega))) ?_; refine Ax rfl (AV (Ai (AH (AC 1 rfl (lq rfl (AX rfl rfl rfl (by omega)) ?_))))); refine Ax rfl (Ak ((i + 1, x ++ [119] ++ FJ (nth ws i []))) ?_ ?_ (AB rfl) (AB rfl) (fun _ h => by dsimp only; exact AA h))
  ·dsimp only; exact ⟨by omega, by rw [XU, hx]; simp only [List.append_assoc]⟩
  ·dsimp only
   show ws.length - (i + 1) < ws.length - i
   omega
 ·simp at BU
  rw [List.take_of_length_le (by omega)] at hx hxl; refine BB (AG (AG (AQ (Ai (AN (Ar rfl (AR (A8 (ι := Nat × List UInt8) (fun zz => zz.1 ≤ rs.length ∧ zz.2 = X3 ++ E4 ws ++ Gx (rs.take zz.1)) (fun zz => rs.length - zz.1) (fun zz => [(3, Bj zz.2), (5, .int .i64 (zz.1 : Int))]) [(4, _), (0, _), (1, _), (2, _), (30, _)] (fun zz => BF w) (fun zz => [row b1 26 (A2 ⟨k, nt, isin, nm, wv, rv, kv⟩)]) (0, x) ?_ (AB rfl) (AB rfl) (fun _ h => AA h) ?_))))))))
  ·dsimp only; exact ⟨Nat.zero_le _, by rw [hx]; simp [Gx]⟩
  rintro ⟨i, y⟩ ⟨hi, hy⟩; dsimp only at *
  have hyl := congrArg List.length hy
  simp only [List.length_append] at hyl; refine AN (tr (AC 2 rfl (lq rfl ((by exact AZ rfl rfl (by rfl))) ?_))); refine lq rfl ((by exact CN rfl GX rfl (Sl.lenOf h6 (List.length_map _)))) ?_; refine Ae rfl (AF rfl (fun Bd => ?_) (fun Bd => ?_))
  ·simp at Bd
   have XU := Tp (rs := rs) (i := i) (by omega)
   have Kh := congrArg List.length XU
   have XO : (Gx (rs.take (i + 1))).length ≤ (Gx rs).length := Pd _ rs (i + 1)
   have hfi := hfd _ (UI (rs := rs) (i := i) (by omega))
   unfold Ob at Kh; simp only [List.length_append, List.length_cons, List.length_nil] at Kh; refine Al (AN (AR (tr (AC 1 rfl (lq rfl ((by exact AZ rfl rfl (by rfl))) ?_))))); refine AC 1 rfl ?_; refine lq rfl ((by exact A5 rfl GX D1 rfl rfl (Sl.shape h6 (List.length_map _)) (by omega))) ?_; refine lq rfl ((by exact Bc rfl Kf D1 rfl rfl (h6.rds (ADf (i := i) (by omega))))) ?_; refine le rfl (Ah rfl D1 rfl) ?_; rintro _ _ _ ⟨b6, rfl, rfl, rfl⟩; refine An rfl rfl ((by exact AE rfl D1 rfl rfl rfl (by exact C2 _) rfl)) ?_; rintro _ _ _ ⟨rfl, rfl⟩; refine AI (H' := row b6 37 (BT (nth rs i Ib)) :: _) ?_ (fun _ h => h); refine Gb (CI mo (by kernel_rfl) (fun _ _ _ _ _ h => h) (AK 1 rfl (sq rfl (Dk rfl rfl rfl (by (simp only [List.length_cons, List.length_nil]; omega))) ?_))); refine AK 1 rfl (sq rfl ((by exact AZ rfl rfl (by rfl))) ?_); refine sq rfl (qc rfl rfl rfl ((fun w _ => Hk (nth rs i Ib).fd w (by omega)))) ?_; refine sq rfl (Dk rfl rfl rfl (by (simp only [List.length_append, List.length_cons, List.length_nil]; omega))) ?_; refine AK 1 rfl (sq rfl ((by exact AZ rfl rfl (by rfl))) ?_); refine sq rfl (qc rfl rfl rfl ((fun w _ => H4 (nth rs i Ib).op w (by omega)))) ?_; refine sq rfl (Dk rfl rfl rfl (by (simp only [List.length_append, List.length_cons, List.length_nil]; omega))) ?_
   refine AK 1 rfl (sq rfl ((by exact AZ rfl rfl (by rfl))) ?_); refine sq rfl (qc rfl rfl rfl ((fun w _ => H4 (nth rs i Ib).word w (by omega)))) ?_; refine sq rfl (Dk rfl rfl rfl (by (simp only [List.length_append, List.length_cons, List.length_nil]; omega))) ?_; refine AK 1 rfl (sq rfl ((by exact AZ rfl rfl (by rfl))) ?_); refine sq rfl (qc rfl rfl rfl ((fun w _ => H4 (nth rs i Ib).doc w (by omega)))) ?_; refine sq rfl (Dk rfl rfl rfl (by (simp only [List.length_append, List.length_cons, List.length_nil]; omega))) ?_; refine AK 1 rfl (Cy (tr (AC 1 rfl (lq rfl ((by exact AZ rfl rfl (by rfl))) ?_)))); refine ln (AF rfl (fun Cg => ?_) (fun Cg => ?_))
   ·have hr4 : (nth rs i Ib).raw = true := Cg
    rw [if_pos hr4] at Kh; simp only [List.length_cons, List.length_nil] at Kh; refine AH (AC 1 rfl (lq rfl (Dk rfl rfl rfl (by (simp only [List.length_append, List.length_cons, List.length_nil]; omega))) ?_)); refine Ax rfl (AV (Ai (AH (AC 1 rfl (lq rfl (AX rfl rfl rfl (by omega)) ?_))))); refine Ax rfl (Ak ((i + 1, y ++ [114] ++ Lib.itoa (nth rs i Ib).fd ++ FJ (nth rs i Ib).op ++ FJ (nth rs i Ib).word ++ FJ (nth rs i Ib).doc ++ [114, 97, 119])) ?_ ?_ (AB rfl) (AB rfl) (fun _ h => by dsimp only; exact AA h))
    ·dsimp only; exact ⟨by omega, by rw [XU, hy, Ob, if_pos hr4]; simp only [List.append_assoc]⟩
    ·dsimp only
     show rs.length - (i + 1) < rs.length - i
     omega
   ·have hr4 : (nth rs i Ib).raw = false := Cg
    refine Au (AV (Ai (AH (AC 1 rfl (lq rfl (AX rfl rfl rfl (by omega)) ?_))))); refine Ax rfl (Ak ((i + 1, y ++ [114] ++ Lib.itoa (nth rs i Ib).fd ++ FJ (nth rs i Ib).op ++ FJ (nth rs i Ib).word ++ FJ (nth rs i Ib).doc)) ?_ ?_ (AB rfl) (AB rfl) (fun _ h => by dsimp only; exact AA h))
    ·dsimp only; exact ⟨by omega, by rw [XU, hy, Ob, if_neg (by rw [hr4]; simp), List.append_nil]; simp only [List.append_assoc]⟩
    ·dsimp only
     show rs.length - (i + 1) < rs.length - i
     omega
  ·simp at Bd
   rw [List.take_of_length_le (by omega)] at hy hyl; refine BB (AG (AG (AQ (Ai (AN (Ar rfl (AR (A8 (ι := Nat × List UInt8) (fun zz => zz.1 ≤ ks.length ∧ zz.2 = X3 ++ E4 ws ++ Gx rs ++ Di (ks.take zz.1)) (fun zz => ks.length - zz.1) (fun zz => [(3, Bj zz.2), (7, .int .i64 (zz.1 : Int))]) [(5, _), (4, _), (0, _), (1, _), (2, _), (30, _), (46, _)] (fun zz => BF w) (fun zz => [row b1 26 (A2 ⟨k, nt, isin, nm, wv, rv, kv⟩)]) (0, y) ?_ (AB rfl) (AB rfl) (fun _ h => AA h) ?_))))))))
   ·dsimp only; exact ⟨Nat.zero_le _, by rw [hy]; simp [Di]⟩
   rintro ⟨i, z⟩ ⟨hi, hz⟩; dsimp only at *
   have hzl := congrArg List.length hz
   simp only [List.length_append] at hzl; refine AN (tr (AC 2 rfl (lq rfl ((by exact AZ rfl rfl (by rfl))) ?_))); refine lq rfl ((by exact CN rfl CJ rfl (Sl.lenOf h7 (List.length_map _)))) ?_; refine Ae rfl (AF rfl (fun C1 => ?_) (fun C1 => ?_))
   ·simp at C1
    have XU := Ma (ks := ks) (i := i) (by omega)
    have Kh := congrArg List.length XU
    have XO := Nl ks (i + 1)
    simp only [List.length_append] at Kh; refine Al (AN (AR (AH (AC 2 rfl (lq rfl ((by exact AZ rfl rfl (by rfl))) ?_))))); refine AC 1 rfl ?_; refine lq rfl ((by exact A5 rfl CJ Ab rfl rfl (Sl.shape h7 (List.length_map _)) (by omega))) ?_; refine lq rfl ((by exact Bc rfl BR Ab rfl rfl (h7.rds (AEB (i := i) (by omega))))) ?_; refine lq rfl (qc rfl rfl rfl ((fun w hw => Oc i (by omega) w hw.le))) ?_; refine lq rfl (Dk rfl rfl rfl (by omega)) ?_; refine Ax rfl (AV (Ai (AH (AC 1 rfl (lq rfl (AX rfl rfl rfl (by omega)) ?_))))); refine Ax rfl (Ak ((i + 1, z ++ GC (nth ks i KK))) ?_ ?_ (AB rfl) (AB rfl) (fun _ h => by dsimp only; exact AA h))
    ·dsimp only; exact ⟨by omega, by rw [XU, hz]; simp only [List.append_assoc]⟩
    ·dsimp only
     show ks.length - (i + 1) < ks.length - i
     omega
   ·simp at C1
    rw [List.take_of_length_le (by omega)] at hz hzl; refine BB (AG (AG (AQ (Ai (tr (AC 1 rfl (lq rfl (Dk rfl rfl rfl (by (simp only [List.length_cons, List.length_nil]; omega))) ?_))))))); refine Ae rfl (Aq (A1 rfl rfl (fun w' hw => ?_))); exact ⟨by rw [hz], hw.below⟩
theorem Lq : ∀ (N : Nat) (n : Nd) (c : NC) (w : World), SizeOf.sizeOf n ≤ N → Bm (BF w) n c → NdW n → (GC n).length ≤ 9223372036854775807 → Cw Tryz.prog 14 [.agg (A2 c).toArray] w (Bj (GC n))
 | 0, n, _, _, h, _, _, _ => by
  have h1 : 1 ≤ SizeOf.sizeOf n := by (cases n; simp; omega)
  omega
 | N + 1, .mk k nt isin nm ws rs ks, c, w, h, hn, hK, hl => by
  unfold Bm at hn; obtain ⟨h1, h2, h3, h4, h5, h6, cs, h7, h8⟩ := hn; obtain ⟨ck, cnt, ci, cnm, wv, rv, kv⟩ := c; subst h1 h2 h3 h4; unfold NdW at hK
  have hl' := hl
  rw [GC] at hl'; simp only [List.length_append, List.length_cons, List.length_nil] at hl'; refine WO _ _ _ _ ws rs ks wv rv kv cs w hl hK.1 hK.2.1 h5 h6 h7 h8.len (fun i hi w' Ec => ?_); refine Lq N _ _ w' ?_ ((h8.nth hi).mono Ec) (hK.2.2.nth hi) (by have := V0 (ks := ks) (i := i) hi; omega)
  have hm : nth ks i KK ∈ ks := by rw [Ed hi]; exact List.getElem_mem hi
  have := List.sizeOf_lt_of_mem hm
  simp at h
  omega
end Go.Tri
