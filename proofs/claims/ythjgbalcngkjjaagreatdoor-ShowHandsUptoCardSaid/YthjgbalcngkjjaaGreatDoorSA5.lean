/-
 The reference: where what begins ends.
-/
import Derived.Test.YthjgbalcngkjjaaGreatDoorQA7
import Derived.Test.YthjgbalcngkjjaaGreatDoorPHc
import Derived.Test.YthjgbalcngkjjaaGreatDoorPLex12
import Derived.Test.YthjgbalcngkjjaaGreatDoorQB2
namespace Go.Tri
open Go.Proofs Go.RowKit
set_option maxRecDepth 10000
def Lz (n : Nat) : Prop := ∀ (s : List UInt8) (i d : Nat) (q : Bool) (w : World), 24 - d = n → d ≤ 30 → s.length ≤ 2305843009213693952 → i ≤ s.length → Cw Tryz.prog 78 [Bj s, .int .i64 (i : Int), .int .i64 (d : Int), .bool q] w (.agg #[.int .i64 (dl (Du s i) (MX i ((lv n).2 q (s.drop i))) : Int), .int .i64 (dl (Du s i) (My i ((lv n).2 q (s.drop i))) : Int), .int .i64 (dl (Du s i) (K2 ((lv n).2 q (s.drop i))) : Int)])
def PT (n : Nat) : Prop := ∀ (s : List UInt8) (i d : Nat) (w : World), 24 - d = n → d ≤ 30 → s.length ≤ 2305843009213693952 → i < s.length → Cw Tryz.prog 77 [Bj s, .int .i64 (i : Int), .int .i64 (d : Int)] w (.agg #[.int .i64 (MX i ((lv n).1 (s.drop i)) : Int), .int .i64 (My i ((lv n).1 (s.drop i)) : Int), .int .i64 (K2 ((lv n).1 (s.drop i)) : Int)])
theorem E7 {X : LR} {B : List UInt8 → SR} {D : Bool → List UInt8 → SR} {br q : Bool} {f o o2 : Nat} {l : List UInt8} {j : Nat} {b : UInt8} {P Q : Prop}
  (h : P ∧ (b ≠ 34 → Q ∧ (DA br o b = false → (∀ a e, Bt D q (!q) l = .bad a e → X = .bad (j + a) e) ∧ ∀ k, Bt D q (!q) l = .ok k → X = (Fp B D br q f (Ge br o b) (l.drop k)).on (j + k))))
  (Jm : b ≠ 34) (EP : DA br o b = false) (ho : Ge br o b = o2) : (∀ a e, Bt D q (!q) l = .bad a e → X = .bad (j + a) e) ∧ ∀ k, Bt D q (!q) l = .ok k → X = (Fp B D br q f o2 (l.drop k)).on (j + k) := by
 have := (h.2 Jm).2 EP
 rw [ho] at this; exact this
theorem D7 {br : Bool} {o : Nat} {b : UInt8} (h1 : b ≠ 41) (h2 : b ≠ 40) : Ge br o b = o := by
 unfold Ge
 rw [decide_eq_false h1, decide_eq_false h2]; simp
theorem Jz {br : Bool} {o : Nat} {b : UInt8} (h1 : b ≠ 125) (h2 : b ≠ 41) : DA br o b = false := by
 unfold DA
 rw [decide_eq_false h1, decide_eq_false h2]; simp
theorem AEH {s : List UInt8} {i : Nat} (h : (!EY (s.drop i) [36, 40] && !EY (s.drop i) [36, 123]) = false) : Du s i = true := by
 unfold Du
 cases h1 : EY (s.drop i) [36, 40] <;> cases h2 : EY (s.drop i) [36, 123] <;> simp_all
theorem ABC {s : List UInt8} {i : Nat} (h : (!EY (s.drop i) [36, 40] && !EY (s.drop i) [36, 123]) = true) : Du s i = false := by
 unfold Du; rw [← Bool.not_or] at h
 simpa using h
theorem Wz {c : UInt8} (h : c = 40 ∨ c = 123) : decide (c = 40) = !decide (c = 123) := by
 rcases h with rfl | rfl <;> decide
theorem Yj {c : UInt8} {b : Bool} (h : (decide (c = 39) && !b) = true) : c = 39 ∧ (!b) = true := by
 rw [Bool.and_eq_true, decide_eq_true_eq] at h; exact h
theorem WK {c : UInt8} {b : Bool} (h : (decide (c = 39) && !b) = false) : ¬ (c = 39 ∧ (!b) = true) := fun ⟨h1, h2⟩ => by
 rw [h1, h2] at h; cases h
theorem PH {x br : Bool} {o : Nat} {b : UInt8} (hx : x = !br) (h : (x && decide (b = 41)) = true) : Ge br o b = o - 1 := by
 subst hx; rw [Ge, if_pos h]
theorem Ow {x br : Bool} {o : Nat} {b : UInt8} (hx : x = !br) (h : (x && decide (b = 40)) = true) : Ge br o b = o + 1 := by
 subst hx
 have h1 := (Bool.and_eq_true _ _ ▸ h : _ ∧ _)
 have h2 : b = 40 := of_decide_eq_true h1.2
 rw [Ge, if_neg (by rw [h2]; simp), if_pos h]
theorem OO {x br : Bool} {o : Nat} {b : UInt8} (hx : x = !br) (h1 : (x && decide (b = 41)) = false) (h2 : (x && decide (b = 40)) = false) : Ge br o b = o := by
 subst hx; rw [Ge, if_neg (by rw [h1]; simp), if_neg (by rw [h2]; simp)]
theorem Wa {x br : Bool} {o : Nat} {b : UInt8} (hx : x = !br) (h : (x && decide (b = 41) && decide ((o : Int) = 0)) = true) : DA br o b = true := by
 subst hx; exact Q7 h
theorem Uo {x br : Bool} {o : Nat} {b : UInt8} (hx : x = !br) (h1 : (br && decide (b = 125)) = false) (h2 : (x && decide (b = 41) && decide ((o : Int) = 0)) = false) : DA br o b = false := by
 subst hx; exact O9 h1 h2
theorem LI (s t : List UInt8) (i : Nat) (w : World) (hs : s.length ≤ 2305843009213693952) (hi : i ≤ s.length) (ht : t.length ≤ 1000) : Cw Tryz.prog 61 [Bj s, .int .i64 (i : Int), Bj t] w (.bool (EY (s.drop i) t)) := by
 refine enter Tryz.func61 rfl Tryz.ntmps61 rfl (St.start w (BF w) (Le.refl _)) (Ar rfl (tq (AK 2 rfl (sq rfl (Ap rfl CW rfl) (sq rfl (AX rfl rfl rfl (by omega)) ?_))))); refine AK 1 rfl (sq rfl (Ap rfl CW rfl) (AK 2 rfl ?_))
 refine BA 9 7 14 24 23 _ _ rfl rfl rfl rfl rfl rfl (fun P8 => by
   simp at P8
   refine AJ 4 rfl (sg rfl (Ap rfl CW rfl) (sg rfl (AX rfl rfl rfl (by omega)) ?_)); refine sg rfl (GL rfl CW rfl rfl rfl (by omega)) ?_; refine AJ 1 rfl (sg rfl (BM rfl rfl rfl) ?_); exact Ao rfl
  ) (AM rfl) rfl rfl rfl ?_
 refine AK 1 rfl (Cy (Aq (A1 rfl rfl (fun w' hw => ?_)))); refine ⟨?_, hw.below⟩; refine congrArg (fun b => Ending.returned (Value.bool b)) ?_; unfold EY
 by_cases h : i + t.length ≤ s.length
 ·rw [decide_eq_true (show (i : Int) + (t.length : Int) ≤ (s.length : Int) by omega), Bool.true_and, show ((i : Int)).toNat = i by omega, show ((i : Int) + (t.length : Int)).toNat - i = t.length by omega]
 ·rw [decide_eq_false (show ¬ (i : Int) + (t.length : Int) ≤ (s.length : Int) by omega), Bool.false_and]; exact (decide_eq_false (fun e => by have := congrArg List.length e; rw [List.length_take, List.length_drop] at this; omega)).symm
theorem K8 (s : List UInt8) (i : Nat) (w : World) (hs : s.length ≤ 2305843009213693952) (hi : i < s.length) : Cw Tryz.prog 76 [Bj s, .int .i64 (i : Int)] w (.agg #[.int .i64 (MX i (Ca (s.drop i)) : Int), .int .i64 (My i (Ca (s.drop i)) : Int), .int .i64 (K2 (Ca (s.drop i)) : Int)]) := by
 refine enter Tryz.func76 rfl Tryz.ntmps76 rfl (St.start w (BF w) (Le.refl _)) (tr (le rfl (Ah rfl B8 rfl) ?_)); rintro _ _ _ ⟨b4, rfl, rfl, rfl⟩; refine K6 (AC 1 rfl (lq rfl (AX rfl rfl rfl (by omega)) ?_)); refine Ae rfl (AR (A8 (ι := Nat) (fun zz => i + 1 ≤ zz ∧ zz ≤ s.length ∧ ∀ k, i + 1 ≤ k → k < zz → nth s k 0 ≠ 39) (fun zz => s.length - zz) (fun zz => [(5, .int .i64 (zz : Int))]) [(0, _), (1, _), (4, _)] (fun zz => BF w) (fun zz => [row b4 91 [.int .i64 (0 : Int), .int .i64 (0 : Int), .int .i64 (0 : Int)]]) (i + 1) ?_ (AB rfl) (AB rfl) (fun _ h => AA h) ?_))
 ·exact ⟨Nat.le_refl _, by omega, fun k h1 h2 => by omega⟩
 rintro j ⟨SI, Qq, ET⟩; dsimp only at *; refine AN (tr (AC 2 rfl (lq rfl (Ap rfl CW rfl) (Ae rfl (AF rfl (fun hc0 => ?_) (fun hc0 => ?_))))))
 ·simp at hc0
  have hj : j < s.length := by omega
  refine Al (AN (AR (tr (AC 2 rfl (lq rfl ((by exact BP rfl CW rfl rfl (by omega))) ?_))))); refine lq rfl (Aw rfl rfl rfl rfl) (ln (AF rfl (fun BI => ?_) (fun BI => ?_)))
  ·simp only [decide_eq_true_eq] at BI
   have QU := QD (by omega) hj BI ET
   refine tr (AC 1 rfl (lq rfl (AX rfl rfl rfl (by omega)) ?_)); refine lq rfl (A6 (pl := [(_, _), (_, _), (_, _)]) (cs := ([.int .i64 ((j : Int) + 1), .int .i64 0, .int .i64 0]).toArray) rfl Dr B8 ⟨rfl, ⟨_, _, B0⟩, rfl, ⟨_, _, B0⟩, rfl, ⟨_, _, B0⟩, trivial⟩ rfl rfl) (An rfl rfl ((by exact AE rfl B8 rfl rfl rfl (by simp [Value.oneCell']) rfl)) ?_); rintro _ _ _ ⟨rfl, rfl⟩; refine ln (Aq (As (Ag (Ag (As (Ag (A3 (.inl rfl) rfl (by exact BK rfl Dr B8 rfl rfl (BJ)) (fun w' hw => ?_)))))))); rw [QU]; exact ⟨congrArg _ (KZ (by show (j : Int) + 1 = ((i + (j + 1 - i) : Nat) : Int); omega) (rfl) (rfl)), hw.below⟩
  ·simp only [decide_eq_false_iff_not] at BI
   have BI : nth s j 0 ≠ 39 := BI
   refine Au (AV (Ai (AH (AC 1 rfl (lq rfl (AX rfl rfl rfl (by omega)) ?_))))); refine Ax rfl (Ak (j + 1) ?_ ?_ (AB rfl) (AB rfl) (fun _ h => by dsimp only; exact AA h))
   ·refine ⟨by omega, by omega, fun k h1 h2 => ?_⟩; rcases Nat.lt_succ_iff_lt_or_eq.1 h2 with h | rfl
    ·exact ET k h1 h
    ·exact BI
   ·show s.length - (j + 1) < s.length - j
    omega
 ·simp at hc0
  obtain rfl : j = s.length := by omega
  have QU := R6 ET
  refine BB (AG (AG (AQ (Ai (tr (AC 1 rfl (lq rfl (A6 (pl := [(_, _), (_, _), (_, _)]) (cs := ([.int .i64 0, .int .i64 (i : Int), .int .i64 53]).toArray) rfl Dr B8 ⟨rfl, ⟨_, _, B0⟩, rfl, ⟨_, _, B0⟩, rfl, ⟨_, _, B0⟩, trivial⟩ rfl rfl) (An rfl rfl ((by exact AE rfl B8 rfl rfl rfl (by simp [Value.oneCell']) rfl)) ?_)))))))); rintro _ _ _ ⟨rfl, rfl⟩; refine ln (Aq (A3 (.inl rfl) rfl (by exact BK rfl Dr B8 rfl rfl (BJ)) (fun w' hw => ?_))); rw [QU]; exact ⟨congrArg _ (KZ (rfl) (rfl) (rfl)), hw.below⟩
theorem K5 (m : Nat) (hD : ∀ n, m = n + 1 → Lz n) (s : List UInt8) (i d : Nat) (w : World) (hm : 24 - d = m) (hd : d ≤ 30) (hs : s.length ≤ 2305843009213693952) (hi : i < s.length) : Cw Tryz.prog 77 [Bj s, .int .i64 (i : Int), .int .i64 (d : Int)] w (.agg #[.int .i64 (MX i ((lv m).1 (s.drop i)) : Int), .int .i64 (My i ((lv m).1 (s.drop i)) : Int), .int .i64 (K2 ((lv m).1 (s.drop i)) : Int)]) := by
 refine enter Tryz.func77 rfl Tryz.ntmps77 rfl (St.start w (BF w) (Le.refl _)) (tr (le rfl (Ah rfl B8 rfl) ?_)); rintro _ _ _ ⟨b6, rfl, rfl, rfl⟩; refine K6 (AC 1 rfl (lq rfl (AX rfl rfl rfl (by omega)) ?_)); refine Ae rfl (AF rfl (fun hc0 => ?_) (fun hc0 => ?_))
 ·simp at hc0
  obtain rfl : m = 0 := by omega
  refine tr (AC 1 rfl (lq rfl (A6 (pl := [(_, _), (_, _), (_, _)]) (cs := ([.int .i64 0, .int .i64 (i : Int), .int .i64 52]).toArray) rfl Dr B8 ⟨rfl, ⟨_, _, B0⟩, rfl, ⟨_, _, B0⟩, rfl, ⟨_, _, B0⟩, trivial⟩ rfl rfl) (An rfl rfl ((by exact AE rfl B8 rfl rfl rfl (by simp [Value.oneCell']) rfl)) ?_))); rintro _ _ _ ⟨rfl, rfl⟩; refine ln (Aq (Ag (A3 (.inl rfl) rfl (by exact BK rfl Dr B8 rfl rfl (BJ)) (fun w' hw => ?_)))); exact ⟨congrArg _ (KZ (rfl) (rfl) (rfl)), hw.below⟩
 ·simp at hc0
  obtain ⟨n, rfl⟩ : ∃ n, m = n + 1 := ⟨m - 1, by omega⟩
  have Kj : (lv (n + 1)).1 (s.drop i) = (Ij (lv n).2 (s.drop i).length (s.drop (i + 1))).close 1 53 := by show AAD _ _ = _; unfold AAD; rw [List.drop_drop]
  refine Al (tr (AC 1 rfl (lq rfl (AX rfl rfl rfl (by omega)) ?_))); refine Ae rfl (AN (AR (A8 (ι := Nat × Nat × Nat) (fun zz => KV s.length zz.1 zz.2.2 ∧ i + 1 ≤ zz.1 ∧ zz.1 ≤ s.length ∧ (Ij (lv n).2 (s.drop i).length (s.drop (i + 1))) = (Ij (lv n).2 zz.2.1 (s.drop zz.1)).on (zz.1 - (i + 1)) ∧ (s.drop zz.1).length ≤ zz.2.1) (fun zz => s.length - zz.1) (fun zz => [(7, .int .i64 (zz.2.2 : Int))]) [(0, _), (1, _), (2, _), (6, _), (12, _)] (fun zz => BF w) (fun zz => [row b6 91 [.int .i64 (0 : Int), .int .i64 (0 : Int), .int .i64 (0 : Int)]]) (i + 1, (s.drop i).length, i + 1) ?_ (AB rfl) (AB rfl) (fun _ h => AA h) ?_)))
  ·dsimp only; refine ⟨.inl rfl, Nat.le_refl _, by omega, by rw [Nat.sub_self, LR.on_zero], by rw [List.length_drop, List.length_drop]; omega⟩
  rintro ⟨j, g, kv⟩ ⟨G9, SI, Qq, hx, IB⟩; dsimp only at *; refine AN (tr (AC 2 rfl (lq rfl (Ap rfl CW rfl) (Ae rfl (AF rfl (fun BI => ?_) (fun BI => ?_))))))
  ·simp at BI
   have hj : j < s.length := by rcases G9 with h | h <;> omega
   obtain rfl : j = kv := by rcases G9 with h | h <;> omega
   have Dh := S9 hx (DS hj) IB
   refine Al (AR (tr (AC 1 rfl (lq rfl (AX rfl rfl rfl (by omega)) ?_)))); refine lq rfl (A6 (pl := [(_, _), (_, _), (_, _)]) (cs := ([.int .i64 ((j : Int) + 1), .int .i64 0, .int .i64 0]).toArray) rfl Dr B8 ⟨rfl, ⟨_, _, B0⟩, rfl, ⟨_, _, B0⟩, rfl, ⟨_, _, B0⟩, trivial⟩ rfl rfl) (le rfl (Ah rfl B8 rfl) ?_); rintro _ _ _ ⟨b8, rfl, rfl, rfl⟩; refine An rfl rfl ((by exact AE rfl B8 rfl rfl rfl (by simp [Value.oneCell']) rfl)) ?_; rintro _ _ _ ⟨rfl, rfl⟩; refine AI (H' := row b8 91 [.int .i64 ((j + 1 : Nat) : Int), .int .i64 (0 : Int), .int .i64 (0 : Int)] :: _) ?_ (fun _ h => h); refine ln (Bh (ι := SR × Nat × Nat × Nat) (fun zz => JA s.length j zz.1 zz.2.1 zz.2.2.1 zz.2.2.2 ∧ zz.1 = Bt (lv n).2 true false (s.drop j) ∧ EY (s.drop j) [34] = false) (fun zz => []) [(7, _), (0, _), (1, _), (2, _), (6, _), (12, _), (20, _), (8, _)] (fun zz => BF w) (fun zz => [row b8 91 [.int .i64 (zz.2.1 : Int), .int .i64 (zz.2.2.1 : Int), .int .i64 (zz.2.2.2 : Int)], row b6 91 [.int .i64 (0 : Int), .int .i64 (0 : Int), .int .i64 (0 : Int)]]) (AB rfl) ?_ ?_)
   ·refine tr (AC 2 rfl (lq rfl ((by exact BP rfl CW rfl rfl (by omega))) ?_)); refine ln (AR (tr (lq rfl (Aw rfl rfl rfl rfl) (Ae rfl (AF rfl (fun BU => ?_) (fun BU => ?_))))))
    ·simp only [decide_eq_true_eq] at BU
     have Jm : EY (s.drop j) [34] = true := by rw [Ek hj]; exact decide_eq_true BU
     have Bb := Dh.1 Jm
     refine tr (AC 1 rfl (lq rfl (AX rfl rfl rfl (by omega)) ?_)); refine lq rfl (A6 (pl := [(_, _), (_, _), (_, _)]) (cs := ([.int .i64 ((j : Int) + 1), .int .i64 0, .int .i64 0]).toArray) rfl Dr B8 ⟨rfl, ⟨_, _, B0⟩, rfl, ⟨_, _, B0⟩, rfl, ⟨_, _, B0⟩, trivial⟩ rfl rfl) (An rfl rfl ((by exact AE rfl B8 rfl rfl rfl (by simp [Value.oneCell']) rfl)) ?_); rintro _ _ _ ⟨rfl, rfl⟩; refine ln (Aq (As (Ag (As (Ag (As (Ag (A3 (.inl rfl) rfl (by exact BK rfl Dr B8 rfl rfl (BJ)) (fun w' hw => ?_))))))))); rw [Kj, Bb]; exact ⟨congrArg _ (KZ (by show (j : Int) + 1 = ((i + (1 + (j - (i + 1) + 1)) : Nat) : Int); omega) (rfl) (rfl)), hw.below⟩
    ·simp only [decide_eq_false_iff_not] at BU
     have N6 : EY (s.drop j) [34] = false := by rw [Ek hj]; exact decide_eq_false BU
     refine tr (lq rfl (Aw rfl rfl rfl rfl) (Ae rfl (AF rfl (fun Bd => ?_) (fun Bd => ?_))))
     ·simp only [decide_eq_true_eq] at Bd
      have Bd : nth s j 0 = 92 := Bd
      refine AH (AC 1 rfl (lq rfl (AX rfl rfl rfl (by omega)) ?_)); refine AC 1 rfl ?_; refine An rfl rfl (Ac rfl B0 rfl rfl (by exact ⟨rfl, rfl⟩) rfl (by rfl)) ?_; rintro _ _ _ ⟨rfl, rfl⟩; refine AI (H' := row b8 91 [.int .i64 ((j + 2 : Nat) : Int), .int .i64 (0 : Int), .int .i64 (0 : Int)] :: _) ?_ (fun _ h => h); refine BX (AV (Av ((Bt (lv n).2 true false (s.drop j), j + 2, 0, 0)) ?_ (AW) (AB rfl) (fun _ h => by dsimp only; exact AA h)))
      ·dsimp only; exact ⟨(by rw [Cq hj, if_pos Bd]; exact JA.esc hj), rfl, N6⟩
     ·simp only [decide_eq_false_iff_not] at Bd
      have Bd : ¬ nth s j 0 = 92 := Bd
      refine tr (lq rfl (Aw rfl rfl rfl rfl) (Ae rfl (AF rfl (fun Cg => ?_) (fun Cg => ?_))))
      ·simp only [decide_eq_true_eq] at Cg
       have Cg : nth s j 0 = 96 := Cg
       refine AH (AC 1 rfl (lq rfl (A6 (pl := [(_, _), (_, _), (_, _)]) (cs := ([.int .i64 0, .int .i64 (j : Int), .int .i64 55]).toArray) rfl Dr B8 ⟨rfl, ⟨_, _, B0⟩, rfl, ⟨_, _, B0⟩, rfl, ⟨_, _, B0⟩, trivial⟩ rfl rfl) (An rfl rfl ((by exact AE rfl B8 rfl rfl rfl (by simp [Value.oneCell']) rfl)) ?_))); rintro _ _ _ ⟨rfl, rfl⟩; refine BX (AV (Av ((Bt (lv n).2 true false (s.drop j), 0, j, 55)) ?_ (AW) (AB rfl) (fun _ h => by dsimp only; exact AA h)))
       ·dsimp only; exact ⟨(by rw [Cq hj, if_neg Bd, if_neg (fun h => by cases h.2), if_pos Cg]; exact JA.bad55), rfl, N6⟩
      ·simp only [decide_eq_false_iff_not] at Cg
       have Cg : ¬ nth s j 0 = 96 := Cg
       refine tr (lq rfl (Aw rfl rfl rfl rfl) (Ae rfl (AF rfl (fun C1 => ?_) (fun C1 => ?_))))
       ·simp only [decide_eq_true_eq] at C1
        have XO : Du s j = true → RC (s.drop j) ((lv n).2 true (s.drop j)) := fun h => (G7 n).2 _ _ (by rw [List.length_drop]; have := (K9 h).1; omega)
        have hfy : EO ((lv n).2 true (s.drop j)) := (FQ n).2 _ _
        have ZM := Qj (Du s j) XO hfy
        refine tr (AC 3 rfl (lq rfl (AX rfl rfl rfl (by omega)) ?_)); refine lq rfl (qc rfl rfl rfl ((fun w hw => hD n rfl s j (d + 1) true w (by omega) (by omega) hs (by omega)))) ?_; refine le rfl (Ah rfl B8 rfl) ?_; rintro _ _ _ ⟨b9, rfl, rfl, rfl⟩; refine An rfl rfl ((by exact AE rfl B8 rfl rfl rfl (by simp [Value.oneCell']) rfl)) ?_; rintro _ _ _ ⟨rfl, rfl⟩; refine Gb (Dw (AK 1 rfl (sq rfl (AZ rfl rfl (by rfl)) ?_))); refine AK 2 rfl ?_
        refine Bf 3 3 51 55 54 _ _ rfl rfl rfl rfl rfl rfl (fun h55 => by
          simp at h55
          refine AJ 1 rfl (sg rfl (AZ rfl rfl (by rfl)) ?_); refine AJ 1 rfl ?_; exact Ao rfl
         ) (AM rfl) rfl rfl rfl ?_
        refine Cy (AF rfl (fun Dd => ?_) (fun Dd => ?_))
        ·have Sh : Du s j = true := ZM.symm.trans Dd
         refine AH (lq rfl (Af rfl Dr B8 rfl rfl rfl) (An rfl rfl ((by exact AE rfl B8 rfl rfl rfl (by simp [Value.oneCell']) rfl)) ?_)); rintro _ _ _ ⟨rfl, rfl⟩; refine AI (H' := row b8 91 [.int .i64 (dl (Du s j) (MX j ((lv n).2 true (s.drop j))) : Int), .int .i64 (dl (Du s j) (My j ((lv n).2 true (s.drop j))) : Int), .int .i64 (dl (Du s j) (K2 ((lv n).2 true (s.drop j))) : Int)] :: _) ?_ (fun _ h => h); refine BX (AV (Av ((Bt (lv n).2 true false (s.drop j), dl (Du s j) (MX j ((lv n).2 true (s.drop j))), dl (Du s j) (My j ((lv n).2 true (s.drop j))), dl (Du s j) (K2 ((lv n).2 true (s.drop j))))) ?_ (AW) (AB rfl) (fun _ h => by dsimp only; exact AA h)))
         ·dsimp only; exact ⟨(by rw [Cq hj, if_neg Bd, if_neg (fun h => by cases h.2), if_neg Cg, if_pos Sh, Sh]; exact JA.of (XO Sh) hfy hj), rfl, N6⟩
        ·have Sh : Du s j = false := ZM.symm.trans Dd
         refine Au (AV (Av ((Bt (lv n).2 true false (s.drop j), j + 1, 0, 0)) ?_ (AW) (AB rfl) (fun _ h => by dsimp only; exact AA h)))
         ·dsimp only; exact ⟨(by rw [Cq hj, if_neg Bd, if_neg (fun h => by cases h.2), if_neg Cg, if_neg (by rw [Sh]; simp)]; exact JA.one hj), rfl, N6⟩
       ·simp only [decide_eq_false_iff_not] at C1
        have C1 : nth s j 0 ≠ 36 := C1
        refine Au (AV (Av ((Bt (lv n).2 true false (s.drop j), j + 1, 0, 0)) ?_ (AW) (AB rfl) (fun _ h => by dsimp only; exact AA h)))
        ·dsimp only; exact ⟨(by rw [Cq hj, if_neg Bd, if_neg (fun h => by cases h.2), if_neg Cg, if_neg (by rw [Jq C1]; simp)]; exact JA.one hj), rfl, N6⟩
   rintro ⟨r, e1, p1, x1⟩ ⟨hS, hr, N6⟩; dsimp only at *
   have ET := Dh.2 N6
   rw [← hr] at ET; refine AN (tr (AC 1 rfl (lq rfl (AZ rfl rfl (by rfl)) ?_))); refine Ae rfl (AF rfl (fun EW => ?_) (fun EW => ?_))
   ·simp at EW
    have UD : x1 ≠ 0 := by omega
    obtain ⟨a, h1, hp, he⟩ := hS.f UD
    have h3 := ET.1 a x1 h1
    refine tr (lq rfl (Af rfl Dr B8 rfl rfl rfl) (An rfl rfl ((by exact AE rfl B8 rfl rfl rfl (by simp [Value.oneCell']) rfl)) ?_)); rintro _ _ _ ⟨rfl, rfl⟩; refine ln (Aq (Ag (As (Ag (As (Ag (A3 (.inl rfl) rfl (by exact BK rfl Dr B8 rfl rfl (BJ)) (fun w' hw => ?_)))))))); rw [Kj, h3]; exact ⟨congrArg _ (KZ (by rw [he]; try rfl) (by rw [hp]; show ((j + a : Nat) : Int) = ((i + (1 + (j - (i + 1) + a)) : Nat) : Int); omega) (rfl)), hw.below⟩
   ·simp at EW
    have UD : x1 = 0 := by omega
    obtain ⟨k, h1, GO, OZ, Ic⟩ := hS.t UD
    have h3 := ET.2 k h1
    rw [List.drop_drop] at h3; refine Al (AH (AC 1 rfl (lq rfl (AZ rfl rfl (by rfl)) ?_))); refine Ax rfl (AV (Ak ((j + k, g - 1, e1)) ?_ ?_ (AB rfl) (AB rfl) (fun _ h => by dsimp only; exact AA h)))
    ·dsimp only; refine ⟨(Ic.imp id (fun h => ⟨h.2.2, h.1, h.2.1⟩)), by omega, by omega, by rw [h3]; congr 1; omega, ?_⟩; rw [List.length_drop] at IB ⊢
     omega
    ·dsimp only
     show s.length - (j + k) < s.length - j
     omega
  ·simp at BI
   obtain rfl : j = s.length := by rcases G9 with h | h <;> omega
   rw [List.drop_length, Re] at hx; refine BB (AG (AG (AQ (Ai (tr (AC 1 rfl (lq rfl (A6 (pl := [(_, _), (_, _), (_, _)]) (cs := ([.int .i64 0, .int .i64 (i : Int), .int .i64 53]).toArray) rfl Dr B8 ⟨rfl, ⟨_, _, B0⟩, rfl, ⟨_, _, B0⟩, rfl, ⟨_, _, B0⟩, trivial⟩ rfl rfl) (An rfl rfl ((by exact AE rfl B8 rfl rfl rfl (by simp [Value.oneCell']) rfl)) ?_)))))))); rintro _ _ _ ⟨rfl, rfl⟩; refine ln (Aq (A3 (.inl rfl) rfl (by exact BK rfl Dr B8 rfl rfl (BJ)) (fun w' hw => ?_))); rw [Kj, hx]; exact ⟨congrArg _ (KZ (rfl) (rfl) (rfl)), hw.below⟩
theorem K3 (m : Nat) (hD : ∀ n, m = n + 1 → PT n ∧ Lz n) (s : List UInt8) (i d : Nat) (q : Bool) (w : World) (hm : 24 - d = m) (hd : d ≤ 30) (hs : s.length ≤ 2305843009213693952) (hi : i ≤ s.length) : Cw Tryz.prog 78 [Bj s, .int .i64 (i : Int), .int .i64 (d : Int), .bool q] w (.agg #[.int .i64 (dl (Du s i) (MX i ((lv m).2 q (s.drop i))) : Int), .int .i64 (dl (Du s i) (My i ((lv m).2 q (s.drop i))) : Int), .int .i64 (dl (Du s i) (K2 ((lv m).2 q (s.drop i))) : Int)]) := by
 refine enter Tryz.func78 rfl Tryz.ntmps78 rfl (St.start w (BF w) (Le.refl _)) (tr (le rfl (Ah rfl B8 rfl) ?_)); rintro _ _ _ ⟨b8, rfl, rfl, rfl⟩; refine Gb (tq (AK 2 rfl (sq rfl (qc rfl rfl rfl ((fun w _ => LI s [36, 40] i w hs hi (by decide)))) ?_))); refine AK 2 rfl ?_
 refine BA 4 4 18 23 22 _ _ rfl rfl rfl rfl rfl rfl (fun h23 => by
   simp at h23
   refine AJ 2 rfl (sg rfl (qc rfl rfl rfl ((fun w _ => LI s [36, 123] i w hs hi (by decide)))) ?_); refine AJ 1 rfl ?_; exact Ao rfl
  ) (AM rfl) rfl rfl rfl ?_
 refine Cy (AF rfl (fun hc0 => ?_) (fun hc0 => ?_))
 ·have hb : Du s i = false := ABC hc0
  refine tr (lq rfl (A6 (pl := [(_, _), (_, _), (_, _)]) (cs := ([.int .i64 0, .int .i64 0, .int .i64 0]).toArray) rfl Dr B8 ⟨rfl, ⟨_, _, B0⟩, rfl, ⟨_, _, B0⟩, rfl, ⟨_, _, B0⟩, trivial⟩ rfl rfl) (An rfl rfl ((by exact AE rfl B8 rfl rfl rfl (by simp [Value.oneCell']) rfl)) ?_)); rintro _ _ _ ⟨rfl, rfl⟩; refine ln (Aq (Ag (A3 (.inl rfl) rfl (by exact BK rfl Dr B8 rfl rfl (BJ)) (fun w' hw => ?_)))); rw [hb]; exact ⟨congrArg _ (KZ (rfl) (rfl) (rfl)), hw.below⟩
 ·have hb : Du s i = true := AEH hc0
  have hba := K9 hb
  have hbn := Wz hba.2.2
  refine Al (AN (tr (AC 1 rfl (lq rfl (AX rfl rfl rfl (by omega)) ?_)))); refine Ae rfl (AF rfl (fun BI => ?_) (fun BI => ?_))
  ·simp at BI
   obtain rfl : m = 0 := by omega
   refine tr (AC 1 rfl (lq rfl (A6 (pl := [(_, _), (_, _), (_, _)]) (cs := ([.int .i64 0, .int .i64 (i : Int), .int .i64 52]).toArray) rfl Dr B8 ⟨rfl, ⟨_, _, B0⟩, rfl, ⟨_, _, B0⟩, rfl, ⟨_, _, B0⟩, trivial⟩ rfl rfl) (An rfl rfl ((by exact AE rfl B8 rfl rfl rfl (by simp [Value.oneCell']) rfl)) ?_))); rintro _ _ _ ⟨rfl, rfl⟩; refine ln (Aq (Ag (A3 (.inl rfl) rfl (by exact BK rfl Dr B8 rfl rfl (BJ)) (fun w' hw => ?_)))); rw [hb]; exact ⟨congrArg _ (KZ (rfl) (rfl) (rfl)), hw.below⟩
  ·simp at BI
   obtain ⟨n, rfl⟩ : ∃ n, m = n + 1 := ⟨m - 1, by omega⟩
   have Kj : (lv (n + 1)).2 q (s.drop i) = (Fp (lv n).1 (lv n).2 (decide (nth s (i + 1) 0 = 123)) (q && decide (nth s (i + 1) 0 = 123)) (s.drop i).length 0 (s.drop (i + 2))).close 2 53 := by show AAE _ _ _ _ = _; unfold AAE KY; rw [List.drop_drop, Ie]
   refine Al (Ar rfl (tr (AC 1 rfl (lq rfl (AX rfl rfl rfl (by omega)) ?_)))); refine Ae rfl (AN (AR (A8 (ι := Nat × Nat × Nat × Nat) (fun zz => KV s.length zz.1 zz.2.2.2 ∧ i + 2 ≤ zz.1 ∧ zz.1 ≤ s.length ∧ (Fp (lv n).1 (lv n).2 (decide (nth s (i + 1) 0 = 123)) (q && decide (nth s (i + 1) 0 = 123)) (s.drop i).length 0 (s.drop (i + 2))) = (Fp (lv n).1 (lv n).2 (decide (nth s (i + 1) 0 = 123)) (q && decide (nth s (i + 1) 0 = 123)) zz.2.2.1 zz.2.1 (s.drop zz.1)).on (zz.1 - (i + 2)) ∧ (s.drop zz.1).length ≤ zz.2.2.1 ∧ zz.2.1 ≤ zz.1) (fun zz => s.length - zz.1) (fun zz => [(10, .int .i64 (zz.2.2.2 : Int)), (9, .int .i64 (zz.2.1 : Int))]) [(0, _), (1, _), (2, _), (3, _), (8, _), (23, _), (27, _)] (fun zz => BF w) (fun zz => [row b8 91 [.int .i64 (0 : Int), .int .i64 (0 : Int), .int .i64 (0 : Int)]]) (i + 2, 0, (s.drop i).length, i + 2) ?_ (AB rfl) (AB rfl) (fun _ h => AA h) ?_)))
   ·dsimp only; refine ⟨.inl rfl, Nat.le_refl _, by omega, by rw [Nat.sub_self, LR.on_zero], by rw [List.length_drop, List.length_drop]; omega, Nat.zero_le _⟩
   rintro ⟨j, o, g, kv⟩ ⟨G9, SI, Qq, hx, IB, Wj⟩; dsimp only at *; refine AN (tr (AC 2 rfl (lq rfl (Ap rfl CW rfl) (Ae rfl (AF rfl (fun BU => ?_) (fun BU => ?_))))))
   ·simp at BU
    have hj : j < s.length := by rcases G9 with h | h <;> omega
    obtain rfl : j = kv := by rcases G9 with h | h <;> omega
    have Fx := TP hx (DS hj) IB
    rw [B5] at Fx; refine Al (AR (tr (AC 2 rfl (lq rfl ((by exact BP rfl CW rfl rfl (by omega))) ?_)))); refine Ae rfl (tr (AC 1 rfl (lq rfl (AX rfl rfl rfl (by omega)) ?_))); refine lq rfl (A6 (pl := [(_, _), (_, _), (_, _)]) (cs := ([.int .i64 ((j : Int) + 1), .int .i64 0, .int .i64 0]).toArray) rfl Dr B8 ⟨rfl, ⟨_, _, B0⟩, rfl, ⟨_, _, B0⟩, rfl, ⟨_, _, B0⟩, trivial⟩ rfl rfl) (le rfl (Ah rfl B8 rfl) ?_); rintro _ _ _ ⟨b12, rfl, rfl, rfl⟩; refine An rfl rfl ((by exact AE rfl B8 rfl rfl rfl (by simp [Value.oneCell']) rfl)) ?_; rintro _ _ _ ⟨rfl, rfl⟩; refine AI (H' := row b12 91 [.int .i64 ((j + 1 : Nat) : Int), .int .i64 (0 : Int), .int .i64 (0 : Int)] :: _) ?_ (fun _ h => h)
    refine ln (Bh (ι := SR × Nat × Nat × Nat × Nat) (fun zz => JA s.length j zz.1 zz.2.2.1 zz.2.2.2.1 zz.2.2.2.2 ∧ (∀ a e, zz.1 = .bad a e → (Fp (lv n).1 (lv n).2 (decide (nth s (i + 1) 0 = 123)) (q && decide (nth s (i + 1) 0 = 123)) (s.drop i).length 0 (s.drop (i + 2))) = .bad (j - (i + 2) + a) e) ∧ (∀ k, zz.1 = .ok k → (Fp (lv n).1 (lv n).2 (decide (nth s (i + 1) 0 = 123)) (q && decide (nth s (i + 1) 0 = 123)) (s.drop i).length 0 (s.drop (i + 2))) = (Fp (lv n).1 (lv n).2 (decide (nth s (i + 1) 0 = 123)) (q && decide (nth s (i + 1) 0 = 123)) (g - 1) zz.2.1 ((s.drop j).drop k)).on (j - (i + 2) + k)) ∧ zz.2.1 ≤ j + 1) (fun zz => [(9, .int .i64 (zz.2.1 : Int))]) [(10, _), (0, _), (1, _), (2, _), (3, _), (8, _), (23, _), (27, _), (35, _), (12, _)] (fun zz => BF w) (fun zz => [row b12 91 [.int .i64 (zz.2.2.1 : Int), .int .i64 (zz.2.2.2.1 : Int), .int .i64 (zz.2.2.2.2 : Int)], row b8 91 [.int .i64 (0 : Int), .int .i64 (0 : Int), .int .i64 (0 : Int)]]) (AB rfl) ?_ ?_)
    ·refine AR (tr (AC 1 rfl (lq rfl (Aw rfl rfl rfl rfl) (Ae rfl (AF rfl (fun Bd => ?_) (fun Bd => ?_))))))
     ·simp only [decide_eq_true_eq] at Bd
      have Bd : nth s j 0 = 92 := Bd
      have Jm : nth s j 0 ≠ 34 := by rw [Bd]; decide
      have EP : DA (decide (nth s (i + 1) 0 = 123)) o (nth s j 0) = false := by rw [Bd]; exact Jz (by decide) (by decide)
      refine AH (AC 1 rfl (lq rfl (AX rfl rfl rfl (by omega)) ?_)); refine AC 1 rfl ?_; refine An rfl rfl (Ac rfl B0 rfl rfl (by exact ⟨rfl, rfl⟩) rfl (by rfl)) ?_; rintro _ _ _ ⟨rfl, rfl⟩; refine AI (H' := row b12 91 [.int .i64 ((j + 2 : Nat) : Int), .int .i64 (0 : Int), .int .i64 (0 : Int)] :: _) ?_ (fun _ h => h); refine BX (AV (Av ((Bt (lv n).2 (q && decide (nth s (i + 1) 0 = 123)) (!(q && decide (nth s (i + 1) 0 = 123))) (s.drop j), o, j + 2, 0, 0)) ?_ (AB rfl) (AB rfl) (fun _ h => by dsimp only; exact AA h)))
      ·dsimp only; refine ⟨(by rw [Cq hj, if_pos Bd]; exact JA.esc hj), (E7 Fx Jm EP (D7 (by rw [Bd]; decide) (by rw [Bd]; decide))).1, (E7 Fx Jm EP (D7 (by rw [Bd]; decide) (by rw [Bd]; decide))).2, by omega⟩
     ·simp only [decide_eq_false_iff_not] at Bd
      have Bd : ¬ nth s j 0 = 92 := Bd
      refine tq (AK 1 rfl (sq rfl (Aw rfl rfl rfl rfl) (AK 1 rfl ?_)))
      refine BA 9 2 51 61 60 _ _ rfl rfl rfl rfl rfl rfl (fun h61 => by
        simp at h61
        refine AJ 2 rfl ?_
        refine BA 5 4 53 59 58 _ _ rfl rfl rfl rfl rfl rfl (fun h59 => by
          refine AJ 2 rfl (sg rfl (AX rfl rfl rfl (by omega)) ?_); refine sg rfl ((by exact DL rfl CW rfl rfl (by omega))) ?_; refine sg rfl (Aw rfl rfl rfl rfl) ?_; exact Ao rfl
         ) (Be rfl rfl rfl rfl) rfl rfl rfl ?_
        refine AJ 1 rfl ?_; exact Ao rfl
       ) (AM rfl) rfl rfl rfl ?_
      refine AK 1 rfl (Cy (AF rfl (fun Cg => ?_) (fun Cg => ?_)))
      ·have LL : nth s j 0 = 39 ∧ (!(q && decide (nth s (i + 1) 0 = 123))) = true := Yj Cg
       have Jm : nth s j 0 ≠ 34 := by rw [LL.1]; decide
       have EP : DA (decide (nth s (i + 1) 0 = 123)) o (nth s j 0) = false := by rw [LL.1]; exact Jz (by decide) (by decide)
       refine AH (AC 2 rfl (lq rfl (qc rfl rfl rfl ((fun w _ => K8 s j w hs hj))) (An rfl rfl ((by exact AE rfl B8 rfl rfl rfl (by simp [Value.oneCell']) rfl)) ?_))); rintro _ _ _ ⟨rfl, rfl⟩; refine AI (H' := row b12 91 [.int .i64 (MX j (Ca (s.drop j)) : Int), .int .i64 (My j (Ca (s.drop j)) : Int), .int .i64 (K2 (Ca (s.drop j)) : Int)] :: _) ?_ (fun _ h => h); refine BX (AV (Av ((Bt (lv n).2 (q && decide (nth s (i + 1) 0 = 123)) (!(q && decide (nth s (i + 1) 0 = 123))) (s.drop j), o, MX j (Ca (s.drop j)), My j (Ca (s.drop j)), K2 (Ca (s.drop j)))) ?_ (AB rfl) (AB rfl) (fun _ h => by dsimp only; exact AA h)))
       ·dsimp only; refine ⟨(by rw [Cq hj, if_neg Bd, if_pos LL]; exact JA.of (OE _ (DS hj)) (HZ _) hj), (E7 Fx Jm EP (D7 (by rw [LL.1]; decide) (by rw [LL.1]; decide))).1, (E7 Fx Jm EP (D7 (by rw [LL.1]; decide) (by rw [LL.1]; decide))).2, by omega⟩
      ·have LL : ¬ (nth s j 0 = 39 ∧ (!(q && decide (nth s (i + 1) 0 = 123))) = true) := WK Cg
       refine tr (AC 1 rfl (lq rfl (Aw rfl rfl rfl rfl) (Ae rfl (AF rfl (fun C1 => ?_) (fun C1 => ?_)))))
       ·simp only [decide_eq_true_eq] at C1
        have C1 : nth s j 0 = 34 := C1
        refine AH (AC 3 rfl (lq rfl (AX rfl rfl rfl (by omega)) ?_)); refine lq rfl (qc rfl rfl rfl ((fun w _ => (hD n rfl).1 s j (d + 1) w (by omega) (by omega) hs hj))) ?_; refine An rfl rfl ((by exact AE rfl B8 rfl rfl rfl (by simp [Value.oneCell']) rfl)) ?_; rintro _ _ _ ⟨rfl, rfl⟩; refine AI (H' := row b12 91 [.int .i64 (MX j ((lv n).1 (s.drop j)) : Int), .int .i64 (My j ((lv n).1 (s.drop j)) : Int), .int .i64 (K2 ((lv n).1 (s.drop j)) : Int)] :: _) ?_ (fun _ h => h); refine BX (AV (Av (((lv n).1 (s.drop j), o, MX j ((lv n).1 (s.drop j)), My j ((lv n).1 (s.drop j)), K2 ((lv n).1 (s.drop j)))) ?_ (AB rfl) (AB rfl) (fun _ h => by dsimp only; exact AA h)))
        ·dsimp only; refine ⟨(by exact JA.of ((G7 n).1 _ (DS hj)) ((FQ n).1 _) hj), (Fx.1 C1).1, (Fx.1 C1).2, by omega⟩
       ·simp only [decide_eq_false_iff_not] at C1
        have Jm : nth s j 0 ≠ 34 := C1
        refine tr (AC 1 rfl (lq rfl (Aw rfl rfl rfl rfl) (Ae rfl (AF rfl (fun Dd => ?_) (fun Dd => ?_)))))
        ·simp only [decide_eq_true_eq] at Dd
         have Dd : nth s j 0 = 96 := Dd
         have EP : DA (decide (nth s (i + 1) 0 = 123)) o (nth s j 0) = false := by rw [Dd]; exact Jz (by decide) (by decide)
         refine AH (AC 1 rfl (lq rfl (A6 (pl := [(_, _), (_, _), (_, _)]) (cs := ([.int .i64 0, .int .i64 (j : Int), .int .i64 55]).toArray) rfl Dr B8 ⟨rfl, ⟨_, _, B0⟩, rfl, ⟨_, _, B0⟩, rfl, ⟨_, _, B0⟩, trivial⟩ rfl rfl) (An rfl rfl ((by exact AE rfl B8 rfl rfl rfl (by simp [Value.oneCell']) rfl)) ?_))); rintro _ _ _ ⟨rfl, rfl⟩; refine BX (AV (Av ((Bt (lv n).2 (q && decide (nth s (i + 1) 0 = 123)) (!(q && decide (nth s (i + 1) 0 = 123))) (s.drop j), o, 0, j, 55)) ?_ (AB rfl) (AB rfl) (fun _ h => by dsimp only; exact AA h)))
         ·dsimp only; refine ⟨(by rw [Cq hj, if_neg Bd, if_neg LL, if_pos Dd]; exact JA.bad55), (E7 Fx Jm EP (D7 (by rw [Dd]; decide) (by rw [Dd]; decide))).1, (E7 Fx Jm EP (D7 (by rw [Dd]; decide) (by rw [Dd]; decide))).2, by omega⟩
        ·simp only [decide_eq_false_iff_not] at Dd
         have Dd : ¬ nth s j 0 = 96 := Dd
         refine tr (AC 1 rfl (lq rfl (Aw rfl rfl rfl rfl) (Ae rfl (AF rfl (fun EW => ?_) (fun EW => ?_)))))
         ·simp only [decide_eq_true_eq] at EW
          have EW : nth s j 0 = 36 := EW
          have EP : DA (decide (nth s (i + 1) 0 = 123)) o (nth s j 0) = false := by rw [EW]; exact Jz (by decide) (by decide)
          have XO : Du s j = true → RC (s.drop j) ((lv n).2 (q && decide (nth s (i + 1) 0 = 123)) (s.drop j)) := fun h => (G7 n).2 _ _ (by rw [List.length_drop]; have := (K9 h).1; omega)
          have hfy : EO ((lv n).2 (q && decide (nth s (i + 1) 0 = 123)) (s.drop j)) := (FQ n).2 _ _
          have ZM := Qj (Du s j) XO hfy
          refine tr (Dl 12 (AK 3 rfl (sq rfl (AX rfl rfl rfl (by omega)) ?_))); refine AK 2 rfl ?_
          refine BA 5 5 86 92 91 _ _ rfl rfl rfl rfl rfl rfl (fun h92 => by
            refine AJ 2 rfl (sg rfl (AX rfl rfl rfl (by omega)) ?_); refine sg rfl ((by exact DL rfl CW rfl rfl (by omega))) ?_; refine sg rfl (Aw rfl rfl rfl rfl) ?_; exact Ao rfl
           ) (AM rfl) rfl rfl rfl ?_
          refine Hb (lq rfl (qc rfl rfl rfl ((fun w _ => (hD n rfl).2 s j (d + 1) (q && decide (nth s (i + 1) 0 = 123)) w (by omega) (by omega) hs (by omega)))) ?_); refine le rfl (Ah rfl B8 rfl) ?_; rintro _ _ _ ⟨b13, rfl, rfl, rfl⟩; refine An rfl rfl ((by exact AE rfl B8 rfl rfl rfl (by simp [Value.oneCell']) rfl)) ?_; rintro _ _ _ ⟨rfl, rfl⟩; refine Gb (Dw (AK 1 rfl (sq rfl (AZ rfl rfl (by rfl)) ?_))); refine AK 2 rfl ?_
          refine Bf 3 3 97 101 100 _ _ rfl rfl rfl rfl rfl rfl (fun AMG => by
            simp at AMG
            refine AJ 1 rfl (sg rfl (AZ rfl rfl (by rfl)) ?_); refine AJ 1 rfl ?_; exact Ao rfl
           ) (AM rfl) rfl rfl rfl ?_
          refine Cy (AF rfl (fun HF => ?_) (fun HF => ?_))
          ·have Sh : Du s j = true := ZM.symm.trans HF
           refine AH (lq rfl (Af rfl Dr B8 rfl rfl rfl) (An rfl rfl ((by exact AE rfl B8 rfl rfl rfl (by simp [Value.oneCell']) rfl)) ?_)); rintro _ _ _ ⟨rfl, rfl⟩; refine AI (H' := row b12 91 [.int .i64 (dl (Du s j) (MX j ((lv n).2 (q && decide (nth s (i + 1) 0 = 123)) (s.drop j))) : Int), .int .i64 (dl (Du s j) (My j ((lv n).2 (q && decide (nth s (i + 1) 0 = 123)) (s.drop j))) : Int), .int .i64 (dl (Du s j) (K2 ((lv n).2 (q && decide (nth s (i + 1) 0 = 123)) (s.drop j))) : Int)] :: _) ?_ (fun _ h => h); refine BX (AV (Av ((Bt (lv n).2 (q && decide (nth s (i + 1) 0 = 123)) (!(q && decide (nth s (i + 1) 0 = 123))) (s.drop j), o, dl (Du s j) (MX j ((lv n).2 (q && decide (nth s (i + 1) 0 = 123)) (s.drop j))), dl (Du s j) (My j ((lv n).2 (q && decide (nth s (i + 1) 0 = 123)) (s.drop j))), dl (Du s j) (K2 ((lv n).2 (q && decide (nth s (i + 1) 0 = 123)) (s.drop j))))) ?_ (AB rfl) (AB rfl) (fun _ h => by dsimp only; exact AA h)))
           ·dsimp only; refine ⟨(by rw [Cq hj, if_neg Bd, if_neg LL, if_neg Dd, if_pos Sh, Sh]; exact JA.of (XO Sh) hfy hj), (E7 Fx Jm EP (D7 (by rw [EW]; decide) (by rw [EW]; decide))).1, (E7 Fx Jm EP (D7 (by rw [EW]; decide) (by rw [EW]; decide))).2, by omega⟩
          ·have Sh : Du s j = false := ZM.symm.trans HF
           refine Au (AV (Av ((Bt (lv n).2 (q && decide (nth s (i + 1) 0 = 123)) (!(q && decide (nth s (i + 1) 0 = 123))) (s.drop j), o, j + 1, 0, 0)) ?_ (AB rfl) (AB rfl) (fun _ h => by dsimp only; exact AA h)))
           ·dsimp only; refine ⟨(by rw [Cq hj, if_neg Bd, if_neg LL, if_neg Dd, if_neg (by rw [Sh]; simp)]; exact JA.one hj), (E7 Fx Jm EP (D7 (by rw [EW]; decide) (by rw [EW]; decide))).1, (E7 Fx Jm EP (D7 (by rw [EW]; decide) (by rw [EW]; decide))).2, by omega⟩
         ·simp only [decide_eq_false_iff_not] at EW
          have EW : nth s j 0 ≠ 36 := EW
          refine tq (AK 2 rfl (sq rfl (AX rfl rfl rfl (by omega)) ?_)); refine sq rfl ((by exact DL rfl CW rfl rfl (by omega))) ?_; refine sq rfl (Aw rfl rfl rfl rfl) (AK 1 rfl ?_)
          refine BA 2 5 109 112 111 _ _ rfl rfl rfl rfl rfl rfl (fun ANy => by
            simp at ANy
            refine AJ 1 rfl (sg rfl (Aw rfl rfl rfl rfl) ?_); exact Ao rfl
           ) (AM rfl) rfl rfl rfl ?_
          refine AK 1 rfl (Cy (AF rfl (fun J0 => ?_) (fun J0 => ?_)))
          ·have EP : DA (decide (nth s (i + 1) 0 = 123)) o (nth s j 0) = true := by rw [DA, Bool.or_eq_true]; exact .inl J0
           have Bb := (Fx.2 Jm).1 EP
           refine tr (AC 1 rfl (lq rfl (AX rfl rfl rfl (by omega)) ?_)); refine lq rfl (A6 (pl := [(_, _), (_, _), (_, _)]) (cs := ([.int .i64 ((j : Int) + 1), .int .i64 0, .int .i64 0]).toArray) rfl Dr B8 ⟨rfl, ⟨_, _, B0⟩, rfl, ⟨_, _, B0⟩, rfl, ⟨_, _, B0⟩, trivial⟩ rfl rfl) (An rfl rfl ((by exact AE rfl B8 rfl rfl rfl (by simp [Value.oneCell']) rfl)) ?_); rintro _ _ _ ⟨rfl, rfl⟩; refine ln (Aq (As (Ag (As (Ag (As (Ag (A3 (.inl rfl) rfl (by exact BK rfl Dr B8 rfl rfl (BJ)) (fun w' hw => ?_))))))))); rw [hb, Kj, Bb]; exact ⟨congrArg _ (KZ (by show (j : Int) + 1 = ((i + (2 + (j - (i + 2) + 1)) : Nat) : Int); omega) (rfl) (rfl)), hw.below⟩
          ·refine tq (AK 2 rfl (sq rfl (AX rfl rfl rfl (by omega)) ?_)); refine sq rfl ((by exact DL rfl CW rfl rfl (by omega))) ?_; refine sq rfl (Aw rfl rfl rfl rfl) (AK 1 rfl ?_)
           refine BA 2 5 122 125 124 _ _ rfl rfl rfl rfl rfl rfl (fun AMO => by
             simp at AMO
             refine AJ 1 rfl (sg rfl (Aw rfl rfl rfl rfl) ?_); exact Ao rfl
            ) (AM rfl) rfl rfl rfl ?_
           refine AK 1 rfl ?_
           refine BA 2 9 126 129 128 _ _ rfl rfl rfl rfl rfl rfl (fun ALy => by
             simp at ALy
             refine AJ 2 rfl ?_; exact Ao rfl
            ) (AM rfl) rfl rfl rfl ?_
           refine AK 1 rfl (Cy (AF rfl (fun GH => ?_) (fun GH => ?_)))
           ·have EP : DA (decide (nth s (i + 1) 0 = 123)) o (nth s j 0) = true := Wa hbn GH
            have Bb := (Fx.2 Jm).1 EP
            refine tr (AC 1 rfl (lq rfl (AX rfl rfl rfl (by omega)) ?_)); refine lq rfl (A6 (pl := [(_, _), (_, _), (_, _)]) (cs := ([.int .i64 ((j : Int) + 1), .int .i64 0, .int .i64 0]).toArray) rfl Dr B8 ⟨rfl, ⟨_, _, B0⟩, rfl, ⟨_, _, B0⟩, rfl, ⟨_, _, B0⟩, trivial⟩ rfl rfl) (An rfl rfl ((by exact AE rfl B8 rfl rfl rfl (by simp [Value.oneCell']) rfl)) ?_); rintro _ _ _ ⟨rfl, rfl⟩; refine ln (Aq (As (Ag (As (Ag (As (Ag (A3 (.inl rfl) rfl (by exact BK rfl Dr B8 rfl rfl (BJ)) (fun w' hw => ?_))))))))); rw [hb, Kj, Bb]; exact ⟨congrArg _ (KZ (by show (j : Int) + 1 = ((i + (2 + (j - (i + 2) + 1)) : Nat) : Int); omega) (rfl) (rfl)), hw.below⟩
           ·have EP : DA (decide (nth s (i + 1) 0 = 123)) o (nth s j 0) = false := Uo hbn J0 GH
            refine tq (AK 2 rfl (sq rfl (AX rfl rfl rfl (by omega)) ?_)); refine sq rfl ((by exact DL rfl CW rfl rfl (by omega))) ?_; refine sq rfl (Aw rfl rfl rfl rfl) (AK 1 rfl ?_)
            refine BA 2 5 139 142 141 _ _ rfl rfl rfl rfl rfl rfl (fun AOH => by
              simp at AOH
              refine AJ 1 rfl (sg rfl (Aw rfl rfl rfl rfl) ?_); exact Ao rfl
             ) (AM rfl) rfl rfl rfl ?_
            refine AK 1 rfl (Cy (AF rfl (fun Ka => ?_) (fun Ka => ?_)))
            ·refine AH (AC 1 rfl (lq rfl (Fa rfl rfl rfl (by omega)) ?_)); refine Ax rfl (AV (Av ((Bt (lv n).2 (q && decide (nth s (i + 1) 0 = 123)) (!(q && decide (nth s (i + 1) 0 = 123))) (s.drop j), o - 1, j + 1, 0, 0)) ?_ (Bl rfl (congrArg (Value.int IntKind.i64) (by show (o : Int) - 1 = ((o - 1 : Nat) : Int); have := Ou EP (by rw [← hbn]; exact Ka); omega)) (AW)) (AB rfl) (fun _ h => by dsimp only; exact AA h)))
             ·dsimp only; refine ⟨(by rw [Cq hj, if_neg Bd, if_neg LL, if_neg Dd, if_neg (by rw [Jq EW]; simp)]; exact JA.one hj), (E7 Fx Jm EP (PH hbn Ka)).1, (E7 Fx Jm EP (PH hbn Ka)).2, by omega⟩
            ·refine tq (AK 2 rfl (sq rfl (AX rfl rfl rfl (by omega)) ?_)); refine sq rfl ((by exact DL rfl CW rfl rfl (by omega))) ?_; refine sq rfl (Aw rfl rfl rfl rfl) (AK 1 rfl ?_)
             refine BA 2 5 151 154 153 _ _ rfl rfl rfl rfl rfl rfl (fun ANM => by
               simp at ANM
               refine AJ 1 rfl (sg rfl (Aw rfl rfl rfl rfl) ?_); exact Ao rfl
              ) (AM rfl) rfl rfl rfl ?_
             refine AK 1 rfl (Cy (AF rfl (fun P3 => ?_) (fun P3 => ?_)))
             ·refine AH (AC 1 rfl (lq rfl (AX rfl rfl rfl (by omega)) ?_)); refine Ax rfl (AV (Av ((Bt (lv n).2 (q && decide (nth s (i + 1) 0 = 123)) (!(q && decide (nth s (i + 1) 0 = 123))) (s.drop j), o + 1, j + 1, 0, 0)) ?_ (AB rfl) (AB rfl) (fun _ h => by dsimp only; exact AA h)))
              ·dsimp only; refine ⟨(by rw [Cq hj, if_neg Bd, if_neg LL, if_neg Dd, if_neg (by rw [Jq EW]; simp)]; exact JA.one hj), (E7 Fx Jm EP (Ow hbn P3)).1, (E7 Fx Jm EP (Ow hbn P3)).2, by omega⟩
             ·refine Au (AV (Av ((Bt (lv n).2 (q && decide (nth s (i + 1) 0 = 123)) (!(q && decide (nth s (i + 1) 0 = 123))) (s.drop j), o, j + 1, 0, 0)) ?_ (AB rfl) (AB rfl) (fun _ h => by dsimp only; exact AA h)))
              ·dsimp only; refine ⟨(by rw [Cq hj, if_neg Bd, if_neg LL, if_neg Dd, if_neg (by rw [Jq EW]; simp)]; exact JA.one hj), (E7 Fx Jm EP (OO hbn Ka P3)).1, (E7 Fx Jm EP (OO hbn Ka P3)).2, by omega⟩
    rintro ⟨r, o2, e1, p1, x1⟩ ⟨hS, AKy, X4, ho2⟩; dsimp only at *; refine AN (tr (AC 1 rfl (lq rfl (AZ rfl rfl (by rfl)) ?_))); refine Ae rfl (AF rfl (fun TY => ?_) (fun TY => ?_))
    ·simp at TY
     have UD : x1 ≠ 0 := by omega
     obtain ⟨a, h1, hp, he⟩ := hS.f UD
     have h3 := AKy a x1 h1
     refine tr (lq rfl (Af rfl Dr B8 rfl rfl rfl) (An rfl rfl ((by exact AE rfl B8 rfl rfl rfl (by simp [Value.oneCell']) rfl)) ?_)); rintro _ _ _ ⟨rfl, rfl⟩; refine ln (Aq (Ag (As (Ag (As (Ag (A3 (.inl rfl) rfl (by exact BK rfl Dr B8 rfl rfl (BJ)) (fun w' hw => ?_)))))))); rw [hb, Kj, h3]; exact ⟨congrArg _ (KZ (by rw [he]; try rfl) (by rw [hp]; show ((j + a : Nat) : Int) = ((i + (2 + (j - (i + 2) + a)) : Nat) : Int); omega) (rfl)), hw.below⟩
    ·simp at TY
     have UD : x1 = 0 := by omega
     obtain ⟨k, h1, GO, OZ, Ic⟩ := hS.t UD
     have h3 := X4 k h1
     rw [List.drop_drop] at h3; refine Al (AH (AC 1 rfl (lq rfl (AZ rfl rfl (by rfl)) ?_))); refine Ax rfl (AV (Ak ((j + k, o2, g - 1, e1)) ?_ ?_ (AB rfl) (AB rfl) (fun _ h => by dsimp only; exact AA h)))
     ·dsimp only; refine ⟨(Ic.imp id (fun h => ⟨h.2.2, h.1, h.2.1⟩)), by omega, by omega, by rw [h3]; congr 1; omega, ?_, by omega⟩; rw [List.length_drop] at IB ⊢
      omega
     ·dsimp only
      show s.length - (j + k) < s.length - j
      omega
   ·simp at BU
    obtain rfl : j = s.length := by rcases G9 with h | h <;> omega
    rw [List.drop_length, RM] at hx; refine BB (AG (AG (AQ (Ai (tr (AC 1 rfl (lq rfl (A6 (pl := [(_, _), (_, _), (_, _)]) (cs := ([.int .i64 0, .int .i64 (i : Int), .int .i64 53]).toArray) rfl Dr B8 ⟨rfl, ⟨_, _, B0⟩, rfl, ⟨_, _, B0⟩, rfl, ⟨_, _, B0⟩, trivial⟩ rfl rfl) (An rfl rfl ((by exact AE rfl B8 rfl rfl rfl (by simp [Value.oneCell']) rfl)) ?_)))))))); rintro _ _ _ ⟨rfl, rfl⟩; refine ln (Aq (A3 (.inl rfl) rfl (by exact BK rfl Dr B8 rfl rfl (BJ)) (fun w' hw => ?_))); rw [hb, Kj, hx]; exact ⟨congrArg _ (KZ (rfl) (rfl) (rfl)), hw.below⟩
theorem Ve : ∀ n, PT n ∧ Lz n
 | 0 => ⟨fun s i d w hm hd hs hi => K5 0 (fun n h => by cases h) s i d w hm hd hs hi, fun s i d q w hm hd hs hi => K3 0 (fun n h => by cases h) s i d q w hm hd hs hi⟩
 | n + 1 => ⟨fun s i d w hm hd hs hi => K5 (n + 1) (fun k h => (show n = k by omega) ▸ (Ve n).2) s i d w hm hd hs hi,
  fun s i d q w hm hd hs hi => K3 (n + 1) (fun k h => (show n = k by omega) ▸ Ve n) s i d q w hm hd hs hi⟩
end Go.Tri

namespace Go.Tri
open Go.Proofs Go.RowKit
set_option maxRecDepth 10000
theorem Oe (c : UInt8) (w : World) : Cw Tryz.prog 75 [u8 c] w (.bool (DX Cv c)) := by
 refine enter Tryz.func75 rfl Tryz.ntmps75 rfl (St.start w (BF w) (Le.refl _)) (Ar rfl (tq (AK 1 rfl (sq rfl (Aw rfl rfl rfl rfl) (AK 1 rfl ?_)))))
 refine Bf 2 2 5 8 7 _ _ rfl rfl rfl rfl rfl rfl (fun h8 => by
   simp at h8
   refine AJ 1 rfl (sg rfl (Aw rfl rfl rfl rfl) ?_); exact Ao rfl
  ) (AM rfl) rfl rfl rfl ?_
 refine AK 1 rfl ?_
 refine Bf 2 6 9 12 11 _ _ rfl rfl rfl rfl rfl rfl (fun h12 => by
   simp at h12
   refine AJ 1 rfl (sg rfl (Aw rfl rfl rfl rfl) ?_); exact Ao rfl
  ) (AM rfl) rfl rfl rfl ?_
 refine AK 1 rfl ?_
 refine Bf 2 10 13 16 15 _ _ rfl rfl rfl rfl rfl rfl (fun V5 => by
   simp at V5
   refine AJ 1 rfl (sg rfl (Aw rfl rfl rfl rfl) ?_); exact Ao rfl
  ) (AM rfl) rfl rfl rfl ?_
 refine AK 1 rfl ?_
 refine Bf 2 14 17 20 19 _ _ rfl rfl rfl rfl rfl rfl (fun YR => by
   simp at YR
   refine AJ 1 rfl (sg rfl (Aw rfl rfl rfl rfl) ?_); exact Ao rfl
  ) (AM rfl) rfl rfl rfl ?_
 refine AK 1 rfl ?_
 refine Bf 2 18 21 24 23 _ _ rfl rfl rfl rfl rfl rfl (fun P8 => by
   simp at P8
   refine AJ 1 rfl (sg rfl (Aw rfl rfl rfl rfl) ?_); exact Ao rfl
  ) (AM rfl) rfl rfl rfl ?_
 refine AK 1 rfl ?_
 refine Bf 2 22 25 28 27 _ _ rfl rfl rfl rfl rfl rfl (fun h28 => by
   simp at h28
   refine AJ 1 rfl (sg rfl (Aw rfl rfl rfl rfl) ?_); exact Ao rfl
  ) (AM rfl) rfl rfl rfl ?_
 refine AK 1 rfl ?_
 refine Bf 2 26 29 32 31 _ _ rfl rfl rfl rfl rfl rfl (fun On => by
   simp at On
   refine AJ 1 rfl (sg rfl (Aw rfl rfl rfl rfl) ?_); exact Ao rfl
  ) (AM rfl) rfl rfl rfl ?_
 refine AK 1 rfl ?_
 refine Bf 2 30 33 36 35 _ _ rfl rfl rfl rfl rfl rfl (fun h36 => by
   simp at h36
   refine AJ 1 rfl (sg rfl (Aw rfl rfl rfl rfl) ?_); exact Ao rfl
  ) (AM rfl) rfl rfl rfl ?_
 refine AK 1 rfl ?_
 refine Bf 2 34 37 40 39 _ _ rfl rfl rfl rfl rfl rfl (fun XK => by
   simp at XK
   refine AJ 1 rfl (sg rfl (Aw rfl rfl rfl rfl) ?_); exact Ao rfl
  ) (AM rfl) rfl rfl rfl ?_
 refine AK 1 rfl (Cy (Aq (A1 rfl rfl (fun w' hw => ?_)))); refine ⟨?_, hw.below⟩
 rw [Nm]; try rfl
theorem QX (s : List UInt8) (w : World) (hs : s.length ≤ 2305843009213693952) : Cw Tryz.prog 63 [Bj s] w (.bool (T7 s)) := by
 refine enter Tryz.func63 rfl Tryz.ntmps63 rfl (St.start w (BF w) (Le.refl _)) (Ar rfl (AN (Ar rfl (AR (A8 (ι := Nat) (fun zz => zz ≤ s.length ∧ (s.take zz).all (fun c => decide (48 ≤ c.toNat) && decide (c.toNat ≤ 57)) = true) (fun zz => s.length - zz) (fun zz => [(3, .int .i64 (zz : Int))]) [(0, _)] (fun zz => BF w) (fun zz => []) 0 ?_ (AB rfl) (AB rfl) (fun _ h => AA h) ?_)))))
 ·exact ⟨Nat.zero_le _, rfl⟩
 rintro i ⟨hi, G0⟩; dsimp only at *; refine AN (tr (AC 2 rfl (lq rfl (Ap rfl CW rfl) (Ae rfl (AF rfl (fun hc0 => ?_) (fun hc0 => ?_))))))
 ·simp at hc0
  have EJ : i < s.length := by omega
  refine Al (AN (AR (tq (AK 2 rfl (sq rfl ((by exact BP rfl CW rfl rfl (by omega))) ?_))))); refine AK 2 rfl ?_
  refine Bf 4 4 14 19 18 _ _ rfl rfl rfl rfl rfl rfl (fun h19 => by
    simp at h19
    refine AJ 2 rfl (sg rfl ((by exact BP rfl CW rfl rfl (by omega))) ?_); refine AJ 1 rfl ?_; exact Ao rfl
   ) (AM rfl) rfl rfl rfl ?_
  refine Cy (AF rfl (fun BI => ?_) (fun BI => ?_))
  ·have hdg : (decide (48 ≤ (nth s i 0).toNat) && decide ((nth s i 0).toNat ≤ 57)) = false := by
    have h9 := BI
    rw [Bool.or_eq_true, decide_eq_true_eq, decide_eq_true_eq] at h9; rw [Bool.and_eq_false_iff, decide_eq_false_iff_not, decide_eq_false_iff_not]
    omega
   refine Ar rfl (C0 (A1 rfl rfl (fun w' hw => ?_))); refine ⟨?_, hw.below⟩; rw [AEN EJ hdg]
  ·have hdg : (decide (48 ≤ (nth s i 0).toNat) && decide ((nth s i 0).toNat ≤ 57)) = true := by
    have h9 := BI
    rw [Bool.or_eq_false_iff, decide_eq_false_iff_not, decide_eq_false_iff_not] at h9; rw [Bool.and_eq_true, decide_eq_true_eq, decide_eq_true_eq]
    omega
   refine Au (AV (Ai (AH (AC 1 rfl (lq rfl (AX rfl rfl rfl (by omega)) ?_))))); refine Ax rfl (Ak (i + 1) ?_ ?_ (AB rfl) (AB rfl) (fun _ h => by dsimp only; exact AA h))
   ·exact ⟨by omega, by rw [Za EJ, G0, hdg]; try rfl⟩
   ·show s.length - (i + 1) < s.length - i
    omega
 ·simp at hc0
  rw [List.take_of_length_le (by omega)] at G0; refine BB (AG (AG (AQ (Ai (tr (AC 1 rfl (lq rfl (C7 rfl rfl rfl) (Ae rfl (Aq ?_))))))))); refine A1 rfl rfl (fun w' hw => ?_); refine ⟨?_, hw.below⟩
  unfold T7; rw [G0, Bool.and_true]
set_option maxHeartbeats 1000000 in
theorem Te (s : List UInt8) (i : Nat) (w : World) (hs : s.length ≤ 2305843009213693952) (hi : i ≤ s.length) : Cw Tryz.prog 62 [Bj s, .int .i64 (i : Int)] w (.agg #[.int .i64 (MX i (EN (s.drop i)) : Int), .int .i64 (My i (EN (s.drop i)) : Int), .int .i64 (K2 (EN (s.drop i)) : Int)]) := by
 refine enter Tryz.func62 rfl Tryz.ntmps62 rfl (St.start w (BF w) (Le.refl _)) (tr (le rfl (Ah rfl B8 rfl) ?_)); rintro _ _ _ ⟨b4, rfl, rfl, rfl⟩; refine BQ (Ae rfl (AN (AR (A8 (ι := Nat × Nat) (fun zz => i ≤ zz.1 ∧ zz.1 ≤ s.length ∧ EN (s.drop i) = (D9 zz.2 (s.drop zz.1)).on (zz.1 - i) ∧ (s.drop zz.1).length ≤ zz.2) (fun zz => s.length - zz.1) (fun zz => [(5, .int .i64 (zz.1 : Int))]) [(0, _), (1, _), (4, _)] (fun zz => BF w) (fun zz => [row b4 91 [.int .i64 (0 : Int), .int .i64 (0 : Int), .int .i64 (0 : Int)]]) (i, (s.drop i).length) ?_ (AB rfl) (AB rfl) (fun _ h => AA h) ?_))))
 ·dsimp only; exact ⟨Nat.le_refl _, hi, by rw [Nat.sub_self, SR.on_zero]; rfl, Nat.le_refl _⟩
 rintro ⟨j, g⟩ ⟨hij, Qq, hx, IB⟩; dsimp only at *; refine AN (tr (AC 2 rfl (lq rfl (Ap rfl CW rfl) (Ae rfl (AF rfl (fun hc0 => ?_) (fun hc0 => ?_))))))
 ·simp at hc0
  have hj : j < s.length := by omega
  have Dh := Hs hx (DS hj) IB
  rw [B5] at Dh; refine Al (AR (tr (AC 1 rfl (lq rfl (AX rfl rfl rfl (by omega)) ?_)))); refine lq rfl (A6 (pl := [(_, _), (_, _), (_, _)]) (cs := ([.int .i64 ((j : Int) + 1), .int .i64 0, .int .i64 0]).toArray) rfl Dr B8 ⟨rfl, ⟨_, _, B0⟩, rfl, ⟨_, _, B0⟩, rfl, ⟨_, _, B0⟩, trivial⟩ rfl rfl) (le rfl (Ah rfl B8 rfl) ?_); rintro _ _ _ ⟨b6, rfl, rfl, rfl⟩; refine An rfl rfl ((by exact AE rfl B8 rfl rfl rfl (by simp [Value.oneCell']) rfl)) ?_; rintro _ _ _ ⟨rfl, rfl⟩; refine AI (H' := row b6 91 [.int .i64 ((j + 1 : Nat) : Int), .int .i64 (0 : Int), .int .i64 (0 : Int)] :: _) ?_ (fun _ h => h); refine BQ (AC 2 rfl (lq rfl ((by exact BP rfl CW rfl rfl (by omega))) ?_)); refine Ae rfl (Bh (ι := SR × Nat × Nat × Nat) (fun zz => JA s.length j zz.1 zz.2.1 zz.2.2.1 zz.2.2.2 ∧ zz.1 = (CA (s.drop j)) ∧ DX Cv (nth s j 0) = false) (fun zz => []) [(5, _), (0, _), (1, _), (4, _), (13, _), (6, _)] (fun zz => BF w) (fun zz => [row b6 91 [.int .i64 (zz.2.1 : Int), .int .i64 (zz.2.2.1 : Int), .int .i64 (zz.2.2.2 : Int)], row b4 91 [.int .i64 (0 : Int), .int .i64 (0 : Int), .int .i64 (0 : Int)]]) (AB rfl) ?_ ?_)
  ·refine AR (tr (AC 1 rfl (lq rfl (qc rfl rfl rfl ((fun w _ => Oe (nth s j 0) w))) (Ae rfl (AF rfl (fun BI => ?_) (fun BI => ?_))))))
   ·have Bb := Dh.1 BI
    refine tr (AC 1 rfl (lq rfl (A6 (pl := [(_, _), (_, _), (_, _)]) (cs := ([.int .i64 (j : Int), .int .i64 0, .int .i64 0]).toArray) rfl Dr B8 ⟨rfl, ⟨_, _, B0⟩, rfl, ⟨_, _, B0⟩, rfl, ⟨_, _, B0⟩, trivial⟩ rfl rfl) (An rfl rfl ((by exact AE rfl B8 rfl rfl rfl (by simp [Value.oneCell']) rfl)) ?_))); rintro _ _ _ ⟨rfl, rfl⟩; refine ln (Aq (As (Ag (As (Ag (As (Ag (A3 (.inl rfl) rfl (by exact BK rfl Dr B8 rfl rfl (BJ)) (fun w' hw => ?_))))))))); rw [Bb]; exact ⟨congrArg _ (KZ (by show (j : Int) = ((i + (j - i) : Nat) : Int); omega) (rfl) (rfl)), hw.below⟩
   ·refine tr (AC 1 rfl (lq rfl (Aw rfl rfl rfl rfl) (Ae rfl (AF rfl (fun BU => ?_) (fun BU => ?_)))))
    ·simp only [decide_eq_true_eq] at BU
     have BU : nth s j 0 = 92 := BU
     have Mn : nth s j 0 ≠ 34 := by rw [BU]; decide
     refine AH (AC 1 rfl (lq rfl (AX rfl rfl rfl (by omega)) ?_)); refine AC 1 rfl ?_; refine An rfl rfl (Ac rfl B0 rfl rfl (by exact ⟨rfl, rfl⟩) rfl (by rfl)) ?_; rintro _ _ _ ⟨rfl, rfl⟩; refine AI (H' := row b6 91 [.int .i64 ((j + 2 : Nat) : Int), .int .i64 (0 : Int), .int .i64 (0 : Int)] :: _) ?_ (fun _ h => h); refine BX (AV (Av (((CA (s.drop j)), j + 2, 0, 0)) ?_ (AW) (AB rfl) (fun _ h => by dsimp only; exact AA h)))
     ·dsimp only; exact ⟨(by rw [CA, if_neg (by rw [Ek hj]; simpa using Mn)]; rw [Cq hj, if_pos BU]; exact JA.esc hj), rfl, BI⟩
    ·simp only [decide_eq_false_iff_not] at BU
     have BU : ¬ nth s j 0 = 92 := BU
     refine tr (AC 1 rfl (lq rfl (Aw rfl rfl rfl rfl) (Ae rfl (AF rfl (fun Bd => ?_) (fun Bd => ?_)))))
     ·simp only [decide_eq_true_eq] at Bd
      have Bd : nth s j 0 = 39 := Bd
      have Mn : nth s j 0 ≠ 34 := by rw [Bd]; decide
      refine AH (AC 2 rfl (lq rfl (qc rfl rfl rfl ((fun w _ => K8 s j w hs hj))) (An rfl rfl ((by exact AE rfl B8 rfl rfl rfl (by simp [Value.oneCell']) rfl)) ?_))); rintro _ _ _ ⟨rfl, rfl⟩; refine AI (H' := row b6 91 [.int .i64 (MX j (Ca (s.drop j)) : Int), .int .i64 (My j (Ca (s.drop j)) : Int), .int .i64 (K2 (Ca (s.drop j)) : Int)] :: _) ?_ (fun _ h => h); refine BX (AV (Av (((CA (s.drop j)), MX j (Ca (s.drop j)), My j (Ca (s.drop j)), K2 (Ca (s.drop j)))) ?_ (AW) (AB rfl) (fun _ h => by dsimp only; exact AA h)))
      ·dsimp only; exact ⟨(by rw [CA, if_neg (by rw [Ek hj]; simpa using Mn)]; rw [Cq hj, if_neg BU, if_pos ⟨Bd, rfl⟩]; exact JA.of (OE _ (DS hj)) (HZ _) hj), rfl, BI⟩
     ·simp only [decide_eq_false_iff_not] at Bd
      have Bd : ¬ nth s j 0 = 39 := Bd
      refine tr (AC 1 rfl (lq rfl (Aw rfl rfl rfl rfl) (Ae rfl (AF rfl (fun Cg => ?_) (fun Cg => ?_)))))
      ·simp only [decide_eq_true_eq] at Cg
       have Cg : nth s j 0 = 34 := Cg
       refine AH (AC 2 rfl (lq rfl (qc rfl rfl rfl ((fun w _ => (Ve 24).1 s j 0 w rfl (by omega) hs hj))) ?_)); refine An rfl rfl ((by exact AE rfl B8 rfl rfl rfl (by simp [Value.oneCell']) rfl)) ?_; rintro _ _ _ ⟨rfl, rfl⟩; refine AI (H' := row b6 91 [.int .i64 (MX j ((lv 24).1 (s.drop j)) : Int), .int .i64 (My j ((lv 24).1 (s.drop j)) : Int), .int .i64 (K2 ((lv 24).1 (s.drop j)) : Int)] :: _) ?_ (fun _ h => h); refine BX (AV (Av (((CA (s.drop j)), MX j ((lv 24).1 (s.drop j)), My j ((lv 24).1 (s.drop j)), K2 ((lv 24).1 (s.drop j)))) ?_ (AW) (AB rfl) (fun _ h => by dsimp only; exact AA h)))
       ·dsimp only; exact ⟨(by rw [CA, if_pos (by rw [Ek hj]; exact decide_eq_true Cg)]; exact JA.of ((G7 24).1 _ (DS hj)) ((FQ 24).1 _) hj), rfl, BI⟩
      ·simp only [decide_eq_false_iff_not] at Cg
       have Mn : nth s j 0 ≠ 34 := Cg
       refine tr (AC 1 rfl (lq rfl (Aw rfl rfl rfl rfl) (Ae rfl (AF rfl (fun C1 => ?_) (fun C1 => ?_)))))
       ·simp only [decide_eq_true_eq] at C1
        have C1 : nth s j 0 = 96 := C1
        refine AH (AC 1 rfl (lq rfl (A6 (pl := [(_, _), (_, _), (_, _)]) (cs := ([.int .i64 0, .int .i64 (j : Int), .int .i64 55]).toArray) rfl Dr B8 ⟨rfl, ⟨_, _, B0⟩, rfl, ⟨_, _, B0⟩, rfl, ⟨_, _, B0⟩, trivial⟩ rfl rfl) (An rfl rfl ((by exact AE rfl B8 rfl rfl rfl (by simp [Value.oneCell']) rfl)) ?_))); rintro _ _ _ ⟨rfl, rfl⟩; refine BX (AV (Av (((CA (s.drop j)), 0, j, 55)) ?_ (AW) (AB rfl) (fun _ h => by dsimp only; exact AA h)))
        ·dsimp only; exact ⟨(by rw [CA, if_neg (by rw [Ek hj]; simpa using Mn)]; rw [Cq hj, if_neg BU, if_neg (fun h => Bd h.1), if_pos C1]; exact JA.bad55), rfl, BI⟩
       ·simp only [decide_eq_false_iff_not] at C1
        have C1 : ¬ nth s j 0 = 96 := C1
        refine tr (AC 1 rfl (lq rfl (Aw rfl rfl rfl rfl) (Ae rfl (AF rfl (fun Dd => ?_) (fun Dd => ?_)))))
        ·simp only [decide_eq_true_eq] at Dd
         have XO : Du s j = true → RC (s.drop j) ((lv 24).2 false (s.drop j)) := fun h => (G7 24).2 _ _ (by rw [List.length_drop]; have := (K9 h).1; omega)
         have hfy : EO ((lv 24).2 false (s.drop j)) := (FQ 24).2 _ _
         have ZM := Qj (Du s j) XO hfy
         refine tr (AC 2 rfl (lq rfl (qc rfl rfl rfl ((fun w _ => (Ve 24).2 s j 0 false w rfl (by omega) hs (by omega)))) ?_)); refine le rfl (Ah rfl B8 rfl) ?_; rintro _ _ _ ⟨b8, rfl, rfl, rfl⟩; refine An rfl rfl ((by exact AE rfl B8 rfl rfl rfl (by simp [Value.oneCell']) rfl)) ?_; rintro _ _ _ ⟨rfl, rfl⟩; refine Gb (Dw (AK 1 rfl (sq rfl (AZ rfl rfl (by rfl)) ?_))); refine AK 2 rfl ?_
         refine Bf 3 3 57 61 60 _ _ rfl rfl rfl rfl rfl rfl (fun h61 => by
           simp at h61
           refine AJ 1 rfl (sg rfl (AZ rfl rfl (by rfl)) ?_); refine AJ 1 rfl ?_; exact Ao rfl
          ) (AM rfl) rfl rfl rfl ?_
         refine Cy (AF rfl (fun EW => ?_) (fun EW => ?_))
         ·have Sh : Du s j = true := ZM.symm.trans EW
          refine AH (lq rfl (Af rfl Dr B8 rfl rfl rfl) (An rfl rfl ((by exact AE rfl B8 rfl rfl rfl (by simp [Value.oneCell']) rfl)) ?_)); rintro _ _ _ ⟨rfl, rfl⟩; refine AI (H' := row b6 91 [.int .i64 (dl (Du s j) (MX j ((lv 24).2 false (s.drop j))) : Int), .int .i64 (dl (Du s j) (My j ((lv 24).2 false (s.drop j))) : Int), .int .i64 (dl (Du s j) (K2 ((lv 24).2 false (s.drop j))) : Int)] :: _) ?_ (fun _ h => h); refine BX (AV (Av (((CA (s.drop j)), dl (Du s j) (MX j ((lv 24).2 false (s.drop j))), dl (Du s j) (My j ((lv 24).2 false (s.drop j))), dl (Du s j) (K2 ((lv 24).2 false (s.drop j))))) ?_ (AW) (AB rfl) (fun _ h => by dsimp only; exact AA h)))
          ·dsimp only; exact ⟨(by rw [CA, if_neg (by rw [Ek hj]; simpa using Mn)]; rw [Cq hj, if_neg BU, if_neg (fun h => Bd h.1), if_neg C1, if_pos Sh, Sh]; exact JA.of (XO Sh) hfy hj), rfl, BI⟩
         ·have Sh : Du s j = false := ZM.symm.trans EW
          refine Au (AV (Av (((CA (s.drop j)), j + 1, 0, 0)) ?_ (AW) (AB rfl) (fun _ h => by dsimp only; exact AA h)))
          ·dsimp only; exact ⟨(by rw [CA, if_neg (by rw [Ek hj]; simpa using Mn)]; rw [Cq hj, if_neg BU, if_neg (fun h => Bd h.1), if_neg C1, if_neg (by rw [Sh]; simp)]; exact JA.one hj), rfl, BI⟩
        ·simp only [decide_eq_false_iff_not] at Dd
         have Dd : nth s j 0 ≠ 36 := Dd
         refine Au (AV (Av (((CA (s.drop j)), j + 1, 0, 0)) ?_ (AW) (AB rfl) (fun _ h => by dsimp only; exact AA h)))
         ·dsimp only; exact ⟨(by rw [CA, if_neg (by rw [Ek hj]; simpa using Mn)]; rw [Cq hj, if_neg BU, if_neg (fun h => Bd h.1), if_neg C1, if_neg (by rw [Jq Dd]; simp)]; exact JA.one hj), rfl, BI⟩
  rintro ⟨r, e1, p1, x1⟩ ⟨hS, hr, CV⟩; dsimp only at *
  have ET := Dh.2 CV
  refine AN (tr (AC 1 rfl (lq rfl (AZ rfl rfl (by rfl)) ?_))); refine Ae rfl (AF rfl (fun HF => ?_) (fun HF => ?_))
  ·simp at HF
   have UD : x1 ≠ 0 := by omega
   obtain ⟨a, h1, hp, he⟩ := hS.f UD; rw [hr] at h1
   have h3 := ET.1 a x1 h1
   refine tr (lq rfl (Af rfl Dr B8 rfl rfl rfl) (An rfl rfl ((by exact AE rfl B8 rfl rfl rfl (by simp [Value.oneCell']) rfl)) ?_)); rintro _ _ _ ⟨rfl, rfl⟩; refine ln (Aq (Ag (As (Ag (As (Ag (A3 (.inl rfl) rfl (by exact BK rfl Dr B8 rfl rfl (BJ)) (fun w' hw => ?_)))))))); rw [h3]; exact ⟨congrArg _ (KZ (by rw [he]; try rfl) (by rw [hp]; show ((j + a : Nat) : Int) = ((i + (j - i + a) : Nat) : Int); omega) (rfl)), hw.below⟩
  ·simp at HF
   have UD : x1 = 0 := by omega
   obtain ⟨k, h1, GO, OZ, Ic⟩ := hS.t UD; rw [hr] at h1
   have h3 := ET.2 k h1
   rw [List.drop_drop] at h3; refine Al (AH (AC 1 rfl (lq rfl (AZ rfl rfl (by rfl)) ?_))); refine AC 1 rfl (lq rfl (Ap rfl CW rfl) (lq rfl (VV rfl rfl rfl) (Ax rfl (AV (Ak ((j + k, g - 1)) ?_ ?_ (Bl rfl (congrArg (Value.int IntKind.i64) (by omega)) (AW)) (AB rfl) (fun _ h => by dsimp only; exact AA h))))))
   ·dsimp only; exact ⟨by omega, by omega, by rw [h3]; congr 1; omega, by rw [List.length_drop] at IB ⊢; omega⟩
   ·dsimp only
    show s.length - (j + k) < s.length - j
    omega
 ·simp at hc0
  have hje : j = s.length := by omega
  rw [hje, List.drop_length, Gr] at hx; refine BB (AG (AG (AQ (Ai (tr (AC 1 rfl (lq rfl (A6 (pl := [(_, _), (_, _), (_, _)]) (cs := ([.int .i64 (j : Int), .int .i64 0, .int .i64 0]).toArray) rfl Dr B8 ⟨rfl, ⟨_, _, B0⟩, rfl, ⟨_, _, B0⟩, rfl, ⟨_, _, B0⟩, trivial⟩ rfl rfl) (An rfl rfl ((by exact AE rfl B8 rfl rfl rfl (by simp [Value.oneCell']) rfl)) ?_)))))))); rintro _ _ _ ⟨rfl, rfl⟩; refine ln (Aq (A3 (.inl rfl) rfl (by exact BK rfl Dr B8 rfl rfl (BJ)) (fun w' hw => ?_))); rw [hx]; exact ⟨congrArg _ (KZ (by show (j : Int) = ((i + (s.length - i + 0) : Nat) : Int); omega) (rfl) (rfl)), hw.below⟩
end Go.Tri

namespace Go.Tri
open Go.Proofs Go.RowKit
set_option maxRecDepth 10000
def OI (i : Nat) : Option (List UInt8 × Nat) → List UInt8 × Int
 | none => ([], -1)
 | some x => (x.1, ((i + x.2 : Nat) : Int))
theorem AAZ {s : List UInt8} {j e : Nat} : ((s.drop j).take (e - j)).length ≤ e - j := by rw [List.length_take]; omega
theorem Tw (s : List UInt8) (w : World) (hs : s.length ≤ 1000000000) : Cw Tryz.prog 45 [Bj s] w (.tuple #[Bj (DN s), .bool (EG s DF)]) := by
 refine enter Tryz.func45 rfl Tryz.ntmps45 rfl (St.start w (BF w) (Le.refl _)) (Ar rfl (Ar rfl (Ar rfl (AN (Ar rfl (AR (A8 (ι := Nat × Value × List UInt8 × Bool) (fun zz => zz.1 ≤ s.length ∧ DN s = zz.2.2.1 ++ DN (s.drop zz.1) ∧ zz.2.2.1.length ≤ zz.1 ∧ zz.2.2.2 = EG (s.take zz.1) DF) (fun zz => s.length - zz.1) (fun zz => [(6, .int .i64 (zz.1 : Int)), (4, zz.2.1), (5, .bool zz.2.2.2)]) [(0, _), (2, _), (3, _)] (fun zz => BF w) (fun zz => [BO 5 1 Fo zz.2.1 zz.2.2.1]) (0, .slice none 0 0, [], false) ?_ (AB rfl) (AB rfl) (fun _ h => CS 5 1 Fo h) ?_)))))))
 ·dsimp only; exact ⟨Nat.zero_le _, by simp, Nat.le_refl _, rfl⟩
 rintro ⟨i, v, l, q⟩ ⟨hi, hb, hl, hq⟩; dsimp only at *; refine AN (tr (AC 2 rfl (lq rfl (Ap rfl CW rfl) (Ae rfl (AF rfl (fun hc0 => ?_) (fun hc0 => ?_))))))
 ·simp at hc0
  have EJ : i < s.length := by omega
  refine Al (AN (AR (tr (AC 2 rfl (lq rfl ((by exact BP rfl CW rfl rfl (by omega))) ?_))))); refine ln (AR (Bh (ι := Bool) (fun zz => zz = (decide (nth s i 0 = 39) || decide (nth s i 0 = 34))) (fun zz => [(22, .bool zz)]) [(6, _), (4, _), (5, _), (0, _), (2, _), (3, _), (10, _), (15, _)] (fun zz => BF w) (fun zz => [BO 5 1 Fo v l]) (AB rfl) ?_ ?_))
  ·refine tr (lq rfl (Aw rfl rfl rfl rfl) (Ae rfl (AF rfl (fun Rv => ?_) (fun Rv => ?_))))
   ·refine Au (Av (_) ?_ (AB rfl) (AB rfl) (fun _ h => by dsimp only; exact AA h))
    ·have Rv : nth s i 0 = 39 := of_decide_eq_true Rv
     show decide (nth s i 0 = 39) = _; rw [Rv]; try rfl
   ·refine AH (lq rfl (Aw rfl rfl rfl rfl) (Ax rfl (Av (_) ?_ (AB rfl) (AB rfl) (fun _ h => by dsimp only; exact AA h))))
    ·have Rv : ¬ nth s i 0 = 39 := of_decide_eq_false Rv
     rw [decide_eq_false Rv]; try rfl
  rintro z hz; dsimp only at *; refine AF rfl (fun BU => ?_) (fun BU => ?_)
  ·have h2 : nth s i 0 = 39 ∨ nth s i 0 = 34 := by rw [BU] at hz; simpa using hz.symm
   refine AH (Ax rfl (AV (AV (Ai (AH (AC 1 rfl (lq rfl (AX rfl rfl rfl (by omega)) ?_))))))); refine Ax rfl (Ak ((i + 1, v, l, true)) ?_ ?_ (AB rfl) (AB rfl) (fun _ h => by dsimp only; exact AA h))
   ·dsimp only; exact ⟨by omega, by rw [hb, AAK EJ h2], by omega, by rw [JR EJ, P4]; rcases h2 with h | h <;> rw [h] <;> simp⟩
   ·dsimp only
    show s.length - (i + 1) < s.length - i; omega
  ·have h2 : ¬ (nth s i 0 = 39 ∨ nth s i 0 = 34) := by rw [BU] at hz; simpa using hz.symm
   refine tr (lq rfl (Aw rfl rfl rfl rfl) (Ae rfl (AF rfl (fun Bd => ?_) (fun Bd => ?_))))
   ·simp only [decide_eq_true_eq] at Bd
    have Bd : nth s i 0 = 92 := Bd
    refine Ar rfl (tr (AC 1 rfl (lq rfl (AX rfl rfl rfl (by omega)) ?_))); refine AC 1 rfl (lq rfl (Ap rfl CW rfl) (Ae rfl (AF rfl (fun Cg => ?_) (fun Cg => ?_))))
    ·simp at Cg
     refine tr (AC 1 rfl (lq rfl (AX rfl rfl rfl (by omega)) ?_)); refine Ae rfl (AH (AC 3 rfl (lq rfl ((by exact DL rfl CW rfl rfl (by omega))) ?_))); refine le rfl (AS rfl HE UY rfl rfl rfl (by rfl) rfl) ?_; rintro _ _ _ ⟨b38, rfl, rfl, rfl⟩; refine le rfl (Ba (f := Fo) (c := nth s (i + 1) 0) rfl HE UY rfl rfl rfl rfl rfl rfl rfl (by exact JD _) (by simp only [maxLen]; omega) (by omega)) ?_; rintro v39 _ _ ⟨rfl, rfl⟩; refine Ax rfl (AV (AV (Ai (AH (AC 1 rfl (lq rfl (AX rfl rfl rfl (by omega)) ?_)))))); refine Ax rfl (Ak ((i + 2, v39, l ++ [nth s (i + 1) 0], true)) ?_ ?_ (AB rfl) (AB rfl) (fun _ h => by dsimp only; exact AA h))
     ·dsimp only; exact ⟨by omega, by rw [hb, Sc (by omega) Bd]; simp, by simp; omega, by rw [AAp (by omega) (by rw [P4, Bd]; try rfl)]⟩
     ·dsimp only
      show s.length - (i + 2) < s.length - i; omega
    ·simp at Cg
     refine Au (AV (AV (Ai (AH (AC 1 rfl (lq rfl (AX rfl rfl rfl (by omega)) ?_)))))); refine Ax rfl (Ak ((i + 1, v, l, true)) ?_ ?_ (AB rfl) (AB rfl) (fun _ h => by dsimp only; exact AA h))
     ·dsimp only; exact ⟨by omega, by rw [hb, SQ (by omega) (by omega) Bd, List.drop_of_length_le (by omega), JZ], by omega, by rw [JR EJ, P4, Bd]; simp⟩
     ·dsimp only
      show s.length - (i + 1) < s.length - i; omega
   ·simp only [decide_eq_false_iff_not] at Bd
    have Bd : ¬ nth s i 0 = 92 := Bd
    refine AH (AC 3 rfl (lq rfl ((by exact BP rfl CW rfl rfl (by omega))) ?_)); refine le rfl (AS rfl HE UY rfl rfl rfl (by rfl) rfl) ?_; rintro _ _ _ ⟨b20, rfl, rfl, rfl⟩; refine le rfl (Ba (f := Fo) (c := nth s i 0) rfl HE UY rfl rfl rfl rfl rfl rfl rfl (by exact JD _) (by simp only [maxLen]; omega) (by omega)) ?_; rintro v21 _ _ ⟨rfl, rfl⟩; refine Ax rfl (AV (AV (Ai (AH (AC 1 rfl (lq rfl (AX rfl rfl rfl (by omega)) ?_)))))); refine Ax rfl (Ak ((i + 1, v21, l ++ [nth s i 0], q)) ?_ ?_ (AB rfl) (AB rfl) (fun _ h => by dsimp only; exact AA h))
    ·dsimp only; exact ⟨by omega, by rw [hb, X5 EJ h2 Bd]; simp, by simp; omega, by rw [JR EJ, P4, ← hq, decide_eq_false (fun h => h2 (.inl h)), decide_eq_false (fun h => h2 (.inr h)), decide_eq_false Bd]; simp⟩
    ·dsimp only
     show s.length - (i + 1) < s.length - i; omega
 ·simp at hc0
  have Fm : i = s.length := by omega
  rw [Fm, List.drop_length, DN, List.append_nil] at hb; rw [Fm, List.take_length] at hq; refine BB (AG (AG (AQ (Ai (tr (AC 1 rfl (lq rfl (HU rfl HE CW un5 rfl) (Ae rfl (Aq ?_))))))))); refine Dt rfl rfl rfl (fun w' hw => ?_); refine ⟨?_, hw.below⟩; rw [hb, hq]
set_option maxHeartbeats 1000000 in
theorem Wt (s : List UInt8) (i : Nat) (d : List UInt8) (strip : Bool) (w : World) (hs : s.length ≤ 1000000000) (hi : i ≤ s.length) : Cw Tryz.prog 46 [Bj s, .int .i64 (i : Int), Bj d, .bool strip] w (.tuple #[Bj (OI i (LV strip d (s.drop i))).1, .int .i64 (OI i (LV strip d (s.drop i))).2]) := by
 refine enter Tryz.func46 rfl Tryz.ntmps46 rfl (St.start w (BF w) (Le.refl _)) (Ar rfl (Ar rfl (AN (AR (A8 (ι := Nat × Nat × List UInt8) (fun zz => i ≤ zz.1 ∧ zz.1 ≤ s.length ∧ LV strip d (s.drop i) = Hw.on zz.2.2 (zz.1 - i) (I5 strip d zz.2.1 (s.drop zz.1)) ∧ (s.drop zz.1).length ≤ zz.2.1 ∧ zz.2.2.length ≤ zz.1 - i) (fun zz => s.length - zz.1) (fun zz => [(1, .int .i64 (zz.1 : Int)), (10, Bj zz.2.2)]) [(0, _), (2, _), (3, _)] (fun zz => BF w) (fun zz => []) (i, (s.drop i).length, []) ?_ (AB rfl) (AB rfl) (fun _ h => AA h) ?_)))))
 ·dsimp only; exact ⟨Nat.le_refl _, hi, by rw [Nat.sub_self, Hw.on_zero]; rfl, Nat.le_refl _, Nat.zero_le _⟩
 rintro ⟨j, g, b⟩ ⟨hij, Qq, hx, IB, hbl⟩; dsimp only at *; refine AN (tr (AC 2 rfl (lq rfl (Ap rfl CW rfl) (Ae rfl (AF rfl (fun HB => ?_) (fun HB => ?_))))))
 ·simp at HB
  have Qs : j < s.length := by omega
  have Dh := S7 hx (DS Qs) IB
  refine Al (AR (Ar rfl (AN (AR (A8 (ι := Nat) (fun zz => j ≤ zz ∧ zz ≤ s.length ∧ ∀ k, j ≤ k → k < zz → nth s k 0 ≠ 10) (fun zz => s.length - zz) (fun zz => [(11, .int .i64 (zz : Int))]) [(1, _), (10, _), (0, _), (2, _), (3, _), (17, _)] (fun zz => BF w) (fun zz => []) j ?_ (AB rfl) (AB rfl) (fun _ h => AA h) ?_)))))
  ·exact ⟨Nat.le_refl _, Qq, fun k h1 h2 => by omega⟩
  rintro e ⟨hje, hel, ET⟩; dsimp only at *; refine AN (tq (AK 2 rfl (sq rfl (Ap rfl CW rfl) (AK 2 rfl ?_))))
  refine BA 4 4 23 28 27 _ _ rfl rfl rfl rfl rfl rfl (fun h28 => by
    simp at h28
    refine AJ 2 rfl (sg rfl ((by exact BP rfl CW rfl rfl (by omega))) ?_); refine sg rfl (PA rfl rfl rfl rfl) ?_; exact Ao rfl
   ) (AM rfl) rfl rfl rfl ?_
  refine Cy (AF rfl (fun BI => ?_) (fun BI => ?_))
  ·have h9 := BI
   rw [Bool.and_eq_true, decide_eq_true_eq] at h9
   have ANY : e < s.length := by omega
   have Hj : nth s e 0 ≠ 10 := of_decide_eq_true h9.2
   refine Al (AR (AH (AC 1 rfl (lq rfl (AX rfl rfl rfl (by omega)) ?_)))); refine Ax rfl (AV (Ak (e + 1) ?_ ?_ (AB rfl) (AB rfl) (fun _ h => by dsimp only; exact AA h)))
   ·refine ⟨by omega, by omega, fun k h1 h2 => ?_⟩; rcases Nat.lt_succ_iff_lt_or_eq.1 h2 with h | rfl
    ·exact ET k h1 h
    ·exact Hj
   ·show s.length - (e + 1) < s.length - e
    omega
  ·have J3 : e < s.length → nth s e 0 = 10 := fun h => by
    have h9 := BI
    rw [Bool.and_eq_false_iff, decide_eq_false_iff_not] at h9; rcases h9 with h9 | h9
    ·omega
    ·exact Decidable.not_not.1 (of_decide_eq_false h9)
   have hrm := PQ hje hel ET J3
   refine BB (AG (AG (AQ (Ai (tr (AC 3 rfl (lq rfl (GL rfl CW rfl rfl rfl (by omega)) ?_))))))); refine Ae rfl (AN (AR (A8 (ι := List UInt8) (fun zz => (if strip = true then Lib.trimLeftB ((s.drop j).take (e - j)) 9 else ((s.drop j).take (e - j))) = (if strip = true then Lib.trimLeftB zz 9 else zz) ∧ zz.length ≤ e - j) (fun zz => zz.length) (fun zz => [(12, Bj zz)]) [(11, _), (1, _), (10, _), (0, _), (2, _), (3, _), (17, _), (28, _)] (fun zz => BF w) (fun zz => []) ((s.drop j).take (e - j)) ?_ (AB rfl) (AB rfl) (fun _ h => AA h) ?_)))
   ·exact ⟨rfl, AAZ⟩
   rintro x ⟨hxx, hxl⟩; dsimp only at *; refine AN (tq (AK 2 rfl ?_))
   refine BA 2 1 36 39 38 _ _ rfl rfl rfl rfl rfl rfl (fun h39 => by
     refine AJ 1 rfl (sg rfl (C7 rfl rfl rfl) ?_); exact Ao rfl
    ) (AM rfl) rfl rfl rfl ?_
   refine AK 1 rfl ?_
   refine BA 3 5 40 44 43 _ _ rfl rfl rfl rfl rfl rfl (fun h44 => by
     simp at h44
     have hx0 := List.length_pos_iff.2 h44.2
     refine AJ 1 rfl (sg rfl ((by exact BP rfl CW rfl rfl (by omega))) ?_); refine sg rfl (Aw rfl rfl rfl rfl) ?_; exact Ao rfl
    ) (AM rfl) rfl rfl rfl ?_
   refine Cy (AF rfl (fun BU => ?_) (fun BU => ?_))
   ·have ht9 : strip = true ∧ x ≠ [] ∧ nth x 0 0 = 9 := by
     have h9 := BU
     rw [Bool.and_eq_true, Bool.and_eq_true, decide_eq_true_eq] at h9; exact ⟨h9.1.1, h9.1.2, of_decide_eq_true h9.2⟩
    have hx0 := List.length_pos_iff.2 ht9.2.1
    refine Al (AR (AH (AC 1 rfl (lq rfl (Cp rfl CW rfl rfl (by omega)) ?_)))); refine Ax rfl (AV (Ak (x.drop 1) ?_ ?_ (AB rfl) (AB rfl) (fun _ h => by dsimp only; exact AA h)))
    ·exact ⟨by rw [hxx, if_pos ht9.1, if_pos ht9.1, Z1 ht9.2.1 ht9.2.2], by simp; omega⟩
    ·show (x.drop 1).length < x.length
     have := List.length_pos_iff.2 ht9.2.1
     simp; omega
   ·have hdl : EU strip (s.drop j) = x := by
     unfold EU; rw [hrm.1, hxx]
     split
     ·rename_i En
      refine ABA ?_
      by_cases hx0 : x = []
      ·exact .inl hx0
      ·refine .inr fun h9 => ?_
       have h8 := BU
       rw [En, decide_eq_true hx0] at h8; exact absurd h9 (of_decide_eq_false h8)
     ·rfl
    refine BB (AG (AG (AQ (Ai (tr (AC 1 rfl (lq rfl (AX rfl rfl rfl (by omega)) ?_))))))); refine AC 1 rfl (lq rfl (Ap rfl CW rfl) (lq rfl (VV rfl rfl rfl) (Ae rfl (AN (tr (AC 2 rfl (lq rfl (BM rfl rfl rfl) (ln (AF rfl (fun Bd => ?_) (fun Bd => ?_))))))))))
    ·simp at Bd
     have Bb := Dh.1 (by rw [hdl]; exact Bd)
     rw [hrm.1, List.length_drop] at Bb; refine Ar rfl (C0 (Dt rfl rfl rfl (fun w' hw => ?_))); refine ⟨?_, hw.below⟩; rw [Bb]
     show Ending.returned (.tuple #[Bj b, .int .i64 _]) = Ending.returned (.tuple #[Bj b, .int .i64 ((i + (j - i + min (e - j + 1) (s.length - j)) : Nat) : Int)])
     rw [show min ((e : Int) + 1) (s.length : Int) = ((i + (j - i + min (e - j + 1) (s.length - j)) : Nat) : Int) by omega]
    ·simp at Bd
     have hxd : EU strip (s.drop j) ≠ d := by rw [hdl]; exact Bd
     refine Al (AN (tr (AC 2 rfl (lq rfl (Ap rfl CW rfl) (Ae rfl (AF rfl (fun Cg => ?_) (fun Cg => ?_)))))))
     ·simp at Cg
      have X4 := (Dh.2 hxd).1 (by rw [hrm.2]; exact decide_eq_false (by omega))
      refine Ar rfl (C0 (Dt rfl rfl rfl (fun w' hw => ?_))); refine ⟨?_, hw.below⟩
      rw [X4]; try rfl
     ·simp at Cg
      have AQS : e < s.length := by omega
      refine Al (tr (AC 2 rfl (lq rfl (Dk rfl rfl rfl (by omega)) ?_))); refine lq rfl (Dk rfl rfl rfl (by (simp only [List.length_append, List.length_cons, List.length_nil]; omega))) ?_; refine Ae rfl (AH (Ax rfl (AV (Ak ((e + 1, g - 1, b ++ (x ++ [10]))) ?_ ?_ (Bl rfl (congrArg (Value.int IntKind.i64) (by omega)) (Bl rfl (congrArg Bj (by simp)) (AW))) (AB rfl) (fun _ h => by dsimp only; exact AA h)))))
      ·dsimp only
       have h3 := (Dh.2 hxd).2 (by rw [hrm.2]; exact decide_eq_true (by omega))
       rw [List.drop_drop, hdl, hrm.1] at h3; exact ⟨by omega, by omega, by rw [h3, show j + (e - j + 1) = e + 1 by omega, show j - i + (e - j + 1) = e + 1 - i by omega], by rw [List.length_drop] at IB ⊢; omega, by simp; omega⟩
      ·dsimp only
       show s.length - (e + 1) < s.length - j
       omega
 ·simp at HB
  have hje : j = s.length := by omega
  rw [hje, List.drop_length, RP] at hx; refine BB (AG (AG (AQ (Ai (Ar rfl (Aq (Dt rfl rfl rfl (fun w' hw => ?_)))))))); refine ⟨?_, hw.below⟩
  rw [hx]; try rfl
end Go.Tri

namespace Go.Tri
open Go.Proofs Go.RowKit
set_option maxRecDepth 10000
theorem AAY {r : SR} (h : K2 r ≠ 0) : ∃ a e, r = .bad a e := by
 cases r with
 | ok k => exact absurd rfl h
 | bad a e => exact ⟨a, e, rfl⟩
theorem AFF {r : SR} (hf : EO r) (h : K2 r = 0) : ∃ k, r = .ok k := by
 cases r with
 | ok k => exact ⟨k, rfl⟩
 | bad a e => exact absurd h hf
def RLn (s : List UInt8) (i : Nat) (I : AU) (F : List HA) (v : Value) (I' : AU) (H' : List HA) : Prop :=
 Le I I' ∧ ∃ tv l jb ab eb, v = .tuple #[tv, .agg #[.int .i64 ((jb : Nat) : Int), .int .i64 ((ab : Nat) : Int), .int .i64 ((eb : Nat) : Int)]] ∧ H' = BO 73 5 BZ tv l :: F ∧ LnE i (DE (s.length + 1) i (s.drop i)) l jb ab eb ∧ (∀ t ∈ l, Qt t) ∧ l.length ≤ s.length + 1 ∧ (eb = 0 → jb ≤ s.length)
theorem ACw {s : List UInt8} {i : Nat} {I J : AU} {F : List HA} {tv : Value} {l : List CX} {k jb : Nat} (hJ : Le I J) (h : DE (s.length + 1) i (s.drop i) = .ok l k) (hk : ∀ t ∈ l, Qt t) (hl : l.length ≤ s.length + 1) (hj : jb = i + k) (Qs : jb ≤ s.length) :
  RLn s i I F (.tuple #[tv, .agg #[.int .i64 ((jb : Nat) : Int), .int .i64 0, .int .i64 0]]) J (BO 73 5 BZ tv l :: F) := by
 refine ⟨hJ, tv, l, jb, 0, 0, rfl, rfl, ?_, hk, hl, fun _ => Qs⟩
 rw [h]; exact ⟨rfl, hj, rfl, rfl⟩
theorem YK {s : List UInt8} {i : Nat} {I J : AU} {F : List HA} {a e : Nat} (hJ : Le I J) (h : DE (s.length + 1) i (s.drop i) = .bad a e) (he : e ≠ 0) :
  RLn s i I F (.tuple #[.slice none 0 0, .agg #[.int .i64 0, .int .i64 ((a : Nat) : Int), .int .i64 ((e : Nat) : Int)]]) J (BO 73 5 BZ (.slice none 0 0) [] :: F) := by
 refine ⟨hJ, _, [], 0, a, e, rfl, rfl, ?_, fun _ h => (by cases h), Nat.zero_le _, fun h => absurd h he⟩
 rw [h]; exact ⟨he, rfl, rfl⟩
theorem UA {l : List CX} {t : CX} (h : ∀ u ∈ l, Qt u) (ht : Qt t) : ∀ u ∈ l ++ [t], Qt u := fun u hu => by
 rcases List.mem_append.1 hu with h1 | h1
 ·exact h u h1
 ·rw [List.mem_singleton] at h1; rw [h1]; exact ht
theorem AIQ {k : Nat} (h : k = 1 ∨ k = 4) (x : List UInt8) (p : Nat) : Qt ⟨k, x, p, [], false⟩ := ⟨fun h3 => by (rcases h with rfl | rfl <;> cases h3), fun h3 => by (rcases h with rfl | rfl <;> cases h3)⟩
theorem XZ {m : Nat} (h : m < 17) : (nth FY m []).length ≤ 1000 := by
 have : ∀ m, m < 17 → (nth FY m []).length ≤ 1000 := by decide
 exact this m h
theorem ZQ {s : List UInt8} {j k : Nat} (hk : (s.drop j).take k ≠ []) : Ez (s.drop j) k = (T7 ((s.drop j).take k) && decide (((j + k : Nat) : Int) < (s.length : Int)) && (decide (nth s (j + k) 0 = 60) || decide (nth s (j + k) 0 = 62))) := by
 rw [TW hk, List.drop_drop, Bool.and_assoc]
 congr 1
 by_cases h : j + k < s.length
 ·rw [Ek h, Ek h, decide_eq_true (show ((j + k : Nat) : Int) < (s.length : Int) by omega), Bool.true_and]
 ·rw [List.drop_of_length_le (by omega), U7 (by simp), U7 (by simp), decide_eq_false (show ¬ ((j + k : Nat) : Int) < (s.length : Int) by omega), Bool.false_and]; try rfl
theorem LQ.le {s : List UInt8} {a i : Nat} {T : I7} {l : List CX} (h : LQ s a T i l) : a ≤ i ∧ i ≤ s.length := by
 obtain ⟨p, f, g, h1, h2, h3, _⟩ := h; exact ⟨by omega, h3⟩
set_option maxHeartbeats 2000000 in
theorem Sf (s : List UInt8) (i : Nat) (I : AU) (F : List HA) (w0 w : World) (hs : s.length ≤ 1000000000) (hi : i ≤ s.length) (CE : St w0 I F w) : Calls Tryz.prog 44 [Bj s, .int .i64 (i : Int)].toArray w (fun e w' => ∃ v, e = .returned v ∧ ∃ I' H', RLn s i I F v I' H' ∧ St w I' H' w') := by
 refine enter Tryz.func44 rfl Tryz.ntmps44 rfl (CE.self) (tr (AC 1 rfl (le rfl (Ah rfl B8 rfl) ?_))); rintro _ _ _ ⟨b5, rfl, rfl, rfl⟩; refine BQ (Ae rfl (Ar rfl (tr (le rfl (Cb (vs := [_, _, _, _, _, _, _, _, _, _, _, _, _, _, _, _, _]) (css := [Bo [60, 60, 45], Bo [38, 38], Bo [124, 124], Bo [59, 59], Bo [60, 60], Bo [62, 62], Bo [60, 38], Bo [62, 38], Bo [60, 62], Bo [62, 124], Bo [38], Bo [59], Bo [124], Bo [60], Bo [62], Bo [40], Bo [41]]) rfl CD CU rfl rfl rfl rfl (rfl) (by simp [Bo])) ?_)))); rintro _ _ _ ⟨b14, rfl, rfl, rfl⟩; refine AI (H' := BO 9 1 Bo (.slice (some ⟨b14, 0, none⟩) 17 17) FY :: _) ?_ (fun _ h => A7 h rfl (by decide)); refine BG (f := Bo) (l := FY) (.slice (some ⟨b14, 0, none⟩) 17 17) (fun _ => rfl) (fun Jo VX JT => ?_); refine Ae rfl (AN (AR (A8 (ι := Nat × List CX × Value) (fun zz => LQ s i (DE (s.length + 1) i (s.drop i)) zz.1 zz.2.1 ∧ (∀ t ∈ zz.2.1, Qt t) ∧ zz.2.1.length ≤ zz.1) (fun zz => s.length - zz.1) (fun zz => [(7, .int .i64 (zz.1 : Int)), (6, zz.2.2)]) [(0, _), (1, _), (5, _), (8, _)] (fun zz => Jo) (fun zz => (BO 73 5 BZ zz.2.2 zz.2.1 :: row b5 91 [.int .i64 (0 : Int), .int .i64 (0 : Int), .int .i64 (0 : Int)] :: F)) (i, [], .slice none 0 0) ?_ (AB rfl) (AB rfl) (fun _ h => AA (CS 73 5 BZ h)) ?_)))
 ·dsimp only; exact ⟨Zk hi, fun _ h => (by cases h), Nat.zero_le _⟩
 rintro ⟨j, l, tv⟩ ⟨hq, R7, Ki⟩; dsimp only at *
 have Lk := hq.le
 refine AN (tr (AC 2 rfl (lq rfl (Ap rfl CW rfl) (Ae rfl (AF rfl (fun HB => ?_) (fun HB => ?_))))))
 ·simp at HB
  have Qs : j < s.length := by omega
  refine Al (AR (AN (AR (tr (AC 2 rfl (lq rfl (qc rfl rfl rfl ((fun w _ => LI s [92, 10] j w (by omega) (by omega) (by decide)))) ?_)))))); refine Ae rfl (AF rfl (fun BI => ?_) (fun BI => ?_))
  ·refine tr (AC 1 rfl (lq rfl (AX rfl rfl rfl (by omega)) ?_)); refine Ae rfl (BB (CB rfl (AG (AQ (Ak ((j + 2, l, tv)) ?_ ?_ (AB rfl) (AB rfl) (fun _ h => by dsimp only; exact AA h))))))
   ·dsimp only; exact ⟨Np hq Qs (by unfold Ce; rw [if_pos BI]) (by decide), R7, by omega⟩
   ·dsimp only
    show s.length - (j + 2) < s.length - j
    omega
  ·refine tq (AK 2 rfl (sq rfl ((by exact BP rfl CW rfl rfl (by omega))) ?_)); refine sq rfl (Aw rfl rfl rfl rfl) (AK 1 rfl ?_)
   refine Bf 4 4 30 35 34 _ _ rfl rfl rfl rfl rfl rfl (fun h35 => by
     simp at h35
     refine AJ 2 rfl (sg rfl ((by exact BP rfl CW rfl rfl (by omega))) ?_); refine sg rfl (Aw rfl rfl rfl rfl) ?_; exact Ao rfl
    ) (AM rfl) rfl rfl rfl ?_
   refine AK 1 rfl (Cy (AF rfl (fun BU => ?_) (fun BU => ?_)))
   ·have BU : (decide (nth s j 0 = 32) || decide (nth s j 0 = 9)) = true := by rw [Bool.or_comm]; exact BU
    refine tr (AC 1 rfl (lq rfl (AX rfl rfl rfl (by omega)) ?_)); refine Ae rfl (BB (CB rfl (AG (AQ (Ak ((j + 1, l, tv)) ?_ ?_ (AB rfl) (AB rfl) (fun _ h => by dsimp only; exact AA h))))))
    ·dsimp only; exact ⟨Np hq Qs (by unfold Ce; rw [if_neg (by rw [BI]; simp), Ea, Nat.add_zero, BU, if_pos rfl]) (by decide), R7, by omega⟩
    ·dsimp only
     show s.length - (j + 1) < s.length - j
     omega
   ·have BU : (decide (nth s j 0 = 32) || decide (nth s j 0 = 9)) = false := by rw [Bool.or_comm]; exact BU
    refine tr (AC 2 rfl (lq rfl ((by exact BP rfl CW rfl rfl (by omega))) ?_)); refine lq rfl (Aw rfl rfl rfl rfl) (Ae rfl (AF rfl (fun Bd => ?_) (fun Bd => ?_)))
    ·simp only [decide_eq_true_eq] at Bd
     have Bd : nth s j 0 = 35 := Bd
     refine AN (AR (A8 (ι := Nat) (fun zz => j ≤ zz ∧ zz ≤ s.length ∧ ∀ m, j ≤ m → m < zz → nth s m 0 ≠ 10) (fun zz => s.length - zz) (fun zz => [(7, .int .i64 (zz : Int))]) [(6, _), (0, _), (1, _), (5, _), (8, _), (18, _), (19, _), (25, _), (38, _)] (fun zz => Jo) (fun zz => (BO 73 5 BZ tv l :: row b5 91 [.int .i64 (0 : Int), .int .i64 (0 : Int), .int .i64 (0 : Int)] :: F)) j ?_ (AB rfl) (AB rfl) (fun _ h => AA h) ?_))
     ·exact ⟨Nat.le_refl _, by omega, fun m h1 h2 => by omega⟩
     rintro e ⟨hje, hel, ET⟩; dsimp only at *; refine AN (tq (AK 2 rfl (sq rfl (Ap rfl CW rfl) (AK 2 rfl ?_))))
     refine BA 4 4 47 52 51 _ _ rfl rfl rfl rfl rfl rfl (fun h52 => by
       simp at h52
       refine AJ 2 rfl (sg rfl ((by exact BP rfl CW rfl rfl (by omega))) ?_); refine sg rfl (PA rfl rfl rfl rfl) ?_; exact Ao rfl
      ) (AM rfl) rfl rfl rfl ?_
     refine Cy (AF rfl (fun Cg => ?_) (fun Cg => ?_))
     ·have h9 := Cg
      rw [Bool.and_eq_true, decide_eq_true_eq] at h9
      have ANY : e < s.length := by omega
      have Hj : nth s e 0 ≠ 10 := of_decide_eq_true h9.2
      refine Al (AR (AH (AC 1 rfl (lq rfl (AX rfl rfl rfl (by omega)) ?_)))); refine Ax rfl (AV (Ak (e + 1) ?_ ?_ (AB rfl) (AB rfl) (fun _ h => by dsimp only; exact AA h)))
      ·refine ⟨by omega, by omega, fun m h1 h2 => ?_⟩; rcases Nat.lt_succ_iff_lt_or_eq.1 h2 with h | rfl
       ·exact ET m h1 h
       ·exact Hj
      ·show s.length - (e + 1) < s.length - e
       omega
     ·have J3 : e < s.length → nth s e 0 = 10 := fun h => by
       have h9 := Cg
       rw [Bool.and_eq_false_iff, decide_eq_false_iff_not] at h9; rcases h9 with h9 | h9
       ·omega
       ·exact Decidable.not_not.1 (of_decide_eq_false h9)
      have hrm := PQ hje hel ET J3
      have hej : j < e := by
       rcases Nat.lt_or_eq_of_le hje with h | h
       ·exact h
       ·subst h; rw [J3 Qs] at Bd; exact absurd Bd (by decide)
      refine BB (AG (AG (AQ (Ai (BB (CB rfl (AG (AQ (Ak ((e, l, tv)) ?_ ?_ (AB rfl) (AB rfl) (fun _ h => by dsimp only; exact AA h))))))))))
      ·dsimp only; exact ⟨by have h9 := Np hq Qs (k := e - j) (by unfold Ce; rw [if_neg (by rw [BI]; simp), Ea, Nat.add_zero, BU, if_neg (by simp), if_pos Bd, hrm.1]) (by omega); rwa [show j + (e - j) = e by omega] at h9, R7, by omega⟩
      ·dsimp only
       show s.length - (e) < s.length - j
       omega
    ·simp only [decide_eq_false_iff_not] at Bd
     have Bd : ¬ nth s j 0 = 35 := Bd
     have Qp : Ce (s.drop j) = 0 := by unfold Ce; rw [if_neg (by rw [BI]; simp), Ea, Nat.add_zero, BU, if_neg (by simp), if_neg Bd]
     refine tr (AC 2 rfl (lq rfl ((by exact BP rfl CW rfl rfl (by omega))) ?_)); refine lq rfl (Aw rfl rfl rfl rfl) (Ae rfl (AF rfl (fun C1 => ?_) (fun C1 => ?_)))
     ·simp only [decide_eq_true_eq] at C1
      have C1 : nth s j 0 = 10 := C1
      have hhd : E3 (s.drop j) = .tok 0 1 3 [10] := by unfold E3; rw [Ea, Nat.add_zero, if_pos C1]
      have hT := (Py hq Qs Qp hhd ⟨Nat.le_refl _, by omega⟩).1 rfl
      refine tr (AC 2 rfl (lq rfl (A6 (pl := [(_, _), (_, _), (_, _), (_, _), (_, _)]) (cs := (BZ (⟨3, [10], j, [], false⟩ : CX)).toArray) rfl Cz BL ⟨rfl, ⟨_, _, B0⟩, rfl, ⟨_, _, CU⟩, rfl, ⟨_, _, B0⟩, rfl, ⟨_, _, CU⟩, rfl, ⟨_, _, De⟩, trivial⟩ rfl rfl) (le rfl (AS rfl Dx BL rfl rfl rfl (by rfl) rfl) ?_))); rintro _ _ _ ⟨b63, rfl, rfl, rfl⟩; refine le rfl (Ba (f := BZ) (c := (⟨3, [10], j, [], false⟩ : CX)) rfl Dx BL rfl rfl rfl rfl rfl rfl rfl (A4 _) (by simp only [maxLen]; omega) (by omega)) ?_; rintro v64 _ _ ⟨rfl, rfl⟩; refine AC 1 rfl (lq rfl (AX rfl rfl rfl (by omega)) ?_); refine lq rfl (A6 (pl := [(_, _), (_, _), (_, _)]) (cs := ([.int .i64 ((j : Int) + 1), .int .i64 0, .int .i64 0]).toArray) rfl Dr B8 ⟨rfl, ⟨_, _, B0⟩, rfl, ⟨_, _, B0⟩, rfl, ⟨_, _, B0⟩, trivial⟩ rfl rfl) (AC 1 rfl (An rfl rfl ((by exact AE rfl B8 rfl rfl rfl (by simp [Value.oneCell']) rfl)) ?_)); rintro _ _ _ ⟨rfl, rfl⟩; refine ln (Aq (As (Ag (As (Ag (As (Ag (A3 (.inl rfl) rfl (by exact Dc rfl (BK rfl Dr B8 rfl rfl (BJ))) (fun w' hw => ?_))))))))); exact ⟨_, rfl, Jo, _, ACw (jb := j + 1) VX hT (UA R7 ⟨fun _ => rfl, fun h => (by cases h)⟩) (by simp; omega) (by omega) (by omega), AA hw⟩
     ·simp only [decide_eq_false_iff_not] at C1
      have C1 : ¬ nth s j 0 = 10 := C1
      refine Au (AV (Ai (Ar rfl (AN (Ar rfl (AR (A8 (ι := Nat) (fun zz => zz ≤ 17) (fun zz => 17 - zz) (fun zz => [(10, .int .i64 (zz : Int)), (9, Bj (Ga (s.drop j) zz))]) [(7, _), (6, _), (0, _), (1, _), (5, _), (8, _), (18, _), (19, _), (25, _), (38, _), (55, _)] (fun zz => Jo) (fun zz => (BO 73 5 BZ tv l :: row b5 91 [.int .i64 (0 : Int), .int .i64 (0 : Int), .int .i64 (0 : Int)] :: F)) 0 ?_ (AB rfl) (AB rfl) (fun _ h => AA h) ?_)))))))
      ·exact Nat.zero_le _
      rintro m ARp; dsimp only at *; refine AN (tq (AK 2 rfl ?_)); refine sq rfl ((by exact CN rfl CD rfl (Sl.lenOf (n := 17) JT rfl))) ?_; refine AK 2 rfl ?_
      refine BA 2 4 72 75 74 _ _ rfl rfl rfl rfl rfl rfl (fun h75 => by
        simp at h75
        refine AJ 1 rfl (sg rfl (BM rfl rfl rfl) ?_); exact Ao rfl
       ) (AM rfl) rfl rfl rfl ?_
      refine Cy (AF rfl (fun Dd => ?_) (fun Dd => ?_))
      ·have h9 := Dd
       rw [Bool.and_eq_true, decide_eq_true_eq, decide_eq_true_eq] at h9
       have hm : m < 17 := by omega
       have hfe : (Ga (s.drop j) m) = [] := h9.2
       refine Al (AN (AR (tr (AC 4 rfl ?_)))); refine lq rfl ((by exact A5 rfl CD CU rfl rfl (Sl.shape (n := 17) JT rfl) (by omega))) ?_; refine lq rfl ((by exact B1 rfl rfl (Iw (i := m) JT (show m < FY.length from hm)))) ?_; refine lq rfl (qc rfl rfl rfl ((fun w _ => LI s (nth FY m []) j w (by omega) (by omega) (XZ hm)))) ?_; refine ln (AF rfl (fun EW => ?_) (fun EW => ?_))
       ·refine AH (AC 2 rfl ?_); refine lq rfl ((by exact A5 rfl CD CU rfl rfl (Sl.shape (n := 17) JT rfl) (by omega))) ?_; refine lq rfl ((by exact B1 rfl rfl (Iw (i := m) JT (show m < FY.length from hm)))) ?_; refine Ax rfl (AV (Ai (AH (AC 1 rfl (lq rfl (AX rfl rfl rfl (by omega)) ?_))))); refine Ax rfl (Ak (m + 1) ?_ ?_ (FI rfl (Bl rfl (by rw [S1 _ (show m < FY.length from hm) hfe, if_pos EW]) (AW))) (AB rfl) (fun _ h => by dsimp only; exact AA h))
        ·omega
        ·omega
       ·refine Au (AV (Ai (AH (AC 1 rfl (lq rfl (AX rfl rfl rfl (by omega)) ?_))))); refine Ax rfl (Ak (m + 1) ?_ ?_ (FI rfl (Bl rfl (by rw [S1 _ (show m < FY.length from hm) hfe, if_neg (by rw [EW]; simp), hfe]) (AW))) (AB rfl) (fun _ h => by dsimp only; exact AA h))
        ·omega
        ·omega
      ·have Lg : (Ga (s.drop j) m) = Ng (s.drop j) := by
        have h9 := Dd
        rw [Bool.and_eq_false_iff, decide_eq_false_iff_not, decide_eq_false_iff_not] at h9; rw [← Pz]; rcases h9 with h9 | h9
        ·have h8 : m = 17 := by omega
         rw [h8]; try rfl
        ·have h8 := TC (s.drop j) (17 - m) m h9
         rw [show m + (17 - m) = 17 by omega] at h8; exact h8.symm
       refine BB (AG (AG (AQ (Ai (AN (tr (AC 1 rfl (lq rfl (C7 rfl rfl rfl) (ln ?_))))))))); refine AF rfl (fun HF => ?_) (fun HF => ?_)
       ·simp only [decide_eq_true_eq] at HF
        have AMg : (Ga (s.drop j) m) ∈ FY := by rw [Lg] at HF ⊢; exact ABo HF
        have hhd : E3 (s.drop j) = .tok 0 (Ga (s.drop j) m).length 2 (Ga (s.drop j) m) := by unfold E3; rw [Ea, Nat.add_zero, if_neg C1, if_pos (by rw [← Lg]; exact HF), Lg]
        have Vx : 1 ≤ (Ga (s.drop j) m).length ∧ j + (Ga (s.drop j) m).length ≤ s.length := by
         have h1 := List.length_pos_iff.2 HF
         have h2 := (LD 3 (s.drop j)).1
         have h3 : OX 3 (s.drop j) = (Ga (s.drop j) m) := Lg.symm
         rw [h3, List.length_drop] at h2; exact ⟨h1, by omega⟩
        refine tr (AC 3 rfl (lq rfl (A6 (pl := [(_, _), (_, _), (_, _), (_, _), (_, _)]) (cs := (BZ (⟨2, (Ga (s.drop j) m), j, [], false⟩ : CX)).toArray) rfl Cz BL ⟨rfl, ⟨_, _, B0⟩, rfl, ⟨_, _, CU⟩, rfl, ⟨_, _, B0⟩, rfl, ⟨_, _, CU⟩, rfl, ⟨_, _, De⟩, trivial⟩ rfl rfl) (le rfl (AS rfl Dx BL rfl rfl rfl (by rfl) rfl) ?_))); rintro _ _ _ ⟨b95, rfl, rfl, rfl⟩; refine le rfl (Ba (f := BZ) (c := (⟨2, (Ga (s.drop j) m), j, [], false⟩ : CX)) rfl Dx BL rfl rfl rfl rfl rfl rfl rfl (A4 _) (by simp only [maxLen]; omega) (by omega)) ?_; rintro v96 _ _ ⟨rfl, rfl⟩; refine Ae rfl (tr (AC 2 rfl (lq rfl (Ap rfl CW rfl) (lq rfl (AX rfl rfl rfl (by omega)) ?_)))); refine Ae rfl (BB (AG (AQ (Ak ((j + (Ga (s.drop j) m).length, l ++ [(⟨2, (Ga (s.drop j) m), j, [], false⟩ : CX)], v96)) ?_ ?_ (Bl rfl (congrArg (Value.int IntKind.i64) (by omega)) (AB rfl)) (AB rfl) (fun _ h => by dsimp only; exact AA h)))))
        ·dsimp only
         have h9 := Py hq Qs Qp hhd ⟨Vx.1, Vx.2⟩
         exact ⟨h9.2 (by decide), UA R7 ⟨fun h => (by cases h), fun _ => AMg⟩, by simp; omega⟩
        ·dsimp only
         show s.length - (j + (Ga (s.drop j) m).length) < s.length - j
         omega
       ·simp only [decide_eq_false_iff_not] at HF
        have AJM : Ng (s.drop j) = [] := by rw [← Lg]; simpa using HF
        have QU := R2 (DS Qs) Qp (by rw [Ea, Nat.add_zero]; exact C1) AJM
        have P1 : E3 (s.drop j) = Hx (s.drop j) := by unfold E3; rw [Ea, Nat.add_zero, if_neg C1, if_neg (by rw [AJM]; simp)]
        refine Al (tr (AC 2 rfl (lq rfl (qc rfl rfl rfl ((fun w _ => Te s j w (by omega) (by omega)))) ?_))); refine le rfl (Ah rfl B8 rfl) ?_; rintro _ _ _ ⟨b11, rfl, rfl, rfl⟩; refine An rfl rfl ((by exact AE rfl B8 rfl rfl rfl (by simp [Value.oneCell']) rfl)) ?_; rintro _ _ _ ⟨rfl, rfl⟩; refine AI (H' := row b11 91 [.int .i64 (MX j (EN (s.drop j)) : Int), .int .i64 (My j (EN (s.drop j)) : Int), .int .i64 (K2 (EN (s.drop j)) : Int)] :: _) ?_ (fun _ h => h); refine K6 (AC 1 rfl (lq rfl ((by exact AZ rfl rfl (by rfl))) ?_)); refine Ae rfl (AF rfl (fun J0 => ?_) (fun J0 => ?_))
        ·simp at J0
         obtain ⟨a9, e9, hw9⟩ := AAY (show K2 (EN (s.drop j)) ≠ 0 by omega)
         have hT := Xb hq Qs Qp (x := a9) (e := e9) (by rw [P1]; unfold Hx; rw [hw9])
         have OY : e9 ≠ 0 := by
          have h9 : EO (EN (s.drop j)) := Gj _ _
          rw [hw9] at h9; exact h9
         rw [hw9]; dsimp only [MX, My, K2]; refine AN (DH [2] [] [] mo (by kernel_rfl) (fun _ _ _ _ _ h => h) (IC 0 (by kernel_rfl) rfl rfl (Af rfl Dr B8 rfl rfl rfl) (Bg [1] (by kernel_rfl) rfl rfl rfl (Eu 2 (by kernel_rfl) (by kernel_rfl) rfl (Le.refl _) rfl rfl ((by exact AE rfl B8 rfl rfl rfl (by simp [Value.oneCell']) rfl)) ?_)))); rintro _ _ _ ⟨rfl, rfl⟩; refine ⟨Le.refl _, .inr CY.sub, ?_⟩; refine D3 (by kernel_rfl) (Ai (Aq (Ag (As (Ag (As (Ag (A3 (.inl rfl) rfl (by exact Dc rfl (BK rfl Dr B8 rfl rfl (BJ))) (fun w' hw => ?_))))))))); exact ⟨_, rfl, Jo, _, YK (a := j + a9) (e := e9) VX hT OY, AA (CS 73 5 BZ hw)⟩
        ·simp at J0
         obtain ⟨k, hw9⟩ := AFF (r := (EN (s.drop j))) (Gj _ _) (by omega)
         have GO := Xd (DS Qs) QU hw9
         have OZ : j + k ≤ s.length := by have := L8 hw9; rw [List.length_drop] at this; omega
         have XP : ((s.drop j).take k).length = k := by rw [List.length_take, List.length_drop]; omega
         have AGj : ((s.drop j).take k) ≠ [] := fun h => by rw [h] at XP; simp at XP; omega
         rw [hw9]; dsimp only [MX, My, K2]; refine Al (tr (AC 3 rfl (lq rfl ((by exact AZ rfl rfl (by rfl))) ?_))); refine lq rfl (GL rfl CW rfl rfl rfl (by omega)) ?_; rw [show Int.toNat ((j + k : Nat) : Int) - Int.toNat ((j : Nat) : Int) = k by omega]; refine AC 1 rfl (lq rfl (A6 (pl := [(_, _), (_, _), (_, _), (_, _), (_, _)]) (cs := (BZ (⟨1, ((s.drop j).take k), j, [], false⟩ : CX)).toArray) rfl Cz BL ⟨rfl, ⟨_, _, B0⟩, rfl, ⟨_, _, CU⟩, rfl, ⟨_, _, B0⟩, rfl, ⟨_, _, CU⟩, rfl, ⟨_, _, De⟩, trivial⟩ rfl rfl) (le rfl (Ah rfl BL rfl) ?_)); rintro _ _ _ ⟨b12, rfl, rfl, rfl⟩; refine An rfl rfl ((by exact AE rfl BL rfl rfl rfl (by exact A4 _) rfl)) ?_; rintro _ _ _ ⟨rfl, rfl⟩; refine AI (H' := row b12 73 (BZ (⟨1, ((s.drop j).take k), j, [], false⟩ : CX)) :: _) ?_ (fun _ h => h); refine K6 (AC 1 rfl (lq rfl ((by exact AZ rfl rfl (by rfl))) ?_)); refine lq rfl (Ap rfl CW rfl) (Ae rfl (AF rfl (fun GH => ?_) (fun GH => ?_)))
         ·simp at GH
          have hT := Xb hq Qs Qp (x := 0) (e := 51) (by rw [P1]; unfold Hx; rw [hw9]; simp only; rw [if_pos (by omega)])
          refine tr (AC 1 rfl (lq rfl (A6 (pl := [(_, _), (_, _), (_, _)]) (cs := ([.int .i64 0, .int .i64 (j : Int), .int .i64 51]).toArray) rfl Dr B8 ⟨rfl, ⟨_, _, B0⟩, rfl, ⟨_, _, B0⟩, rfl, ⟨_, _, B0⟩, trivial⟩ rfl rfl) (AC 1 rfl (An rfl rfl ((by exact AE rfl B8 rfl rfl rfl (by simp [Value.oneCell']) rfl)) ?_)))); rintro _ _ _ ⟨rfl, rfl⟩; refine ln (Aq (Ag (As (Ag (As (Ag (A3 (.inl rfl) rfl (by exact Dc rfl (BK rfl Dr B8 rfl rfl (BJ))) (fun w' hw => ?_)))))))); exact ⟨_, rfl, Jo, _, YK (a := j) (e := 51) VX hT (by decide), AA (CS 73 5 BZ hw)⟩
         ·simp at GH
          have AOF : ∀ {kd : Nat}, kd = (if Ez (s.drop j) k then 4 else 1) → E3 (s.drop j) = .tok 0 k kd ((s.drop j).take k) := fun h => by rw [P1]; unfold Hx; rw [hw9]; simp only; rw [if_neg (by omega), h]
          refine Al (Bh (ι := Nat) (fun zz => zz = (if Ez (s.drop j) k then 4 else 1)) (fun zz => []) [(10, _), (9, _), (7, _), (6, _), (0, _), (1, _), (5, _), (8, _), (18, _), (19, _), (25, _), (38, _), (55, _), (75, _), (90, _), (11, _), (106, _), (12, _), (118, _)] (fun zz => Jo) (fun zz => (row b12 73 (BZ (⟨zz, ((s.drop j).take k), j, [], false⟩ : CX)) :: row b11 91 [.int .i64 ((j + k : Nat) : Int), .int .i64 ((0 : Nat) : Int), .int .i64 ((0 : Nat) : Int)] :: BO 73 5 BZ tv l :: row b5 91 [.int .i64 (0 : Int), .int .i64 (0 : Int), .int .i64 (0 : Int)] :: F)) (AB rfl) ?_ ?_)
          ·refine tq (AK 1 rfl (sq rfl ((by exact AZ rfl rfl (by rfl))) ?_)); refine sq rfl (qc rfl rfl rfl ((fun w _ => QX ((s.drop j).take k) w (by rw [List.length_take]; omega)))) ?_; refine AK 1 rfl ?_
           refine BA 5 3 124 130 129 _ _ rfl rfl rfl rfl rfl rfl (fun ARN => by
             refine AJ 1 rfl (sg rfl ((by exact AZ rfl rfl (by rfl))) ?_); refine AJ 1 rfl (sg rfl (Ap rfl CW rfl) (AJ 1 rfl ?_)); exact Ao rfl
            ) (AM rfl) rfl rfl rfl ?_
           refine AK 1 rfl ?_
           refine BA 12 10 131 144 143 _ _ rfl rfl rfl rfl rfl rfl (fun ANB => by
             simp at ANB
             refine AJ 2 rfl (sg rfl ((by exact AZ rfl rfl (by rfl))) ?_); refine sg rfl ((by exact BP rfl CW rfl rfl (by omega))) ?_; refine sg rfl (Aw rfl rfl rfl rfl) (AJ 1 rfl ?_)
             refine Bf 5 16 137 143 142 _ _ rfl rfl rfl rfl rfl rfl (fun ALw => by
               simp at ALw
               refine AJ 2 rfl (sg rfl ((by exact AZ rfl rfl (by rfl))) ?_); refine sg rfl ((by exact BP rfl CW rfl rfl (by omega))) ?_; refine sg rfl (Aw rfl rfl rfl rfl) ?_; exact Ao rfl
              ) (Be rfl rfl rfl rfl) rfl rfl rfl ?_
             exact Ao rfl
            ) (AM rfl) rfl rfl rfl ?_
           refine Cy (AF rfl (fun Ka => ?_) (fun Ka => ?_))
           ·have MW : Ez (s.drop j) k = true := by rw [ZQ AGj]; exact Ka
            refine AH (AC 1 rfl ?_); refine An rfl rfl (Ac rfl B0 rfl rfl (by exact ⟨rfl, rfl⟩) rfl (by rfl)) ?_; rintro _ _ _ ⟨rfl, rfl⟩; refine AI (H' := row b12 73 (BZ (⟨4, ((s.drop j).take k), j, [], false⟩ : CX)) :: _) ?_ (fun _ h => h); refine BX (Av (4) ?_ (AW) (AB rfl) (fun _ h => by dsimp only; exact AA h))
            ·rw [if_pos MW]
           ·have MW : Ez (s.drop j) k = false := by rw [ZQ AGj]; exact Ka
            refine Au (Av (1) ?_ (AW) (AB rfl) (fun _ h => by dsimp only; exact AA h))
            ·rw [if_neg (by rw [MW]; simp)]
          rintro kd hkd; dsimp only at *
          have AHG : kd = 1 ∨ kd = 4 := by rw [hkd]; split; exact .inr rfl; exact .inl rfl
          refine tr (AC 1 rfl (lq rfl (Af rfl Cz BL rfl rfl rfl) (le rfl (AS rfl Dx BL rfl rfl rfl (by rfl) rfl) ?_))); rintro _ _ _ ⟨b148, rfl, rfl, rfl⟩; refine le rfl (Ba (f := BZ) (c := (⟨kd, ((s.drop j).take k), j, [], false⟩ : CX)) rfl Dx BL rfl rfl rfl rfl rfl rfl rfl (A4 _) (by simp only [maxLen]; omega) (by omega)) ?_; rintro v149 _ _ ⟨rfl, rfl⟩; refine FV v149 (fun Df => ?_); refine Ae rfl (AH (AC 1 rfl (lq rfl ((by exact AZ rfl rfl (by rfl))) ?_))); refine Ax rfl (AV (Ak ((j + k, l ++ [(⟨kd, ((s.drop j).take k), j, [], false⟩ : CX)], v149)) ?_ ?_ (AB rfl) (AB rfl) (fun _ h => by dsimp only; exact AA h)))
          ·dsimp only
           have h9 := Py hq Qs Qp (AOF hkd) ⟨GO, OZ⟩
           exact ⟨h9.2 (by rcases AHG with h | h <;> rw [h] <;> decide), UA R7 (AIQ AHG _ _), by simp; omega⟩
          ·dsimp only
           show s.length - (j + k) < s.length - j
           omega
 ·simp at HB
  have J3 := AFk hq (by omega)
  refine BB (AG (AG (AQ (Ai (tr (AC 2 rfl (lq rfl (A6 (pl := [(_, _), (_, _), (_, _)]) (cs := ([.int .i64 (j : Int), .int .i64 0, .int .i64 0]).toArray) rfl Dr B8 ⟨rfl, ⟨_, _, B0⟩, rfl, ⟨_, _, B0⟩, rfl, ⟨_, _, B0⟩, trivial⟩ rfl rfl) (AC 1 rfl (An rfl rfl ((by exact AE rfl B8 rfl rfl rfl (by simp [Value.oneCell']) rfl)) ?_))))))))); rintro _ _ _ ⟨rfl, rfl⟩; refine ln (Aq (A3 (.inl rfl) rfl (by exact Dc rfl (BK rfl Dr B8 rfl rfl (BJ))) (fun w' hw => ?_))); exact ⟨_, rfl, Jo, _, ACw (jb := j) VX J3 R7 (by omega) (by omega) Lk.2, AA hw⟩
end Go.Tri

namespace Go.Tri
open Go.Proofs Go.RowKit
set_option maxRecDepth 10000
theorem Rs {α : Type} {w0 : World} {I : AU} {H : List HA} {v : Value} {T : TypeId} {sz : Nat} {f : α → List Value} {l : List α} {i : Nat} (d : α) [hm : GK v T sz l.length (l.map f).flatten H] (hu : ∀ c, (f c).length = sz) (h : i < l.length) : XH w0 I H (GN v).block ((GN v).off + i * sz) (f (nth l i d)) := fun j u hj => by
 have := Zu (w0 := w0) (I := I) hm.mem (GS (d := d) hu h hj)
 rwa [← Nat.add_assoc] at this
theorem ACf {s : List UInt8} {l cur : List CX} {j0 n jj : Nat} (h : GY s l j0 n cur jj) (hn : n < l.length) (h0 : 1 ≤ n) (hk : ∀ t ∈ l, Qt t) : JQ (E8 l n) (nth l n BV) = !(decide (((nth cur n BV).kind : Int) ≠ 1) || decide (((nth cur (n - 1) BV).kind : Int) ≠ 2) || (decide ((nth cur (n - 1) BV).text ≠ [60, 60]) && decide ((nth cur (n - 1) BV).text ≠ [60, 60, 45]))) := by
 rw [h.here hn, decide_eq_false (show ¬ ((n : Int) = 0) by omega), Bool.false_or]
 congr 1
 by_cases h2 : (nth cur (n - 1) BV).kind = 2
 ·have hs := h.same (n - 1) (by omega)
  have hm : (nth cur (n - 1) BV).text ∈ FY := by
   rw [hs.2]; exact (hk _ (DG (by omega))).2 (by rw [← hs.1]; exact h2)
  rw [Nh hm]
  congr 1
  by_cases a1 : (nth cur (n - 1) BV).text = [60, 60] <;> by_cases a2 : (nth cur (n - 1) BV).text = [60, 60, 45] <;> simp [a1, a2]
 ·rw [decide_eq_true (show ((nth cur (n - 1) BV).kind : Int) ≠ 2 by omega)]; simp
theorem dK {s : List UInt8} {l cur : List CX} {j0 jj : Nat} (h : GY s l j0 l.length cur jj) (hk : ∀ t ∈ l, Qt t) : ∀ t ∈ cur, Qt t := fun t ht => by
 obtain ⟨m, hm, rfl⟩ := List.getElem_of_mem ht
 have Ox : m < l.length := by rw [← h.len]; exact hm
 have hs := h.same m Ox
 rw [Ed hm] at hs
 have := hk _ (DG (d := BV) Ox)
 exact ⟨fun h3 => by rw [hs.2]; exact this.1 (by rw [← hs.1]; exact h3), fun h3 => by rw [hs.2]; exact this.2 (by rw [← hs.1]; exact h3)⟩
theorem Xs {s : List UInt8} {i : Nat} (hs : s.length ≤ 65536) (hi : i ≤ s.length) : B9 s (i : Int) = JB s i := by
 unfold B9
 rw [if_neg (by omega), if_neg (by omega)]; try rfl
theorem ACI {i : Nat} {r : Option (List UInt8 × Nat)} (h : (OI i r).2 < 0) : r = none := by
 cases r with
 | none => rfl
 | some x => exfalso; have h : ((i + x.2 : Nat) : Int) < 0 := h; omega
theorem ZD {i : Nat} {r : Option (List UInt8 × Nat)} (h : ¬ (OI i r).2 < 0) : ∃ x, r = some x ∧ (OI i r).1 = x.1 ∧ (OI i r).2 = ((i + x.2 : Nat) : Int) := by
 cases r with
 | none => exact absurd (show ((-1 : Int)) < 0 by decide) h
 | some x => exact ⟨x, rfl, rfl, rfl⟩
theorem TA (strip : Bool) (d : List UInt8) : ∀ (f : Nat) (l : List UInt8) (x : List UInt8 × Nat), I5 strip d f l = some x → x.2 ≤ l.length
 | 0, _, _, h => by cases h
 | f + 1, l, x, h => by
  rw [I5] at h
  split at h
  ·cases h
  ·split at h
   ·cases h; exact Nat.min_le_right _ _
   ·split at h
    ·cases h
    ·rename_i hb
     have hr := (IG (l := l)).1 (by simpa using hb)
     cases hd : I5 strip d f (l.drop (Bz l + 1)) with
     | none => rw [hd] at h; cases h
     | some y =>
      rw [hd] at h
      have := TA strip d f _ y hd
      rw [List.length_drop] at this
      cases h
      show Bz l + 1 + y.2 ≤ _
      omega
set_option maxHeartbeats 2000000 in
theorem Sw (s : List UInt8) (at' : Int) (I : AU) (F : List HA) (w0 w : World) (hs : s.length ≤ 1000000000) (CE : St w0 I F w) : Calls Tryz.prog 22 [Bj s, .int .i64 at'].toArray w (fun e w' => ∃ v, e = .returned v ∧ ∃ I' H', (Le I I' ∧ F = H' ∧ ∃ vl, v = .tuple #[vl, .int .i64 ((B9 s at').fin : Int), .int .i64 ((B9 s at').place : Int), .int .i64 ((B9 s at').err : Int)] ∧ Sl I' 5 vl ((B9 s at').toks.map BZ) ∧ ∀ t ∈ (B9 s at').toks, Qt t) ∧ St w I' H' w') := by
 refine enter Tryz.func22 rfl Tryz.ntmps22 rfl (CE.self) (Ar rfl (AN (tr (AC 1 rfl (lq rfl (Ap rfl CW rfl) (Ae rfl (AF rfl (fun hc0 => ?_) (fun hc0 => ?_))))))))
 ·simp at hc0
  have QL : B9 s at' = ⟨[], 0, 0, 50⟩ := by unfold B9; rw [if_pos (by omega)]
  refine Ar rfl (C0 (Hf rfl rfl rfl rfl rfl (fun w' hw => ?_))); exact ⟨_, rfl, I, _, ⟨Le.refl _, rfl, (.slice none 0 0), (by rw [QL]; try rfl), (by rw [QL]; exact Fv (fun _ h => by cases h)), (by rw [QL]; exact fun _ h => by cases h)⟩, hw⟩
 ·simp at hc0
  have X6 : s.length ≤ 65536 := by omega
  refine Al (AN (tq (AK 3 rfl ?_)))
  refine Bf 4 2 23 28 27 _ _ rfl rfl rfl rfl rfl rfl (fun h28 => by
    simp at h28
    refine AJ 2 rfl (sg rfl (Ap rfl CW rfl) (AJ 1 rfl ?_)); exact Ao rfl
   ) (AM rfl) rfl rfl rfl ?_
  refine Cy (AF rfl (fun BI => ?_) (fun BI => ?_))
  ·have h1 : (decide (at' < 0) || decide ((s.length : Int) < at')) = true := BI
   have QL : B9 s at' = ⟨[], 0, 0, 73⟩ := by unfold B9; rw [if_neg (by omega), if_pos (by simpa using h1)]
   refine Ar rfl (C0 (Hf rfl rfl rfl rfl rfl (fun w' hw => ?_))); exact ⟨_, rfl, I, _, ⟨Le.refl _, rfl, (.slice none 0 0), (by rw [QL]; try rfl), (by rw [QL]; exact Fv (fun _ h => by cases h)), (by rw [QL]; exact fun _ h => by cases h)⟩, hw⟩
  ·have h1 : (decide (at' < 0) || decide ((s.length : Int) < at')) = false := BI
   simp only [Bool.or_eq_false_iff, decide_eq_false_iff_not] at h1; obtain ⟨i, rfl⟩ : ∃ i : Nat, at' = (i : Int) := ⟨at'.toNat, by omega⟩
   have hi : i ≤ s.length := by omega
   have QL := Xs X6 hi
   refine Al (tr (AC 2 rfl (Bw rfl rfl rfl rfl (fun w hw => Sf s i _ _ _ w hs hi hw) ?_))); rintro _ J32 _ ⟨AFi, tv, l, jb, ab, eb, rfl, rfl, Jj, R7, hlb, hjb⟩
   have ANg : eb = 0 → jb ≤ s.length := hjb
   refine AC 3 rfl (le rfl (Ah rfl B8 rfl) ?_); rintro _ _ _ ⟨b9, rfl, rfl, rfl⟩; refine AC 1 rfl (An rfl rfl ((by exact AE rfl B8 rfl rfl rfl (by simp [Value.oneCell']) rfl)) ?_); rintro _ _ _ ⟨rfl, rfl⟩; refine AI (H' := row b9 91 [.int .i64 (jb : Int), .int .i64 (ab : Int), .int .i64 (eb : Int)] :: _) ?_ (fun _ h => h); refine K6 (AC 1 rfl ?_); refine lq rfl ((by exact AZ rfl rfl (by rfl))) ?_; refine Ae rfl (AF rfl (fun BU => ?_) (fun BU => ?_))
   ·simp at BU
    have he : eb ≠ 0 := by omega
    have GE := (L3 Jj).1 he
    rw [← QL] at GE; refine AN (CI mo (by kernel_rfl) (fun _ _ _ _ _ h => h) (AK 1 rfl ?_)); refine sq rfl ((by exact AZ rfl rfl (by rfl))) ?_; refine AK 1 rfl ?_; refine sq rfl ((by exact AZ rfl rfl (by rfl))) ?_; refine AK 4 rfl (Cy (C0 (Hf rfl rfl rfl rfl rfl (fun w' hw => ?_)))); exact ⟨_, rfl, J32, _, ⟨AFi, rfl, (.slice none 0 0), (by rw [GE]; try rfl), (by rw [GE]; exact Fv (fun _ h => by cases h)), (by rw [GE]; exact fun _ h => by cases h)⟩, AA hw⟩
   ·simp at BU
    have TU : eb = 0 := by omega
    have Ut := (L3 Jj).2 TU
    rw [← QL] at Ut; obtain ⟨kx, hlx, _, _⟩ := Jj.ok TU
    have hTx : ∀ m, m < l.length → (nth l m BV).text.length ≤ s.length := fun m hm => Nat.le_trans (JW _ _ _ _ _ hlx _ (DG hm)) (by rw [List.length_drop]; omega)
    refine Al (tr (AC 1 rfl ?_)); refine lq rfl ((by exact AZ rfl rfl (by rfl))) ?_; refine Ae rfl (AN (Ar rfl (AR (A8 (ι := Nat × List CX × Nat) (fun zz => 1 ≤ zz.1 ∧ GY s l jb (min zz.1 l.length) zz.2.1 zz.2.2 ∧ zz.2.2 ≤ s.length) (fun zz => l.length - zz.1) (fun zz => [(11, .int .i64 (zz.1 : Int)), (10, .int .i64 (zz.2.2 : Int))]) [(0, _), (1, _), (20, _), (28, _), (9, _), (8, _), (37, _)] (fun zz => J32) (fun zz => (BO 73 5 BZ tv zz.2.1 :: row b9 91 [.int .i64 (jb : Int), .int .i64 (ab : Int), .int .i64 (eb : Int)] :: F)) (1, l, jb) ?_ (AB rfl) (AB rfl) (fun _ h => AA h) ?_))))
    ·dsimp only; refine ⟨Nat.le_refl _, ?_, ANg TU⟩; rcases Nat.eq_zero_or_pos l.length with h0 | h0
     ·rw [h0]; exact GY.start s l jb
     ·rw [show min 1 l.length = 1 by omega]; exact (GY.start s l jb).skip h0 rfl
    rintro ⟨n, cur, jj⟩ ⟨hn1, hD, hjj⟩; dsimp only at *
    have EP := hD.len
    refine AN (tr (AC 2 rfl ?_)); refine lq rfl ((by exact Eq rfl Dx rfl)) ?_; refine Ae rfl (AF rfl (fun hq3 => ?_) (fun hq3 => ?_))
    ·simp at hq3
     have hn : n < l.length := by omega
     rw [show min n l.length = n by omega] at hD; refine Al (AN (AR (tr (AC 2 rfl (lq rfl (Fa rfl rfl rfl (by omega)) ?_))))); rw [show (n : Int) - 1 = ((n - 1 : Nat) : Int) by omega]; refine lq rfl ((by exact CL rfl Dx BL rfl rfl (by omega))) ?_; refine AC 1 rfl ?_; refine lq rfl ((by exact DU rfl CW rfl rfl (GS (fo := 1) (f := BZ) (d := BV) (fun _ => rfl) (show n - 1 < cur.length by omega) rfl))) ?_; refine Ae rfl (AN (tq (AK 2 rfl ?_))); refine sq rfl ((by exact CL rfl Dx BL rfl rfl (by omega))) ?_; refine AK 1 rfl ?_; refine sq rfl ((by exact DU rfl Li rfl rfl (GS (fo := 0) (f := BZ) (d := BV) (fun _ => rfl) (show n < cur.length by omega) rfl))) ?_; refine AK 2 rfl ?_
     refine Bf 7 6 62 70 69 _ _ rfl rfl rfl rfl rfl rfl (fun h70 => by
       simp at h70
       refine AJ 2 rfl (sg rfl (Fa rfl rfl rfl (by omega)) ?_); rw [show (n : Int) - 1 = ((n - 1 : Nat) : Int) by omega]; refine sg rfl ((by exact CL rfl Dx BL rfl rfl (by omega))) ?_; refine AJ 1 rfl ?_; refine sg rfl ((by exact DU rfl Li rfl rfl (GS (fo := 0) (f := BZ) (d := BV) (fun _ => rfl) (show n - 1 < cur.length by omega) rfl))) ?_; refine AJ 1 rfl ?_; exact Ao rfl
      ) (AM rfl) rfl rfl rfl ?_
     refine AK 1 rfl ?_
     refine Bf 6 15 71 78 77 _ _ rfl rfl rfl rfl rfl rfl (fun h78 => by
       simp at h78
       refine AJ 1 rfl (sg rfl (C7 rfl rfl rfl) (AJ 1 rfl ?_))
       refine BA 2 18 74 77 76 _ _ rfl rfl rfl rfl rfl rfl (fun h77 => by
         simp at h77
         refine AJ 1 rfl (sg rfl (C7 rfl rfl rfl) ?_); exact Ao rfl
        ) (Be rfl rfl rfl rfl) rfl rfl rfl ?_
       exact Ao rfl
      ) (AM rfl) rfl rfl rfl ?_
     refine Cy (AF rfl (fun Cg => ?_) (fun Cg => ?_))
     ·have hh : JQ (E8 l n) (nth l n BV) = false := by rw [ACf hD hn hn1 R7, show (_ || _ || _) = true from Cg]; try rfl
      refine BB (AG (AQ (Ai (AH (AC 1 rfl (lq rfl (AX rfl rfl rfl (by omega)) ?_)))))); refine Ax rfl (Ak ((n + 1, cur, jj)) ?_ ?_ (AB rfl) (AB rfl) (fun _ h => by dsimp only; exact AA h))
      ·dsimp only; exact ⟨by omega, by rw [show min (n + 1) l.length = n + 1 by omega]; exact hD.skip hn hh, hjj⟩
      ·dsimp only
       show l.length - (n + 1) < l.length - n
       omega
     ·have hh : JQ (E8 l n) (nth l n BV) = true := by rw [ACf hD hn hn1 R7, show (_ || _ || _) = false from Cg]; try rfl
      refine Al (tr (AC 2 rfl ?_)); refine lq rfl ((by exact CL rfl Dx BL rfl rfl (by omega))) ?_; refine lq rfl ((by exact Bc rfl Cz BL rfl rfl (Rs (f := BZ) (l := cur) (i := n) BV (fun _ => rfl) (show n < cur.length by omega)))) ?_; refine le rfl (Ah rfl BL rfl) ?_; rintro _ _ _ ⟨b13, rfl, rfl, rfl⟩; refine An rfl rfl ((by exact AE rfl BL rfl rfl rfl (by exact A4 _) rfl)) ?_; rintro _ _ _ ⟨rfl, rfl⟩; refine AI (H' := row b13 73 (BZ (nth cur n BV)) :: _) ?_ (fun _ h => h); refine BQ (AC 1 rfl ?_); refine lq rfl ((by exact AZ rfl rfl (by rfl))) ?_; refine lq rfl (qc rfl rfl rfl ((fun w _ => Tw (nth cur n BV).text w (by rw [hD.cur_at hn]; have := hTx n hn; omega)))) ?_; refine Ae rfl (tr (AC 4 rfl (lq rfl (BM rfl rfl rfl) (lq rfl (qc rfl rfl rfl ((fun w _ => Wt s jj (DN (nth cur n BV).text) (decide ((nth cur (n - 1) BV).text = [60, 60, 45])) w hs (by omega)))) ?_)))); refine Ae rfl (AN (Ar rfl (AF rfl (fun C1 => ?_) (fun C1 => ?_))))
      ·simp at C1
       have Se := ACI C1
       rw [← hD.strip hn1, hD.cur_at hn] at Se
       have GE := Ut.1 _ (hD.bad hn hh Se)
       refine AN (CI mo (by kernel_rfl) (fun _ _ _ _ _ h => h) (AK 1 rfl ?_)); refine sq rfl ((by exact AZ rfl rfl (by rfl))) ?_; refine AK 4 rfl (Cy (C0 (Hf rfl rfl rfl rfl rfl (fun w' hw => ?_)))); exact ⟨_, rfl, J32, _, ⟨AFi, rfl, (.slice none 0 0), (by rw [GE, hD.cur_at hn]; try rfl), (by rw [GE]; exact Fv (fun _ h => by cases h)), (by rw [GE]; exact fun _ h => by cases h)⟩, AA hw⟩
      ·simp at C1
       obtain ⟨dx, hdx, hd1, hd2⟩ := ZD (show ¬ (OI jj (LV (decide ((nth cur (n - 1) BV).text = [60, 60, 45])) (DN (nth cur n BV).text) (s.drop jj))).2 < 0 by omega)
       have AML : jj + dx.2 ≤ s.length := by have h9 := TA _ _ _ _ _ hdx; rw [List.length_drop] at h9; omega
       rw [← hD.strip hn1, hD.cur_at hn] at hdx; refine Al (tr (AC 2 rfl ?_)); refine An rfl rfl (Ac rfl CU rfl rfl (by exact ⟨rfl, rfl⟩) rfl (by rfl)) ?_; rintro _ _ _ ⟨rfl, rfl⟩; refine AI (H' := row b13 73 (BZ { (nth cur n BV) with doc := (OI jj (LV (decide ((nth cur (n - 1) BV).text = [60, 60, 45])) (DN (nth cur n BV).text) (s.drop jj))).1 }) :: _) ?_ (fun _ h => h); refine BQ (AC 2 rfl ?_); refine An rfl rfl (Ac rfl De rfl rfl (by exact ⟨rfl, rfl⟩) rfl (by (simp only []; try rfl))) ?_; rintro _ _ _ ⟨rfl, rfl⟩; refine AI (H' := row b13 73 (BZ { (nth cur n BV) with doc := (OI jj (LV (decide ((nth cur (n - 1) BV).text = [60, 60, 45])) (DN (nth cur n BV).text) (s.drop jj))).1, raw := EG (nth cur n BV).text DF }) :: _) ?_ (fun _ h => h); refine BQ (AC 2 rfl (lq rfl ((by exact Af rfl Cz BL rfl rfl rfl)) ?_)); refine lq rfl ((by exact CL rfl Dx BL rfl rfl (by omega))) ?_; refine An rfl rfl (Wf ({ (nth cur n BV) with doc := (OI jj (LV (decide ((nth cur (n - 1) BV).text = [60, 60, 45])) (DN (nth cur n BV).text) (s.drop jj))).1, raw := EG (nth cur n BV).text DF }) rfl BL rfl rfl ((A4 _)) (fun _ => rfl) (show n < cur.length by omega) (by decide)) ?_; rintro _ _ _ ⟨rfl, rfl⟩; refine ln (AH (Ax rfl (AV (Ai (AH (AC 1 rfl (lq rfl (AX rfl rfl rfl (by omega)) ?_)))))))
       refine Ax rfl (Ak ((n + 1, cur.set n { (nth cur n BV) with doc := (OI jj (LV (decide ((nth cur (n - 1) BV).text = [60, 60, 45])) (DN (nth cur n BV).text) (s.drop jj))).1, raw := EG (nth cur n BV).text DF }, jj + dx.2)) ?_ ?_ (FI rfl (Bl rfl (congrArg (Value.int IntKind.i64) hd2) (AW))) (AB rfl) (fun _ h => by dsimp only; exact AA h))
       ·dsimp only; exact ⟨by omega, by rw [show min (n + 1) l.length = n + 1 by omega, hd1, hD.cur_at hn]; exact hD.doc hn hh hdx, AML⟩
       ·dsimp only
        show l.length - (n + 1) < l.length - n
        omega
    ·simp at hq3
     have hn : ¬ n < l.length := by omega
     rw [show min n l.length = l.length by omega] at hD
     have GE := Ut.2 _ _ (hD.done (Nat.lt_irrefl _))
     have hkc := dK hD R7
     refine BB (AG (AG (AQ (Ai (AN (CG (f := BZ) (l := cur) tv (fun _ => rfl) (fun Jf B4 Ck => ?_))))))); refine AH (Ae rfl (Aq (Hf rfl rfl rfl rfl rfl (fun w' hw => ?_)))); exact ⟨_, rfl, Jf, _, ⟨(AFi.trans B4), rfl, tv, (by rw [GE]; try rfl), (by rw [GE]; exact Ck), (by rw [GE]; exact hkc)⟩, AA hw⟩
end Go.Tri
