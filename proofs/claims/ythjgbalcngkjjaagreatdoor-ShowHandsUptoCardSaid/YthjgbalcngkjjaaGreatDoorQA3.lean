/-
 A scanner: its small steps.
-/
import Derived.Test.YthjgbalcngkjjaaGreatDoorQA0
namespace Go.Tri
open Go.Proofs Go.RowKit
set_option maxRecDepth 10000
theorem ABa (s : List UInt8) (c : UInt8) (w : World) : (Extern.BytealgIndexByte.indexByte #[Bj s, u8 c]).run Tryz.prog w = .ok (.int .i64 (Lib.indexByte s c)) w := by
 unfold Bj u8; rw [Lib.run_indexByteString]
 simp
def Ew (s : List UInt8) (i a e : Nat) : List Value := [Bj s, .int .i64 (i : Int), .int .i64 (a : Int), .int .i64 (e : Int)]
def ZF (w : World) (b : Nat) (cs : List Value) : Prop := ∀ k u, cs[k]? = some u → GF (BF w) b k u
theorem Es {w0 w : World} {I : AU} {H : List HA} {b : Nat} {T : TypeId} {cs : List Value} (hw : St w0 I H w) [hm : HH b T cs H] : ZF w b cs := fun k u hk =>
 ⟨cs.toArray, T, (0, 0), hw.sat _ hm.mem, by simpa using hk⟩
def Wp (i : Nat) (r : SR) (ok : Bool) (i' a' e' : Nat) : Prop := match r with
 | .ok k => ok = true ∧ i' = i + k ∧ a' = 0 ∧ e' = 0
 | .bad a e => ok = false ∧ a' = i + a ∧ e' = e
theorem Wp.t {i i' a' e' : Nat} {r : SR} {ok : Bool} (h : Wp i r ok i' a' e') (Bb : ok = true) : ∃ k, r = .ok k ∧ i' = i + k ∧ a' = 0 ∧ e' = 0 := by
 cases r with
 | ok k => exact ⟨k, rfl, h.2⟩
 | bad a e => rw [h.1] at Bb; cases Bb
theorem Wp.f {i i' a' e' : Nat} {r : SR} {ok : Bool} (h : Wp i r ok i' a' e') (Bb : ok = false) : ∃ a, r = .bad a e' ∧ a' = i + a := by
 cases r with
 | ok k => rw [h.1] at Bb; cases Bb
 | bad a e => exact ⟨a, by rw [h.2.2], h.2.1⟩
def Na (f : FuncId) (T : TypeId) (b : Nat) (s : List UInt8) (i : Nat) (args : List Value) (r : SR) (I : AU) (F : List HA) (w : World) : Prop :=
 Calls Tryz.prog f (.pointer (some ⟨b, 0, none⟩) :: args).toArray w (fun e w' => ∃ v, e = .returned v ∧ ∃ I' H', (I = I' ∧ ∃ ok i' a' e', v = .bool ok ∧ Wp i r ok i' a' e' ∧ i' ≤ s.length ∧ H' = row b T (Ew s i' a' e') :: F) ∧ St w I' H' w')
def LM (n : Nat) : Prop := ∀ (b : Nat) (s : List UInt8) (i d : Nat) (q : Bool) (I : AU) (F : List HA) (w0 w : World), 25 - d = n → d ≤ 30 → s.length ≤ 2305843009213693952 → i + 2 ≤ s.length → St w0 I (row b 108 (Ew s i 0 0) :: F) w →
 Na 161 108 b s i [.int .i64 (d : Int), .bool q] ((lv n).2 q (s.drop i)) I F w
def RI (n : Nat) : Prop := ∀ (b : Nat) (s : List UInt8) (i d : Nat) (I : AU) (F : List HA) (w0 w : World), 25 - d = n → d ≤ 30 → s.length ≤ 2305843009213693952 → i < s.length → St w0 I (row b 108 (Ew s i 0 0) :: F) w →
 Na 132 108 b s i [.int .i64 (d : Int)] ((lv n).1 (s.drop i)) I F w
theorem Lm (s : List UInt8) (c : UInt8) (w : World) : Cw Tryz.prog 107 [Bj s, u8 c] w (.int .i64 (Lib.indexByte s c)) := by
 refine enter Tryz.func107 rfl Tryz.ntmps107 rfl (St.start w (BF w) (Le.refl _)) (Ar rfl (tr (AC 2 rfl (lq rfl (IJ rfl rfl rfl Tryz.func130 (by kernel_rfl) rfl (by kernel_rfl) (show Extern.find _ = some Extern.BytealgIndexByte.indexByte by kernel_rfl) (fun w => ABa s c w)) ?_)))); refine Ae rfl (Aq (A1 rfl rfl (fun w' hw => ?_))); exact ⟨rfl, hw.below⟩
theorem EF (s : List UInt8) (c : UInt8) (w : World) : Cw Tryz.prog 84 [Bj s, u8 c] w (.int .i64 (Lib.indexByte s c)) := by
 refine enter Tryz.func84 rfl Tryz.ntmps84 rfl (St.start w (BF w) (Le.refl _)) (Ar rfl (tr (AC 2 rfl (lq rfl (qc rfl rfl rfl (fun w _ => Lm s c w)) (Ae rfl (Aq (A1 rfl rfl (fun w' hw => ?_)))))))); exact ⟨rfl, hw.below⟩
theorem Ls (s t : List UInt8) (w : World) : Cw Tryz.prog 87 [Bj s, Bj t] w (.bool (EY s t)) := by
 refine enter Tryz.func87 rfl Tryz.ntmps87 rfl (St.start w (BF w) (Le.refl _)) (Ar rfl (tq (AK 1 rfl (sq rfl (Ap rfl CW rfl) (AK 1 rfl (sq rfl (Ap rfl CW rfl) (AK 2 rfl ?_)))))))
 refine BA 6 5 10 17 16 _ _ rfl rfl rfl rfl rfl rfl (fun h17 => by
   simp at h17
   refine AJ 2 rfl (sg rfl (Ap rfl CW rfl) (sg rfl (G3 rfl CW rfl rfl (by omega)) ?_)); refine AJ 1 rfl (sg rfl (BM rfl rfl rfl) ?_); exact Ao rfl
  ) (AM rfl) rfl rfl rfl ?_
 refine AK 1 rfl (Cy (Aq (A1 rfl rfl (fun w' hw => ?_)))); refine ⟨?_, hw.below⟩; refine congrArg (fun b => Ending.returned (Value.bool b)) ?_; unfold EY
 by_cases h : t.length ≤ s.length
 ·rw [decide_eq_true (show ((t.length : Int)) ≤ (s.length : Int) by omega), Bool.true_and]; try rfl
 ·rw [decide_eq_false (show ¬ ((t.length : Int)) ≤ (s.length : Int) by omega), Bool.false_and]; exact (decide_eq_false (fun e => by have := congrArg List.length e; rw [List.length_take] at this; omega)).symm
theorem Gu (s t : List UInt8) (w : World) : Cw Tryz.prog 66 [Bj s, Bj t] w (.bool (EY s t)) := by
 refine enter Tryz.func66 rfl Tryz.ntmps66 rfl (St.start w (BF w) (Le.refl _)) (Ar rfl (tr (AC 2 rfl (lq rfl (qc rfl rfl rfl ((fun w _ => Ls s t w))) (Ae rfl (Aq (A1 rfl rfl (fun w' hw => ?_)))))))); exact ⟨rfl, hw.below⟩
theorem Dm (b : Nat) (s t : List UInt8) (i a e : Nat) (w : World) (hi : i ≤ s.length) (hb : ZF w b (Ew s i a e)) : Cw Tryz.prog 82 [.pointer (some ⟨b, 0, none⟩), Bj t] w (.bool (EY (s.drop i) t)) := by
 refine enter Tryz.func82 rfl Tryz.ntmps82 rfl (St.start w (BF w) (Le.refl _)) (Ar rfl (AN (CI mo (by kernel_rfl) (fun _ _ _ _ _ h => h) (AK 3 rfl (sq rfl ((by exact B1 rfl rfl (B2 (hb 0 _ rfl)))) ?_))))); refine AK 3 rfl (sq rfl ((by exact B1 rfl rfl (B2 (hb 1 _ rfl)))) ?_); refine sq rfl (Cp rfl CW rfl rfl (by omega)) ?_; refine AK 1 rfl (sq rfl (qc rfl rfl rfl ((fun w _ => Gu (s.drop i) t w))) (AK 1 rfl (Cy (Aq (A1 rfl rfl (fun w' hw => ?_)))))); exact ⟨rfl, hw.below⟩
theorem FL (b : Nat) (s : List UInt8) (i a e : Nat) (I : AU) (F : List HA) (w0 w : World) (CE : St w0 I (row b 108 (Ew s i 0 0) :: F) w) : Calls Tryz.prog 110 [.pointer (some ⟨b, 0, none⟩), .int .i64 (a : Int), .int .i64 (e : Int)].toArray w (fun e1 w' => ∃ v, e1 = .returned v ∧ ∃ I' H', (v = .bool false ∧ I = I' ∧ H' = row b 108 (Ew s i a e) :: F) ∧ St w I' H' w') := by
 unfold Ew at *; refine enter Tryz.func110 rfl Tryz.ntmps110 rfl (CE.self) (Ar rfl (AN (tr (AC 4 rfl (lq rfl (AZ rfl rfl (by rfl)) ?_))))); refine Ae rfl (AF rfl (fun hc0 => ?_) (fun hc0 => ?_))
 ·simp at hc0
  refine AH (AC 3 rfl (lq rfl (A6 (pl := [(_, _), (_, _)]) (cs := ([.int .i64 (a : Int), .int .i64 (e : Int)]).toArray) rfl AKD Vs ⟨rfl, ⟨_, _, B0⟩, rfl, ⟨_, _, Mp⟩, trivial⟩ rfl rfl) (AC 2 rfl (An rfl rfl ((by exact MJ rfl Vs rfl rfl rfl (by simp [Value.oneCell']) rfl)) ?_)))); rintro _ _ _ ⟨rfl, rfl⟩; refine BQ (Ae rfl (Aq (A1 rfl rfl (fun w' hw => ?_)))); exact ⟨_, rfl, I, _, ⟨rfl, rfl, rfl⟩, hw⟩
 ·simp at hc0
theorem DD (b : Nat) (s : List UInt8) (i n a e : Nat) (I : AU) (F : List HA) (w0 w : World) (hi : i ≤ s.length) (hs : s.length ≤ 2305843009213693952) (hn : n ≤ 2305843009213693952) (CE : St w0 I (row b 108 (Ew s i a e) :: F) w) : Calls Tryz.prog 83 [.pointer (some ⟨b, 0, none⟩), .int .i64 (n : Int)].toArray w (fun e1 w' => ∃ v, e1 = .returned v ∧ ∃ I' H', (v = .tuple #[] ∧ I = I' ∧ H' = row b 108 (Ew s (min (i + n) s.length) a e) :: F) ∧ St w I' H' w') := by
 unfold Ew at *; refine enter Tryz.func83 rfl Tryz.ntmps83 rfl (CE.self) (DH [15] [] [] mo (by kernel_rfl) (fun _ _ _ _ _ h => h) (Bg [0, 1, 2, 3] (by kernel_rfl) rfl rfl rfl (IC 4 (by kernel_rfl) rfl rfl (AZ rfl rfl (by rfl)) ?_))); refine Bg [5] (by kernel_rfl) rfl rfl rfl (IC 6 (by kernel_rfl) rfl rfl (AX rfl rfl rfl (by omega)) ?_); refine Bg [7, 8, 9] (by kernel_rfl) rfl rfl rfl (IC 10 (by kernel_rfl) rfl rfl (AZ rfl rfl (by rfl)) ?_); refine IC 11 (by kernel_rfl) rfl rfl (Ap rfl CW rfl) (IC 12 (by kernel_rfl) rfl rfl (VV rfl rfl rfl) (Bg [13, 14] (by kernel_rfl) rfl rfl rfl ?_)); refine Eu 15 (by kernel_rfl) (by kernel_rfl) rfl (Le.refl _) rfl rfl (Ac rfl B0 rfl rfl (by exact ⟨rfl, rfl⟩) rfl (by (simp only [List.set_cons_succ, List.set_cons_zero]; try rfl))) ?_; rintro _ _ _ ⟨rfl, rfl⟩; refine ⟨Le.refl _, .inr CY.sub, ?_⟩; refine D3 (by kernel_rfl) (Cm rfl (fun w' hw => ?_))
 have e9 : min ((i : Int) + (n : Int)) (s.length : Int) = ((min (i + n) s.length : Nat) : Int) := by omega
 rw [e9] at hw; exact ⟨_, rfl, I, _, ⟨rfl, rfl, rfl⟩, hw⟩
end Go.Tri

namespace Go.Tri
open Go.Proofs Go.RowKit
set_option maxRecDepth 10000
theorem Wd (l : List UInt8) : (Lib.indexByte l 39 < 0 → Lib.indexByte l 39 = -1) ∧ (¬ Lib.indexByte l 39 < 0 → ∃ m : Nat, Lib.indexByte l 39 = m ∧ m < l.length) := by
 have NL := Lib.indexByte_ge l 39
 refine ⟨fun h => by omega, fun h => ?_⟩; obtain ⟨i, hi⟩ : ∃ i : Nat, Lib.indexByte l 39 = i := ⟨(Lib.indexByte l 39).toNat, by omega⟩; exact ⟨i, hi, (Co hi).1⟩
theorem S9 {D : Bool → List UInt8 → SR} {f : Nat} {l : List UInt8} {r : LR} {j : Nat} (h : r = (Ij D f l).on j) (hl : l ≠ []) (hf : l.length ≤ f) :
  (EY l [34] = true → r = .ok (j + 1)) ∧ (EY l [34] = false → (∀ a e, Bt D true false l = .bad a e → r = .bad (j + a) e) ∧ ∀ k, Bt D true false l = .ok k → r = (Ij D (f - 1) (l.drop k)).on (j + k)) := by
 have hp := List.length_pos_iff.2 hl
 obtain ⟨g, rfl⟩ : ∃ g, f = g + 1 := ⟨f - 1, by omega⟩; refine ⟨fun h1 => ?_, fun h1 => ⟨fun a e h2 => ?_, fun k h2 => ?_⟩⟩
 ·rw [h, Ij, if_neg hl, if_pos h1]; try rfl
 ·rw [h, Ij, if_neg hl, if_neg (by rw [h1]; simp), h2]; try rfl
 ·rw [h, Ij, if_neg hl, if_neg (by rw [h1]; simp), h2, Nat.add_sub_cancel]; exact LR.on_on _ _ _
theorem DS {s : List UInt8} {i : Nat} (h : i < s.length) : s.drop i ≠ [] := List.ne_nil_of_length_pos (by rw [List.length_drop]; omega)
theorem B5 (s : List UInt8) (i : Nat) : nth (s.drop i) 0 0 = nth s i 0 := by
 unfold nth; rw [List.getD_eq_getElem?_getD, List.getD_eq_getElem?_getD, List.getElem?_drop]; try rfl
theorem Ie (s : List UInt8) (i : Nat) : nth (s.drop i) 1 0 = nth s (i + 1) 0 := by
 unfold nth; rw [List.getD_eq_getElem?_getD, List.getD_eq_getElem?_getD, List.getElem?_drop]
theorem Pq (b : Nat) (s : List UInt8) (i : Nat) (I : AU) (F : List HA) (w0 w : World) (hs : s.length ≤ 2305843009213693952) (hi : i < s.length) (CE : St w0 I (row b 108 (Ew s i 0 0) :: F) w) : Na 160 108 b s i [] (Ca (s.drop i)) I F w := by
 refine enter Tryz.func160 rfl Tryz.ntmps160 rfl (CE.self) (Ar rfl (AN (CI mo (by kernel_rfl) (fun _ _ _ _ _ h => h) (AK 3 rfl (sq rfl (AZ rfl rfl (by rfl)) ?_))))); refine AK 3 rfl (sq rfl (AZ rfl rfl (by rfl)) ?_); refine sq rfl (AX rfl rfl rfl (by omega)) ?_; refine sq rfl (Cp rfl CW rfl rfl (by omega)) ?_; refine sq rfl (qc rfl rfl rfl ((fun w _ => EF (s.drop (i + 1)) 39 w))) (AK 1 rfl (Cy (AN (AN ?_))))
 have ZT := Wd (s.drop (i + 1))
 have QU : Ca (s.drop i) = if Lib.indexByte (s.drop (i + 1)) 39 < 0 then .bad 0 53 else .ok ((Lib.indexByte (s.drop (i + 1)) 39).toNat + 2) := by unfold Ca; rw [List.drop_drop]
 refine AH (Ae rfl (AF rfl (fun hc0 => ?_) (fun hc0 => ?_)))
 ·simp at hc0
  rw [if_pos hc0] at QU; refine tr (AC 4 rfl (lq rfl (AZ rfl rfl (by rfl)) ?_)); refine Bw rfl rfl rfl rfl (fun w hw => FL b s i i 53 _ _ _ w (AD (row b 108 (Ew s i 0 0)) hw)) ?_; rintro _ _ _ ⟨rfl, rfl, rfl⟩; refine Ae rfl (C0 (A1 rfl rfl (fun w' hw => ?_))); exact ⟨_, rfl, I, _, ⟨rfl, false, i, i, 53, rfl, (by rw [QU]; exact ⟨rfl, rfl, rfl⟩), (by omega), rfl⟩, hw⟩
 ·simp at hc0
  have hc0 : ¬ Lib.indexByte (s.drop (i + 1)) 39 < 0 := by omega
  rw [if_neg hc0] at QU; obtain ⟨m, hm, XJ⟩ := ZT.2 hc0; rw [List.length_drop] at XJ; rw [hm] at QU ⊢; refine Al (tr (AC 2 rfl (lq rfl (AX rfl rfl rfl (by omega)) ?_))); refine Bw rfl rfl rfl rfl (fun w hw => DD b s i (m + 2) 0 0 _ _ _ w (by omega) hs (by omega) (AD (row b 108 (Ew s i 0 0)) hw)) ?_; rintro _ _ _ ⟨rfl, rfl, rfl⟩; refine BQ (Ae rfl (Aq (A1 rfl rfl (fun w' hw => ?_)))); exact ⟨_, rfl, I, _, ⟨rfl, true, (min (i + (m + 2)) s.length), 0, 0, rfl, (by rw [QU]; exact ⟨rfl, (by show min (i + (m + 2)) s.length = i + (((m : Int)).toNat + 2); omega), rfl, rfl⟩), (by omega), rfl⟩, hw⟩
theorem IzQ (n : Nat) (hD : LM n) (b : Nat) (s : List UInt8) (i d : Nat) (q apo : Bool) (I : AU) (F : List HA) (w0 w : World) (hn : 24 - d = n) (hd : d ≤ 24) (hs : s.length ≤ 2305843009213693952) (hi : i < s.length) (CE : St w0 I (row b 108 (Ew s i 0 0) :: F) w) : Na 133 108 b s i [.int .i64 (d : Int), .bool q, .bool apo] (Bt (lv n).2 q apo (s.drop i)) I F w := by
 have hdl : (s.drop i).length = s.length - i := List.length_drop
 refine enter Tryz.func133 rfl Tryz.ntmps133 rfl (CE.self) (Ar rfl (AN (AR (tr (AC 1 rfl (lq rfl (qc rfl rfl rfl ((fun w hw => Dm b s [92] i 0 0 w (by omega) (Es hw)))) ?_)))))); refine Ae rfl (AF rfl (fun hc0 => ?_) (fun hc0 => ?_))
 ·refine AH (AC 1 rfl (Bw rfl rfl rfl rfl (fun w hw => DD b s i 2 0 0 _ _ _ w (by omega) hs (by omega) (AD (row b 108 (Ew s i 0 0)) hw)) ?_)); rintro _ _ _ ⟨rfl, rfl, rfl⟩; refine BX (AV (Ai (Ar rfl (Aq (A1 rfl rfl (fun w' hw => ?_)))))); exact ⟨_, rfl, I, _, ⟨rfl, true, (min (i + 2) s.length), 0, 0, rfl, (by rw [Bt, if_pos hc0]; exact ⟨rfl, (by omega), rfl, rfl⟩), (by omega), rfl⟩, hw⟩
 ·refine tq (AK 1 rfl (sq rfl (qc rfl rfl rfl ((fun w hw => Dm b s [39] i 0 0 w (by omega) (Es hw)))) ?_)); refine AK 1 rfl ?_
  refine BA 1 2 19 21 20 _ _ rfl rfl rfl rfl rfl rfl (fun h21 => by
    refine AJ 1 rfl ?_; exact Ao rfl
   ) (AM rfl) rfl rfl rfl ?_
  refine AK 1 rfl (Cy (AF rfl (fun BI => ?_) (fun BI => ?_)))
  ·refine tr (AC 1 rfl (Bw rfl rfl rfl rfl (fun w hw => Pq b s i _ _ _ w hs hi (AD (row b 108 (Ew s i 0 0)) hw)) ?_)); rintro _ _ _ ⟨rfl, ok23, i23, a23, e23, rfl, ANb, AKq, rfl⟩; refine Ae rfl (C0 (A1 rfl rfl (fun w' hw => ?_))); exact ⟨_, rfl, I, _, ⟨rfl, ok23, i23, a23, e23, rfl, (by rw [Bt, if_neg (by rw [hc0]; simp), if_pos BI]; exact ANb), AKq, rfl⟩, hw⟩
  ·refine tr (AC 1 rfl (lq rfl (qc rfl rfl rfl ((fun w hw => Dm b s [96] i 0 0 w (by omega) (Es hw)))) ?_)); refine Ae rfl (AF rfl (fun BU => ?_) (fun BU => ?_))
   ·refine tr (AC 4 rfl (lq rfl (AZ rfl rfl (by rfl)) ?_)); refine Bw rfl rfl rfl rfl (fun w hw => FL b s i i 55 _ _ _ w (AD (row b 108 (Ew s i 0 0)) hw)) ?_; rintro _ _ _ ⟨rfl, rfl, rfl⟩; refine Ae rfl (C0 (A1 rfl rfl (fun w' hw => ?_))); exact ⟨_, rfl, I, _, ⟨rfl, false, i, i, 55, rfl, (by rw [Bt, if_neg (by rw [hc0]; simp), if_neg (fun h => by rw [h] at BI; cases BI), if_pos BU]; exact ⟨rfl, rfl, rfl⟩), (by omega), rfl⟩, hw⟩
   ·refine tq (AK 1 rfl (sq rfl (qc rfl rfl rfl ((fun w hw => Dm b s [36, 40] i 0 0 w (by omega) (Es hw)))) ?_)); refine AK 1 rfl ?_
    refine Bf 2 2 36 39 38 _ _ rfl rfl rfl rfl rfl rfl (fun h39 => by
      refine AJ 1 rfl (sg rfl (qc rfl rfl rfl ((fun w hw => Dm b s [36, 123] i 0 0 w (by omega) (Es hw)))) ?_); exact Ao rfl
     ) (AM rfl) rfl rfl rfl ?_
    refine AK 1 rfl (Cy (AF rfl (fun Bd => ?_) (fun Bd => ?_)))
    ·have h2l : i + 2 ≤ s.length := by
      have h3 : (EY (s.drop i) [36, 40] || EY (s.drop i) [36, 123]) = true := Bd
      rw [Bool.or_eq_true] at h3
      rcases h3 with h3 | h3 <;> (have := Ig h3; simp at this; omega)
     refine tr (AC 2 rfl (lq rfl (AX rfl rfl rfl (by omega)) ?_)); refine AC 1 rfl (Bw rfl rfl rfl rfl (fun w hw => hD b s i (d + 1) q _ _ _ w (by omega) (by omega) hs h2l (AD (row b 108 (Ew s i 0 0)) hw)) ?_); rintro _ _ _ ⟨rfl, ok44, i44, a44, e44, rfl, AMo, ALp, rfl⟩; refine Ae rfl (C0 (A1 rfl rfl (fun w' hw => ?_))); exact ⟨_, rfl, I, _, ⟨rfl, ok44, i44, a44, e44, rfl, (by rw [Bt, if_neg (by rw [hc0]; simp), if_neg (fun h => by rw [h] at BI; cases BI), if_neg (by rw [BU]; simp), if_pos Bd]; exact AMo), ALp, rfl⟩, hw⟩
    ·refine AH (AC 1 rfl (Bw rfl rfl rfl rfl (fun w hw => DD b s i 1 0 0 _ _ _ w (by omega) hs (by omega) (AD (row b 108 (Ew s i 0 0)) hw)) ?_)); rintro _ _ _ ⟨rfl, rfl, rfl⟩; refine BX (AV (Ai (Ar rfl (Aq (A1 rfl rfl (fun w' hw => ?_)))))); exact ⟨_, rfl, I, _, ⟨rfl, true, (min (i + 1) s.length), 0, 0, rfl, (by rw [Bt, if_neg (by rw [hc0]; simp), if_neg (fun h => by rw [h] at BI; cases BI), if_neg (by rw [BU]; simp), if_neg (fun h => by rw [h] at Bd; cases Bd)]; exact ⟨rfl, (by omega), rfl, rfl⟩), (by omega), rfl⟩, hw⟩
theorem LS (m : Nat) (hD : ∀ n, m = n + 1 → LM n) (b : Nat) (s : List UInt8) (i d : Nat) (I : AU) (F : List HA) (w0 w : World) (hm : 25 - d = m) (hd : d ≤ 30) (hs : s.length ≤ 2305843009213693952) (hi : i < s.length) (CE : St w0 I (row b 108 (Ew s i 0 0) :: F) w) : Na 132 108 b s i [.int .i64 (d : Int)] ((lv m).1 (s.drop i)) I F w := by
 refine enter Tryz.func132 rfl Tryz.ntmps132 rfl (CE.self) (Ar rfl (tr (AC 3 rfl (lq rfl (AZ rfl rfl (by rfl)) ?_)))); refine Ae rfl (AN (Ar rfl (AF rfl (fun hc0 => ?_) (fun hc0 => ?_))))
 ·simp at hc0
  obtain rfl : m = 0 := by omega
  refine tr (AC 2 rfl (Bw rfl rfl rfl rfl (fun w hw => FL b s i i 52 _ _ _ w (AD (row b 108 (Ew s i 0 0)) hw)) ?_)); rintro _ _ _ ⟨rfl, rfl, rfl⟩; refine Ae rfl (C0 (A1 rfl rfl (fun w' hw => ?_))); exact ⟨_, rfl, I, _, ⟨rfl, false, i, i, 52, rfl, (by exact ⟨rfl, rfl, rfl⟩), (by omega), rfl⟩, hw⟩
 ·simp at hc0
  obtain ⟨n, rfl⟩ : ∃ n, m = n + 1 := ⟨m - 1, by omega⟩
  have Kj : (lv (n + 1)).1 (s.drop i) = (Ij (lv n).2 (s.drop i).length (s.drop (i + 1))).close 1 53 := by show AAD _ _ = _; unfold AAD; rw [List.drop_drop]
  refine Al (AN (tr (AC 1 rfl (Bw rfl rfl rfl rfl (fun w hw => DD b s i 1 0 0 _ _ _ w (by omega) hs (by omega) (AD (row b 108 (Ew s i 0 0)) hw)) ?_)))); rintro _ _ _ ⟨rfl, rfl, rfl⟩; refine ln (AR (A8 (ι := Nat × Nat) (fun zz => i + 1 ≤ zz.1 ∧ zz.1 ≤ s.length ∧ Ij (lv n).2 (s.drop i).length (s.drop (i + 1)) = (Ij (lv n).2 zz.2 (s.drop zz.1)).on (zz.1 - (i + 1)) ∧ (s.drop zz.1).length ≤ zz.2) (fun zz => s.length - zz.1) (fun zz => []) [(0, _), (1, _), (5, _), (11, _)] (fun zz => I) (fun zz => (row b 108 (Ew s zz.1 0 0) :: F)) (i + 1, (s.drop i).length) ?_ (AW) (AB rfl) (fun _ h => by dsimp only; rw [show min (i + 1) s.length = i + 1 by omega] at h; exact AA h) ?_))
  ·dsimp only; refine ⟨Nat.le_refl _, by omega, by rw [Nat.sub_self, LR.on_zero], by rw [List.length_drop, List.length_drop]; omega⟩
  rintro ⟨j, g⟩ ⟨SI, Qq, hx, IB⟩; dsimp only at *; refine AN (AN (CI mo (by kernel_rfl) (fun _ _ _ _ _ h => h) (AK 3 rfl (sq rfl (AZ rfl rfl (by rfl)) ?_)))); refine AK 3 rfl (sq rfl (AZ rfl rfl (by rfl)) ?_); refine sq rfl (Ap rfl CW rfl) (AK 1 rfl (Cy (AF rfl (fun BI => ?_) (fun BI => ?_))))
  ·simp at BI
   have hj : j < s.length := by omega
   have Dh := S9 hx (DS hj) IB
   refine Al (AR (AN (tr (AC 1 rfl (lq rfl (qc rfl rfl rfl ((fun w hw => Dm b s [34] j 0 0 w (by omega) (Es hw)))) ?_))))); refine ln (AF rfl (fun BU => ?_) (fun BU => ?_))
   ·have Bb := Dh.1 BU
    refine tr (AC 1 rfl (Bw rfl rfl rfl rfl (fun w hw => DD b s j 1 0 0 _ _ _ w (by omega) hs (by omega) (AD (row b 108 (Ew s j 0 0)) hw)) ?_)); rintro _ _ _ ⟨rfl, rfl, rfl⟩; refine BQ (Ae rfl (C0 (A1 rfl rfl (fun w' hw => ?_)))); exact ⟨_, rfl, I, _, ⟨rfl, true, (min (j + 1) s.length), 0, 0, rfl, (by rw [Kj, Bb]; exact ⟨rfl, (by show _ = i + (1 + (j - (i + 1) + 1)); omega), rfl, rfl⟩), (by omega), rfl⟩, hw⟩
   ·have ET := Dh.2 BU
    have Dg := GJ (dlr := (lv n).2) (q := true) (apo := false) (G7 n).2 (DS hj)
    refine Al (tr (AC 2 rfl (Bw rfl rfl rfl rfl (fun w hw => IzQ n (hD n rfl) b s j d true false _ _ _ w (by omega) (by omega) hs hj (AD (row b 108 (Ew s j 0 0)) hw)) ?_))); rintro _ _ _ ⟨rfl, ok33, i33, a33, e33, rfl, AGX, AJp, rfl⟩; refine Ae rfl (AF rfl (fun Bd => ?_) (fun Bd => ?_))
    ·have AEX : ok33 = false := by simpa using Bd
     obtain ⟨a, h1, h2⟩ := AGX.f AEX
     have h3 := ET.1 a e33 h1
     refine Ar rfl (C0 (A1 rfl rfl (fun w' hw => ?_))); exact ⟨_, rfl, I, _, ⟨rfl, false, i33, a33, e33, rfl, (by rw [Kj, h3]; exact ⟨rfl, (by show _ = i + (1 + (j - (i + 1) + a)); omega), rfl⟩), AJp, rfl⟩, hw⟩
    ·have AEX : ok33 = true := by simpa using Bd
     obtain ⟨k, h1, rfl, rfl, rfl⟩ := AGX.t AEX
     have h3 := ET.2 k h1
     rw [h1] at Dg; rw [List.drop_drop] at h3; refine Au (AV (Ak ((j + k, g - 1)) ?_ ?_ (AW) (AB rfl) (fun _ h => by dsimp only; exact AA h)))
     ·dsimp only; refine ⟨by omega, AJp, by rw [h3]; congr 1; omega, ?_⟩
      have h4 : 1 ≤ k := Dg.1
      rw [List.length_drop] at IB ⊢
      omega
     ·dsimp only
      have h4 : 1 ≤ k := Dg.1
      show s.length - (j + k) < s.length - j
      omega
  ·simp at BI
   obtain rfl : j = s.length := by omega
   rw [List.drop_length, Re] at hx; refine BB (AG (AG (AQ (Ai (tr (AC 2 rfl (Bw rfl rfl rfl rfl (fun w hw => FL b s s.length i 53 _ _ _ w (AD (row b 108 (Ew s s.length 0 0)) hw)) ?_))))))); rintro _ _ _ ⟨rfl, rfl, rfl⟩; refine Ae rfl (Aq (A1 rfl rfl (fun w' hw => ?_))); exact ⟨_, rfl, I, _, ⟨rfl, false, s.length, i, 53, rfl, (by rw [Kj, hx]; exact ⟨rfl, rfl, rfl⟩), (by omega), rfl⟩, hw⟩
end Go.Tri

namespace Go.Tri
open Go.Proofs Go.RowKit
set_option maxRecDepth 10000
def DA (br : Bool) (o : Nat) (b : UInt8) : Bool := br && decide (b = 125) || (!br && decide (b = 41) && decide (o = 0))
theorem TP {B : List UInt8 → SR} {D : Bool → List UInt8 → SR} {br q : Bool} {f o : Nat} {l : List UInt8} {r : LR} {j : Nat} (h : r = (Fp B D br q f o l).on j) (hl : l ≠ []) (hf : l.length ≤ f) :
  (nth l 0 0 = 34 → (∀ a e, B l = .bad a e → r = .bad (j + a) e) ∧ ∀ k, B l = .ok k → r = (Fp B D br q (f - 1) o (l.drop k)).on (j + k)) ∧
  (nth l 0 0 ≠ 34 → (DA br o (nth l 0 0) = true → r = .ok (j + 1)) ∧ (DA br o (nth l 0 0) = false → (∀ a e, Bt D q (!q) l = .bad a e → r = .bad (j + a) e) ∧ ∀ k, Bt D q (!q) l = .ok k → r = (Fp B D br q (f - 1) (Ge br o (nth l 0 0)) (l.drop k)).on (j + k))) := by
 have hp := List.length_pos_iff.2 hl
 obtain ⟨g, rfl⟩ : ∃ g, f = g + 1 := ⟨f - 1, by omega⟩; refine ⟨fun h1 => ⟨fun a e h2 => ?_, fun k h2 => ?_⟩, fun h1 => ⟨fun h2 => ?_, fun h2 => ⟨fun a e h3 => ?_, fun k h3 => ?_⟩⟩⟩
 ·rw [h, Fp, if_neg hl, if_pos h1, h2]; try rfl
 ·rw [h, Fp, if_neg hl, if_pos h1, h2, Nat.add_sub_cancel]; exact LR.on_on _ _ _
 ·rw [DA] at h2
  rw [h, Fp, if_neg hl, if_neg h1, if_pos h2]; try rfl
 ·rw [h, Fp, if_neg hl, if_neg h1, if_neg (fun h => by rw [DA, h] at h2; cases h2), h3]; try rfl
 ·rw [h, Fp, if_neg hl, if_neg h1, if_neg (fun h => by rw [DA, h] at h2; cases h2), h3, Nat.add_sub_cancel]; exact LR.on_on _ _ _
theorem Ou {br : Bool} {o : Nat} {b : UInt8} (h : DA br o b = false) (h2 : (!br && decide (b = 41)) = true) : 1 ≤ o := by
 unfold DA at h; rw [Bool.and_eq_true] at h2; rw [h2.1, h2.2] at h; rcases Nat.eq_zero_or_pos o with h3 | h3
 ·subst h3; simp at h
 ·exact h3
theorem Q7 {br : Bool} {o : Nat} {b : UInt8} (h : (!br && decide (b = 41) && decide ((o : Int) = 0)) = true) : DA br o b = true := by
 unfold DA; rw [Bool.or_eq_true]
 right
 rw [Bool.and_eq_true, decide_eq_true_eq] at h ⊢; exact ⟨h.1, by omega⟩
theorem O9 {br : Bool} {o : Nat} {b : UInt8} (h1 : (br && decide (b = 125)) = false) (h : (!br && decide (b = 41) && decide ((o : Int) = 0)) = false) : DA br o b = false := by
 unfold DA; rw [h1, Bool.false_or]
 cases hx : (!br && decide (b = 41)) with
 | false => rfl
 | true =>
  rw [hx, Bool.true_and, decide_eq_false_iff_not] at h; rw [Bool.true_and, decide_eq_false_iff_not]
  omega
theorem LE (m : Nat) (hD : ∀ n, m = n + 1 → RI n ∧ LM n) (b : Nat) (s : List UInt8) (i d : Nat) (q : Bool) (I : AU) (F : List HA) (w0 w : World) (hm : 25 - d = m) (hd : d ≤ 30) (hs : s.length ≤ 2305843009213693952) (hi : i + 2 ≤ s.length) (CE : St w0 I (row b 108 (Ew s i 0 0) :: F) w) : Na 161 108 b s i [.int .i64 (d : Int), .bool q] ((lv m).2 q (s.drop i)) I F w := by
 refine enter Tryz.func161 rfl Tryz.ntmps161 rfl (CE.self) (Ar rfl (QI rfl (AN (CI mo (by kernel_rfl) (fun _ _ _ _ _ h => h) (AK 3 rfl (sq rfl (AZ rfl rfl (by rfl)) ?_)))))); refine AK 3 rfl (sq rfl (AZ rfl rfl (by rfl)) ?_); refine AK 3 rfl (sq rfl (AZ rfl rfl (by rfl)) ?_); refine sq rfl (AX rfl rfl rfl (by omega)) ?_; refine sq rfl ((by exact DL rfl CW rfl rfl (by omega))) ?_; refine sq rfl (Aw rfl rfl rfl rfl) (AK 3 rfl (Cy (AN (Ar rfl (AF rfl (fun hc0 => ?_) (fun hc0 => ?_))))))
 ·simp at hc0
  obtain rfl : m = 0 := by omega
  refine tr (AC 2 rfl (Bw rfl rfl rfl rfl (fun w hw => FL b s i i 52 _ _ _ w (AD (row b 108 (Ew s i 0 0)) hw)) ?_)); rintro _ _ _ ⟨rfl, rfl, rfl⟩; refine Ae rfl (Aq (Ag (D4 (A1 rfl rfl (fun w' hw => ?_))))); exact ⟨_, rfl, I, _, ⟨rfl, false, i, i, 52, rfl, (by exact ⟨rfl, rfl, rfl⟩), (by omega), rfl⟩, hw⟩
 ·simp at hc0
  obtain ⟨n, rfl⟩ : ∃ n, m = n + 1 := ⟨m - 1, by omega⟩; refine Al (Bh (ι := Bool) (fun zz => zz = KY (s.drop i)) (fun zz => [(2, .bool (q && zz)), (8, .bool zz)]) [(0, _), (1, _), (6, _), (7, _), (9, _), (27, _)] (fun zz => I) (fun zz => (row b 108 (Ew s i 0 0) :: F)) (AB rfl) ?_ ?_)
  ·refine Dw (AK 2 rfl ?_)
   refine BA 1 1 32 34 33 _ _ rfl rfl rfl rfl rfl rfl (fun Jm => by
     refine AJ 1 rfl ?_; exact Ao rfl
    ) (AM rfl) rfl rfl rfl ?_
   refine AK 1 rfl (NN (Av (KY (s.drop i)) ?_ (Bl rfl (by unfold KY; rw [Ie]; try rfl) (Bl rfl (by unfold KY; rw [Ie]; try rfl) (AW))) (AB rfl) (fun _ h => by dsimp only; exact AA h)))
   ·dsimp only
    all_goals rfl
  rintro br hbr
  have Kj : (lv (n + 1)).2 q (s.drop i) = (Fp (lv n).1 (lv n).2 br (q && br) (s.drop i).length 0 (s.drop (i + 2))).close 2 53 := by show AAE _ _ _ _ = _; unfold AAE; rw [List.drop_drop, ← hbr]
  refine tr (AC 1 rfl (Bw rfl rfl rfl rfl (fun w hw => DD b s i 2 0 0 _ _ _ w (by omega) hs (by omega) (AD (row b 108 (Ew s i 0 0)) hw)) ?_)); rintro _ _ _ ⟨rfl, rfl, rfl⟩; refine Gb ?_
  first | refine Uz ?_ | refine Au ?_
  refine Ai (AN (AR (A8 (ι := Nat × Nat × Nat) (fun zz => i + 2 ≤ zz.1 ∧ zz.1 ≤ s.length ∧ Fp (lv n).1 (lv n).2 br (q && br) (s.drop i).length 0 (s.drop (i + 2)) = (Fp (lv n).1 (lv n).2 br (q && br) zz.2.2 zz.2.1 (s.drop zz.1)).on (zz.1 - (i + 2)) ∧ (s.drop zz.1).length ≤ zz.2.2 ∧ zz.2.1 ≤ zz.1) (fun zz => s.length - zz.1) (fun zz => [(9, .int .i64 (zz.2.1 : Int))]) [(2, _), (8, _), (0, _), (1, _), (7, _), (27, _)] (fun zz => I) (fun zz => (row b 108 (Ew s zz.1 0 0) :: F)) (i + 2, 0, (s.drop i).length) ?_ (AB rfl) (AB rfl) (fun _ h => by dsimp only; rw [show min (i + 2) s.length = i + 2 by omega] at h; exact AA h) ?_)))
  ·dsimp only; refine ⟨Nat.le_refl _, by omega, by rw [Nat.sub_self, LR.on_zero], by rw [List.length_drop, List.length_drop]; omega, Nat.zero_le _⟩
  rintro ⟨j, o, g⟩ ⟨SI, Qq, hx, IB, Wj⟩; dsimp only at *; refine AN (AN (CI mo (by kernel_rfl) (fun _ _ _ _ _ h => h) (AK 3 rfl (sq rfl (AZ rfl rfl (by rfl)) ?_)))); refine AK 3 rfl (sq rfl (AZ rfl rfl (by rfl)) ?_); refine sq rfl (Ap rfl CW rfl) (AK 1 rfl (Cy (AF rfl (fun BI => ?_) (fun BI => ?_))))
  ·simp at BI
   have hj : j < s.length := by omega
   have Fx := TP hx (DS hj) IB
   refine Al (AR (Bh (ι := Nat) (fun zz => zz = Ge br o (nth s j 0) ∧ nth s j 0 ≠ 34 ∧ DA br o (nth s j 0) = false ∧ zz ≤ j + 1) (fun zz => [(9, .int .i64 (zz : Int))]) [(2, _), (8, _), (0, _), (1, _), (7, _), (27, _), (46, _)] (fun zz => I) (fun zz => (row b 108 (Ew s j 0 0) :: F)) (AB rfl) ?_ ?_))
   ·refine AN (CI mo (by kernel_rfl) (fun _ _ _ _ _ h => h) (AK 3 rfl (sq rfl (AZ rfl rfl (by rfl)) ?_))); refine AK 3 rfl (sq rfl (AZ rfl rfl (by rfl)) ?_); refine sq rfl ((by exact BP rfl CW rfl rfl (by omega))) ?_; refine AK 1 rfl (Cy (AR (tr (AC 1 rfl (lq rfl (Aw rfl rfl rfl rfl) (Ae rfl (AF rfl (fun BU => ?_) (fun BU => ?_))))))))
    ·simp only [decide_eq_true_eq] at BU
     have BU : nth s j 0 = 34 := BU
     have ET := Fx.1 (by rw [B5]; exact BU)
     have Dg := (G7 n).1 _ (DS hj)
     refine AN (tr (AC 2 rfl (lq rfl (AX rfl rfl rfl (by omega)) ?_))); refine Bw rfl rfl rfl rfl (fun w hw => (hD n rfl).1 b s j (d + 1) _ _ _ w (by omega) (by omega) hs hj (AD (row b 108 (Ew s j 0 0)) hw)) ?_; rintro _ _ _ ⟨rfl, ok62, i62, a62, e62, rfl, AJO, AJy, rfl⟩; refine Ae rfl (AF rfl (fun Bd => ?_) (fun Bd => ?_))
     ·have hk : ok62 = false := by simpa using Bd
      obtain ⟨a, h1, h2⟩ := AJO.f hk
      have h3 := ET.1 a e62 h1
      refine Ar rfl (Aq (Ag (As (Ag (As (Ag (As (Ag (D4 ?_))))))))); refine A1 rfl rfl (fun w' hw => ?_); exact ⟨_, rfl, I, _, ⟨rfl, false, i62, a62, e62, rfl, (by rw [Kj, h3]; exact ⟨rfl, (by show _ = i + (2 + (j - (i + 2) + a)); omega), rfl⟩), AJy, rfl⟩, hw⟩
     ·have hk : ok62 = true := by simpa using Bd
      obtain ⟨k, h1, rfl, rfl, rfl⟩ := AJO.t hk
      have h3 := ET.2 k h1
      rw [h1] at Dg; rw [List.drop_drop] at h3; refine Al (BB (CB rfl (AG (AQ (Ak ((j + k, o, g - 1)) ?_ ?_ (AB rfl) (AB rfl) (fun _ h => by dsimp only; exact AA h))))))
      ·dsimp only
       have h4 : 1 ≤ k := Dg.1
       refine ⟨by omega, AJy, by rw [h3]; congr 1; omega, ?_, by omega⟩; rw [List.length_drop] at IB ⊢
       omega
      ·dsimp only
       have h4 : 1 ≤ k := Dg.1
       show s.length - (j + k) < s.length - j
       omega
    ·simp only [decide_eq_false_iff_not] at BU
     have BU : ¬ nth s j 0 = 34 := BU
     refine AN (tq (AK 2 rfl ?_))
     refine BA 2 1 66 69 68 _ _ rfl rfl rfl rfl rfl rfl (fun h69 => by
       refine AJ 1 rfl (sg rfl (Aw rfl rfl rfl rfl) ?_); exact Ao rfl
      ) (AM rfl) rfl rfl rfl ?_
     refine AK 1 rfl (Cy (AF rfl (fun Cg => ?_) (fun Cg => ?_)))
     ·refine Al (AF rfl (fun C1 => ?_) (fun C1 => ?_))
      ·have EP : DA br o (nth s j 0) = true := by rw [DA, Bool.or_eq_true]; exact .inl Cg
       have Bb := (Fx.2 (by rw [B5]; exact BU)).1 (by rw [B5]; exact EP)
       refine tr (AC 1 rfl (Bw rfl rfl rfl rfl (fun w hw => DD b s j 1 0 0 _ _ _ w (by omega) hs (by omega) (AD (row b 108 (Ew s j 0 0)) hw)) ?_)); rintro _ _ _ ⟨rfl, rfl, rfl⟩; refine BQ (Ae rfl (Aq (As (Ag (As (Ag (As (Ag (D4 ?_))))))))); refine A1 rfl rfl (fun w' hw => ?_); exact ⟨_, rfl, I, _, ⟨rfl, true, (min (j + 1) s.length), 0, 0, rfl, (by rw [Kj, Bb]; exact ⟨rfl, (by show _ = i + (2 + (j - (i + 2) + 1)); omega), rfl, rfl⟩), (by omega), rfl⟩, hw⟩
      ·exfalso
       rw [Cg] at C1
       cases C1
     ·refine Dw (AK 3 rfl ?_)
      refine BA 2 2 72 75 74 _ _ rfl rfl rfl rfl rfl rfl (fun h75 => by
        simp at h75
        refine AJ 1 rfl (sg rfl (Aw rfl rfl rfl rfl) ?_); exact Ao rfl
       ) (AM rfl) rfl rfl rfl ?_
      refine AK 1 rfl ?_
      refine BA 2 6 76 79 78 _ _ rfl rfl rfl rfl rfl rfl (fun h79 => by
        simp at h79
        refine AJ 2 rfl ?_; exact Ao rfl
       ) (AM rfl) rfl rfl rfl ?_
      refine AK 1 rfl (Cy (AF rfl (fun Dd => ?_) (fun Dd => ?_)))
      ·have EP : DA br o (nth s j 0) = true := Q7 Dd
       have Bb := (Fx.2 (by rw [B5]; exact BU)).1 (by rw [B5]; exact EP)
       refine tr (AC 1 rfl (Bw rfl rfl rfl rfl (fun w hw => DD b s j 1 0 0 _ _ _ w (by omega) hs (by omega) (AD (row b 108 (Ew s j 0 0)) hw)) ?_)); rintro _ _ _ ⟨rfl, rfl, rfl⟩; refine BQ (Ae rfl (Aq (As (Ag (As (Ag (As (Ag (D4 ?_))))))))); refine A1 rfl rfl (fun w' hw => ?_); exact ⟨_, rfl, I, _, ⟨rfl, true, (min (j + 1) s.length), 0, 0, rfl, (by rw [Kj, Bb]; exact ⟨rfl, (by show _ = i + (2 + (j - (i + 2) + 1)); omega), rfl, rfl⟩), (by omega), rfl⟩, hw⟩
      ·have EP : DA br o (nth s j 0) = false := O9 Cg Dd
       refine tq (AK 3 rfl ?_)
       refine BA 2 2 85 88 87 _ _ rfl rfl rfl rfl rfl rfl (fun h88 => by
         simp at h88
         refine AJ 1 rfl (sg rfl (Aw rfl rfl rfl rfl) ?_); exact Ao rfl
        ) (AM rfl) rfl rfl rfl ?_
       refine AK 1 rfl (Cy (AF rfl (fun EW => ?_) (fun EW => ?_)))
       ·have EW : (!br && decide (nth s j 0 = 41)) = true := EW
        refine AH (AC 1 rfl (lq rfl (Fa rfl rfl rfl (by omega)) ?_)); refine Ax rfl (AV (Av (o - 1) ?_ (Bl rfl (congrArg (Value.int IntKind.i64) (by have := Ou EP EW; omega)) (AW)) (AB rfl) (fun _ h => by dsimp only; exact AA h)))
        ·refine ⟨by rw [Ge, if_pos EW], BU, EP, by omega⟩
       ·have EW : (!br && decide (nth s j 0 = 41)) = false := EW
        refine tq (AK 3 rfl ?_)
        refine BA 2 2 94 97 96 _ _ rfl rfl rfl rfl rfl rfl (fun h97 => by
          simp at h97
          refine AJ 1 rfl (sg rfl (Aw rfl rfl rfl rfl) ?_); exact Ao rfl
         ) (AM rfl) rfl rfl rfl ?_
        refine AK 1 rfl (Cy (AF rfl (fun HF => ?_) (fun HF => ?_)))
        ·have HF : (!br && decide (nth s j 0 = 40)) = true := HF
         refine AH (AC 1 rfl (lq rfl (AX rfl rfl rfl (by omega)) ?_)); refine Ax rfl (AV (Av (o + 1) ?_ (AB rfl) (AB rfl) (fun _ h => by dsimp only; exact AA h)))
         ·refine ⟨by rw [Ge, if_neg (fun h => by rw [h] at EW; cases EW), if_pos HF], BU, EP, by omega⟩
        ·have HF : (!br && decide (nth s j 0 = 40)) = false := HF
         refine Au (AV (Av (o) ?_ (AB rfl) (AB rfl) (fun _ h => by dsimp only; exact AA h)))
         ·refine ⟨by rw [Ge, if_neg (fun h => by rw [h] at EW; cases EW), if_neg (fun h => by rw [h] at HF; cases HF)], BU, EP, by omega⟩
   rintro o2 ⟨ho2, ALQ, EP, ARI⟩; rw [B5] at Fx
   have ET := (Fx.2 ALQ).2 EP
   have Dg := GJ (dlr := (lv n).2) (q := (q && br)) (apo := !(q && br)) (G7 n).2 (DS hj)
   refine tr (AC 5 rfl (Bw rfl rfl rfl rfl (fun w hw => IzQ n (hD n rfl).2 b s j d (q && br) (!(q && br)) _ _ _ w (by omega) (by omega) hs hj (AD (row b 108 (Ew s j 0 0)) hw)) ?_)); rintro _ _ _ ⟨rfl, ok105, i105, a105, e105, rfl, ACh, ACq, rfl⟩; refine Ae rfl (AF rfl (fun J0 => ?_) (fun J0 => ?_))
   ·have hk : ok105 = false := by simpa using J0
    obtain ⟨a, h1, h2⟩ := ACh.f hk
    have h3 := ET.1 a e105 h1
    refine Ar rfl (Aq (As (Ag (As (Ag (D4 (A1 rfl rfl (fun w' hw => ?_)))))))); exact ⟨_, rfl, I, _, ⟨rfl, false, i105, a105, e105, rfl, (by rw [Kj, h3]; exact ⟨rfl, (by show _ = i + (2 + (j - (i + 2) + a)); omega), rfl⟩), ACq, rfl⟩, hw⟩
   ·have hk : ok105 = true := by simpa using J0
    obtain ⟨k, h1, rfl, rfl, rfl⟩ := ACh.t hk
    have h3 := ET.2 k h1
    rw [h1] at Dg; rw [List.drop_drop, ← ho2] at h3; refine Au (AV (Ak ((j + k, o2, g - 1)) ?_ ?_ (AB rfl) (AB rfl) (fun _ h => by dsimp only; exact AA h)))
    ·dsimp only
     have h4 : 1 ≤ k := Dg.1
     refine ⟨by omega, ACq, by rw [h3]; congr 1; omega, ?_, by omega⟩; rw [List.length_drop] at IB ⊢
     omega
    ·dsimp only
     have h4 : 1 ≤ k := Dg.1
     show s.length - (j + k) < s.length - j
     omega
  ·simp at BI
   obtain rfl : j = s.length := by omega
   rw [List.drop_length, RM] at hx; refine BB (AG (AG (AQ (Ai (tr (AC 2 rfl (Bw rfl rfl rfl rfl (fun w hw => FL b s s.length i 53 _ _ _ w (AD (row b 108 (Ew s s.length 0 0)) hw)) ?_))))))); rintro _ _ _ ⟨rfl, rfl, rfl⟩; refine Ae rfl (Aq (D4 (A1 rfl rfl (fun w' hw => ?_)))); exact ⟨_, rfl, I, _, ⟨rfl, false, s.length, i, 53, rfl, (by rw [Kj, hx]; exact ⟨rfl, rfl, rfl⟩), (by omega), rfl⟩, hw⟩
theorem NA : ∀ m, RI m ∧ LM m
 | 0 => ⟨fun b s i d I F w0 w h1 h2 h3 h4 h5 => LS 0 (fun n h => by cases h) b s i d I F w0 w h1 h2 h3 h4 h5, fun b s i d q I F w0 w h1 h2 h3 h4 h5 => LE 0 (fun n h => by cases h) b s i d q I F w0 w h1 h2 h3 h4 h5⟩
 | m + 1 => ⟨fun b s i d I F w0 w h1 h2 h3 h4 h5 => LS (m + 1) (fun n h => by cases h; exact (NA m).2) b s i d I F w0 w h1 h2 h3 h4 h5, fun b s i d q I F w0 w h1 h2 h3 h4 h5 => LE (m + 1) (fun n h => by cases h; exact NA m) b s i d q I F w0 w h1 h2 h3 h4 h5⟩
end Go.Tri
