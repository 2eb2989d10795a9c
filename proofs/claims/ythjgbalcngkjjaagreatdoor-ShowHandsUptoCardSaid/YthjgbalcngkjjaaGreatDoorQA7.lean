/-
 A scanner: words and operators.
-/
import Derived.Test.YthjgbalcngkjjaaGreatDoorQA3
import Derived.Test.YthjgbalcngkjjaaGreatDoorQSh
import Derived.Test.YthjgbalcngkjjaaGreatDoorPLex5
import Derived.Test.YthjgbalcngkjjaaGreatDoorTriZ
import Derived.Shelf.Strings.SlTrimAscii
import Derived.Test.YthjgbalcngkjjaaGreatDoorPAny
import Derived.Lib.IndexAny
namespace Go.Tri
open Go.Proofs Go.RowKit
set_option maxRecDepth 10000
structure GW (w : World) : Prop where
 tab : Lib.TabIs Tryz.prog w "internal/strconv.uint64pow10" .u64 Lib.pow10Tab
 syn : ∃ ev, w.cell? ⟨6, 0, none⟩ = some ev ∧ (ev = .nilIface ∨ ∃ te pe, ev = .iface te pe)
 rng : ∃ ev, w.cell? ⟨7, 0, none⟩ = some ev ∧ (ev = .nilIface ∨ ∃ te pe, ev = .iface te pe)
 max : ∃ m, w.cell? ⟨0, 0, none⟩ = some (.int .i64 m)
theorem QK {w w' : World} (h : Le (BF w) (BF w')) {a : Addr} {v : Value} (hc : w.cell? a = some v) : w'.cell? a = some v := by
 unfold World.cell? at *
 cases hb : w.heap[a.block]? with
 | none => rw [hb] at hc; cases hc
 | some o => rw [hb] at hc; rw [show w'.heap[a.block]? = some o from h _ _ hb]; exact hc
theorem AFY {w w' : World} (h : Le (BF w) (BF w')) {P : Program} {n : String} {cs : Array Value} (hc : w.var? P n = some cs) : w'.var? P n = some cs := by
 unfold World.var? at *; rw [Option.bind_eq_some_iff] at *; obtain ⟨g, hg, hc⟩ := hc; refine ⟨g, hg, ?_⟩
 cases hb : w.heap[g]? with
 | none => rw [hb] at hc; cases hc
 | some o => rw [hb] at hc; rw [show w'.heap[g]? = some o from h _ _ hb]; exact hc
theorem GW.le {w w' : World} (h : GW w) (k : Le (BF w) (BF w')) : GW w' where
 tab := AFY k h.tab
 syn := let ⟨ev, h1, h2⟩ := h.syn; ⟨ev, QK k h1, h2⟩
 rng := let ⟨ev, h1, h2⟩ := h.rng; ⟨ev, QK k h1, h2⟩
 max := let ⟨m, h1⟩ := h.max; ⟨m, QK k h1⟩
def FC (I : AU) : Prop := ∃ W0, GW W0 ∧ Le (BF W0) I
theorem FC.mono {I J : AU} (h : FC I) (k : Le I J) : FC J := let ⟨W0, h1, h2⟩ := h; ⟨W0, h1, h2.trans k⟩
theorem FC.gw {w : World} (h : FC (BF w)) : GW w := let ⟨_, h1, h2⟩ := h; h1.le h2
theorem FC.cell {w : World} (h : FC (BF w)) : ∃ m, w.cell? ⟨0, 0, none⟩ = some (.int .i64 m) := h.gw.max
theorem Hi (s sub : List UInt8) (w : World) (hs : s.length ≤ 1000000000) (hG : FC (BF w)) : Cw Tryz.prog 108 [Bj s, Bj sub] w (.bool (Lib.contains s sub)) := by
 obtain ⟨m, hm⟩ := hG.cell
 have Lj := DC s
 refine (Tryz.strings_Contains ⟨s.toArray⟩ ⟨sub.toArray⟩ m w (by omega) hm).mono fun e w' ⟨h1, h2⟩ => ?_
 subst h2; exact ⟨h1, Below.refl _ _⟩
theorem NG (s : List UInt8) (c : UInt8) (w : World) : Cw Tryz.prog 108 [Bj s, Bj [c]] w (.bool (DX s c)) := by
 refine (Tryz.strings_Contains_one ⟨s.toArray⟩ c w).mono fun e w' ⟨h1, h2⟩ => ?_
 subst h2; refine ⟨?_, Below.refl _ _⟩; rw [h1, ← Dn]
theorem Pk (s cs : List UInt8) (w : World) (hs : s.length ≤ 9223372036854775807) (hc : cs.length ≤ 1000) (ha : cs.all (fun b => decide (b.toNat < 128)) = true) : Cw Tryz.prog 111 [Bj s, Bj cs] w (Bj (Lib.trimS s cs)) := by
 have h1 := DC s
 have h2 := DC cs
 exact (Any.strings_Trim_laid Tryz.lays160 (by kernel_rfl) ⟨s.toArray⟩ ⟨cs.toArray⟩ w (by omega) (by omega) (ascii_of_all (l := cs) ha)).mono fun e w' ⟨h3, h4⟩ => ⟨h3, h4⟩
def BZ (t : CX) : List Value := [.int .i64 (t.kind : Int), Bj t.text, .int .i64 (t.pos : Int), Bj t.doc, .bool t.raw]
theorem A4 (t : CX) : ∀ u ∈ BZ t, u.oneCell' = true := fun u hu => by
 simp only [BZ, List.mem_cons, List.not_mem_nil, or_false] at hu
 rcases hu with rfl | rfl | rfl | rfl | rfl <;> rfl
def Qz (i : Nat) (r : TR) (t : CX) (ok : Bool) (i' a' e' : Nat) : Prop := match r with
 | .stop k => t = BV ∧ ok = false ∧ i' = i + k ∧ a' = 0 ∧ e' = 0
 | .tok off k kind text => t = ⟨kind, text, i + off, [], false⟩ ∧ ok = true ∧ i' = i + k ∧ a' = 0 ∧ e' = 0
 | .bad a e => t = BV ∧ ok = false ∧ a' = i + a ∧ e' = e
def AIq (f : FuncId) (T : TypeId) (b : Nat) (s : List UInt8) (i : Nat) (args : List Value) (r : TR) (I : AU) (F : List HA) (w : World) : Prop :=
 Calls Tryz.prog f (.pointer (some ⟨b, 0, none⟩) :: args).toArray w (fun e w' => ∃ v, e = .returned v ∧ ∃ I' H', (I = I' ∧ ∃ t ok i' a' e', v = .tuple #[.agg (BZ t).toArray, .bool ok] ∧ Qz i r t ok i' a' e' ∧ i' ≤ s.length ∧ H' = row b T (Ew s i' a' e') :: F) ∧ St w I' H' w')
theorem Md (c : UInt8) : decide (Lib.indexByte Cv c < 0) = !DX Cv c := by
 rw [← Dn]
 by_cases h : 0 ≤ Lib.indexByte Cv c
 ·rw [decide_eq_true h, decide_eq_false (by omega)]; try rfl
 ·rw [decide_eq_false h, decide_eq_true (by omega)]; try rfl
theorem VQ (l : List UInt8) (n : Nat) : (decide (((l.take n).length : Int) = (n : Int)) && Lib.contains ABY ([32] ++ l.take n ++ [32]) && !DX (l.take n) 32) = Mh l n := by
 unfold Mh Y4; rw [Bool.and_assoc]
 congr 1
 exact decide_eq_decide.2 (by omega)
theorem ABq (s : List UInt8) (i n : Nat) : (s.drop ((i : Int)).toNat).take ((min ((i : Int) + (n : Int)) (s.length : Int)).toNat - ((i : Int)).toNat) = (s.drop i).take n := by
 rw [show ((i : Int)).toNat = i by omega]
 by_cases h : i + n ≤ s.length
 ·congr 1; omega
 ·rw [List.take_of_length_le (by rw [List.length_drop]; omega), List.take_of_length_le (by rw [List.length_drop]; omega)]
theorem XW (s : List UInt8) (i k : Nat) : (s.drop ((i : Int)).toNat).take ((((i + k : Nat)) : Int).toNat - ((i : Int)).toNat) = (s.drop i).take k := by
 rw [show ((i : Int)).toNat = i by omega]
 congr 1; omega
theorem Ty (b : Nat) (s : List UInt8) (i : Nat) (I : AU) (F : List HA) (w0 w : World) (hs : s.length ≤ 2305843009213693952) (hi : i ≤ s.length) (CE : St w0 I (row b 108 (Ew s i 0 0) :: F) w) : Na 109 108 b s i [] (EN (s.drop i)) I F w := by
 refine enter Tryz.func109 rfl Tryz.ntmps109 rfl (CE.self) (Ar rfl (AN (AR (A8 (ι := Nat × Nat) (fun zz => i ≤ zz.1 ∧ zz.1 ≤ s.length ∧ EN (s.drop i) = (D9 zz.2 (s.drop zz.1)).on (zz.1 - i) ∧ (s.drop zz.1).length ≤ zz.2) (fun zz => s.length - zz.1) (fun zz => []) [(0, _)] (fun zz => I) (fun zz => (row b 108 (Ew s zz.1 0 0) :: F)) (i, (s.drop i).length) ?_ (AW) (AB rfl) (fun _ h => AA h) ?_))))
 ·dsimp only; refine ⟨Nat.le_refl _, hi, by rw [Nat.sub_self, SR.on_zero]; rfl, Nat.le_refl _⟩
 rintro ⟨j, g⟩ ⟨SI, Qq, hx, IB⟩; dsimp only at *; refine AN (AN (CI mo (by kernel_rfl) (fun _ _ _ _ _ h => h) (AK 3 rfl (sq rfl (AZ rfl rfl (by rfl)) ?_)))); refine AK 3 rfl (sq rfl (AZ rfl rfl (by rfl)) ?_); refine sq rfl (Ap rfl CW rfl) (AK 2 rfl ?_)
 refine BA 11 10 14 26 25 _ _ rfl rfl rfl rfl rfl rfl (fun YZ => by
   simp at YZ
   refine AJ 3 rfl (sg rfl (AZ rfl rfl (by rfl)) ?_); refine AJ 3 rfl (sg rfl (AZ rfl rfl (by rfl)) ?_); refine sg rfl ((by exact BP rfl CW rfl rfl (by omega))) ?_; refine sg rfl (qc rfl rfl rfl ((fun w _ => EF Cv (nth s j 0) w))) (AJ 1 rfl ?_); exact Ao rfl
  ) (AM rfl) rfl rfl rfl ?_
 refine Cy (AF rfl (fun hc0 => ?_) (fun hc0 => ?_))
 ·have h0 : (decide ((j : Int) < (s.length : Int)) && decide (Lib.indexByte Cv (nth s j 0) < 0)) = true := hc0
  rw [Md, Bool.and_eq_true, decide_eq_true_eq, Bool.not_eq_true'] at h0
  have hj : j < s.length := by omega
  have ET := (Hs hx (DS hj) IB).2 (by rw [B5]; exact h0.2)
  have Dg := E2 (DS hj)
  refine Al (AR (Ar rfl (Bh (ι := Bool × Nat × Nat × Nat) (fun zz => Wp j (CA (s.drop j)) zz.1 zz.2.1 zz.2.2.1 zz.2.2.2 ∧ zz.2.1 ≤ s.length) (fun zz => [(3, .bool zz.1)]) [(0, _), (26, _)] (fun zz => I) (fun zz => (row b 108 (Ew s zz.2.1 zz.2.2.1 zz.2.2.2) :: F)) (AB rfl) ?_ ?_)))
  ·refine tr (AC 1 rfl (lq rfl (qc rfl rfl rfl ((fun w hw => Dm b s [34] j 0 0 w (by omega) (Es hw)))) ?_)); refine ln (AF rfl (fun BI => ?_) (fun BI => ?_))
   ·refine AH (AC 1 rfl (Bw rfl rfl rfl rfl (fun w hw => (NA 24).1 b s j 1 _ _ _ w (by decide) (by decide) hs hj (AD (row b 108 (Ew s j 0 0)) hw)) ?_)); rintro _ _ _ ⟨rfl, ok30, i30, a30, e30, rfl, AMt, ANe, rfl⟩; refine Ax rfl (Av ((ok30, i30, a30, e30)) ?_ (AB rfl) (AB rfl) (fun _ h => by dsimp only; exact AA h))
    ·dsimp only; exact ⟨by rw [CA, if_pos BI]; exact AMt, ANe⟩
   ·refine AH (AC 1 rfl (Bw rfl rfl rfl rfl (fun w hw => IzQ 24 (NA 24).2 b s j 0 false true _ _ _ w (by decide) (by decide) hs hj (AD (row b 108 (Ew s j 0 0)) hw)) ?_)); rintro _ _ _ ⟨rfl, ok32, i32, a32, e32, rfl, AKZ, ANX, rfl⟩; refine Ax rfl (Av ((ok32, i32, a32, e32)) ?_ (AB rfl) (AB rfl) (fun _ h => by dsimp only; exact AA h))
    ·dsimp only; exact ⟨by rw [CA, if_neg (by rw [BI]; simp)]; exact AKZ, ANX⟩
  rintro ⟨ok3, i3, a3, e3⟩ ⟨hr3, hi3⟩; dsimp only at *; refine Ar rfl (AF rfl (fun BU => ?_) (fun BU => ?_))
  ·have hk : ok3 = false := by simpa using BU
   obtain ⟨a, h1, h2⟩ := hr3.f hk
   have h3 := ET.1 a e3 h1
   refine Ar rfl (C0 (A1 rfl rfl (fun w' hw => ?_))); exact ⟨_, rfl, I, _, ⟨rfl, false, i3, a3, e3, rfl, (by rw [h3]; exact ⟨rfl, (by omega), rfl⟩), hi3, rfl⟩, hw⟩
  ·have hk : ok3 = true := by simpa using BU
   obtain ⟨k, h1, rfl, rfl, rfl⟩ := hr3.t hk
   have h3 := ET.2 k h1
   rw [h1] at Dg; rw [List.drop_drop] at h3; refine Au (AV (Ak ((j + k, g - 1)) ?_ ?_ (AW) (AB rfl) (fun _ h => by dsimp only; exact AA h)))
   ·dsimp only
    have h4 : 1 ≤ k := Dg.1
    refine ⟨by omega, hi3, by rw [h3]; congr 1; omega, ?_⟩; rw [List.length_drop] at IB ⊢
    omega
   ·dsimp only
    have h4 : 1 ≤ k := Dg.1
    show s.length - (j + k) < s.length - j
    omega
 ·have h0 : (decide ((j : Int) < (s.length : Int)) && decide (Lib.indexByte Cv (nth s j 0) < 0)) = false := hc0
  rw [Md] at h0
  have J3 : EN (s.drop i) = .ok (j - i) := by
   by_cases hj : j < s.length
   ·rw [decide_eq_true (by omega), Bool.true_and] at h0; exact (Hs hx (DS hj) IB).1 (by rw [B5]; simpa using h0)
   ·rw [hx, List.drop_of_length_le (by omega), Gr]; try rfl
  refine BB (AG (AG (AQ (Ai (Ar rfl (Aq (A1 rfl rfl (fun w' hw => ?_)))))))); exact ⟨_, rfl, I, _, ⟨rfl, true, j, 0, 0, rfl, (by rw [J3]; exact ⟨rfl, (by omega), rfl, rfl⟩), (by omega), rfl⟩, hw⟩
theorem Ot (b : Nat) (s : List UInt8) (i : Nat) (w : World) (hs : s.length ≤ 2305843009213693952) (hi : i ≤ s.length) (hb : ZF w b (Ew s i 0 0)) (hG : FC (BF w)) : Cw Tryz.prog 85 [.pointer (some ⟨b, 0, none⟩)] w (Bj (Ng (s.drop i))) := by
 refine enter Tryz.func85 rfl Tryz.ntmps85 rfl (St.start w (BF w) (Le.refl _)) (Ar rfl (AN (Ar rfl (AR (A8 (ι := Nat) (fun zz => zz ≤ 3 ∧ Ng (s.drop i) = OX zz (s.drop i)) (fun zz => zz) (fun zz => [(3, .int .i64 (zz : Int))]) [(0, _)] (fun zz => BF w) (fun zz => []) 3 ?_ (AB rfl) (AB rfl) (fun _ h => AA h) ?_)))))
 ·exact ⟨Nat.le_refl _, rfl⟩
 rintro n ⟨hn, hx⟩; dsimp only at *; refine AN (Ar rfl (AF rfl (fun hc0 => ?_) (fun hc0 => ?_)))
 ·simp at hc0
  refine Al (AN (AR (AN (CI mo (by kernel_rfl) (fun _ _ _ _ _ h => h) (AK 3 rfl (sq rfl ((by exact B1 rfl rfl (B2 (hb 0 _ rfl)))) ?_)))))); refine AK 3 rfl (sq rfl ((by exact B1 rfl rfl (B2 (hb 1 _ rfl)))) ?_); refine AK 3 rfl (sq rfl ((by exact B1 rfl rfl (B2 (hb 1 _ rfl)))) ?_); refine AK 1 rfl (sq rfl (AX rfl rfl rfl (by omega)) ?_); refine AK 3 rfl (sq rfl ((by exact B1 rfl rfl (B2 (hb 0 _ rfl)))) ?_); refine sq rfl (Ap rfl CW rfl) (sq rfl (VV rfl rfl rfl) (sq rfl (GL rfl CW rfl rfl rfl (by omega)) ?_)); rw [ABq s i n]; refine AK 1 rfl (Cy (AN ?_))
  have XR : ((s.drop i).take n).length ≤ 3 := by rw [List.length_take]; omega
  refine Dw (AK 1 rfl (sq rfl (Ap rfl CW rfl) (AK 3 rfl ?_)))
  refine BA 4 4 34 39 38 _ _ rfl rfl rfl rfl rfl rfl (fun h39 => by
    simp at h39
    refine AJ 1 rfl (sg rfl (Dk rfl rfl rfl (by (simp only [List.length_cons, List.length_nil, List.length_take, List.length_drop]; omega))) ?_); refine sg rfl (Dk rfl rfl rfl (by (simp only [List.length_append, List.length_cons, List.length_nil, List.length_take, List.length_drop]; omega))) ?_; refine sg rfl (qc rfl rfl rfl ((fun w hw => Hi ABY ([32] ++ (s.drop i).take n ++ [32]) w (by decide) (hG.mono hw.le)))) ?_; exact Ao rfl
   ) (AM rfl) rfl rfl rfl ?_
  refine AK 1 rfl ?_
  refine BA 3 10 40 44 43 _ _ rfl rfl rfl rfl rfl rfl (fun h44 => by
    simp at h44
    refine AJ 1 rfl (sg rfl (qc rfl rfl rfl ((fun w _ => NG ((s.drop i).take n) 32 w))) (AJ 1 rfl ?_)); exact Ao rfl
   ) (AM rfl) rfl rfl rfl ?_
  refine Cy (AF rfl (fun BI => ?_) (fun BI => ?_))
  ·have h1 : Mh (s.drop i) n = true := by rw [← VQ]; exact BI
   refine Ar rfl (C0 (A1 rfl rfl (fun w' hw => ?_))); refine ⟨?_, hw.below⟩; obtain ⟨m, rfl⟩ : ∃ m, n = m + 1 := ⟨n - 1, by omega⟩; rw [hx, OX, if_pos h1]
  ·have h1 : Mh (s.drop i) n = false := by rw [← VQ]; exact BI
   refine Au (AV (Ai (AH (AC 1 rfl (lq rfl (Fa rfl rfl rfl (by omega)) ?_))))); refine Ax rfl (Ak (n - 1) ?_ ?_ (Bl rfl (congrArg (Value.int IntKind.i64) (by omega)) (AW)) (AB rfl) (fun _ h => by dsimp only; exact AA h))
   ·refine ⟨by omega, ?_⟩; obtain ⟨m, rfl⟩ : ∃ m, n = m + 1 := ⟨n - 1, by omega⟩
    rw [hx, OX, if_neg (fun h => by rw [h] at h1; cases h1)]; try rfl
   ·omega
 ·simp at hc0
  refine BB (AG (AG (AQ (Ai (Ar rfl (Aq (A1 rfl rfl (fun w' hw => ?_)))))))); refine ⟨?_, hw.below⟩
  obtain rfl : n = 0 := by omega
  rw [hx]; try rfl
theorem Ur (b : Nat) (s : List UInt8) (i : Nat) (I : AU) (F : List HA) (w0 w : World) (hs : s.length ≤ 2305843009213693952) (hi : i ≤ s.length) (CE : St w0 I (row b 108 (Ew s i 0 0) :: F) w) : AIq 86 108 b s i [.int .i64 (i : Int)] (Hx (s.drop i)) I F w := by
 refine enter Tryz.func86 rfl Tryz.ntmps86 rfl (CE.self) (tr (le rfl (Ah rfl BL rfl) ?_)); rintro _ _ _ ⟨b4, rfl, rfl, rfl⟩; refine AI (H' := row b4 73 (BZ BV) :: _) ?_ (fun _ h => h); refine Ae rfl (AN (tr (AC 1 rfl (Bw rfl rfl rfl rfl (fun w hw => Ty b s i _ _ _ w hs hi (AD (row b 108 (Ew s i 0 0)) hw)) ?_)))); rintro _ _ _ ⟨rfl, ok8, i8, a8, e8, rfl, hr8, hi8, rfl⟩; refine Ae rfl (AF rfl (fun hc0 => ?_) (fun hc0 => ?_))
 ·have hk : ok8 = false := by simpa using hc0
  obtain ⟨a, h1, rfl⟩ := hr8.f hk; refine tr (lq rfl (A6 (pl := [(_, _), (_, _), (_, _), (_, _), (_, _)]) (cs := (BZ BV).toArray) rfl Cz BL ⟨rfl, ⟨_, _, B0⟩, rfl, ⟨_, _, CU⟩, rfl, ⟨_, _, B0⟩, rfl, ⟨_, _, CU⟩, rfl, ⟨_, _, De⟩, trivial⟩ rfl rfl) (An rfl rfl ((by exact AE rfl BL rfl rfl rfl (by exact A4 _) rfl)) ?_)); rintro _ _ _ ⟨rfl, rfl⟩; refine Ae rfl (Aq (Ag (A3 (.inl rfl) rfl (by exact BK rfl Cz BL rfl rfl (Dc rfl (BJ))) (fun w' hw => ?_)))); exact ⟨_, rfl, I, _, ⟨rfl, BV, false, i8, (i + a), e8, rfl, (by rw [Hx, h1]; exact ⟨rfl, rfl, rfl, rfl⟩), hi8, rfl⟩, AA hw⟩
 ·have hk : ok8 = true := by simpa using hc0
  obtain ⟨k, h1, rfl, rfl, rfl⟩ := hr8.t hk
  have XP : ((s.drop i).take k).length = k := by rw [List.length_take, List.length_drop]; omega
  refine Al (AN (DH [12, 13] [] [row b 108 (Ew s (i + k) 0 0)] mo (by kernel_rfl) (fun _ _ _ _ _ h => h) (Bg [0, 1, 2] (by kernel_rfl) rfl rfl rfl (Ko 3 (by kernel_rfl) rfl (Le.refl _) rfl (fun _ hI => AZ rfl rfl (by rfl)) ?_)))); refine Bg [4, 5, 6, 7] (by kernel_rfl) rfl rfl rfl (Ko 8 (by kernel_rfl) rfl (Le.refl _) rfl (fun _ hI => AZ rfl rfl (by rfl)) ?_); refine Ko 9 (by kernel_rfl) rfl (Le.refl _) rfl (fun _ hI => GL rfl CW rfl rfl rfl (by omega)) ?_; rw [XW s i k]; refine Bg [10] (by kernel_rfl) rfl rfl rfl (Ko 11 (by kernel_rfl) rfl (Le.refl _) rfl (fun _ hI => A6 (pl := [(_, _), (_, _), (_, _), (_, _), (_, _)]) (cs := (BZ ⟨1, (s.drop i).take k, i, [], false⟩).toArray) rfl Cz BL ⟨rfl, ⟨_, _, B0⟩, rfl, ⟨_, _, CU⟩, rfl, ⟨_, _, B0⟩, rfl, ⟨_, _, CU⟩, rfl, ⟨_, _, De⟩, trivial⟩ rfl rfl) (re 12 (by kernel_rfl) rfl (Le.refl _) rfl (Ah rfl BL rfl) ?_)); rintro _ _ _ ⟨b6, rfl, rfl, rfl⟩; refine ⟨Le.refl _, .inr CY.sub, ?_⟩; refine Eu 13 (by kernel_rfl) (by kernel_rfl) rfl (Le.refl _) rfl rfl ((by exact AE rfl BL rfl rfl rfl (by exact A4 _) rfl)) ?_; rintro _ _ _ ⟨rfl, rfl⟩; refine ⟨Le.refl _, .inr CY.sub, ?_⟩; refine D3 (by kernel_rfl) (Ai (AN (tr (AC 1 rfl (lq rfl (AZ rfl rfl (by rfl)) ?_))))); refine lq rfl (Ap rfl CW rfl) (Ae rfl (AF rfl (fun BI => ?_) (fun BI => ?_)))
  ·simp at BI
   have h4 : 4096 < k := by omega
   refine tr (AC 2 rfl (Bw rfl rfl rfl rfl (fun w hw => FL b s (i + k) i 51 _ _ _ w (AD (row b 108 (Ew s (i + k) 0 0)) hw)) ?_)); rintro _ _ _ ⟨rfl, rfl, rfl⟩; refine BQ (lq rfl (A6 (pl := [(_, _), (_, _), (_, _), (_, _), (_, _)]) (cs := (BZ BV).toArray) rfl Cz BL ⟨rfl, ⟨_, _, B0⟩, rfl, ⟨_, _, CU⟩, rfl, ⟨_, _, B0⟩, rfl, ⟨_, _, CU⟩, rfl, ⟨_, _, De⟩, trivial⟩ rfl rfl) (An rfl rfl ((by exact AE rfl BL rfl rfl rfl (by exact A4 _) rfl)) ?_)); rintro _ _ _ ⟨rfl, rfl⟩; refine Ae rfl (Aq (Ag (A3 (.inl rfl) rfl (by exact BK rfl Cz BL rfl rfl (Dc rfl (BJ))) (fun w' hw => ?_)))); exact ⟨_, rfl, I, _, ⟨rfl, BV, false, (i + k), i, 51, rfl, (by rw [Hx, h1]; simp only [if_pos h4]; exact ⟨rfl, rfl, rfl, rfl⟩), hi8, rfl⟩, AA hw⟩
  ·simp at BI
   have h4 : ¬ 4096 < k := by omega
   refine Al (Bh (ι := Nat) (fun zz => zz = if Ez (s.drop i) k then 4 else 1) (fun zz => []) [(0, _), (1, _), (4, _), (5, _), (9, _), (6, _), (26, _)] (fun zz => I) (fun zz => (row b6 73 (BZ ⟨zz, (s.drop i).take k, i, [], false⟩) :: row b4 73 (BZ BV) :: row b 108 (Ew s (i + k) 0 0) :: F)) (AB rfl) ?_ ?_)
   ·refine tq (AK 1 rfl (sq rfl (AZ rfl rfl (by rfl)) ?_)); refine sq rfl (qc rfl rfl rfl ((fun w _ => Pk ((s.drop i).take k) M6 w (by rw [List.length_take, List.length_drop]; omega) (by decide) (by decide)))) ?_; refine sq rfl (BM rfl rfl rfl) (AK 1 rfl ?_)
    refine BA 6 4 35 42 41 _ _ rfl rfl rfl rfl rfl rfl (fun h42 => by
      simp at h42
      refine AJ 1 rfl (sg rfl (qc rfl rfl rfl ((fun w hw => Dm b s [60] (i + k) 0 0 w (by omega) (Es hw)))) ?_); refine AJ 1 rfl ?_
      refine Bf 2 7 38 41 40 _ _ rfl rfl rfl rfl rfl rfl (fun h41 => by
        refine AJ 1 rfl (sg rfl (qc rfl rfl rfl ((fun w hw => Dm b s [62] (i + k) 0 0 w (by omega) (Es hw)))) ?_); exact Ao rfl
       ) (Be rfl rfl rfl rfl) rfl rfl rfl ?_
      exact Ao rfl
     ) (AM rfl) rfl rfl rfl ?_
    refine Cy (AF rfl (fun BU => ?_) (fun BU => ?_))
    ·have AEE : Ez (s.drop i) k = true := by rw [Ez, List.drop_drop]; exact BU
     refine AH (AC 1 rfl ?_); refine An rfl rfl (Ac rfl B0 rfl rfl (by exact ⟨rfl, rfl⟩) rfl (by rfl)) ?_; rintro _ _ _ ⟨rfl, rfl⟩; refine AI (H' := row b6 73 (BZ ⟨4, (s.drop i).take k, i, [], false⟩) :: _) ?_ (fun _ h => h); refine BX (Av (4) ?_ (AW) (AB rfl) (fun _ h => by dsimp only; exact AA h))
     ·rw [AEE, if_pos rfl]
    ·have AEE : Ez (s.drop i) k = false := by rw [Ez, List.drop_drop]; exact BU
     refine Au (Av (1) ?_ (AW) (AB rfl) (fun _ h => by dsimp only; exact AA h))
     ·rw [AEE, if_neg (by simp)]
   rintro kd hkd; dsimp only at *; refine tr (lq rfl (Af rfl Cz BL rfl rfl rfl) (An rfl rfl ((by exact AE rfl BL rfl rfl rfl (by exact A4 _) rfl)) ?_)); rintro _ _ _ ⟨rfl, rfl⟩; refine Ae rfl (Aq (A3 (.inl rfl) rfl (by exact BK rfl Cz BL rfl rfl (Dc rfl (BJ))) (fun w' hw => ?_))); exact ⟨_, rfl, I, _, ⟨rfl, ⟨kd, (s.drop i).take k, i, [], false⟩, true, (i + k), 0, 0, rfl, (by rw [Hx, h1]; simp only [if_neg h4, ← hkd]; exact ⟨rfl, rfl, rfl, rfl, rfl⟩), hi8, rfl⟩, AA hw⟩
end Go.Tri

namespace Go.Tri
open Go.Proofs Go.RowKit
set_option maxRecDepth 10000
theorem Qz.on {i j : Nat} {r : TR} {t : CX} {ok : Bool} {i' a' e' : Nat} (h : Qz j r t ok i' a' e') (hij : i ≤ j) : Qz i (r.on (j - i)) t ok i' a' e' := by
 cases r with
 | stop k => exact ⟨h.1, h.2.1, by rw [h.2.2.1]; omega, h.2.2.2⟩
 | tok off k kind text => exact ⟨by rw [h.1]; congr 1; omega, h.2.1, by rw [h.2.2.1]; omega, h.2.2.2⟩
 | bad a e => exact ⟨h.1, h.2.1, by rw [h.2.2.1]; omega, h.2.2.2⟩
theorem Vu {l : List UInt8} (h : EY l [92, 10] = true) : Ce l = 2 := by rw [Ce, if_pos h]
theorem WB {s : List UInt8} {j : Nat} (h : EY (s.drop j) [92, 10] = false) (h2 : (decide (nth s j 0 = 32) || decide (nth s j 0 = 9)) = true) : Ce (s.drop j) = 1 := by
 rw [Ce, if_neg (by rw [h]; simp), B5, if_pos h2]
theorem O4 {s : List UInt8} {j : Nat} (h : EY (s.drop j) [92, 10] = false) (h2 : (decide (nth s j 0 = 32) || decide (nth s j 0 = 9)) = false) (h3 : nth s j 0 = 35) : Ce (s.drop j) = Bz (s.drop j) := by
 rw [Ce, if_neg (by rw [h]; simp), B5, if_neg (by rw [h2]; simp), if_pos h3]
theorem Yg {s : List UInt8} {j : Nat} (h : EY (s.drop j) [92, 10] = false) (h2 : (decide (nth s j 0 = 32) || decide (nth s j 0 = 9)) = false) (h3 : ¬ nth s j 0 = 35) : Ce (s.drop j) = 0 := by
 rw [Ce, if_neg (by rw [h]; simp), B5, if_neg (by rw [h2]; simp), if_neg h3]
theorem Ra (b : Nat) (s : List UInt8) (i : Nat) (I : AU) (F : List HA) (w0 w : World) (hs : s.length ≤ 2305843009213693952) (hi : i ≤ s.length) (hG : FC I) (CE : St w0 I (row b 108 (Ew s i 0 0) :: F) w) : AIq 65 108 b s i [] (I6 (s.drop i)) I F w := by
 refine enter Tryz.func65 rfl Tryz.ntmps65 rfl (CE.self) (tr (le rfl (Ah rfl BL rfl) ?_)); rintro _ _ _ ⟨b2, rfl, rfl, rfl⟩; refine AI (H' := row b2 73 (BZ BV) :: _) ?_ (fun _ h => h); refine Ae rfl (Xc (ι := Nat × Nat) 0 rfl rfl (fun zz => i ≤ zz.1 ∧ zz.1 ≤ s.length ∧ I6 (s.drop i) = (Hp zz.2 (s.drop zz.1)).on (zz.1 - i) ∧ (s.drop zz.1).length < zz.2) (fun zz => s.length - zz.1) (fun zz => []) [(0, _), (2, _)] (fun zz => I) (fun zz => (row b2 73 (BZ BV) :: row b 108 (Ew s zz.1 0 0) :: F)) (i, (s.drop i).length + 1) ?_ (AW) (AB rfl) (fun _ h => AA h) ?_ ?_)
 ·dsimp only; exact ⟨Nat.le_refl _, hi, by rw [Nat.sub_self, TR.on_zero]; rfl, Nat.lt_succ_self _⟩
 all_goals (
  rintro ⟨j, g⟩ ⟨SI, Qq, hx, IB⟩; dsimp only at *
  have ADO := JS hx IB
  refine AN ?_
  first | refine Uz ?_ | refine Au ?_
  refine Ai (AN (AN (CI mo (by kernel_rfl) (fun _ _ _ _ _ h => h) (AK 3 rfl (sq rfl (AZ rfl rfl (by rfl)) ?_))))); refine AK 3 rfl (sq rfl (AZ rfl rfl (by rfl)) ?_); refine sq rfl (Ap rfl CW rfl) (AK 1 rfl (Cy (AF rfl (fun hc0 => ?_) (fun hc0 => ?_))))
  ·simp at hc0
   obtain rfl : j = s.length := by omega
   have J3 := ADO.1 (List.drop_length)
   refine tr (lq rfl (A6 (pl := [(_, _), (_, _), (_, _), (_, _), (_, _)]) (cs := (BZ BV).toArray) rfl Cz BL ⟨rfl, ⟨_, _, B0⟩, rfl, ⟨_, _, CU⟩, rfl, ⟨_, _, B0⟩, rfl, ⟨_, _, CU⟩, rfl, ⟨_, _, De⟩, trivial⟩ rfl rfl) (An rfl rfl ((by exact AE rfl BL rfl rfl rfl (by exact A4 _) rfl)) ?_)); rintro _ _ _ ⟨rfl, rfl⟩; refine Ae rfl (Aq (Ag (IU (A3 (.inl rfl) rfl (by exact BK rfl Cz BL rfl rfl (Dc rfl (BJ))) (fun w' hw => ?_))))); exact ⟨_, rfl, I, _, ⟨rfl, BV, false, s.length, 0, 0, rfl, (by rw [J3]; exact ⟨rfl, rfl, (by omega), rfl, rfl⟩), (Nat.le_refl _), rfl⟩, AA hw⟩
  ·simp at hc0
   have hj : j < s.length := by omega
   have Dh := ADO.2 (DS hj)
   refine Al (tr (AC 3 rfl (lq rfl (AZ rfl rfl (by rfl)) ?_))); refine Ae rfl (AN (tr (AC 3 rfl (lq rfl (AZ rfl rfl (by rfl)) ?_)))); refine AC 1 rfl (lq rfl ((by exact BP rfl CW rfl rfl (by omega))) ?_); refine Ae rfl (AR (tr (AC 1 rfl (lq rfl (qc rfl rfl rfl ((fun w hw => Dm b s [92, 10] j 0 0 w (by omega) (Es hw)))) ?_)))); refine Ae rfl (AF rfl (fun BI => ?_) (fun BI => ?_))
   ·have UQ := Ig BI
    rw [List.length_drop] at UQ
    replace UQ : 2 ≤ s.length - j := UQ
    refine tr (AC 1 rfl (Bw rfl rfl rfl rfl (fun w hw => DD b s j 2 0 0 _ _ _ w (by omega) hs (by omega) (AD (row b 108 (Ew s j 0 0)) hw)) ?_)); rintro _ _ _ ⟨rfl, rfl, rfl⟩; refine ln (Qg (Gm (HP ?_)))
    have hb9 : Ce (s.drop j) = 2 := Vu BI
    have h3 := Dh.2 _ hb9 (by omega)
    rw [List.drop_drop] at h3; refine M7 ((j + 2, g - 1)) ?_ ?_ (AW) (AB rfl) (fun _ h => by dsimp only; rw [show min (j + 2) s.length = j + 2 by omega] at h; exact AA h)
    ·dsimp only; refine ⟨by omega, by omega, by rw [h3]; congr 1; omega, ?_⟩; rw [List.length_drop] at IB ⊢
     omega
    ·dsimp only
     show s.length - (j + 2) < s.length - j
     omega
   ·refine tq (AK 1 rfl (sq rfl (Aw rfl rfl rfl rfl) (AK 1 rfl ?_)))
    refine Bf 2 2 37 40 39 _ _ rfl rfl rfl rfl rfl rfl (fun XK => by
      simp at XK
      refine AJ 1 rfl (sg rfl (Aw rfl rfl rfl rfl) ?_); exact Ao rfl
     ) (AM rfl) rfl rfl rfl ?_
    refine AK 1 rfl (Cy (AF rfl (fun BU => ?_) (fun BU => ?_)))
    ·refine tr (AC 1 rfl (Bw rfl rfl rfl rfl (fun w hw => DD b s j 1 0 0 _ _ _ w (by omega) hs (by omega) (AD (row b 108 (Ew s j 0 0)) hw)) ?_)); rintro _ _ _ ⟨rfl, rfl, rfl⟩; refine ln (Qg (Gm (HP ?_)))
     have hb9 : Ce (s.drop j) = 1 := WB BI BU
     have h3 := Dh.2 _ hb9 (by omega)
     rw [List.drop_drop] at h3; refine M7 ((j + 1, g - 1)) ?_ ?_ (AW) (AB rfl) (fun _ h => by dsimp only; rw [show min (j + 1) s.length = j + 1 by omega] at h; exact AA h)
     ·dsimp only; refine ⟨by omega, by omega, by rw [h3]; congr 1; omega, ?_⟩; rw [List.length_drop] at IB ⊢
      omega
     ·dsimp only
      show s.length - (j + 1) < s.length - j
      omega
    ·refine tr (AC 1 rfl (lq rfl (Aw rfl rfl rfl rfl) (Ae rfl (AF rfl (fun Bd => ?_) (fun Bd => ?_)))))
     ·simp only [decide_eq_true_eq] at Bd
      have Bd : nth s j 0 = 35 := Bd
      have V2 := Nf (l := s.drop j) (by rw [B5]; exact Bd) (DS hj)
      rw [List.length_drop] at V2; refine AN (tr (AC 3 rfl (lq rfl (AZ rfl rfl (by rfl)) ?_))); refine AC 1 rfl (lq rfl (Cp rfl CW rfl rfl (by omega)) ?_); refine lq rfl (qc rfl rfl rfl ((fun w _ => EF (s.drop j) 10 w))) (Ae rfl (Ar rfl (AF rfl (fun Cg => ?_) (fun Cg => ?_))))
      ·simp at Cg
       obtain ⟨m, hm⟩ : ∃ m : Nat, Lib.indexByte (s.drop j) 10 = m := ⟨(Lib.indexByte (s.drop j) 10).toNat, by omega⟩; rw [Bz, if_pos Cg, hm] at V2
       replace V2 : 1 ≤ m ∧ m ≤ s.length - j := V2
       rw [hm]; refine AH (AC 2 rfl (Bw rfl rfl rfl rfl (fun w hw => DD b s j m 0 0 _ _ _ w (by omega) hs (by omega) (AD (row b 108 (Ew s j 0 0)) hw)) ?_)); rintro _ _ _ ⟨rfl, rfl, rfl⟩; refine ln (Qg (Gm (HP ?_)))
       have hb9 : Ce (s.drop j) = m := by rw [O4 BI BU Bd, Bz, if_pos (by omega), hm]; try rfl
       have h3 := Dh.2 _ hb9 (by omega)
       rw [List.drop_drop] at h3; refine M7 ((j + m, g - 1)) ?_ ?_ (AW) (AB rfl) (fun _ h => by dsimp only; rw [show min (j + m) s.length = j + m by omega] at h; exact AA h)
       ·dsimp only; refine ⟨by omega, by omega, by rw [h3]; congr 1; omega, ?_⟩; rw [List.length_drop] at IB ⊢
        omega
       ·dsimp only
        show s.length - (j + m) < s.length - j
        omega
      ·simp at Cg
       refine AH (AC 4 rfl (lq rfl (AZ rfl rfl (by rfl)) ?_)); refine lq rfl (Ap rfl CW rfl) (AC 2 rfl ?_); refine An rfl rfl (Ac rfl B0 rfl rfl (by exact ⟨rfl, rfl⟩) rfl (by rfl)) ?_; rintro _ _ _ ⟨rfl, rfl⟩; refine AI (H' := row b 108 (Ew s s.length 0 0) :: _) ?_ (fun _ h => h); refine ln (Qg (Gm (HP ?_)))
       have hb9 : Ce (s.drop j) = (s.length - j) := by rw [O4 BI BU Bd, Bz, if_neg (by omega), List.length_drop]
       have h3 := Dh.2 _ hb9 (by omega)
       rw [List.drop_drop] at h3; refine M7 ((j + (s.length - j), g - 1)) ?_ ?_ (AW) (AB rfl) (fun _ h => by dsimp only; rw [show j + (s.length - j) = s.length by omega]; exact AA h)
       ·dsimp only; refine ⟨by omega, by omega, by rw [h3]; congr 1; omega, ?_⟩; rw [List.length_drop] at IB ⊢
        omega
       ·dsimp only
        show s.length - (j + (s.length - j)) < s.length - j
        omega
     ·simp only [decide_eq_false_iff_not] at Bd
      have Bd : ¬ nth s j 0 = 35 := Bd
      have hhd := Dh.1 (Yg BI BU Bd)
      refine tr (AC 1 rfl (lq rfl (Aw rfl rfl rfl rfl) (Ae rfl (AF rfl (fun C1 => ?_) (fun C1 => ?_)))))
      ·simp only [decide_eq_true_eq] at C1
       have C1 : nth s j 0 = 10 := C1
       have P1 : E3 (s.drop j) = .tok 0 1 3 [10] := by rw [E3, B5, if_pos C1]
       refine tr (AC 1 rfl (Bw rfl rfl rfl rfl (fun w hw => DD b s j 1 0 0 _ _ _ w (by omega) hs (by omega) (AD (row b 108 (Ew s j 0 0)) hw)) ?_)); rintro _ _ _ ⟨rfl, rfl, rfl⟩; refine BQ (AC 1 rfl (lq rfl (A6 (pl := [(_, _), (_, _), (_, _), (_, _), (_, _)]) (cs := (BZ ⟨3, [10], j, [], false⟩).toArray) rfl Cz BL ⟨rfl, ⟨_, _, B0⟩, rfl, ⟨_, _, CU⟩, rfl, ⟨_, _, B0⟩, rfl, ⟨_, _, CU⟩, rfl, ⟨_, _, De⟩, trivial⟩ rfl rfl) (An rfl rfl ((by exact AE rfl BL rfl rfl rfl (by exact A4 _) rfl)) ?_))); rintro _ _ _ ⟨rfl, rfl⟩; refine Ae rfl (Aq (As (Ag (IU (A3 (.inl rfl) rfl (by exact BK rfl Cz BL rfl rfl (Dc rfl (BJ))) (fun w' hw => ?_)))))); exact ⟨_, rfl, I, _, ⟨rfl, ⟨3, [10], j, [], false⟩, true, (min (j + 1) s.length), 0, 0, rfl, (by rw [hhd, P1]; exact Qz.on ⟨rfl, rfl, (by omega), rfl, rfl⟩ SI), (by omega), rfl⟩, AA hw⟩
      ·simp only [decide_eq_false_iff_not] at C1
       have C1 : ¬ nth s j 0 = 10 := C1
       refine Au (AV (Ai (AN (tr (AC 1 rfl (lq rfl (qc rfl rfl rfl ((fun w hw => Ot b s j w hs (by omega) (Es hw) (hG.mono hw.imm)))) ?_)))))); refine Ae rfl (tr (AC 1 rfl (lq rfl (C7 rfl rfl rfl) (ln (AF rfl (fun Dd => ?_) (fun Dd => ?_))))))
       ·have Dd := of_decide_eq_true Dd
        have Vx := (LD 3 (s.drop j)).1
        rw [List.length_drop] at Vx
        replace Vx : (Ng (s.drop j)).length ≤ s.length - j := Vx
        have P1 : E3 (s.drop j) = .tok 0 (Ng (s.drop j)).length 2 (Ng (s.drop j)) := by rw [E3, B5, if_neg C1, if_pos Dd]
        refine tr (AC 2 rfl (lq rfl (Ap rfl CW rfl) (Bw rfl rfl rfl rfl (fun w hw => DD b s j (Ng (s.drop j)).length 0 0 _ _ _ w (by omega) hs (by omega) (AD (row b 108 (Ew s j 0 0)) hw)) ?_))); rintro _ _ _ ⟨rfl, rfl, rfl⟩; refine BQ (AC 2 rfl (lq rfl (A6 (pl := [(_, _), (_, _), (_, _), (_, _), (_, _)]) (cs := (BZ ⟨2, Ng (s.drop j), j, [], false⟩).toArray) rfl Cz BL ⟨rfl, ⟨_, _, B0⟩, rfl, ⟨_, _, CU⟩, rfl, ⟨_, _, B0⟩, rfl, ⟨_, _, CU⟩, rfl, ⟨_, _, De⟩, trivial⟩ rfl rfl) (An rfl rfl ((by exact AE rfl BL rfl rfl rfl (by exact A4 _) rfl)) ?_))); rintro _ _ _ ⟨rfl, rfl⟩; refine Ae rfl (Aq (Ag (IU (A3 (.inl rfl) rfl (by exact BK rfl Cz BL rfl rfl (Dc rfl (BJ))) (fun w' hw => ?_))))); exact ⟨_, rfl, I, _, ⟨rfl, ⟨2, Ng (s.drop j), j, [], false⟩, true, (min (j + (Ng (s.drop j)).length) s.length), 0, 0, rfl, (by rw [hhd, P1]; exact Qz.on ⟨rfl, rfl, (by omega), rfl, rfl⟩ SI), (by omega), rfl⟩, AA hw⟩
       ·have Dd := of_decide_eq_false Dd
        have P1 : E3 (s.drop j) = Hx (s.drop j) := by rw [E3, B5, if_neg C1, if_neg Dd]
        refine Al (tr (AC 2 rfl (Bw rfl rfl rfl rfl (fun w hw => Ur b s j _ _ _ w hs (by omega) (AD (row b 108 (Ew s j 0 0)) hw)) ?_))); rintro _ _ _ ⟨rfl, tt, ok86, i86, a86, e86, rfl, AMY, ALP, rfl⟩; refine AC 2 rfl (An rfl rfl ((by exact AE rfl BL rfl rfl rfl (by exact A4 _) rfl)) ?_); rintro _ _ _ ⟨rfl, rfl⟩; refine Ae rfl (Aq (IU (A3 (.inl rfl) rfl (by exact BK rfl Cz BL rfl rfl (Dc rfl (BJ))) (fun w' hw => ?_))))
        exact ⟨_, rfl, I, _, ⟨rfl, tt, ok86, i86, a86, e86, rfl, (by rw [hhd, P1]; exact AMY.on SI), ALP, rfl⟩, AA hw⟩)
end Go.Tri

namespace Go.Tri
open Go.Proofs Go.RowKit
set_option maxRecDepth 10000
theorem OH (r : Int) (w : World) : Cw Tryz.prog 163 [.int .i32 r] w (.bool ((decide (0 ≤ r) && decide (r < 55296)) || (decide (57343 < r) && decide (r ≤ 1114111)))) := by
 refine enter Tryz.func163 rfl Tryz.ntmps163 rfl (St.start w (BF w) (Le.refl _)) (Ar rfl (AN (AR (tq (AK 3 rfl ?_)))))
 refine BA 2 2 6 9 8 _ _ rfl rfl rfl rfl rfl rfl (fun h9 => by
   simp at h9
   refine AJ 2 rfl ?_; exact Ao rfl
  ) (AM rfl) rfl rfl rfl ?_
 refine AK 1 rfl (Cy (AF rfl (fun hc0 => ?_) (fun hc0 => ?_)))
 ·refine Ar rfl (C0 (A1 rfl rfl (fun w' hw => ?_))); refine ⟨?_, hw.below⟩
  rw [show (decide (0 ≤ r) && decide (r < 55296)) = true from hc0]; try rfl
 ·refine tq (AK 3 rfl ?_)
  refine BA 2 2 13 16 15 _ _ rfl rfl rfl rfl rfl rfl (fun V5 => by
    simp at V5
    refine AJ 2 rfl ?_; exact Ao rfl
   ) (AM rfl) rfl rfl rfl ?_
  refine AK 1 rfl (Cy (AF rfl (fun BI => ?_) (fun BI => ?_)))
  ·refine Ar rfl (C0 (A1 rfl rfl (fun w' hw => ?_))); refine ⟨?_, hw.below⟩; rw [show (decide (57343 < r) && decide (r ≤ 1114111)) = true from BI, Bool.or_true]
  ·refine Au (AV (Ai (Ar rfl (Aq (A1 rfl rfl (fun w' hw => ?_)))))); refine ⟨?_, hw.below⟩
   rw [show (decide (0 ≤ r) && decide (r < 55296)) = false from hc0, show (decide (57343 < r) && decide (r ≤ 1114111)) = false from BI]; try rfl
theorem OF (s : List UInt8) (r : Nat) (w : World) (hs : s.length ≤ 1000000000) (ha : KE s) : Cw Tryz.prog 137 [Bj s, .int .i32 (r : Int)] w (.int .i64 (if r < 128 then Lib.indexByte s (UInt8.ofNat r) else -1)) := by
 refine enter Tryz.func137 rfl Tryz.ntmps137 rfl (St.start w (BF w) (Le.refl _)) (Ar rfl (AR (tq (AK 3 rfl ?_))))
 refine BA 2 2 163 166 165 _ _ rfl rfl rfl rfl rfl rfl (fun AKz => by
   simp at AKz
   refine AJ 2 rfl ?_; exact Ao rfl
  ) (AM rfl) rfl rfl rfl ?_
 refine AK 1 rfl (Cy (AF rfl (fun hc0 => ?_) (fun hc0 => ?_)))
 ·have hr : r < 128 := by have h0 : (decide ((0 : Int) ≤ (r : Int)) && decide ((r : Int) < 128)) = true := hc0; simp only [Bool.and_eq_true, decide_eq_true_eq] at h0; omega
  refine tr (AC 2 rfl (lq rfl (Oz r rfl AHP un5 rfl rfl) (lq rfl (qc rfl rfl rfl ((fun w _ => EF s (UInt8.ofNat r) w))) (Ae rfl (C0 (A1 rfl rfl (fun w' hw => ?_))))))); refine ⟨?_, hw.below⟩; rw [if_pos hr]
 ·have hr : ¬ r < 128 := by have h0 : (decide ((0 : Int) ≤ (r : Int)) && decide ((r : Int) < 128)) = false := hc0; simp only [Bool.and_eq_false_iff, decide_eq_false_iff_not] at h0; omega
  refine Ar rfl (AF rfl (fun BI => ?_) (fun BI => ?_))
  ·refine AN (tr (AC 1 rfl (le rfl (Ny rfl CW rfl) ?_))); rintro _ _ _ ⟨b175, rfl, rfl, rfl⟩; refine ln (AR (A8 (ι := Nat) (fun zz => zz ≤ s.length) (fun zz => s.length - zz) (fun zz => []) [(0, _), (1, _), (160, _), (171, _), (175, _)] (fun zz => BF w) (fun zz => [Fq b175 (.stringIter ⟨s.toArray⟩ zz)]) 0 ?_ (AW) (AB rfl) (fun _ h => AA h) ?_))
   ·exact Nat.zero_le _
   rintro p hp; dsimp only at *; refine tr (le rfl (O2 rfl rfl) ?_); rintro _ _ _ ⟨vs176, rfl, AGY, ADG, rfl, rfl⟩; refine lq rfl (Fw rfl rfl AGY) (Gb (AF rfl (fun BU => ?_) (fun BU => ?_)))
   ·simp at BU
    have FA : p < s.length := by simpa using BU
    have ALB : (nth s p 0).toNat < 128 := ha _ (DG FA)
    have DV := (SP s p FA).1 ALB
    replace DV : (Fi s p).1 = (nth s p 0).toNat ∧ (Fi s p).2 = 1 := by rw [DV]; exact ⟨rfl, rfl⟩
    refine Al (AR (tr (lq rfl (Fw rfl rfl (ADG (by omega)).1) ?_))); refine lq rfl (Fw rfl rfl (ADG (by omega)).2) ?_; refine Ae rfl (Ar rfl (AF rfl (fun Bd => ?_) (fun Bd => ?_)))
    ·exfalso
     have h3 := of_decide_eq_true Bd
     rw [DV.1] at h3
     omega
    ·refine Au (AV (Ak (Gk s p) ?_ ?_ (AW) (AB rfl) (fun _ h => by dsimp only; exact AA h)))
     ·rw [Gk, if_pos FA, DV.2]; exact FA
     ·rw [Gk, if_pos FA, DV.2]; omega
   ·simp at BU
    refine BB (AG (AG (AQ (Ai (Ar rfl (C0 (A1 rfl rfl (fun w' hw => ?_)))))))); refine ⟨?_, hw.below⟩; rw [if_neg hr]
  ·refine tr (AC 1 rfl (lq rfl (qc rfl rfl rfl ((fun w _ => OH _ w))) (Ae rfl (AF rfl (fun Cg => ?_) (fun Cg => ?_)))))
   ·refine Ar rfl (C0 (A1 rfl rfl (fun w' hw => ?_))); refine ⟨?_, hw.below⟩; rw [if_neg hr]
   ·refine QI rfl (tr (AC 1 rfl (lq rfl (Uj rfl AHP CW rfl) ?_))); obtain ⟨e, he⟩ : ∃ e, e = (Utf8.encode (r : Int)).data.toList := ⟨_, rfl⟩
    have AEc := YT (r : Int) (by omega)
    rw [← he] at AEc ⊢; refine Ae rfl (tr (AC 1 rfl (lq rfl (Ap rfl CW rfl) (lq rfl (Fa rfl rfl rfl (by omega)) ?_)))); refine Ae rfl (Ar rfl (Ar rfl (AN (AR (A8 (ι := Nat) (fun zz => 1 ≤ zz) (fun zz => 0) (fun zz => [(9, .int .i64 (zz : Int))]) [(0, _), (1, _), (160, _), (171, _), (183, _), (7, _), (8, _)] (fun zz => BF w) (fun zz => []) (e.length - 1) ?_ (Bl rfl (congrArg (Value.int IntKind.i64) (by omega)) (AW)) (AB rfl) (fun _ h => AA h) ?_)))))
    ·omega
    rintro i hi1; dsimp only at *; refine AN (tr (AC 2 rfl (lq rfl (Ap rfl CW rfl) (Ae rfl (AF rfl (fun C1 => ?_) (fun C1 => ?_))))))
    ·simp at C1
     refine Al (AR (QI rfl (AN (AN (CI mo (by kernel_rfl) (fun _ _ _ _ _ h => h) (AK 2 rfl (sq rfl ((by exact BP rfl CW rfl rfl (by omega))) ?_))))))); refine AK 2 rfl (sq rfl ((by exact DL rfl CW rfl rfl (by omega))) ?_); refine sq rfl (ZC rfl rfl rfl) (Cy (AF rfl (fun Dd => ?_) (fun Dd => ?_)))
     ·refine AN (CI mo (by kernel_rfl) (fun _ _ _ _ _ h => h) (AK 2 rfl (sq rfl (AX rfl rfl rfl (by omega)) ?_))); refine sq rfl (Cp rfl CW rfl rfl (by omega)) ?_; refine AK 2 rfl (sq rfl ((by exact DL rfl CW rfl rfl (by omega))) ?_); refine sq rfl (qc rfl rfl rfl ((fun w _ => EF (s.drop (i + 1)) (nth e (((e.length : Int) - 1)).toNat 0) w))) (AK 1 rfl (Cy (AN (Ar rfl (AF rfl (fun EW => ?_) (fun EW => ?_))))))
      ·refine Ar rfl (Aq (Ag (Ag (D4 (As (Ag (As (Ag (D4 ?_))))))))); refine As (A1 rfl rfl (fun w' hw => ?_)); refine ⟨?_, hw.below⟩; rw [if_neg hr]
      ·exfalso
       have h8 := AEc.2.2 _ (DG (l := e) (i := (((e.length : Int) - 1)).toNat) (d := 0) (by omega))
       have h9 := ABO (PJ (Up ha (i + 1)) h8)
       exact of_decide_eq_false EW h9
     ·exfalso
      have h6 : decide (nth s i 0 ≠ nth e (((e.length : Int) - 1)).toNat 0) = false := Dd
      rw [decide_eq_false_iff_not, Classical.not_not] at h6
      have h7 := ha _ (DG (l := s) (i := i) (d := 0) (by omega))
      have h8 := AEc.2.2 _ (DG (l := e) (i := (((e.length : Int) - 1)).toNat) (d := 0) (by omega))
      rw [h6] at h7
      omega
    ·simp at C1
     refine BB (AG (AG (AQ (Ai (AN (Ar rfl (Aq (Ag (D4 ?_))))))))); refine As (A1 rfl rfl (fun w' hw => ?_)); refine ⟨?_, hw.below⟩; rw [if_neg hr]
end Go.Tri

namespace Go.Tri
open Go.Proofs Go.RowKit
set_option maxRecDepth 10000
theorem Pw (s c : List UInt8) : decide (0 ≤ Lib.indexAny s c) = EG s c := by
 unfold EG
 have AMW : ∀ b, c.contains b = DX c b := fun b => by
  unfold DX; rw [List.contains_eq_any_beq]
  congr 1; funext d
  exact Bool.beq_comm
 induction s with
 | nil => rfl
 | cons b s ih =>
  have NL := Lib.indexAny_ge c s
  rw [List.any_cons, ← ih, ← AMW, Lib.indexAny]
  cases hx : c.contains b with
  | true => simp
  | false =>
   rw [if_neg (by simp), Bool.false_or]
   split
   ·rename_i h1
    have : Lib.indexAny s c = -1 := by simpa using h1
    rw [this]
   ·rename_i h1
    have h2 : ¬ Lib.indexAny s c = -1 := by simpa using h1
    have h3 : 0 ≤ Lib.indexAny s c := by omega
    rw [decide_eq_true h3, decide_eq_true (by omega)]
theorem Nv (n : Int) (w : World) : Cw Tryz.prog 138 [.int .i64 n] w (.bool (decide (8 < n))) := by
 refine enter Tryz.func138 rfl Tryz.ntmps138 rfl (St.start w (BF w) (Le.refl _)) (Ar rfl (Ar rfl (Aq (A1 rfl rfl (fun w' hw => ?_))))); exact ⟨rfl, hw.below⟩
theorem OL (s c : List UInt8) (w : World) (hs : s.length ≤ 8) (EP : 2 ≤ c.length) (hcm : c.length ≤ 1000000000) (ha : KE c) : U0 Tryz.prog 112 [Bj s, Bj c] w (fun v => ∃ n : Int, v = .int .i64 n ∧ decide (0 ≤ n) = EG s c) := by
 refine enter Tryz.func112 rfl Tryz.ntmps112 rfl (St.start w (BF w) (Le.refl _)) (Ar rfl (AN (tr (AC 1 rfl (lq rfl (BM rfl rfl rfl) (ln (AF rfl (fun hc0 => ?_) (fun hc0 => ?_))))))))
 ·exfalso
  rw [of_decide_eq_true hc0] at EP; exact absurd EP (by decide)
 ·refine Al (AN (tr (AC 1 rfl (lq rfl (Ap rfl CW rfl) (Ae rfl (AF rfl (fun BI => ?_) (fun BI => ?_)))))))
  ·simp at BI
   exfalso
   omega
  ·simp at BI
   refine Al (AN (tr (AC 1 rfl (lq rfl (Ap rfl CW rfl) (lq rfl (qc rfl rfl rfl ((fun w _ => Nv _ w))) (ln (AF rfl (fun BU => ?_) (fun BU => ?_))))))))
   ·simp at BU
    exfalso
    omega
   ·simp at BU
    refine Al (AN (tr (AC 1 rfl (le rfl (Ny rfl CW rfl) ?_)))); rintro _ _ _ ⟨b45, rfl, rfl, rfl⟩; refine ln (AR (A8 (ι := Nat) (fun zz => zz ≤ s.length ∧ EG (s.take zz) c = false) (fun zz => s.length - zz) (fun zz => []) [(0, _), (1, _), (12, _), (15, _), (26, _), (45, _)] (fun zz => BF w) (fun zz => [Fq b45 (.stringIter ⟨s.toArray⟩ zz)]) 0 ?_ (AW) (AB rfl) (fun _ h => AA h) ?_))
    ·exact ⟨Nat.zero_le _, rfl⟩
    rintro p ⟨hp, ET⟩; dsimp only at *; refine tr (le rfl (O2 rfl rfl) ?_); rintro _ _ _ ⟨vs46, rfl, AKj, AIn, rfl, rfl⟩; refine lq rfl (Fw rfl rfl AKj) (Gb (AF rfl (fun Bd => ?_) (fun Bd => ?_)))
    ·simp at Bd
     have FA : p < s.length := by simpa using Bd
     have DV := SP s p FA
     refine Al (AR (tr (lq rfl (Fw rfl rfl (AIn (by omega)).1) ?_))); refine lq rfl (Fw rfl rfl (AIn (by omega)).2) ?_; refine Ae rfl (tr (AC 2 rfl (lq rfl (qc rfl rfl rfl ((fun w _ => OF c (Fi s p).1 w hcm ha))) (Ae rfl (AF rfl (fun Cg => ?_) (fun Cg => ?_))))))
     ·simp at Cg
      refine Ar rfl (C0 (A1 rfl rfl (fun w' hw => ?_))); refine ⟨_, rfl, ⟨_, rfl, ?_⟩, hw.below⟩
      have hl : (nth s p 0).toNat < 128 := by
       refine Classical.byContradiction fun h => ?_
       have := (DV.2 h).1
       rw [if_neg (by omega)] at Cg
       omega
      rw [DV.1 hl, if_pos hl] at Cg
      have e : UInt8.ofNat (nth s p 0).toNat = nth s p 0 := by simp
      rw [e] at Cg; rw [AAT FA (by rw [← Dn]; exact decide_eq_true Cg)]; exact decide_eq_true (by omega)
     ·simp at Cg
      refine Au (AV (Ak (Gk s p) ?_ ?_ (AW) (AB rfl) (fun _ h => by dsimp only; exact AA h)))
      ·rw [Gk, if_pos FA]
       by_cases hl : (nth s p 0).toNat < 128
       ·have hr := DV.1 hl
        have hn : DX c (nth s p 0) = false := by
         rw [hr, if_pos hl] at Cg
         have e : UInt8.ofNat (nth s p 0).toNat = nth s p 0 := by simp
         rw [e] at Cg
         rw [← Dn]; exact decide_eq_false (by omega)
        rw [hr]; exact ⟨FA, by rw [Rc FA, ET, hn]; try rfl⟩
       ·obtain ⟨h1, h2, h3, h4⟩ := DV.2 hl; exact ⟨h3, by rw [RZ ha _ h3 h4]; exact ET⟩
      ·rw [Gk, if_pos FA]
       by_cases hl : (nth s p 0).toNat < 128
       ·rw [DV.1 hl]; show s.length - (p + 1) < _; omega
       ·have := (DV.2 hl).2.1; omega
    ·simp at Bd
     obtain rfl : p = s.length := by omega
     refine BB (AG (AG (AQ (Ai (Ar rfl (Aq (A1 rfl rfl (fun w' hw => ?_)))))))); refine ⟨_, rfl, ⟨_, rfl, ?_⟩, hw.below⟩; rw [List.take_length] at ET
     rw [ET]; try rfl
theorem Wm {c : List UInt8} (ha : KE c) : ∀ (j : Nat) b, (⟨c.toArray⟩ : ByteArray).data.toList[j]? = some b → b.toNat < 128 := fun j b hb => ha b (List.mem_of_getElem? (by simpa using hb))
theorem TX (s c : List UInt8) (w : World) (hs : s.length ≤ 1000000000) (hc : 2 ≤ c.length) (BU : c.length ≤ 1000) (ha : KE c) : U0 Tryz.prog 112 [Bj s, Bj c] w (fun v => ∃ n : Int, v = .int .i64 n ∧ decide (0 ≤ n) = EG s c) := by
 by_cases h8 : s.length ≤ 8
 ·exact OL s c w h8 hc (by omega) ha
 ·have h1 := DC s
  have h2 := DC c
  refine (Tryz.strings_IndexAny_long (zero_of_info (n := 256) (by kernel_rfl)).1 ⟨s.toArray⟩ ⟨c.toArray⟩ w (by omega) (by omega) (by omega) (by omega) (Wm ha)).mono fun e w' ⟨h3, h4⟩ => ⟨_, h3, ⟨_, rfl, ?_⟩, h4 ▸ ((Below.refl _ w).alloc (Nat.le_refl _) _).alloc (by simp) _⟩
  show decide (0 ≤ Lib.indexAny s.toArray.toList c.toArray.toList) = _
  rw [show s.toArray.toList = s by simp, show c.toArray.toList = c by simp]; exact Pw s c
theorem L1 (s c : List UInt8) (w : World) (hs : s.length ≤ 1000000000) (hc : 2 ≤ c.length) (BU : c.length ≤ 1000) (ha : KE c) : Cw Tryz.prog 88 [Bj s, Bj c] w (.bool (EG s c)) := by
 refine enter Tryz.func88 rfl Tryz.ntmps88 rfl (St.start w (BF w) (Le.refl _)) (Ar rfl (tr (AC 2 rfl (le rfl (O5 rfl rfl rfl Tryz.func112 (by kernel_rfl) rfl (fun w hw => TX s c w hs hc BU ha)) ?_)))); rintro _ _ _ ⟨⟨n, rfl, hn⟩, rfl, rfl⟩; refine Ae rfl (Aq (A1 rfl rfl (fun w' hw => ?_))); refine ⟨?_, hw.below⟩; rw [hn]
end Go.Tri
