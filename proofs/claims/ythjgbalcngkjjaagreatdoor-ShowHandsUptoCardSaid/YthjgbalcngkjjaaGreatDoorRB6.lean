/-
 Trees compared, walked.
-/
import Derived.Test.YthjgbalcngkjjaaGreatDoorRB3
import Derived.Test.YthjgbalcngkjjaaGreatDoorPHv
namespace Go.Tri
open Go.Proofs Go.RowKit
set_option maxRecDepth 10000
set_option maxRecDepth 100000 in
theorem AJc (c d : EK) (w : World) : (Op.equalIn 10000 37 (.agg (BT c).toArray) (.agg (BT d).toArray)).run Tryz.prog w = .ok (decide (c = d)) w := by
 rw [run_equalIn_agg w 9999 37 _ _ (by kernel_rfl) (by kernel_rfl)]
 show (Op.eqFields 9999 _ _ [_, _, _, _, _]).run Tryz.prog w = _
 simp [Op.eqFields, BT, Bj, part, Dz Li rfl, Dz CW rfl, Dz un4 rfl]
 have ei : ∀ (x y : Int) (w : World), (Op.equalIn 9999 3 (.int .i64 x) (.int .i64 y)).run Tryz.prog w = .ok (x == y) w := fun x y w => run_equalIn_int (P := Tryz.prog) w 9998 3 .i64 .i64 x y Li
 have es : ∀ (x y : ByteArray) (w : World), (Op.equalIn 9999 9 (.string x) (.string y)).run Tryz.prog w = .ok (x.toList == y.toList) w := fun x y w => run_equalIn_string (P := Tryz.prog) w 9998 9 x y CW
 have eb : ∀ (x y : Bool) (w : World), (Op.equalIn 9999 4 (.bool x) (.bool y)).run Tryz.prog w = .ok (x == y) w := fun x y w => run_equalIn_bool (P := Tryz.prog) w 9998 4 x y un4
 obtain ⟨c1, c2, c3, c4, c5⟩ := c; obtain ⟨d1, d2, d3, d4, d5⟩ := d; simp only [ei, es, eb, Result.andThen_ok, ByteArray.toList_eq, EK.mk.injEq]
 by_cases h1 : c1 = d1 <;> by_cases h2 : c2 = d2 <;> by_cases h3 : c3 = d3 <;> by_cases h4 : c4 = d4 <;> by_cases h5 : c5 = d5 <;> simp [h1, h2, h3, h4, h5]
theorem Pg {α : Type} {d : α} {l k : List α} (hl : l.length = k.length) (h : ∀ j, j < l.length → nth l j d = nth k j d) : l = k := by
 refine List.ext_getElem hl fun j h1 h2 => ?_
 have := h j h1
 rwa [Ed h1, Ed h2] at this
theorem Uy {w0 : World} {I : AU} {H : List HA} {v : Value} {l : List EK} {i : Nat} (h : Sl I 5 v (l.map BT)) (hi : i < l.length) : XH w0 I H (GN v).block ((GN v).off + i * 5) (BT (nth l i rd0)) := h.rds (Px hi)
theorem Pu {cs : List NC} {i : Nat} (h : i < cs.length) : (cs.map A2)[i]? = some (A2 (nth cs i DB)) := by rw [List.getElem?_map, Mz (d := DB) h]; try rfl
theorem A0.nthD {I : AU} : ∀ {ks : List Nd} {cs : List NC} {i : Nat}, A0 I ks cs → i < ks.length → Bm I (nth ks i KK) (nth cs i DB)
 | [], _, _, _, h => absurd h (Nat.not_lt_zero _)
 | k :: ks, c :: cs, 0, h, _ => by unfold A0 at h; exact h.1
 | k :: ks, c :: cs, i + 1, h, hi => by unfold A0 at h; exact A0.nthD (ks := ks) (cs := cs) h.2 (by simpa using hi)
 | _ :: _, [], _, h, _ => by unfold A0 at h; exact h.elim
def AAV (h : Hn) : Prop := ∀ (m : Nd) (c : HC) (e : NC) (w : World), wH h ≤ 1000000000 → D5 (BF w) h c → Bm (BF w) m e → Cw Tryz.prog 12 [.agg (Eo c).toArray, .agg (A2 e).toArray] w (.bool (Ok h m))
theorem ZZ {k : Int} {nt ii : Bool} {nm : List UInt8} {ws : List (List UInt8)} {rs : List EK} {ks : List Hn} {k' : Nat} {nt' ii' : Bool} {nm' : List UInt8} {ws' : List (List UInt8)} {rs' : List EK} {ks' : List Nd} (h : ¬ (k = (k' : Int) ∧ nt = nt' ∧ ii = ii' ∧ nm = nm' ∧ ws = ws' ∧ rs = rs' ∧ ks.length = ks'.length)) : Ok (.mk k nt ii nm ws rs ks) (.mk k' nt' ii' nm' ws' rs' ks') = false := by
 rw [Ok, Bool.and_eq_false_iff]
 by_cases hl : ks.length = ks'.length
 ·refine .inl (decide_eq_false fun h9 => h ?_); exact ⟨h9.1, h9.2.1, h9.2.2.1, h9.2.2.2.1, h9.2.2.2.2.1, h9.2.2.2.2.2, hl⟩
 ·right
  cases he : I3 ks ks' with
  | false => rfl
  | true => exact absurd (RB _ _ he) hl
theorem VI {k : Int} {nt ii : Bool} {nm : List UInt8} {ws : List (List UInt8)} {rs : List EK} {ks : List Hn} {k' : Nat} {nt' ii' : Bool} {nm' : List UInt8} {ws' : List (List UInt8)} {rs' : List EK} {ks' : List Nd} (h1 : k = (k' : Int)) (h2 : nt = nt') (h3 : ii = ii') (h4 : nm = nm') (h5 : ws = ws') (h6 : rs = rs') (hl : ks.length = ks'.length) : Ok (.mk k nt ii nm ws rs ks) (.mk k' nt' ii' nm' ws' rs' ks') = decide (∀ i, i < ks.length → Ok (nth ks i EL) (nth ks' i KK) = true) := by
 rw [Ok, decide_eq_true ⟨h1, h2, h3, h4, h5, h6⟩, Bool.true_and, So _ _ hl]
theorem Q9 (v u : Value) (l k : List (List UInt8)) (w : World) (hl : l.length ≤ 1000000000) (hv : Sl (BF w) 1 v (l.map Bo)) (hu : Sl (BF w) 1 u (k.map Bo)) : Cw Tryz.prog 20 [v, u] w (.bool (decide (l = k))) := by
 refine enter Tryz.func20 rfl Tryz.ntmps20 rfl (St.start w (BF w) (Le.refl _)) (Ar rfl (AN (tr (AC 1 rfl ?_)))); refine lq rfl ((by exact CN rfl CD rfl (Sl.lenOf hv (List.length_map _)))) ?_; refine AC 1 rfl ?_; refine lq rfl ((by exact CN rfl CD rfl (Sl.lenOf hu (List.length_map _)))) ?_; refine Ae rfl (AF rfl (fun hc0 => ?_) (fun hc0 => ?_))
 ·simp at hc0
  have EZ : l ≠ k := fun h => by subst h; omega
  refine Ar rfl (C0 (A1 rfl rfl (fun w' hw => ?_))); refine ⟨?_, hw.below⟩; rw [decide_eq_false EZ]
 ·simp at hc0
  have BH : l.length = k.length := by omega
  refine Al (AN (tr (AC 1 rfl ?_))); refine lq rfl ((by exact CN rfl CD rfl (Sl.lenOf hv (List.length_map _)))) ?_; refine Ae rfl (AR (A8 (ι := Nat) (fun zz => zz ≤ l.length ∧ ∀ j, j < zz → nth l j [] = nth k j []) (fun zz => l.length - zz) (fun zz => [(13, .int .i64 (zz : Int))]) [(0, _), (1, _), (10, _), (12, _)] (fun zz => BF w) (fun zz => []) 0 ?_ (AB rfl) (AB rfl) (fun _ h => AA h) ?_))
  ·exact ⟨Nat.zero_le _, fun j h => absurd h (Nat.not_lt_zero _)⟩
  rintro i ⟨hi, ET⟩; dsimp only at *; refine Ar rfl (AN (AF rfl (fun BI => ?_) (fun BI => ?_)))
  ·simp at BI
   refine Al (AN (AR (Ar rfl (AN (CI mo (by kernel_rfl) (fun _ _ _ _ _ h => h) (AK 2 rfl ?_)))))); refine sq rfl ((by exact A5 rfl CD CU rfl rfl (Sl.shape hv (List.length_map _)) (by omega))) ?_; refine sq rfl ((by exact B1 rfl rfl (Iw (i := i) hv (by omega)))) ?_; refine AK 2 rfl ?_; refine sq rfl ((by exact A5 rfl CD CU rfl rfl (Sl.shape hu (List.length_map _)) (by omega))) ?_; refine sq rfl ((by exact B1 rfl rfl (Iw (i := i) hu (by omega)))) ?_; refine sq rfl (C7 rfl rfl rfl) (Cy (AF rfl (fun BU => ?_) (fun BU => ?_)))
   ·have hd : nth l i [] ≠ nth k i [] := by simpa using BU
    have EZ : l ≠ k := fun h => hd (by rw [h])
    refine Ar rfl (C0 (A1 rfl rfl (fun w' hw => ?_))); refine ⟨?_, hw.below⟩; rw [decide_eq_false EZ]
   ·refine Au (AV (Ai (AH (lq rfl (AX rfl rfl rfl (by omega)) ?_)))); refine Ax rfl (Ak (i + 1) ?_ ?_ (AB rfl) (AB rfl) (fun _ h => by dsimp only; exact AA h))
    ·refine ⟨by omega, fun j hj => ?_⟩; rcases Nat.lt_succ_iff_lt_or_eq.1 hj with h | rfl
     ·exact ET j h
     ·exact by simpa using BU
    ·omega
  ·simp at BI
   refine BB (AG (AG (AQ (Ai (Ar rfl (Aq (A1 rfl rfl (fun w' hw => ?_)))))))); refine ⟨?_, hw.below⟩; rw [decide_eq_true (Pg (d := []) BH (fun j hj => ET j (by omega)))]
theorem T3 (v u : Value) (l k : List EK) (w : World) (hl : l.length ≤ 1000000000) (hv : Sl (BF w) 5 v (l.map BT)) (hu : Sl (BF w) 5 u (k.map BT)) : Cw Tryz.prog 21 [v, u] w (.bool (decide (l = k))) := by
 refine enter Tryz.func21 rfl Tryz.ntmps21 rfl (St.start w (BF w) (Le.refl _)) (Ar rfl (AN (tr (AC 1 rfl ?_)))); refine lq rfl ((by exact CN rfl GX rfl (Sl.lenOf hv (List.length_map _)))) ?_; refine AC 1 rfl ?_; refine lq rfl ((by exact CN rfl GX rfl (Sl.lenOf hu (List.length_map _)))) ?_; refine Ae rfl (AF rfl (fun hc0 => ?_) (fun hc0 => ?_))
 ·simp at hc0
  have EZ : l ≠ k := fun h => by subst h; omega
  refine Ar rfl (C0 (A1 rfl rfl (fun w' hw => ?_))); refine ⟨?_, hw.below⟩; rw [decide_eq_false EZ]
 ·simp at hc0
  have BH : l.length = k.length := by omega
  refine Al (AN (tr (AC 1 rfl ?_))); refine lq rfl ((by exact CN rfl GX rfl (Sl.lenOf hv (List.length_map _)))) ?_; refine Ae rfl (AR (A8 (ι := Nat) (fun zz => zz ≤ l.length ∧ ∀ j, j < zz → nth l j rd0 = nth k j rd0) (fun zz => l.length - zz) (fun zz => [(13, .int .i64 (zz : Int))]) [(0, _), (1, _), (10, _), (12, _)] (fun zz => BF w) (fun zz => []) 0 ?_ (AB rfl) (AB rfl) (fun _ h => AA h) ?_))
  ·exact ⟨Nat.zero_le _, fun j h => absurd h (Nat.not_lt_zero _)⟩
  rintro i ⟨hi, ET⟩; dsimp only at *; refine Ar rfl (AN (AF rfl (fun BI => ?_) (fun BI => ?_)))
  ·simp at BI
   refine Al (AN (AR (Ar rfl (AN (CI mo (by kernel_rfl) (fun _ _ _ _ _ h => h) (AK 2 rfl ?_)))))); refine sq rfl ((by exact A5 rfl GX D1 rfl rfl (Sl.shape hv (List.length_map _)) (by omega))) ?_; refine sq rfl ((by exact Bc rfl Kf D1 rfl rfl (Uy (i := i) hv (by omega)))) ?_; refine AK 2 rfl ?_; refine sq rfl ((by exact A5 rfl GX D1 rfl rfl (Sl.shape hu (List.length_map _)) (by omega))) ?_; refine sq rfl ((by exact Bc rfl Kf D1 rfl rfl (Uy (i := i) hu (by omega)))) ?_; refine sq rfl (AAJ rfl (by kernel_rfl) rfl rfl (AJc _ _)) (Cy (AF rfl (fun BU => ?_) (fun BU => ?_)))
   ·have hd : nth l i rd0 ≠ nth k i rd0 := by simpa using BU
    have EZ : l ≠ k := fun h => hd (by rw [h])
    refine Ar rfl (C0 (A1 rfl rfl (fun w' hw => ?_))); refine ⟨?_, hw.below⟩; rw [decide_eq_false EZ]
   ·refine Au (AV (Ai (AH (lq rfl (AX rfl rfl rfl (by omega)) ?_)))); refine Ax rfl (Ak (i + 1) ?_ ?_ (AB rfl) (AB rfl) (fun _ h => by dsimp only; exact AA h))
    ·refine ⟨by omega, fun j hj => ?_⟩; rcases Nat.lt_succ_iff_lt_or_eq.1 hj with h | rfl
     ·exact ET j h
     ·exact by simpa using BU
    ·omega
  ·simp at BI
   refine BB (AG (AG (AQ (Ai (Ar rfl (Aq (A1 rfl rfl (fun w' hw => ?_)))))))); refine ⟨?_, hw.below⟩; rw [decide_eq_true (Pg (d := rd0) BH (fun j hj => ET j (by omega)))]
set_option maxHeartbeats 2000000 in
theorem Yt (k : Int) (nt ii : Bool) (nm : List UInt8) (ws : List (List UInt8)) (rs : List EK) (ks : List Hn) (XI : ∀ i, i < ks.length → AAV (nth ks i EL)) : AAV (.mk k nt ii nm ws rs ks) := by
 intro m c e w hl hn hm; rw [wH] at hl; obtain ⟨ek, ent, ei, enm, mws, mrs, mks⟩ := m
 have Df := hn.ones
 have ARU := hm.ones
 unfold D5 at hn; obtain ⟨rfl, rfl, rfl, rfl, h5, h6, cs, h7, h8⟩ := hn; unfold Bm at hm; obtain ⟨rfl, rfl, rfl, rfl, g5, g6, ds, g7, g8⟩ := hm
 have EP := h8.len
 have gcl := g8.len
 have hwm := H1 ws
 have hrm := K4 rs
 have hkm := Fj ks
 refine enter Tryz.func12 rfl Tryz.ntmps12 rfl (St.start w (BF w) (Le.refl _)) (tr (le rfl (FE rfl rfl rfl) ?_)); rintro _ _ _ ⟨b2, rfl, rfl, rfl⟩; refine AI (H' := row b2 26 (Eo c) :: _) ?_ (fun _ h => h); refine le rfl (FE rfl rfl rfl) ?_; rintro _ _ _ ⟨b3, rfl, rfl, rfl⟩; refine AI (H' := row b3 26 (A2 e) :: _) ?_ (fun _ h => h); refine Ae rfl (AN (tq (AK 1 rfl (sq rfl (AZ rfl rfl (by rfl)) ?_)))); refine AK 1 rfl (sq rfl (AZ rfl rfl (by rfl)) ?_); refine AK 2 rfl ?_
 refine Bf 5 5 11 17 16 _ _ rfl rfl rfl rfl rfl rfl (fun h17 => by
   simp at h17
   refine AJ 1 rfl (sg rfl (AZ rfl rfl (by rfl)) ?_); refine AJ 1 rfl (sg rfl (AZ rfl rfl (by rfl)) ?_); refine sg rfl (Nr rfl un4 rfl rfl) ?_; exact Ao rfl
  ) (AM rfl) rfl rfl rfl ?_
 refine AK 1 rfl ?_
 refine Bf 5 12 18 24 23 _ _ rfl rfl rfl rfl rfl rfl (fun P8 => by
   simp at P8
   refine AJ 1 rfl (sg rfl (AZ rfl rfl (by rfl)) ?_); refine AJ 1 rfl (sg rfl (AZ rfl rfl (by rfl)) ?_); refine sg rfl (Nr rfl un4 rfl rfl) ?_; exact Ao rfl
  ) (AM rfl) rfl rfl rfl ?_
 refine AK 1 rfl ?_
 refine Bf 5 19 25 31 30 _ _ rfl rfl rfl rfl rfl rfl (fun h31 => by
   simp at h31
   refine AJ 1 rfl (sg rfl (AZ rfl rfl (by rfl)) ?_); refine AJ 1 rfl (sg rfl (AZ rfl rfl (by rfl)) ?_); refine sg rfl (C7 rfl rfl rfl) ?_; exact Ao rfl
  ) (AM rfl) rfl rfl rfl ?_
 refine AK 1 rfl ?_
 refine Bf 7 26 32 40 39 _ _ rfl rfl rfl rfl rfl rfl (fun XK => by
   simp at XK
   refine AJ 1 rfl (sg rfl (AZ rfl rfl (by rfl)) ?_); refine sg rfl ((by exact CN rfl CD rfl (Sl.lenOf h5 (List.length_map _)))) ?_; refine AJ 1 rfl (sg rfl (AZ rfl rfl (by rfl)) ?_); refine sg rfl ((by exact CN rfl CD rfl (Sl.lenOf g5 (List.length_map _)))) ?_; refine AJ 1 rfl ?_; exact Ao rfl
  ) (AM rfl) rfl rfl rfl ?_
 refine AK 1 rfl ?_
 refine Bf 7 35 41 49 48 _ _ rfl rfl rfl rfl rfl rfl (fun h49 => by
   simp at h49
   refine AJ 1 rfl (sg rfl (AZ rfl rfl (by rfl)) ?_); refine sg rfl ((by exact CN rfl GX rfl (Sl.lenOf h6 (List.length_map _)))) ?_; refine AJ 1 rfl (sg rfl (AZ rfl rfl (by rfl)) ?_); refine sg rfl ((by exact CN rfl GX rfl (Sl.lenOf g6 (List.length_map _)))) ?_; refine AJ 1 rfl ?_; exact Ao rfl
  ) (AM rfl) rfl rfl rfl ?_
 refine AK 1 rfl ?_
 refine Bf 7 44 50 58 57 _ _ rfl rfl rfl rfl rfl rfl (fun h58 => by
   simp at h58
   refine AJ 1 rfl (sg rfl (AZ rfl rfl (by rfl)) ?_); refine sg rfl ((by exact CN rfl CJ rfl (Sl.lenOf (n := ks.length) h7 (by rw [List.length_map, EP])))) ?_; refine AJ 1 rfl (sg rfl (AZ rfl rfl (by rfl)) ?_); refine sg rfl ((by exact CN rfl CJ rfl (Sl.lenOf (n := mks.length) g7 (by rw [List.length_map, gcl])))) ?_; refine AJ 1 rfl ?_; exact Ao rfl
  ) (AM rfl) rfl rfl rfl ?_
 refine Cy (AF rfl (fun HB => ?_) (fun HB => ?_))
 ·have EZ : ¬ (c.kind = (e.kind : Int) ∧ c.not = e.not ∧ c.isin = e.isin ∧ c.name = e.name ∧ ws = mws ∧ rs = mrs ∧ ks.length = mks.length) := by
   rintro ⟨a1, a2, a3, a4, a5, a6, a7⟩; subst a5 a6
   simp [a1, a2, a3, a4, a7] at HB
  refine Ar rfl (C0 (A1 rfl rfl (fun w' hw => ?_))); refine ⟨?_, hw.below⟩; rw [ZZ (fun h => EZ h)]
 ·obtain ⟨a1, a2, a3, a4, a5, a6, a7⟩ : c.kind = (e.kind : Int) ∧ c.not = e.not ∧ c.isin = e.isin ∧ c.name = e.name ∧ ws.length = mws.length ∧ rs.length = mrs.length ∧ ks.length = mks.length := by
   simp only [Bool.or_eq_false_iff, decide_eq_false_iff_not, Decidable.not_not] at HB; obtain ⟨⟨⟨⟨⟨⟨a1, a2⟩, a3⟩, a4⟩, a5⟩, a6⟩, a7⟩ := HB; exact ⟨a1, by simpa using a2, by simpa using a3, a4, by omega, by omega, by omega⟩
  refine Al (AN (tq (AK 1 rfl (sq rfl (AZ rfl rfl (by rfl)) ?_)))); refine AK 1 rfl (sq rfl (AZ rfl rfl (by rfl)) ?_); refine sq rfl (qc rfl rfl rfl ((fun w hw => Q9 c.wv e.wv ws mws w (by omega) (h5.mono hw.le) (g5.mono hw.le)))) ?_; refine AK 2 rfl ?_
  refine Bf 6 6 65 72 71 _ _ rfl rfl rfl rfl rfl rfl (fun h72 => by
    simp at h72
    refine AJ 1 rfl (sg rfl (AZ rfl rfl (by rfl)) ?_); refine AJ 1 rfl (sg rfl (AZ rfl rfl (by rfl)) ?_); refine sg rfl (qc rfl rfl rfl ((fun w hw => T3 c.rv e.rv rs mrs w (by omega) (h6.mono hw.le) (g6.mono hw.le)))) ?_; refine AJ 1 rfl ?_; exact Ao rfl
   ) (AM rfl) rfl rfl rfl ?_
  refine Cy (AF rfl (fun BI => ?_) (fun BI => ?_))
  ·have EZ : ¬ (c.kind = (e.kind : Int) ∧ c.not = e.not ∧ c.isin = e.isin ∧ c.name = e.name ∧ ws = mws ∧ rs = mrs ∧ ks.length = mks.length) := by
    rintro ⟨-, -, -, -, b5, b6, -⟩; subst b5 b6
    simp at BI
   refine Ar rfl (C0 (A1 rfl rfl (fun w' hw => ?_))); refine ⟨?_, hw.below⟩; rw [ZZ (fun h => EZ h)]
  ·obtain ⟨b5, b6⟩ : ws = mws ∧ rs = mrs := by simpa using BI
   refine Al (AN (tr (AC 1 rfl (lq rfl (AZ rfl rfl (by rfl)) ?_)))); refine lq rfl ((by exact CN rfl CJ rfl (Sl.lenOf (n := ks.length) h7 (by rw [List.length_map, EP])))) ?_; refine Ae rfl (AR (A8 (ι := Nat) (fun zz => zz ≤ ks.length ∧ ∀ j, j < zz → Ok (nth ks j EL) (nth mks j KK) = true) (fun zz => ks.length - zz) (fun zz => [(76, .int .i64 (zz : Int))]) [(0, _), (1, _), (2, _), (3, _), (58, _), (72, _), (75, _)] (fun zz => BF w) (fun zz => [row b3 26 (A2 e), row b2 26 (Eo c)]) 0 ?_ (AB rfl) (AB rfl) (fun _ h => AA h) ?_))
   ·exact ⟨Nat.zero_le _, fun j h => absurd h (Nat.not_lt_zero _)⟩
   rintro i ⟨hi, ET⟩; dsimp only at *; refine Ar rfl (AN (AF rfl (fun BU => ?_) (fun BU => ?_)))
   ·simp at BU
    refine Al (AN (AR (Ar rfl (AN (CI mo (by kernel_rfl) (fun _ _ _ _ _ h => h) (AK 1 rfl (sq rfl (AZ rfl rfl (by rfl)) ?_))))))); refine AK 1 rfl ?_; refine sq rfl ((by exact A5 rfl CJ Ab rfl rfl (Sl.shape (n := ks.length) h7 (by rw [List.length_map, EP])) (by omega))) ?_; refine sq rfl ((by exact Bc rfl BR Ab rfl rfl (h7.rds (Fk (i := i) (by omega))))) ?_; refine AK 1 rfl (sq rfl (AZ rfl rfl (by rfl)) ?_); refine AK 1 rfl ?_; refine sq rfl ((by exact A5 rfl CJ Ab rfl rfl (Sl.shape (n := mks.length) g7 (by rw [List.length_map, gcl])) (by omega))) ?_; refine sq rfl ((by exact Bc rfl BR Ab rfl rfl (g7.rds (Pu (i := i) (by omega))))) ?_; refine sq rfl (qc rfl rfl rfl ((fun w hw => XI i (by omega) (nth mks i KK) (nth cs i Tri.hc0) (nth ds i DB) w (by have := OD (l := ks) (i := i) (by omega); omega) ((h8.nth (by omega)).mono hw.le) ((A0.nthD g8 (by omega)).mono hw.le)))) ?_; refine AK 1 rfl (Cy (AF rfl (fun Bd => ?_) (fun Bd => ?_)))
    ·have hd : ¬ Ok (nth ks i EL) (nth mks i KK) = true := by simpa using Bd
     refine Ar rfl (C0 (A1 rfl rfl (fun w' hw => ?_))); refine ⟨?_, hw.below⟩; rw [VI a1 a2 a3 a4 b5 b6 a7, decide_eq_false (fun h => hd (h i (by omega)))]
    ·refine Au (AV (Ai (AH (lq rfl (AX rfl rfl rfl (by omega)) ?_)))); refine Ax rfl (Ak (i + 1) ?_ ?_ (AB rfl) (AB rfl) (fun _ h => by dsimp only; exact AA h))
     ·refine ⟨by omega, fun j hj => ?_⟩; rcases Nat.lt_succ_iff_lt_or_eq.1 hj with h | rfl
      ·exact ET j h
      ·exact by simpa using Bd
     ·omega
   ·simp at BU
    refine BB (AG (AG (AQ (Ai (Ar rfl (Aq (A1 rfl rfl (fun w' hw => ?_)))))))); refine ⟨?_, hw.below⟩; rw [VI a1 a2 a3 a4 b5 b6 a7, decide_eq_true (fun j hj => ET j (by omega))]
mutual
theorem PK : ∀ n : Hn, AAV n
 | .mk k nt ii nm ws rs ks => Yt k nt ii nm ws rs ks (fun i hi => OP ks i hi)
theorem OP : ∀ l : List Hn, ∀ i, i < l.length → AAV (nth l i EL)
 | [], _, h => absurd h (Nat.not_lt_zero _)
 | n :: _, 0, _ => PK n
 | _ :: r, i + 1, hi => OP r i (by simpa using hi)
end
mutual
theorem Nc {I : AU} : ∀ (h : Hn) (m : Nd) (c : HC), Ok h m = true → D5 I h c → ∃ e : NC, Eo c = A2 e ∧ Bm I m e
 | .mk k nt ii nm ws rs ks, .mk k' nt' ii' nm' ws' rs' ks', c, ha, hn => by
  rw [Ok, Bool.and_eq_true, decide_eq_true_eq] at ha; obtain ⟨⟨h1, rfl, rfl, rfl, rfl, rfl⟩, hk⟩ := ha; unfold D5 at hn; obtain ⟨e1, e2, e3, e4, h5, h6, cs, h7, h8⟩ := hn; obtain ⟨ds, hd, h9⟩ := Mg ks ks' cs hk h8; refine ⟨⟨k', nt, ii, nm, c.wv, c.rv, c.kv⟩, ?_, Bm.of h5 h6 (cs := ds) (by rw [← hd]; exact h7) h9⟩; unfold Eo A2; rw [e1, e2, e3, e4, h1]
theorem Mg {I : AU} : ∀ (l : List Hn) (ms : List Nd) (cs : List HC), I3 l ms = true → Bx I l cs → ∃ ds : List NC, cs.map Eo = ds.map A2 ∧ A0 I ms ds
 | [], [], cs, _, hn => by
  cases cs with
  | nil => exact ⟨[], rfl, A0.nil⟩
  | cons _ _ => unfold Bx at hn; exact hn.elim
 | a :: r, b :: s, cs, ha, hn => by
  rw [I3, Bool.and_eq_true] at ha
  cases cs with
  | nil => unfold Bx at hn; exact hn.elim
  | cons c cs =>
   unfold Bx at hn; obtain ⟨e, he, h1⟩ := Nc a b c ha.1 hn.1; obtain ⟨ds, hd, h2⟩ := Mg r s cs ha.2 hn.2; refine ⟨e :: ds, ?_, ?_⟩
   ·rw [List.map_cons, List.map_cons, he, hd]
   ·unfold A0; exact ⟨h1, h2⟩
 | [], _ :: _, _, ha, _ => by simp [I3] at ha
 | _ :: _, [], _, ha, _ => by simp [I3] at ha
end
end Go.Tri

namespace Go.Tri
open Go.Proofs Go.RowKit
set_option maxRecDepth 10000
theorem RR (n : Hn) (Bb : Nj n) (b : Nat) (c : HC) (p : Option Addr) (vb dv : Value) (st : WS) (I : AU) (F : List HA) (w0 w : World) (hk : Kk b p vb st) (hn : D5 I n c) (hG : FC I) (hl : wz st + wH n ≤ 1000000000) (CE : St w0 I (HG b p vb dv st F) w) : Calls Tryz.prog 9 [FK b, .agg (Eo c).toArray].toArray w (fun e w' => ∃ v, e = .returned v ∧ ∃ I' H', GQ b (IS n st) I F v I' H' ∧ St w I' H' w') := by
 cases n
 exact Yk _ _ _ _ _ _ _ Bb b c p vb dv st I F w0 w hk hn hG hl CE
theorem PM : ∀ (l : List Hn) (bt : List UInt8) (st : WS), E9 l → bt.length ≤ 2 → wz (GV bt l st) ≤ wz st + Hm l
 | [], _, st, _, _ => by rw [GV]; omega
 | n :: r, bt, st, h, hb => by
  rw [E9] at h; rw [GV, Hm]
  have h1 := PM r (if n.kind = 6 then [32] else [59, 32]) (FR n 0 (B6 st [bt])) h.2 (by split <;> decide)
  have h2 := Jw h.1 0 (B6 st [bt])
  have h3 : wz (B6 st [bt]) ≤ wz st + 2 := by rw [Cu]; simp only [List.flatten_cons, List.flatten_nil, List.append_nil]; omega
  omega
theorem Xm {n : Hn} (h : Nj n) (st : WS) : wz (IS n st) ≤ wz st + wH n := by
 unfold IS
 split
 ·have h1 : E9 n.kids := by cases n; rw [Nj] at h; exact h.2
  have h2 := PM n.kids [] st h1 (Nat.zero_le _)
  have h3 : Hm n.kids ≤ wH n := by
   cases n with
   | mk k nt ii nm ws rs ks => rw [wH]; show Hm ks ≤ _; omega
  omega
 ·exact Jw h 0 st
def FG (h : Hn) : List UInt8 × Nat :=
 if (KX h).bad = true ∨ 65536 < (KX h).out.length then ([], 56)
 else if (CM (KX h).out 0).ok = true ∧ (CM (KX h).out 0).err = 0 ∧ Ok h (CM (KX h).out 0).node = true then
  (if (CM (KX h).out (CM (KX h).out 0).next).ok = false ∧ (CM (KX h).out (CM (KX h).out 0).next).err = 0 then ((KX h).out, 0) else ([], 56))
 else ([], 56)
theorem AEz {h : Hn} {st : WS} (hs : st = KX h) (hb : st.bad = true ∨ 65536 < st.out.length) : FG h = ([], 56) := by subst hs; unfold FG; rw [if_pos hb]
theorem AHj {h : Hn} {st : WS} (hs : st = KX h) (hb : ¬ (st.bad = true ∨ 65536 < st.out.length)) {r : P5} (hr : r = CM st.out 0) (hy : ¬ (r.ok = true ∧ r.err = 0 ∧ Ok h r.node = true)) : FG h = ([], 56) := by subst hs hr; unfold FG; rw [if_neg hb, if_neg hy]
theorem AER {h : Hn} {st : WS} (hs : st = KX h) (hb : ¬ (st.bad = true ∨ 65536 < st.out.length)) {r r2 : P5} (hr : r = CM st.out 0) (hy : r.ok = true ∧ r.err = 0 ∧ Ok h r.node = true) (hr2 : r2 = CM st.out r.next) (h2 : ¬ (r2.ok = false ∧ r2.err = 0)) : FG h = ([], 56) := by subst hs hr hr2; unfold FG; rw [if_neg hb, if_pos hy, if_neg h2]
theorem AEq {h : Hn} {st : WS} (hs : st = KX h) (hb : ¬ (st.bad = true ∨ 65536 < st.out.length)) {r r2 : P5} (hr : r = CM st.out 0) (hy : r.ok = true ∧ r.err = 0 ∧ Ok h r.node = true) (hr2 : r2 = CM st.out r.next) (h2 : r2.ok = false ∧ r2.err = 0) : FG h = (st.out, 0) := by subst hs hr hr2; unfold FG; rw [if_neg hb, if_pos hy, if_pos h2]
set_option maxHeartbeats 2000000 in
theorem MM (h : Hn) (Bb : Nj h) (hl : wH h + 1 ≤ 1000000000) (c : HC) (I : AU) (F : List HA) (w0 w : World) (hG : FC I) (hn : D5 I h c) (CE : St w0 I F w) : Calls Tryz.prog 6 (#[.agg (Eo c).toArray]) w (fun e w' => ∃ v, e = .returned v ∧ ∃ I' H', (Le I I' ∧ F = H' ∧ v = .tuple #[Bj (FG h).1, .int .i64 ((FG h).2 : Int)]) ∧ St w I' H' w') := by
 have BD := Le.refl I
 have Df := hn.ones
 have hwb := Xm Bb ws0
 have ART : wz ws0 = 0 := rfl
 refine enter (args := [.agg (Eo c).toArray]) Tryz.func6 rfl Tryz.ntmps6 rfl (CE.self) (tr (le rfl (FE rfl rfl rfl) ?_)); rintro _ _ _ ⟨b1, rfl, rfl, rfl⟩; refine AI (H' := row b1 26 (Eo c) :: _) ?_ (fun _ h => h); refine Ae rfl (tr (lq rfl (A6 (pl := [(_, _), (_, _), (_, _)]) (cs := ([.pointer none, AO, AO, .bool false]).toArray) rfl ANl ALc ⟨rfl, ⟨_, _, QP⟩, rfl, ⟨_, _, ACS⟩, rfl, ⟨_, _, De⟩, trivial⟩ rfl rfl) (le rfl (FE rfl rfl rfl) ?_))); rintro _ _ _ ⟨b17, rfl, rfl, rfl⟩; refine AI (H' := row b17 45 [.pointer none, AO, AO, .bool false] :: BO 5 1 Fo AO [] :: BO 9 1 Bo AO [] :: row b1 26 (Eo c) :: F) ?_ (fun _ h => AA (CS 5 1 Fo (CS 9 1 Bo h))); refine AI (H' := HG b17 none AO AO ws0 (row b1 26 (Eo c) :: F)) ?_ (fun _ h => h); refine Ae rfl (tr (AC 1 rfl (lq rfl (Af rfl BR Ab rfl rfl rfl) (Bw rfl rfl rfl rfl (fun w hw => RR h Bb b17 c none AO AO ws0 _ _ _ w ⟨.inl rfl, .inl rfl⟩ (hn.mono BD) (hG.mono BD) (by omega) (BN hw)) ?_)))); rintro _ J _ ⟨rfl, hJ, p, vb, dv, hk, rfl⟩
 have BD := BD.trans hJ
 refine BQ (AC 1 rfl (Bw rfl rfl rfl rfl (fun w hw => HQ b17 p vb dv _ _ _ _ w hk (by omega) (BN hw)) ?_)); rintro _ J _ ⟨rfl, hJ, p, vb, dv, hk, rfl⟩
 have BD := BD.trans hJ
 obtain ⟨st, Dh⟩ : ∃ z, z = GG (IS h ws0) := ⟨_, rfl⟩; rw [← Dh] at hk ⊢
 have hsa : st = KX h := Dh
 have hzl := IZ (IS h ws0)
 rw [← Dh] at hzl
 have hol : st.out.length ≤ wz st := by unfold wz; omega
 refine BQ (AC 3 rfl (Bw rfl rfl rfl rfl (fun w hw => JJ b17 dv st.bad (.pointer p) vb st.out _ _ _ w hk.2 (by omega) (Jy (row b17 45 [.pointer p, vb, dv, .bool st.bad]) (BO 5 1 Fo vb st.out) hw)) ?_)); rintro _ _ _ ⟨rfl, rfl, rfl⟩; refine Ae rfl (AN (tq (AK 3 rfl (sq rfl (AZ rfl rfl (by rfl)) ?_)))); refine AK 1 rfl ?_
 refine Bf 3 4 31 35 34 _ _ rfl rfl rfl rfl rfl rfl (fun h35 => by
   refine AJ 1 rfl (sg rfl (Ap rfl CW rfl) (AJ 1 rfl ?_)); exact Ao rfl
  ) (AM rfl) rfl rfl rfl ?_
 refine Cy (AF rfl (fun hc0 => ?_) (fun hc0 => ?_))
 ·have hb : st.bad = true ∨ 65536 < st.out.length := by
   have h9 := hc0
   rw [Bool.or_eq_true, decide_eq_true_eq] at h9; rcases h9 with h9 | h9
   ·exact .inl h9
   ·exact .inr (by omega)
  refine Ar rfl (C0 (Dt rfl rfl rfl (fun w' hw => ?_))); rw [AEz hsa hb]; exact ⟨_, rfl, _, _, ⟨BD, rfl, rfl⟩, AA hw⟩
 ·have hb : ¬ (st.bad = true ∨ 65536 < st.out.length) := by
   have h9 := hc0
   rw [Bool.or_eq_false_iff, decide_eq_false_iff_not] at h9; intro h8; rcases h8 with h8 | h8
   ·rw [h8] at h9; cases h9.1
   ·exact h9.2 (by omega)
  have AQu : st.out.length ≤ 65536 := Nat.le_of_not_lt fun h => hb (.inr h)
  refine Al (tr (AC 1 rfl (Bw rfl rfl rfl rfl (fun w hw => JE (st.out) (by omega) (0) _ _ _ w (hG.mono BD) hw) ?_))); rintro _ J38 _ ⟨AGc, rfl, c38, rfl, Xn⟩
  have AMB := BD
  have BD := BD.trans AGc
  obtain ⟨r1, hr1⟩ : ∃ z, z = CM st.out 0 := ⟨_, rfl⟩; rw [← hr1] at Xn ⊢; refine AC 6 rfl (le rfl (Ah rfl Ab rfl) ?_); rintro _ _ _ ⟨b6, rfl, rfl, rfl⟩; refine An rfl rfl ((by exact AE rfl Ab rfl rfl rfl (by exact Xn.ones) rfl)) ?_; rintro _ _ _ ⟨rfl, rfl⟩; refine AI (H' := row b6 26 (A2 c38) :: _) ?_ (fun _ h => h); refine Ae rfl (AN (tq (AK 3 rfl ?_)))
  refine Bf 2 2 46 49 48 _ _ rfl rfl rfl rfl rfl rfl (fun h49 => by
    simp at h49
    refine AJ 2 rfl ?_; exact Ao rfl
   ) (AM rfl) rfl rfl rfl ?_
  refine AK 1 rfl ?_
  refine Bf 4 6 50 55 54 _ _ rfl rfl rfl rfl rfl rfl (fun h55 => by
    simp at h55
    refine sg rfl (Af rfl BR Ab rfl rfl rfl) (sg rfl (Af rfl BR Ab rfl rfl rfl) (sg rfl (qc rfl rfl rfl ((fun w hw => PK h r1.node c c38 w (by omega) ((hn.mono (AMB.trans AGc)).mono hw.le) (Xn.mono hw.le)))) ?_)); refine AJ 1 rfl ?_; exact Ao rfl
   ) (AM rfl) rfl rfl rfl ?_
  refine Cy (AF rfl (fun BI => ?_) (fun BI => ?_))
  ·have hy : ¬ (r1.ok = true ∧ r1.err = 0 ∧ Ok h r1.node = true) := by
    rintro ⟨a1, a2, a3⟩
    simp [a1, a2, a3] at BI
   refine Ar rfl (C0 (Dt rfl rfl rfl (fun w' hw => ?_))); rw [AHj hsa hb hr1 hy]; exact ⟨_, rfl, J38, _, ⟨BD, rfl, rfl⟩, AA hw⟩
  ·have hy : r1.ok = true ∧ r1.err = 0 ∧ Ok h r1.node = true := by
    simp only [Bool.or_eq_false_iff, Bool.not_eq_false', decide_eq_false_iff_not, Decidable.not_not] at BI; exact ⟨BI.1.1, by omega, BI.2⟩
   refine Al (AN (tr (AC 2 rfl (Bw rfl rfl rfl rfl (fun w hw => JE (st.out) (by omega) ((r1.next : Int)) _ _ _ w (hG.mono BD) hw) ?_)))); rintro _ J59 _ ⟨AMh, rfl, c59, rfl, AJF⟩
   have BD := BD.trans AMh
   obtain ⟨r2, hr2⟩ : ∃ z, z = CM st.out r1.next := ⟨_, rfl⟩; rw [← hr2] at AJF ⊢; refine AC 6 rfl (le rfl (Ah rfl Ab rfl) ?_); rintro _ _ _ ⟨b11, rfl, rfl, rfl⟩; refine An rfl rfl ((by exact AE rfl Ab rfl rfl rfl (by exact AJF.ones) rfl)) ?_; rintro _ _ _ ⟨rfl, rfl⟩; refine AI (H' := row b11 26 (A2 c59) :: _) ?_ (fun _ h => h); refine Ae rfl (tq (AK 2 rfl ?_))
   refine Bf 2 1 66 69 68 _ _ rfl rfl rfl rfl rfl rfl (fun h69 => by
     refine AJ 2 rfl ?_; exact Ao rfl
    ) (AM rfl) rfl rfl rfl ?_
   refine Cy (AF rfl (fun BU => ?_) (fun BU => ?_))
   ·have hz : ¬ (r2.ok = false ∧ r2.err = 0) := by
     rintro ⟨a1, a2⟩
     simp [a1, a2] at BU
    refine Ar rfl (C0 (Dt rfl rfl rfl (fun w' hw => ?_))); rw [AER hsa hb hr1 hy hr2 hz]; exact ⟨_, rfl, J59, _, ⟨BD, rfl, rfl⟩, AA hw⟩
   ·have hz : r2.ok = false ∧ r2.err = 0 := by
     simp only [Bool.or_eq_false_iff, decide_eq_false_iff_not, Decidable.not_not] at BU; exact ⟨BU.1, by omega⟩
    refine Al (Ar rfl (Aq (Dt rfl rfl rfl (fun w' hw => ?_)))); rw [AEq hsa hb hr1 hy hr2 hz]; exact ⟨_, rfl, J59, _, ⟨BD, rfl, rfl⟩, AA hw⟩
end Go.Tri

namespace Go.Tri
open Go.Proofs Go.RowKit
set_option maxRecDepth 10000
def Vn (h : Hn) : Prop := ∀ (c : HC) (I : AU) (F : List HA) (w0 w : World), wH h ≤ 1000000000 → D5 I h c → St w0 I F w → Calls Tryz.prog 5 #[.agg (Eo c).toArray] w (fun e w' => ∃ v, e = .returned v ∧ ∃ I' H', (∃ n : Nat, v = .int .i64 (n : Int) ∧ n ≤ wH h ∧ I = I' ∧ F = H') ∧ St w I' H' w')
set_option maxHeartbeats 1000000 in
theorem ZS (k : Int) (nt ii : Bool) (nm : List UInt8) (ws : List (List UInt8)) (rs : List EK) (ks : List Hn) (XI : ∀ i, i < ks.length → Vn (nth ks i EL)) : Vn (.mk k nt ii nm ws rs ks) := by
 intro c I F w0 w hl hn CE; rw [wH] at hl
 have Fg := hn
 have Df := hn.ones
 unfold D5 at hn; obtain ⟨rfl, rfl, rfl, rfl, Kg, UH, kcs, G9, GM⟩ := hn
 have XP := Fj ks
 have XF := GM.len
 have hwm := H1 ws
 have hrm := K4 rs
 refine enter (args := [.agg (Eo c).toArray]) Tryz.func5 rfl Tryz.ntmps5 rfl (CE.self) (tr (le rfl (FE rfl rfl rfl) ?_)); rintro _ _ _ ⟨b1, rfl, rfl, rfl⟩; refine AI (H' := row b1 26 (Eo c) :: _) ?_ (fun _ h => h); refine Ae rfl (tr (AC 1 rfl (lq rfl ((by exact AZ rfl rfl (by rfl))) ?_))); refine lq rfl (Ap rfl CW rfl) ?_
 have ALE : (((c.name.length : Nat) : Int)).tdiv 100 = ((c.name.length / 100 : Nat) : Int) := rfl
 refine lq rfl (Ks rfl rfl rfl (by omega) (by omega)) ?_; rw [ALE]; refine lq rfl (AX rfl rfl rfl (by omega)) ?_; refine Ae rfl (AN (tr (AC 1 rfl (lq rfl ((by exact AZ rfl rfl (by rfl))) ?_)))); refine lq rfl ((by exact CN rfl CD rfl (Sl.lenOf Kg (List.length_map _)))) ?_; refine Ae rfl (AR (A8 (ι := Nat × Nat) (fun zz => zz.1 ≤ ws.length ∧ zz.2 + Ix (ws.drop zz.1) ≤ 1 + c.name.length + Ix ws) (fun zz => ws.length - zz.1) (fun zz => [(18, .int .i64 (zz.1 : Int)), (3, .int .i64 (zz.2 : Int))]) [(0, _), (1, _), (2, _), (16, _), (17, _)] (fun zz => I) (fun zz => (row b1 26 (Eo c) :: F)) (0, 1 + c.name.length / 100) ?_ (AB rfl) (AB rfl) (fun _ h => AA h) ?_))
 ·dsimp only; exact ⟨Nat.zero_le _, by rw [List.drop_zero]; omega⟩
 rintro ⟨i, n⟩ ⟨hi, hn⟩; dsimp only at *; refine Ar rfl (AN (AF rfl (fun HB => ?_) (fun HB => ?_)))
 ·simp at HB
  have EJ : i < ws.length := by omega
  have hwi := NX EJ
  refine Al (AN (AR (tr ?_))); refine lq rfl ((by exact A5 rfl CD CU rfl rfl (Sl.shape (n := ws.length) Kg (List.length_map _)) (by omega))) ?_; refine lq rfl ((by exact B1 rfl rfl (Iw (i := i) Kg (by omega)))) ?_; refine Ae rfl (AH (AC 2 rfl (lq rfl (Ap rfl CW rfl) ?_)))
  have ANE : ((((nth ws i []).length : Nat) : Int)).tdiv 100 = (((nth ws i []).length / 100 : Nat) : Int) := rfl
  refine lq rfl (Ks rfl rfl rfl (by omega) (by omega)) ?_; rw [ANE]; refine lq rfl (AX rfl rfl rfl (by omega)) ?_; refine lq rfl (AX rfl rfl rfl (by omega)) ?_; refine Ax rfl (AV (Ai (AH (lq rfl (AX rfl rfl rfl (by omega)) ?_)))); refine Ax rfl (Ak ((i + 1, n + (1 + (nth ws i []).length / 100))) ?_ ?_ (AB rfl) (AB rfl) (fun _ h => by dsimp only; exact AA h))
  ·dsimp only; exact ⟨by omega, by omega⟩
  ·dsimp only
   show ws.length - (i + 1) < ws.length - i
   omega
 ·simp at HB
  have EJ : i = ws.length := by omega
  rw [EJ, List.drop_length] at hn; refine BB (AG (AG (AQ (Ai (AN (tr (AC 1 rfl (lq rfl ((by exact AZ rfl rfl (by rfl))) ?_)))))))); refine lq rfl ((by exact CN rfl GX rfl (Sl.lenOf UH (List.length_map _)))) ?_; refine Ae rfl (AR (A8 (ι := Nat × Nat) (fun zz => zz.1 ≤ rs.length ∧ zz.2 + MA (rs.drop zz.1) ≤ 1 + c.name.length + Ix ws + MA rs) (fun zz => rs.length - zz.1) (fun zz => [(32, .int .i64 (zz.1 : Int)), (3, .int .i64 (zz.2 : Int))]) [(18, _), (0, _), (1, _), (2, _), (16, _), (17, _), (19, _), (30, _), (31, _)] (fun zz => I) (fun zz => (row b1 26 (Eo c) :: F)) (0, n) ?_ (AB rfl) (AB rfl) (fun _ h => AA h) ?_))
  ·dsimp only; exact ⟨Nat.zero_le _, by rw [List.drop_zero]; omega⟩
  rintro ⟨i, n⟩ ⟨hi, hn⟩; dsimp only at *; refine Ar rfl (AN (AF rfl (fun Rv => ?_) (fun Rv => ?_)))
  ·simp at Rv
   have EJ : i < rs.length := by omega
   have hwi := SG EJ
   have hwR : wR (nth rs i rd0) = (nth rs i rd0).op.length + (nth rs i rd0).word.length + (nth rs i rd0).doc.length + 120 := rfl
   refine Al (AN (AR (tr ?_))); refine lq rfl ((by exact A5 rfl GX D1 rfl rfl (Sl.shape (n := rs.length) UH (List.length_map _)) (by omega))) ?_; refine lq rfl ((by exact Bc rfl Kf D1 rfl rfl (UH.rds (Px (i := i) (by omega))))) ?_; refine le rfl (Ah rfl D1 rfl) ?_; rintro _ _ _ ⟨b7, rfl, rfl, rfl⟩; refine An rfl rfl ((by exact AE rfl D1 rfl rfl rfl (by exact C2 _) rfl)) ?_; rintro _ _ _ ⟨rfl, rfl⟩; refine AI (H' := row b7 37 (BT (nth rs i rd0)) :: _) ?_ (fun _ h => h); refine ln (AH (AC 2 rfl (lq rfl ((by exact AZ rfl rfl (by rfl))) ?_))); refine lq rfl (Ap rfl CW rfl) (AC 1 rfl (lq rfl ((by exact AZ rfl rfl (by rfl))) ?_)); refine lq rfl (Ap rfl CW rfl) (lq rfl (AX rfl rfl rfl (by omega)) ?_); refine AC 1 rfl (lq rfl ((by exact AZ rfl rfl (by rfl))) ?_); refine lq rfl (Ap rfl CW rfl) (lq rfl (AX rfl rfl rfl (by omega)) ?_)
   have ALb : ((((nth rs i rd0).word.length : Int) + ((nth rs i rd0).doc.length : Int) + ((nth rs i rd0).op.length : Int))).tdiv 100 = ((((nth rs i rd0).word.length + (nth rs i rd0).doc.length + (nth rs i rd0).op.length) / 100 : Nat) : Int) := rfl
   refine lq rfl (Ks rfl rfl rfl (by omega) (by omega)) ?_; rw [ALb]; refine lq rfl (AX rfl rfl rfl (by omega)) ?_; refine lq rfl (AX rfl rfl rfl (by omega)) ?_; refine Ax rfl (AV (Ai (AH (lq rfl (AX rfl rfl rfl (by omega)) ?_)))); refine Ax rfl (Ak ((i + 1, n + (1 + ((nth rs i rd0).word.length + (nth rs i rd0).doc.length + (nth rs i rd0).op.length) / 100))) ?_ ?_ (AB rfl) (AB rfl) (fun _ h => by dsimp only; exact AA h))
   ·dsimp only; exact ⟨by omega, by omega⟩
   ·dsimp only
    show rs.length - (i + 1) < rs.length - i
    omega
  ·simp at Rv
   have EJ : i = rs.length := by omega
   rw [EJ, List.drop_length] at hn; refine BB (AG (AG (AQ (Ai (AN (tr (AC 1 rfl (lq rfl ((by exact AZ rfl rfl (by rfl))) ?_)))))))); refine lq rfl ((by exact CN rfl CJ rfl (Sl.lenOf G9 (by rw [List.length_map, GM.len])))) ?_; refine Ae rfl (AR (A8 (ι := Nat × Nat) (fun zz => zz.1 ≤ ks.length ∧ zz.2 + Hm (ks.drop zz.1) ≤ 1 + c.name.length + Ix ws + MA rs + Hm ks) (fun zz => ks.length - zz.1) (fun zz => [(55, .int .i64 (zz.1 : Int)), (3, .int .i64 (zz.2 : Int))]) [(32, _), (18, _), (0, _), (1, _), (2, _), (16, _), (17, _), (19, _), (30, _), (31, _), (33, _), (53, _), (54, _)] (fun zz => I) (fun zz => (row b1 26 (Eo c) :: F)) (0, n) ?_ (AB rfl) (AB rfl) (fun _ h => AA h) ?_))
   ·dsimp only; exact ⟨Nat.zero_le _, by rw [List.drop_zero]; omega⟩
   rintro ⟨i, n⟩ ⟨hi, hn⟩; dsimp only at *; refine Ar rfl (AN (AF rfl (fun TV => ?_) (fun TV => ?_)))
   ·simp at TV
    have EJ : i < ks.length := by omega
    have hwi := Fl EJ
    have NJ := (Bx.nth GM EJ).ones
    refine Al (AN (AR (tr ?_))); refine lq rfl ((by exact A5 rfl CJ Ab rfl rfl (Sl.shape (n := ks.length) G9 (by rw [List.length_map, GM.len])) (by omega))) ?_; refine lq rfl ((by exact Bc rfl BR Ab rfl rfl (G9.rds (Fk (i := i) (by omega))))) ?_; refine le rfl (Ah rfl Ab rfl) ?_; rintro _ _ _ ⟨b9, rfl, rfl, rfl⟩; refine An rfl rfl ((by exact AE rfl Ab rfl rfl rfl (by exact NJ) rfl)) ?_; rintro _ _ _ ⟨rfl, rfl⟩; refine AI (H' := row b9 26 (Eo (nth kcs i Tri.hc0)) :: _) ?_ (fun _ h => h); refine BQ (AC 1 rfl (lq rfl ((by exact Af rfl BR Ab rfl rfl rfl)) ?_)); refine Bw rfl rfl rfl rfl (fun w hw => XI i EJ (nth kcs i Tri.hc0) _ _ _ w (by omega) (Bx.nth GM EJ) hw) ?_; rintro _ _ _ ⟨n61, rfl, AGo, rfl, rfl⟩; refine lq rfl (AX rfl rfl rfl (by omega)) ?_; refine Ae rfl (Ar rfl (AF rfl (fun Bd => ?_) (fun Bd => ?_)))
    ·simp at Bd
     refine BB (CB rfl (AG (AG (AQ (Ai (Ar rfl (Aq (A1 rfl rfl (fun w' hw => ?_))))))))); exact ⟨_, rfl, I, F, ⟨n + n61, rfl, by rw [wH]; omega, rfl, rfl⟩, AA hw⟩
    ·simp at Bd
     refine Au (AV (Ai (AH (lq rfl (AX rfl rfl rfl (by omega)) ?_)))); refine Ax rfl (Ak ((i + 1, n + n61)) ?_ ?_ (AB rfl) (AB rfl) (fun _ h => by dsimp only; exact AA h))
     ·dsimp only; exact ⟨by omega, by omega⟩
     ·dsimp only
      show ks.length - (i + 1) < ks.length - i
      omega
   ·simp at TV
    have EJ : i = ks.length := by omega
    rw [EJ, List.drop_length] at hn; refine BB (AG (AG (AQ (Ai (Ar rfl (Aq (A1 rfl rfl (fun w' hw => ?_)))))))); exact ⟨_, rfl, I, F, ⟨n, rfl, by rw [wH]; omega, rfl, rfl⟩, AA hw⟩
mutual
theorem PB : ∀ n : Hn, Vn n
 | .mk k nt ii nm ws rs ks => ZS k nt ii nm ws rs ks (fun i hi => NS ks i hi)
theorem NS : ∀ l : List Hn, ∀ i, i < l.length → Vn (nth l i EL)
 | [], _, h => absurd h (Nat.not_lt_zero _)
 | n :: _, 0, _ => PB n
 | _ :: r, i + 1, hi => NS r i (by simpa using hi)
end
mutual
def hnd : Nd → Hn
 | .mk k nt ii nm ws rs ks => .mk (k : Int) nt ii nm ws rs (Xg ks)
def Xg : List Nd → List Hn
 | [] => []
 | n :: r => hnd n :: Xg r
end
mutual
theorem Yb {I : AU} : ∀ (m : Nd) (e : NC), Bm I m e → ∃ c : HC, Eo c = A2 e ∧ D5 I (hnd m) c
 | .mk k nt ii nm ws rs ks, e, h => by
  unfold Bm at h; obtain ⟨h1, h2, h3, h4, h5, h6, cs, h7, h8⟩ := h; obtain ⟨ds, hd, h9⟩ := VW ks cs h8; refine ⟨⟨(e.kind : Int), e.not, e.isin, e.name, e.wv, e.rv, e.kv⟩, rfl, ?_⟩; rw [hnd]; unfold D5; exact ⟨by show (e.kind : Int) = _; rw [h1], h2, h3, h4, h5, h6, ds, by rw [hd]; exact h7, h9⟩
theorem VW {I : AU} : ∀ (ms : List Nd) (es : List NC), A0 I ms es → ∃ cs : List HC, cs.map Eo = es.map A2 ∧ Bx I (Xg ms) cs
 | [], [], _ => ⟨[], rfl, by rw [Xg]; unfold Bx; trivial⟩
 | m :: ms, e :: es, h => by
  unfold A0 at h; obtain ⟨c, hc, h1⟩ := Yb m e h.1; obtain ⟨cs, JU, h2⟩ := VW ms es h.2; refine ⟨c :: cs, by rw [List.map_cons, List.map_cons, hc, JU], ?_⟩; rw [Xg]
  unfold Bx; exact ⟨h1, h2⟩
 | [], _ :: _, h => by unfold A0 at h; exact h.elim
 | _ :: _, [], h => by unfold A0 at h; exact h.elim
end
set_option maxRecDepth 100000
def VB : List UInt8 := [105, 102, 32, 97, 59, 116, 104, 101, 110, 32, 98, 59, 102, 105]
def VT : Nd := Ip 9 [.mk 1 false false [] [[97]] [] [], .mk 1 false false [] [[98]] [] []]
def ABh : List UInt8 := [105, 102, 10, 97, 10, 116, 104, 101, 110, 10, 98, 10, 102, 105, 10]
theorem AGz : CM VB 0 = ⟨VT, true, 14, 0, 0⟩ := by kernel_rfl
theorem AIt : hnd VT = WU := rfl
theorem AJw : FG WU = (ABh, 0) := by kernel_rfl
theorem AED : Nj WU := by
 unfold WU
 simp [Nj, E9]
theorem AIh : wH WU + 1 ≤ 1000000000 := by decide
theorem Rh (w : World) (hG : FC (BF w)) : Cw Tryz.prog 4 [] w (.bool true) := by
 refine enter Tryz.func4 rfl Tryz.ntmps4 rfl (St.start w (BF w) (Le.refl _)) (Ar rfl (tr (Bw rfl rfl rfl rfl (fun w hw => JE (VB) (by decide) (0) _ _ _ w (hG) hw) ?_))); rintro _ J9 _ ⟨hJ9, rfl, c9, rfl, Qe⟩; rw [AGz] at Qe ⊢; dsimp only at Qe ⊢; obtain ⟨cx, hcx, hnx⟩ := Yb _ _ Qe; rw [AIt] at hnx; rw [← hcx]; refine AC 6 rfl (le rfl (Ah rfl Ab rfl) ?_); rintro _ _ _ ⟨b1, rfl, rfl, rfl⟩; refine An rfl rfl ((by exact AE rfl Ab rfl rfl rfl (by exact hnx.ones) rfl)) ?_; rintro _ _ _ ⟨rfl, rfl⟩; refine AI (H' := row b1 26 (Eo cx) :: _) ?_ (fun _ h => h); refine Ae rfl (tr (lq rfl (Af rfl BR Ab rfl rfl rfl) (Bw rfl rfl rfl rfl (fun w hw => MM WU AED AIh cx _ _ _ w (hG.mono hJ9) hnx hw) ?_))); rintro _ J17 _ ⟨ALM, rfl, rfl⟩; rw [AJw]; dsimp only; refine Ae rfl (tq (AK 3 rfl ?_))
 refine BA 2 2 22 25 24 _ _ rfl rfl rfl rfl rfl rfl (fun h25 => by
   simp at h25
   refine AJ 2 rfl ?_; exact Ao rfl
  ) (AM rfl) rfl rfl rfl ?_
 refine AK 1 rfl ?_
 refine BA 2 6 26 29 28 _ _ rfl rfl rfl rfl rfl rfl (fun h29 => by
   simp at h29
   refine AJ 1 rfl (sg rfl (BM rfl rfl rfl) ?_); exact Ao rfl
  ) (AM rfl) rfl rfl rfl ?_
 refine AK 1 rfl (Cy (Aq (A1 rfl rfl (fun w' hw => ?_)))); exact ⟨rfl, (hw.less (hJ9.trans ALM)).below⟩
end Go.Tri
