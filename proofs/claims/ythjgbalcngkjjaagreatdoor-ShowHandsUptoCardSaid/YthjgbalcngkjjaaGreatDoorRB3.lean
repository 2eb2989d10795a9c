/-
 Trees as arguments, in memory.
-/
import Derived.Test.YthjgbalcngkjjaaGreatDoorQD5
import Derived.Test.YthjgbalcngkjjaaGreatDoorPHv
import Derived.Test.YthjgbalcngkjjaaGreatDoorTriM
import Derived.Lib.SmallJoins
namespace Go.Tri
open Go.Proofs Go.RowKit
structure HC where
 kind : Int
 not : Bool
 isin : Bool
 name : List UInt8
 wv : Value
 rv : Value
 kv : Value
def Eo (c : HC) : List Value := [.int .i64 c.kind, .bool c.not, .bool c.isin, Bj c.name, c.wv, c.rv, c.kv]
def hc0 : HC := ⟨0, false, false, [], AO, AO, AO⟩
mutual
def D5 (I : AU) : Hn → HC → Prop
 | .mk k nt ii nm ws rs ks, c => c.kind = k ∧ c.not = nt ∧ c.isin = ii ∧ c.name = nm ∧ Sl I 1 c.wv (ws.map Bo) ∧ Sl I 5 c.rv (rs.map BT) ∧ ∃ cs : List HC, Sl I 7 c.kv (cs.map Eo) ∧ Bx I ks cs
def Bx (I : AU) : List Hn → List HC → Prop
 | [], [] => True
 | k :: ks, c :: cs => D5 I k c ∧ Bx I ks cs
 | _, _ => False
end
mutual
theorem D5.mono {I J : AU} (Ec : Le I J) : ∀ {n : Hn} {c : HC}, D5 I n c → D5 J n c
 | .mk k nt isin nm ws rs ks, c, h => by
  unfold D5 at h ⊢; obtain ⟨h1, h2, h3, h4, h5, h6, cs, h7, h8⟩ := h; exact ⟨h1, h2, h3, h4, h5.mono Ec, h6.mono Ec, cs, h7.mono Ec, Bx.mono Ec h8⟩
theorem Bx.mono {I J : AU} (Ec : Le I J) : ∀ {ks : List Hn} {cs : List HC}, Bx I ks cs → Bx J ks cs
 | [], [], _ => by unfold Bx; trivial
 | k :: ks, c :: cs, h => by
  unfold Bx at h ⊢; exact ⟨D5.mono Ec h.1, Bx.mono Ec h.2⟩
 | [], _ :: _, h => by unfold Bx at h; exact h.elim
 | _ :: _, [], h => by unfold Bx at h; exact h.elim
end
theorem Bx.len {I : AU} : ∀ {ks : List Hn} {cs : List HC}, Bx I ks cs → cs.length = ks.length
 | [], [], _ => rfl
 | k :: ks, c :: cs, h => by
  unfold Bx at h; rw [List.length_cons, List.length_cons, Bx.len h.2]
 | [], _ :: _, h => by unfold Bx at h; exact h.elim
 | _ :: _, [], h => by unfold Bx at h; exact h.elim
theorem Bx.nth {I : AU} : ∀ {ks : List Hn} {cs : List HC} {i : Nat}, Bx I ks cs → i < ks.length → D5 I (nth ks i EL) (nth cs i hc0)
 | [], _, _, _, h => absurd h (Nat.not_lt_zero _)
 | k :: ks, c :: cs, 0, h, _ => by unfold Bx at h; exact h.1
 | k :: ks, c :: cs, i + 1, h, hi => by unfold Bx at h; exact Bx.nth (ks := ks) (cs := cs) h.2 (by simpa using hi)
 | _ :: _, [], _, h, _ => by unfold Bx at h; exact h.elim
theorem Bx.drop {I : AU} : ∀ {ks : List Hn} {cs : List HC} (i : Nat), Bx I ks cs → Bx I (ks.drop i) (cs.drop i)
 | _, _, 0, h => h
 | [], [], i + 1, h => by simpa using h
 | k :: ks, c :: cs, i + 1, h => by unfold Bx at h; exact Bx.drop (ks := ks) (cs := cs) i h.2
 | [], _ :: _, _ + 1, h => by unfold Bx at h; exact h.elim
 | _ :: _, [], _ + 1, h => by unfold Bx at h; exact h.elim
theorem Fk {cs : List HC} {i : Nat} (h : i < cs.length) : (cs.map Eo)[i]? = some (Eo (nth cs i hc0)) := by
 rw [List.getElem?_map, Mz (d := hc0) h]; try rfl
theorem D5.ones {I : AU} {n : Hn} {c : HC} (h : D5 I n c) : ∀ u ∈ Eo c, u.oneCell' = true := by
 obtain ⟨k, nt, isin, nm, ws, rs, ks⟩ := n; unfold D5 at h; obtain ⟨-, -, -, -, h5, h6, cs, h7, -⟩ := h; intro u hu; simp only [Eo, List.mem_cons, List.not_mem_nil, or_false] at hu; rcases hu with rfl | rfl | rfl | rfl | rfl | rfl | rfl
 ·rfl
 ·rfl
 ·rfl
 ·rfl
 ·exact h5.one.2
 ·exact h6.one.2
 ·exact h7.one.2
theorem D5.kind {I : AU} {n : Hn} {c : HC} (h : D5 I n c) : c.kind = n.kind := by
 obtain ⟨k, nt, isin, nm, ws, rs, ks⟩ := n; unfold D5 at h; exact h.1
end Go.Tri

namespace Go.Tri
open Go.Proofs Go.RowKit
set_option maxRecDepth 10000
@[reducible] def HG (b : Nat) (p : Option Addr) (vb dv : Value) (st : WS) (F : List HA) : List HA := row b 45 [.pointer p, vb, dv, .bool st.bad] :: BO 5 1 Fo vb st.out :: BO 9 1 Bo dv st.docs :: F
def Kk (b : Nat) (p : Option Addr) (vb : Value) (st : WS) : Prop := (p = none ∨ p = some ⟨b, 0, none⟩) ∧ Hu vb st.out
def GQ (b : Nat) (st : WS) (I : AU) (F : List HA) (v : Value) (I' : AU) (H' : List HA) : Prop :=
 v = .tuple #[] ∧ Le I I' ∧ ∃ p vb dv, Kk b p vb st ∧ H' = HG b p vb dv st F
theorem BN {b : Nat} {p : Option Addr} {vb dv : Value} {st : WS} {H : List HA} {I : AU} {w0 w : World} {F : List HA} [hq : Ov [row b 45 [.pointer p, vb, dv, .bool st.bad], BO 5 1 Fo vb st.out, BO 9 1 Bo dv st.docs] F H] (hw : St w0 I H w) : St w0 I (HG b p vb dv st F) w := hw.perm hq.perm
theorem Ua {w0 w : World} {I : AU} {F : List HA} {T : TypeId} {sz n : Nat} {v : Value} {xs : List Value} (h : St w0 I (PU v T sz n xs :: F) w) : ∃ A c, v = .slice A n c := by
 obtain ⟨_, hh⟩ := h.sat _ List.mem_cons_self; rcases hh with ⟨rfl, rfl⟩ | ⟨g, cap, cur, rfl, _⟩
 ·exact ⟨_, _, rfl⟩
 ·exact ⟨_, _, rfl⟩
theorem V8 {w0 w : World} {I : AU} {F : List HA} {T : TypeId} {sz : Nat} {α : Type} {f : α → List Value} {v : Value} {l : List α} (h : St w0 I (BO T sz f v l :: F) w) : ∃ A c, v = .slice A l.length c := by
 exact Ua (v := v) (T := T) (sz := sz) (n := l.length) (xs := (l.map f).flatten) h
theorem Ww {l : List (List UInt8)} {i : Nat} (h : i < l.length) : (l.take (i + 1)).flatten = (l.take i).flatten ++ nth l i [] := by
 rw [D2 [] h, List.flatten_append]; simp
theorem ABv (l : List (List UInt8)) (i : Nat) : (l.take i).flatten.length ≤ l.flatten.length := by
 conv => rhs; rw [← List.take_append_drop i l, List.flatten_append, List.length_append]
 omega
theorem Lv (b : Nat) (dv : Value) (bad : Bool) (p : Option Addr) (vb : Value) (I : AU) (F : List HA) (w0 w : World) (hp : p = none ∨ p = some ⟨b, 0, none⟩) (CE : St w0 I (row b 45 [.pointer p, vb, dv, .bool bad] :: F) w) : Calls Tryz.prog 60 [.pointer (some ⟨b, 0, none⟩)].toArray w (fun e w' => ∃ v, e = .returned v ∧ ∃ I' H', (I = I' ∧ H' = row b 45 [.pointer (some ⟨b, 0, none⟩), vb, dv, .bool bad] :: F) ∧ St w I' H' w') := by
 refine enter Tryz.func60 rfl Tryz.ntmps60 rfl (CE.self) (tr (AC 3 rfl (lq rfl (AZ rfl rfl (by rfl)) ?_))); refine lq rfl (N5 rfl (by kernel_rfl) rfl rfl) (ln (AF rfl (fun hc0 => ?_) (fun hc0 => ?_)))
 ·have WN : p = none := Option.isNone_iff_eq_none.1 hc0
  subst WN; refine AH (AC 2 rfl (lq rfl (NK rfl WH Vq QP rfl rfl rfl) (lq rfl (IJ rfl rfl rfl Tryz.func74 (by kernel_rfl) rfl (by kernel_rfl) (show Extern.find _ = some Extern.AbiNoEscape.same by kernel_rfl) (fun w => Lib.run_noEscape w _)) ?_))); refine lq rfl (K1 rfl Vq WH QP rfl (by kernel_rfl)) (AC 2 rfl ?_); refine An rfl rfl (Ac rfl AEd rfl rfl (by exact ⟨rfl, rfl⟩) rfl (by rfl)) ?_; rintro _ _ _ ⟨rfl, rfl⟩; refine BX (Cm rfl (fun w' hw => ?_)); exact ⟨_, rfl, I, _, ⟨rfl, rfl⟩, (show St w I (row b 45 [.pointer (some ⟨b, 0, none⟩), vb, dv, .bool bad] :: F) w' from hw)⟩
 ·have WN : p = some ⟨b, 0, none⟩ := by rcases hp with rfl | h; cases hc0; exact h
  subst WN; refine tr (AC 3 rfl (lq rfl (AZ rfl rfl (by rfl)) ?_)); refine AC 1 rfl (lq rfl (MT rfl WH QP rfl rfl) (ln (AF rfl (fun BI => ?_) (fun BI => ?_))))
  ·simp at BI
  ·simp at BI
   refine Au (Cm rfl (fun w' hw => ?_)); exact ⟨_, rfl, I, _, ⟨rfl, rfl⟩, (show St w I (row b 45 [.pointer (some ⟨b, 0, none⟩), vb, dv, .bool bad] :: F) w' from hw)⟩
theorem J5 (b : Nat) (dv : Value) (bad : Bool) (p : Option Addr) (vb : Value) (l s : List UInt8) (I : AU) (F : List HA) (w0 w : World) (hp : p = none ∨ p = some ⟨b, 0, none⟩) (hl : l.length + s.length ≤ 140737488355000) (CE : St w0 I (row b 45 [.pointer p, vb, dv, .bool bad] :: BO 5 1 Fo vb l :: F) w) : Calls Tryz.prog 42 [.pointer (some ⟨b, 0, none⟩), Bj s].toArray w (fun e w' => ∃ v, e = .returned v ∧ ∃ I' H', (v = .tuple #[.int .i64 (s.length : Int), .nilIface] ∧ I = I' ∧ ∃ vb', H' = row b 45 [.pointer (some ⟨b, 0, none⟩), vb', dv, .bool bad] :: BO 5 1 Fo vb' (l ++ s) :: F ∧ (Hu vb l → Hu vb' (l ++ s))) ∧ St w I' H' w') := by
 refine enter Tryz.func42 rfl Tryz.ntmps42 rfl (CE.self) (Ar rfl (tr (AC 1 rfl (Bw rfl rfl rfl rfl (fun w hw => Lv b dv bad p vb _ _ _ w hp (AD (row b 45 [.pointer p, vb, dv, .bool bad]) hw)) ?_)))); rintro _ _ _ ⟨rfl, rfl⟩; refine BQ (AC 4 rfl (lq rfl (AZ rfl rfl (by rfl)) ?_)); refine AC 1 rfl ?_; refine le rfl (QT rfl HE CW UY rfl rfl rfl (by simp only [maxLen]; omega) (by omega)) ?_; rintro v14 _ _ ⟨rfl, rfl, AHM⟩; refine FV v14 (fun Df => ?_); refine AC 2 rfl ?_; refine An rfl rfl (Ac rfl AEA rfl rfl (by assumption) rfl (by (simp only [List.set_cons_succ, List.set_cons_zero]; try rfl))) ?_; rintro _ _ _ ⟨rfl, rfl⟩; refine BQ (AC 1 rfl (lq rfl (Ap rfl CW rfl) (Ae rfl (Aq (Dt rfl rfl rfl (fun w' hw => ?_))))))
 have hw2 : St w I (row b 45 [.pointer (some ⟨b, 0, none⟩), v14, dv, .bool bad] :: BO 5 1 Fo v14 (l ++ s) :: F) w' := hw
 exact ⟨_, rfl, I, _, ⟨rfl, rfl, v14, rfl, AHM⟩, hw2⟩
theorem JJ (b : Nat) (dv : Value) (bad : Bool) (p : Value) (vb : Value) (l : List UInt8) (I : AU) (F : List HA) (w0 w : World) (Bb : Hu vb l) (hl : l.length ≤ 9223372036854775807) (CE : St w0 I (row b 45 [p, vb, dv, .bool bad] :: BO 5 1 Fo vb l :: F) w) : Calls Tryz.prog 11 [.pointer (some ⟨b, 0, none⟩)].toArray w (fun e w' => ∃ v, e = .returned v ∧ ∃ I' H', (v = Bj l ∧ I = I' ∧ H' = row b 45 [p, vb, dv, .bool bad] :: F) ∧ St w I' H' w') := by
 refine enter Tryz.func11 rfl Tryz.ntmps11 rfl (CE.self) (Ar rfl (AN (DH [10] [] [row b 45 [p, vb, dv, .bool bad]] mo (by kernel_rfl) (fun _ _ _ _ _ h => h) (Bg [0, 1, 2] (by kernel_rfl) rfl rfl rfl (IC 3 (by kernel_rfl) rfl rfl (AZ rfl rfl (by rfl)) ?_))))); refine IC 4 (by kernel_rfl) rfl rfl (Mc (ty := 0) rfl rfl Bb) (Bg [5, 6, 7] (by kernel_rfl) rfl rfl rfl (IC 8 (by kernel_rfl) rfl rfl (AZ rfl rfl (by rfl)) ?_)); refine IC 9 (by kernel_rfl) rfl rfl ((by exact Eq rfl HE rfl)) ?_; refine re 10 (by kernel_rfl) rfl (Le.refl _) rfl (Jc rfl AHI (by kernel_rfl) rfl rfl rfl Bb (by omega)) ?_; rintro _ _ _ ⟨rfl, rfl, rfl⟩; refine ⟨Le.refl _, .inr CY.sub, ?_⟩; refine Bg [11] (by kernel_rfl) rfl rfl rfl (D3 (by kernel_rfl) (Ai (Aq (A1 rfl rfl (fun w' hw => ?_))))); exact ⟨_, rfl, I, _, ⟨rfl, rfl, rfl⟩, AA hw⟩
theorem WW (b : Nat) (p : Option Addr) (vb dv : Value) (bad : Bool) (n : Nat) (w : World) (hb : KP (BF w) b [.pointer p, vb, dv, .bool bad]) (hv : ∃ A c, vb = .slice A n c) : Cw Tryz.prog 43 [FK b] w (.int .i64 (n : Int)) := by
 refine enter Tryz.func43 rfl Tryz.ntmps43 rfl (St.start w (BF w) (Le.refl _)) (Ar rfl (tr (AC 3 rfl (lq rfl ((by exact B1 rfl rfl (B2 (hb 1 _ rfl)))) ?_)))); refine lq rfl ((by exact CN rfl HE rfl (hv))) ?_; refine Ae rfl (Aq (A1 rfl rfl (fun w' hw => ?_))); exact ⟨rfl, hw.below⟩
theorem CF (b : Nat) (av : Value) (xs : List (List UInt8)) (p0 : Option Addr) (vb0 dv : Value) (st : WS) (I : AU) (F : List HA) (w0 w : World) (hk : Kk b p0 vb0 st) (hl : wz st + xs.flatten.length ≤ 1000000000) (hx : Sl I 1 av (xs.map Bo)) (hxl : xs.length ≤ 1000000000) (CE : St w0 I (HG b p0 vb0 dv st F) w) : Calls Tryz.prog 18 [FK b, av].toArray w (fun e w' => ∃ v, e = .returned v ∧ ∃ I' H', GQ b (B6 st xs) I F v I' H' ∧ St w I' H' w') := by
 obtain ⟨WN, AMH⟩ := hk
 have hwz : st.out.length ≤ wz st := by unfold wz; omega
 refine enter Tryz.func18 rfl Tryz.ntmps18 rfl (CE.self) (AN (tr (AC 1 rfl ?_))); refine lq rfl ((by exact CN rfl CD rfl (Sl.lenOf hx (List.length_map _)))) ?_; refine Ae rfl (AR (A8 (ι := Nat × Option Addr × Value × List UInt8) (fun zz => zz.1 ≤ xs.length ∧ (zz.2.1 = none ∨ zz.2.1 = some ⟨b, 0, none⟩) ∧ Hu zz.2.2.1 zz.2.2.2 ∧ zz.2.2.2 = st.out ++ (xs.take zz.1).flatten) (fun zz => xs.length - zz.1) (fun zz => [(8, .int .i64 (zz.1 : Int))]) [(0, _), (1, _), (6, _), (7, _)] (fun zz => I) (fun zz => (row b 45 [.pointer zz.2.1, zz.2.2.1, dv, .bool st.bad] :: BO 5 1 Fo zz.2.2.1 zz.2.2.2 :: BO 9 1 Bo dv st.docs :: F)) (0, p0, vb0, st.out) ?_ (AB rfl) (AB rfl) (fun _ h => AA h) ?_))
 ·dsimp only; exact ⟨Nat.zero_le _, WN, AMH, by simp⟩
 rintro ⟨i, p, vb, L⟩ ⟨hi, hp, hbo, hLx⟩; dsimp only at *; refine Ar rfl (AN (AF rfl (fun hc0 => ?_) (fun hc0 => ?_)))
 ·simp at hc0
  have XU := Ww (l := xs) (i := i) (by omega)
  have XO := ABv xs (i + 1)
  have Kh := congrArg List.length XU
  have hlx := congrArg List.length hLx
  simp only [List.length_append] at Kh hlx; refine Al (AN (AR (tr ?_))); refine lq rfl ((by exact A5 rfl CD CU rfl rfl (Sl.shape hx (List.length_map _)) (by omega))) ?_; refine lq rfl ((by exact B1 rfl rfl (Iw (i := i) hx (by omega)))) ?_; refine Ae rfl (AH (AC 4 rfl (Bw rfl rfl rfl rfl (fun w hw => J5 b dv st.bad p vb L (nth xs i []) _ _ _ w hp (by omega) (Jy (row b 45 [.pointer p, vb, dv, .bool st.bad]) (BO 5 1 Fo vb L) hw)) ?_))); rintro _ _ _ ⟨rfl, rfl, vb, rfl, ANF⟩
  have hbo := ANF hbo
  refine BX (AV (Ai (AH (lq rfl (AX rfl rfl rfl (by omega)) ?_)))); refine Ax rfl (Ak ((i + 1, some ⟨b, 0, none⟩, vb, L ++ nth xs i [])) ?_ ?_ (AB rfl) (AB rfl) (fun _ h => by dsimp only; exact AA h))
  ·dsimp only; exact ⟨by omega, .inr rfl, hbo, by rw [XU, hLx, List.append_assoc]⟩
  ·dsimp only
   show xs.length - (i + 1) < xs.length - i
   omega
 ·simp at hc0
  rw [List.take_of_length_le (by omega)] at hLx; refine BB (AG (AG (AQ (Ai (AH (Dl 12 (AK 4 rfl (sq rfl ((by exact AZ rfl rfl (by rfl))) ?_)))))))); refine AK 1 rfl ?_
  refine Bf 5 5 23 29 28 _ _ rfl rfl rfl rfl rfl rfl (fun h29 => by
    refine AJ 3 rfl (sg rfl (qc rfl rfl rfl ((fun w hw => WW b p vb dv st.bad L.length w (Bn hw) (V8 (AD (BO 5 1 Fo vb L) hw))))) (AJ 1 rfl ?_)); rw [show decide ((131072 : Int) < (L.length : Int)) = decide (131072 < L.length) from decide_eq_decide.2 (by omega)]; exact Ao rfl
   ) (AM rfl) rfl rfl rfl ?_
  refine Hb (AC 2 rfl ?_); refine An rfl rfl (Ac rfl De rfl rfl (by exact ⟨rfl, rfl⟩) rfl (by (simp only [List.set_cons_succ, List.set_cons_zero]; try rfl))) ?_; rintro _ _ _ ⟨rfl, rfl⟩; refine AI (H' := row b 45 [.pointer p, vb, dv, .bool (st.bad || decide (131072 < L.length))] :: _) ?_ (fun _ h => h); subst hLx; refine BX (Cm rfl (fun w' hw => ?_)); exact ⟨_, rfl, I, HG b p vb dv (B6 st xs) F, ⟨rfl, Le.refl _, p, vb, dv, ⟨hp, hbo⟩, rfl⟩, hw⟩
end Go.Tri

namespace Go.Tri
open Go.Proofs Go.RowKit
set_option maxRecDepth 10000
theorem Xp {st : WS} {n : Nat} (h : wz st + 1 ≤ n) : wz (⟨(B6 st [[10]]).out, [], (B6 st [[10]]).bad⟩ : WS) + (B6 st [[10]]).docs.flatten.length ≤ n := by
 unfold wz at h ⊢; simp only [B6, List.length_append, List.flatten_cons, List.flatten_nil, List.length_nil, List.length_cons]
 omega
theorem UO (b : Nat) (p : Option Addr) (vb dv : Value) (bad : Bool) (Df : Lh dv) (I : AU) (F : List HA) (w0 w : World) (CE : St w0 I (row b 45 [.pointer p, vb, dv, .bool bad] :: F) w) : Calls Tryz.prog 19 [.pointer (some ⟨b, 2, none⟩)].toArray w (fun e w' => ∃ v, e = .returned v ∧ ∃ I' H', (dv = v ∧ I = I' ∧ H' = row b 45 [.pointer p, vb, AO, .bool bad] :: F) ∧ St w I' H' w') := by
 refine enter Tryz.func19 rfl Tryz.ntmps19 rfl (CE.self) (Ar rfl (tr (AC 2 rfl (lq rfl (AZ rfl rfl (by rfl)) ?_)))); refine Ae rfl (tr (AC 2 rfl ?_)); refine An rfl rfl (Ac rfl ACS rfl rfl (by exact ⟨rfl, rfl⟩) rfl (by (simp only [List.set_cons_succ, List.set_cons_zero]; try rfl))) ?_; rintro _ _ _ ⟨rfl, rfl⟩; refine AI (H' := row b 45 [.pointer p, vb, AO, .bool bad] :: _) ?_ (fun _ h => h); refine BQ (Ae rfl (Aq (A1 rfl rfl (fun w' hw => ?_)))); exact ⟨_, rfl, I, _, ⟨rfl, rfl, rfl⟩, AA hw⟩
theorem HQ (b : Nat) (p : Option Addr) (vb dv : Value) (st : WS) (I : AU) (F : List HA) (w0 w : World) (hk : Kk b p vb st) (hl : wz st + 1 ≤ 1000000000) (CE : St w0 I (HG b p vb dv st F) w) : Calls Tryz.prog 10 [FK b].toArray w (fun e w' => ∃ v, e = .returned v ∧ ∃ I' H', GQ b (GG st) I F v I' H' ∧ St w I' H' w') := by
 have BD := Le.refl I
 have N7 := hl
 have hdd : st.docs.flatten.length ≤ wz st ∧ st.docs.length ≤ wz st := by unfold wz; omega
 refine enter Tryz.func10 rfl Tryz.ntmps10 rfl (CE.self) (tr (AC 1 rfl (le rfl (AS rfl CD CU rfl rfl rfl (by rfl) rfl) ?_))); rintro _ _ _ ⟨b3, rfl, rfl, rfl⟩; refine AI (H' := BO 9 1 Bo (.slice (some ⟨b3, 0, none⟩) 1 1) [[10]] :: _) ?_ (fun _ h => A7 h rfl (by decide)); refine BG (f := Bo) (l := [[10]]) (.slice (some ⟨b3, 0, none⟩) 1 1) (fun _ => rfl) (fun Jf B4 Ck => ?_)
 have BD := BD.trans B4
 refine Bw rfl rfl rfl rfl (fun w hw => CF b (.slice (some ⟨b3, 0, none⟩) 1 1) [[10]] p vb dv _ _ _ _ w hk (by simp; omega) Ck (by simp) (BN hw)) ?_; rintro _ J _ ⟨rfl, hJ, p, vb, dv, hk, rfl⟩
 have BD := BD.trans hJ
 refine FV dv (fun hdo => ?_); refine ln (AH (AC 4 rfl (Bw rfl rfl rfl rfl (fun w hw => UO b p vb dv (B6 st [[10]]).bad hdo _ _ _ w (AD (row b 45 [.pointer p, vb, dv, .bool (B6 st [[10]]).bad]) hw)) ?_))); rintro _ _ _ ⟨rfl, rfl, rfl⟩; refine BG (f := Bo) (l := (B6 st [[10]]).docs) dv (fun _ => rfl) (fun Jd hJd hdv => ?_)
 have BD := BD.trans hJd
 obtain ⟨dv0, AKc⟩ : ∃ z, z = dv := ⟨_, rfl⟩; rw [← AKc] at hdv ⊢; refine AI (H' := HG b p vb AO (⟨(B6 st [[10]]).out, [], (B6 st [[10]]).bad⟩ : WS) F) ?_ (fun _ h => AA (CS 9 1 Bo h)); refine Bw rfl rfl rfl rfl (fun w hw => CF b dv0 (B6 st [[10]]).docs p vb AO (⟨(B6 st [[10]]).out, [], (B6 st [[10]]).bad⟩ : WS) _ _ _ w hk (Xp hl) hdv (by show st.docs.length ≤ _; omega) (BN hw)) ?_; rintro _ J _ ⟨rfl, hJ, p, vb, dv, hk, rfl⟩
 have BD := BD.trans hJ
 refine BX (Cm rfl (fun w' hw => ?_)); rw [show GG st = B6 (⟨(B6 st [[10]]).out, [], (B6 st [[10]]).bad⟩ : WS) (B6 st [[10]]).docs from rfl]; exact ⟨_, rfl, J, _, ⟨rfl, BD, p, vb, dv, hk, rfl⟩, AA hw⟩
theorem DY (b : Nat) (av : Value) (xs : List (List UInt8)) (p : Option Addr) (vb dv : Value) (st : WS) (I : AU) (F : List HA) (w0 w : World) (hk : Kk b p vb st) (hl : wz st + xs.flatten.length + 1 ≤ 1000000000) (hx : Sl I 1 av (xs.map Bo)) (hxl : xs.length ≤ 1000000000) (CE : St w0 I (HG b p vb dv st F) w) : Calls Tryz.prog 56 [FK b, av].toArray w (fun e w' => ∃ v, e = .returned v ∧ ∃ I' H', GQ b (CK st xs) I F v I' H' ∧ St w I' H' w') := by
 have BD := Le.refl I
 refine enter Tryz.func56 rfl Tryz.ntmps56 rfl (CE.self) (tr (AC 2 rfl (Bw rfl rfl rfl rfl (fun w hw => CF b av xs p vb dv _ _ _ _ w hk (by omega) hx hxl (BN hw)) ?_))); rintro _ J _ ⟨rfl, hJ, p, vb, dv, hk, rfl⟩
 have BD := BD.trans hJ
 refine ln (AH (AC 1 rfl (Bw rfl rfl rfl rfl (fun w hw => HQ b p vb dv _ _ _ _ w hk (by rw [Cu]; omega) (BN hw)) ?_))); rintro _ J _ ⟨rfl, hJ, p, vb, dv, hk, rfl⟩
 have BD := BD.trans hJ
 refine BX (Cm rfl (fun w' hw => ?_)); rw [show CK st xs = GG (B6 st xs) from rfl]; exact ⟨_, rfl, J, _, ⟨rfl, BD, p, vb, dv, hk, rfl⟩, AA hw⟩
theorem GI (b : Nat) (c : HC) (n lo hi : Nat) (G9 : ∃ A cc, c.kv = .slice A n cc) (hcn : ∀ u ∈ Eo c, u.oneCell' = true) (p : Option Addr) (vb dv : Value) (st : WS) (I : AU) (F : List HA) (w0 w : World) (hk : Kk b p vb st) (CE : St w0 I (HG b p vb dv st F) w) : Calls Tryz.prog 40 [FK b, .agg (Eo c).toArray, .int .i64 (lo : Int), .int .i64 (hi : Int)].toArray w (fun e w' => ∃ v, e = .returned v ∧ ∃ I' H', (v = .bool (!(Dv st n lo hi).bad) ∧ Le I I' ∧ ∃ p vb dv, Kk b p vb (Dv st n lo hi) ∧ H' = HG b p vb dv (Dv st n lo hi) F) ∧ St w I' H' w') := by
 refine enter Tryz.func40 rfl Tryz.ntmps40 rfl (CE.self) (tr (le rfl (FE rfl rfl rfl) ?_)); rintro _ _ _ ⟨b5, rfl, rfl, rfl⟩; refine AI (H' := row b5 26 (Eo c) :: _) ?_ (fun _ h => h); refine Ae rfl (AN (tq (AK 1 rfl (sq rfl (AZ rfl rfl (by rfl)) ?_)))); refine sq rfl ((by exact CN rfl CJ rfl (G9))) ?_; refine AK 3 rfl ?_
 refine Bf 5 5 14 20 19 _ _ rfl rfl rfl rfl rfl rfl (fun YR => by
   simp at YR
   refine AJ 1 rfl (sg rfl (AZ rfl rfl (by rfl)) ?_); refine sg rfl ((by exact CN rfl CJ rfl (G9))) ?_; refine AJ 2 rfl ?_; exact Ao rfl
  ) (AM rfl) rfl rfl rfl ?_
 refine Cy (AF rfl (fun hc0 => ?_) (fun hc0 => ?_))
 ·have h9 := hc0
  rw [Bool.or_eq_true, decide_eq_true_eq, decide_eq_true_eq] at h9
  have R7 : Dv st n lo hi = st.bd := if_pos (by omega)
  rw [R7]; refine AH (AC 3 rfl ?_); refine An rfl rfl (Ac rfl De rfl rfl (by exact ⟨rfl, rfl⟩) rfl (by (simp only [List.set_cons_succ, List.set_cons_zero]; try rfl))) ?_; rintro _ _ _ ⟨rfl, rfl⟩; refine BQ (AC 3 rfl (lq rfl (AZ rfl rfl (by rfl)) ?_)); refine Ae rfl (Aq (A1 rfl rfl (fun w' hw => ?_))); exact ⟨_, rfl, I, HG b p vb dv st.bd F, ⟨rfl, Le.refl _, p, vb, dv, hk, rfl⟩, AA (H' := row b 45 [.pointer p, vb, dv, .bool true] :: BO 5 1 Fo vb st.out :: BO 9 1 Bo dv st.docs :: F) hw⟩
 ·have h9 := hc0
  rw [Bool.or_eq_false_iff, decide_eq_false_iff_not, decide_eq_false_iff_not] at h9
  have R7 : Dv st n lo hi = st := if_neg (by omega)
  rw [R7]; refine Al (tr (AC 3 rfl (lq rfl (AZ rfl rfl (by rfl)) ?_))); refine Ae rfl (Aq (A1 rfl rfl (fun w' hw => ?_))); exact ⟨_, rfl, I, HG b p vb dv st F, ⟨rfl, Le.refl _, p, vb, dv, hk, rfl⟩, AA hw⟩
end Go.Tri

namespace Go.Tri
open Go.Proofs Go.RowKit
set_option maxRecDepth 10000
theorem P6 (q : List UInt8) (c : UInt8) : Lib.indexByte q c < q.length ∨ q = [] := by
 by_cases h : Lib.indexByte q c = -1
 ·cases q with
  | nil => exact .inr rfl
  | cons _ _ => left; rw [h]; simp; omega
 ·have NL := Lib.indexByte_ge q c
  obtain ⟨i, hi⟩ : ∃ i : Nat, Lib.indexByte q c = i := ⟨(Lib.indexByte q c).toNat, by omega⟩
  have := (Co hi).1
  left; omega
theorem IL {s q : List UInt8} {nn : Nat} (hq : q ≠ []) (h : (CQ s).drop nn = CQ q) : nn + 1 ≤ ((CQ s).map Bo).length ∧ ((CQ s).map Bo)[nn]? = some [Bj (q.take (Gd q))] ∧ (CQ s).drop (nn + 1) = CQ (q.drop (Gd q)) := by
 rw [MF hq] at h
 have FA : nn < (CQ s).length := by
  refine Classical.byContradiction fun hn => ?_
  rw [List.drop_of_length_le (by omega)] at h; cases h
 rw [Bi [] FA] at h
 injection h with h1 h2
 refine ⟨by rw [List.length_map]; omega, ?_, h2⟩
 rw [List.getElem?_map, List.getElem?_eq_getElem FA, ← Ed (d := []) FA, h1]; try rfl
theorem V6 {s : List UInt8} {nn : Nat} (h : (CQ s).drop nn = []) (hn : nn ≤ (CQ s).length) : ((CQ s).map Bo).length = nn := by
 rw [List.drop_eq_nil_iff] at h
 rw [List.length_map]; omega
theorem Wy {s : List UInt8} {n : Nat} {vs : List Value} (h : ((CQ s).map Bo)[n]? = some vs) : n < (CQ s).length ∧ vs = [Bj (nth (CQ s) n [])] := by
 rw [List.getElem?_map] at h; obtain ⟨x, hx, rfl⟩ := Option.map_eq_some_iff.1 h; obtain ⟨hn, hx'⟩ := List.getElem?_eq_some_iff.1 hx; exact ⟨hn, by rw [Ed hn, hx']; try rfl⟩
theorem Zt {s : List UInt8} : ∀ vs ∈ (CQ s).map Bo, vs.length = 1 := fun vs h => by
 obtain ⟨x, _, rfl⟩ := List.mem_map.1 h; rfl
theorem Lw (s p : List UInt8) (w : World) (hs : s.length ≤ 1000000000) : Cw Tryz.prog 73 [Bj s, Bj p] w (Bj (Lib.trimSuffix s p)) := by
 have h1 := DC s
 refine (Tryz.strings_TrimSuffix ⟨s.toArray⟩ ⟨p.toArray⟩ w (by omega)).mono fun e w' ⟨h1, h2⟩ => ?_
 subst h2; exact ⟨h1, Below.refl _ _⟩
theorem Wc {s : List UInt8} {n : Nat} (h : n < (CQ s).length) : (nth (CQ s) n []).length ≤ s.length := by
 have h1 := OW _ s (Nat.le_refl _)
 have h2 : nth (CQ s) n [] ∈ CQ s := DG h
 have h3 := congrArg List.length h1
 obtain ⟨a, b, hab⟩ := List.append_of_mem h2; rw [hab] at h3; simp only [List.flatten_append, List.flatten_cons, List.length_append] at h3
 omega
def ABp (doc : List UInt8) (T : List (List UInt8 × Int)) (n : Nat) : Prop := ∀ k, (0 ≤ GD T k ∧ GD T k ≤ (n : Int)) ∧ (0 < GD T k ↔ k ∈ (Ee doc).take n)
theorem Z2 (T : List (List UInt8 × Int)) (k q : List UInt8) (n : Int) : GD (I2 T k n) q = if q = k then n else GD T q := by
 induction T with
 | nil =>
  unfold I2 GD KQ
  by_cases h : q = k
  ·subst h; simp
  ·rw [if_neg h]; simp [show ¬ k = q from fun e => h e.symm]
 | cons p T ih =>
  unfold I2
  by_cases hp : p.1 = k
  ·rw [if_pos hp]; unfold GD KQ
   by_cases h : q = k
   ·subst h; simp
   ·rw [if_neg h, List.find?_cons, List.find?_cons]
    simp [show ¬ k = q from fun e => h e.symm, show ¬ p.1 = q from fun e => h (e.symm.trans hp)]
  ·rw [if_neg hp]
   by_cases hq : p.1 = q
   ·have : ¬ q = k := fun e => hp (hq.trans e)
    rw [if_neg this]; unfold GD KQ
    simp [hq]
   ·have e : ∀ X : List (List UInt8 × Int), GD (p :: X) q = GD X q := fun X => by unfold GD KQ; simp [hq]
    rw [e, e, ih]
theorem Wl {doc : List UInt8} {T : List (List UInt8 × Int)} {n : Nat} (h : ABp doc T n) (hn : n < (CQ doc).length) : ABp doc (I2 T (Lib.trimSuffix (nth (CQ doc) n []) [10]) (GD T (Lib.trimSuffix (nth (CQ doc) n []) [10]) + 1)) (n + 1) := by
 intro k
 have hk : nth (Ee doc) n [] = Lib.trimSuffix (nth (CQ doc) n []) [10] := by
  unfold Ee
  have : n < ((CQ doc).map fun l => Lib.trimSuffix l [10]).length := by simpa using hn
  rw [Ed this, List.getElem_map, Ed hn]
 have ht : (Ee doc).take (n + 1) = (Ee doc).take n ++ [Lib.trimSuffix (nth (CQ doc) n []) [10]] := by
  rw [D2 [] (by unfold Ee; simpa using hn), hk]
 rw [Z2, ht]; obtain ⟨⟨h1, h2⟩, h3⟩ := h k
 by_cases e : k = Lib.trimSuffix (nth (CQ doc) n []) [10]
 ·subst e; rw [if_pos rfl]; refine ⟨⟨by omega, by omega⟩, ?_⟩
  simp; omega
 ·rw [if_neg e]; refine ⟨⟨h1, by omega⟩, ?_⟩
  rw [h3]; simp [e]
theorem Y1 (doc : List UInt8) : ABp doc [] 0 := fun k => by
 refine ⟨⟨Int.le_refl _, Int.le_refl _⟩, ?_⟩
 show (0 : Int) < 0 ↔ _
 simp
theorem QQ (s : List UInt8) (I : AU) (F : List HA) (w0 w : World) (CE : St w0 I F w) : Calls Tryz.prog 72 [Bj s].toArray w (fun e w' => ∃ v, e = .returned v ∧ ∃ I' H', (Le I I' ∧ F = H' ∧ ∃ b, v = .func (.func 95) #[] #[.pointer (some ⟨b, 0, none⟩)] ∧ GF I' b 0 (Bj s)) ∧ St w I' H' w') := by
 refine enter Tryz.func72 rfl Tryz.ntmps72 rfl (CE.self) (tr (le rfl (FE rfl rfl (by exact Lh.cells ⟨rfl, rfl⟩)) ?_)); rintro _ _ _ ⟨b1, rfl, rfl, rfl⟩; refine Ae rfl (AN (MK b1 (fun J hJ h1 => ?_))); refine AH (lq rfl (F3 rfl rfl rfl) (Ae rfl (Aq (A1 rfl rfl (fun w' hw => ?_))))); exact ⟨_, rfl, J, _, ⟨hJ, rfl, b1, rfl, h1 0 _ rfl⟩, hw⟩
theorem Tz (s : List UInt8) (b1 : Nat) (hs : s.length ≤ 1000000000) : Sa Tryz.prog 95 [.pointer (some ⟨b1, 0, none⟩)] ((CQ s).map Bo) (fun I => GF I b1 0 (Bj s)) := by
 intro γ Cd Cx G II lid hY w0 g00 F w ALe hb1 CE
 have hJ := Le.refl (II g00)
 refine enter Tryz.func95 rfl Tryz.ntmps95 rfl (CE.self) (tr (lq rfl ((by exact B1 rfl rfl (B2 (hb1.mono hJ)))) ?_)); refine Ae rfl (AR (A8 (ι := List UInt8 × Nat × γ) (fun zz => zz.2.1 ≤ (CQ s).length ∧ Cd zz.2.1 zz.2.2 ∧ Le (II g00) (II zz.2.2) ∧ (CQ s).drop zz.2.1 = CQ zz.1 ∧ zz.1.length ≤ s.length) (fun zz => zz.1.length) (fun zz => [(3, Bj zz.1)]) [(0, _), (1, _)] (fun zz => (II zz.2.2)) (fun zz => (F ++ G zz.2.2)) (s, 0, g00) ?_ (AB rfl) (AB rfl) (fun _ h => AA h) ?_))
 ·dsimp only; exact ⟨Nat.zero_le _, ALe, Le.refl _, rfl, Nat.le_refl _⟩
 rintro ⟨q, nn, g⟩ ⟨hn, hcd, hJ, hdr, hql⟩; dsimp only at *; refine AN (tr (AC 1 rfl (lq rfl (C7 rfl rfl rfl) (ln (AF rfl (fun hc0 => ?_) (fun hc0 => ?_))))))
 ·have hqn : q ≠ [] := of_decide_eq_true hc0
  refine Al (AR (AN ?_))
  have hib := Lib.indexByte_ge q 10
  have AQg : Lib.indexByte q 10 < q.length := (P6 q 10).resolve_right hqn
  refine AH (AC 1 rfl (lq rfl (qc rfl rfl rfl ((fun w _ => EF q 10 w))) (lq rfl (AX rfl rfl rfl (by omega)) ?_))); refine Ae rfl (Bh (ι := Nat) (fun zz => zz = Gd q) (fun zz => [(4, .int .i64 (zz : Int))]) [(3, _), (0, _), (1, _), (7, _)] (fun zz => (II g)) (fun zz => (F ++ G g)) (AB rfl) ?_ ?_)
  ·refine Ar rfl (AF rfl (fun BI => ?_) (fun BI => ?_))
   ·simp at BI
    refine AH (AC 1 rfl (lq rfl (Ap rfl CW rfl) (Ax rfl (Av (q.length) ?_ (AB rfl) (AB rfl) (fun _ h => by dsimp only; exact AA h)))))
    ·rw [Gd, if_pos (by omega)]
   ·simp at BI
    refine Au (Av ((Lib.indexByte q 10 + 1).toNat) ?_ (Bl rfl (by congr 1; omega) (AW)) (AB rfl) (fun _ h => by dsimp only; exact AA h))
    ·rw [Gd, if_neg (by omega)]; omega
  rintro k hk; subst hk
  have hl1 := H8 hqn
  have UQ := R5 q
  refine AN (tr (AC 3 rfl (lq rfl (G3 rfl CW rfl rfl (by omega)) ?_))); refine AAc (i := nn) g (AM rfl) rfl rfl rfl rfl rfl hY (IL hqn hdr |>.2.1) hcd rfl (fun g hcd Ec => ?_) (fun g hcx Ec => ?_)
  ·have hJ := hJ.trans Ec
   refine Ae rfl (AF rfl (fun BU => ?_) (fun BU => ?_))
   ·simp at BU
   ·simp at BU
    refine Al (AH (AC 2 rfl (lq rfl (Cp rfl CW rfl rfl (by omega)) ?_))); refine Ax rfl (AV (Ak ((q.drop (Gd q), nn + 1, g)) ?_ ?_ (AB rfl) (AB rfl) (fun _ h => by dsimp only; exact AA h)))
    ·dsimp only; refine ⟨by have := (IL hqn hdr).1; rw [List.length_map] at this; exact this, hcd, hJ, (IL hqn hdr).2.2, ?_⟩
     rw [List.length_drop]; omega
    ·dsimp only
     show (q.drop (Gd q)).length < q.length
     rw [List.length_drop]; omega
  ·have hJ := hJ.trans Ec
   refine Ae rfl (AF rfl (fun Bd => ?_) (fun Bd => ?_))
   ·simp at Bd
    refine C0 (Jb rfl (fun w' hw => ?_)); exact ⟨_, rfl, g, .inr ⟨nn + 1, (IL hqn hdr).1, hcx⟩, hJ, CE.rebase (AA hw)⟩
   ·simp at Bd
 ·have hqn : q = [] := Decidable.not_not.1 (of_decide_eq_false hc0)
  rw [hqn, UG] at hdr; refine BB (AG (AG (AQ (Cm rfl (fun w' hw => ?_))))); exact ⟨_, rfl, g, .inl (by rw [V6 hdr hn]; exact hcd), hJ, CE.rebase (AA hw)⟩
theorem Ue (doc : List UInt8) (w : World) (hs : doc.length ≤ 100000000) (hG : FC (BF w)) : Cw Tryz.prog 55 [Bj doc] w (Bj (Mx doc)) := by
 have Jj := KT _ doc (Nat.le_refl _)
 have XP : (Ee doc).length = (CQ doc).length := by unfold Ee; simp
 refine AAs Tryz.func55 rfl Tryz.ntmps55 rfl (St.start w (BF w) (Le.refl _)) (Ar rfl (tr (le rfl (XG rfl) ?_))); rintro _ _ _ ⟨b7, rfl, rfl, rfl⟩; refine le rfl (Ah rfl ADW rfl) ?_; rintro _ _ _ ⟨b3, rfl, rfl, rfl⟩; refine An rfl rfl (Ac rfl ADW rfl rfl (by exact ⟨rfl, rfl⟩) rfl (by (simp only [List.set_cons_zero]; try rfl))) ?_; rintro _ _ _ ⟨rfl, rfl⟩; refine K6 (AC 1 rfl (Bw rfl rfl rfl rfl (fun w hw => QQ doc _ _ _ w hw) ?_)); rintro _ J9 _ ⟨hJ9, rfl, c9, rfl, J0⟩; refine ln (AR (ABK (γ := List (List UInt8 × Int)) (Tz doc c9 (by omega)) rfl rfl Tryz.func95 (by kernel_rfl) rfl (fun nn zz => ABp doc zz nn) (fun _ _ => False) [] (fun zz TT => (row b3 114 [.map (some b7)] :: Fq b7 (Oq zz) :: TT)) (fun _ _ => rfl) (fun zz => J9) [(0, _), (2, _), (3, _), (9, _)] (AB rfl) [] ?_ ?_ ?_ ?_ rfl ?_ ?_ ?_ (fun _ _ _ h => h.elim)))
 ·exact Y1 doc
 ·exact J0
 ·exact Le.refl _
 ·exact fun _ h => AA h
 ·exact Zt
 ·intro bl ready busy done dfr nn vs T w0r FF hi P9 hrs hbz
  have XN := P9
  dsimp only at *; obtain ⟨Ml, rfl⟩ := Wy hi
  have hck := (XN (Lib.trimSuffix (nth (CQ doc) nn []) [10])).1
  refine AH (Ax rfl (ACK (by rfl) hrs ?_)); refine AR (DH [5] [] [] mo (by kernel_rfl) (fun _ _ _ _ _ h => h) (IC 0 (by kernel_rfl) rfl rfl (AZ rfl rfl (by rfl)) ?_)); refine Bg [1] (by kernel_rfl) rfl rfl rfl (IC 2 (by kernel_rfl) rfl rfl (qc rfl rfl rfl ((fun w _ => Lw (nth (CQ doc) nn []) [10] w (by have := Wc Ml; omega)))) ?_); refine IC 3 (by kernel_rfl) rfl rfl (O8 rfl Xv CW B0 rfl rfl) (IC 4 (by kernel_rfl) rfl rfl (AX rfl rfl rfl (by omega)) ?_); refine Eu 5 (by kernel_rfl) (by kernel_rfl) rfl (Le.refl _) rfl rfl (Zq rfl Xv CW rfl rfl rfl) ?_; rintro _ _ _ ⟨rfl, rfl⟩; refine ⟨Le.refl _, .inr CY.sub, ?_⟩; refine D3 (by kernel_rfl) (AV (ABj (fun w' hw' => .inl ⟨rfl, ((I2 T (Lib.trimSuffix (nth (CQ doc) nn []) [10]) (GD T (Lib.trimSuffix (nth (CQ doc) nn []) [10]) + 1))), ?_, ?_, ?_⟩)))
  ·exact Wl XN Ml
  ·exact Le.refl _
  ·exact AA hw'
 intro bd T P9 Ec
 have XN := P9
 dsimp only at *; rw [List.length_map] at XN
 have hcf : ∀ k, 0 < GD T k ↔ k ∈ Ee doc := fun k => by have h9 := (XN k).2; rwa [List.take_of_length_le (by omega)] at h9
 refine AV (Ai (Ar rfl (AN (Ar rfl (AR (A8 (ι := Nat) (fun zz => zz ≤ (Ee doc).length ∧ (∀ j, j < zz → dN j ∈ Ee doc) ∧ ME (Ee doc) (Ee doc).length 0 = ME (Ee doc) ((Ee doc).length - zz) zz) (fun zz => (Ee doc).length + 1 - zz) (fun zz => [(5, Bj (dN zz)), (6, .int .i64 ((zz + 1 : Nat) : Int))]) [(0, _), (2, _), (3, _), (9, _)] (fun zz => J9) (fun zz => (row b3 114 [.map (some b7)] :: Fq b7 (Oq T) :: [Fq bd (.deferred (some []))])) 0 ?_ (AB rfl) (AB rfl) (fun _ h => AA h) ?_))))))
 ·exact ⟨Nat.zero_le _, fun j h => absurd h (Nat.not_lt_zero _), by rw [Nat.sub_zero]⟩
 rintro m ⟨hm, ET, hdl⟩; dsimp only at *
 have Dh := ZI (by omega) hdl ET hm
 have hit := Nu ((m + 1 : Nat) : Int) (by omega)
 refine AN (tr (lq rfl (AZ rfl rfl (by rfl)) ?_)); refine AC 1 rfl (lq rfl (O8 rfl Xv CW B0 rfl rfl) (Ae rfl (AF rfl (fun hc0 => ?_) (fun hc0 => ?_))))
 ·simp at hc0
  have hin : dN m ∈ Ee doc := (hcf _).1 (by omega)
  refine Al (AN (AR (AH (AC 1 rfl (lq rfl (qc rfl rfl rfl ((fun w hw => LF ((m + 1 : Nat) : Int) w (by omega) (hG.mono (hJ9.trans hw.le)).gw))) ?_))))); refine lq rfl (Dk rfl rfl rfl (by (simp only [List.length_cons, List.length_nil]; omega))) ?_; refine Ax rfl (AV (Ai (AH (AC 1 rfl (lq rfl (AX rfl rfl rfl (by omega)) ?_))))); refine Ax rfl (Ak (m + 1) ?_ ?_ (Bl rfl (by unfold dN; rw [if_neg (by omega)]; try rfl) (Bl rfl (by congr 1; try omega) (AW))) (AB rfl) (fun _ h => by dsimp only; exact AA h))
  ·exact ⟨(Dh.1 hin).1, fun j hj => (by rcases Nat.lt_succ_iff_lt_or_eq.1 hj with h | rfl; exact ET j h; exact hin), (Dh.1 hin).2⟩
  ·have := (Dh.1 hin).1
   show (Ee doc).length + 1 - (m + 1) < (Ee doc).length + 1 - m
   omega
 ·simp at hc0
  have hin : dN m ∉ Ee doc := fun h9 => by have := (hcf _).2 h9; omega
  have hre := Dh.2 hin
  refine BB (AG (AG (AQ (Ai (Ar rfl (Aq (Xr (ABQ (bs := [bd]) rfl rfl (fun w' hw => ?_))))))))); refine ⟨?_, (hw.less hJ9).below⟩
  show _ = Ending.returned (Bj (Mx doc))
  unfold Mx; rw [hre]
end Go.Tri

namespace Go.Tri
open Go.Proofs Go.RowKit
set_option maxRecDepth 10000
theorem Px {l : List EK} {i : Nat} (h : i < l.length) : (l.map BT)[i]? = some (BT (nth l i rd0)) := by
 rw [List.getElem?_map, Mz (d := rd0) h]; try rfl
theorem Ru {rs : List EK} {i : Nat} (h : i < rs.length) (ah : Bool) (st : WS) : LJ (rs.drop i) ah st = LJ (rs.drop (i + 1)) true (rdW (nth rs i rd0) ah st) := by rw [Bi rd0 h, LJ]
theorem K4 : ∀ l : List EK, l.length ≤ MA l
 | [] => Nat.zero_le _
 | r :: l => by
  have := K4 l
  have e : MA (r :: l) = wR r + MA l := by simp [MA]
  rw [e, List.length_cons]; unfold wR; omega
theorem SG {rs : List EK} {i : Nat} (h : i < rs.length) : MA (rs.drop i) = wR (nth rs i rd0) + MA (rs.drop (i + 1)) := by
 rw [Bi rd0 h]; simp [MA]
set_option maxHeartbeats 1000000 in
theorem KH (b : Nat) (rv : Value) (rs : List EK) (ah0 : Bool) (p0 : Option Addr) (vb0 dv0 : Value) (st0 : WS) (I : AU) (F : List HA) (w0 w : World) (hk : Kk b p0 vb0 st0) (hl : wz st0 + MA rs ≤ 1000000000) (UH : Sl I 5 rv (rs.map BT)) (hro : ∀ r ∈ rs, T5 r) (hG : FC I) (CE : St w0 I (HG b p0 vb0 dv0 st0 F) w) : Calls Tryz.prog 38 [FK b, rv, .bool ah0].toArray w (fun e w' => ∃ v, e = .returned v ∧ ∃ I' H', GQ b (LJ rs ah0 st0) I F v I' H' ∧ St w I' H' w') := by
 have BD := Le.refl I
 have hrl := K4 rs
 refine enter Tryz.func38 rfl Tryz.ntmps38 rfl (CE.self) (tr (AC 1 rfl ?_)); refine lq rfl ((by exact CN rfl GX rfl (Sl.lenOf UH (List.length_map _)))) ?_; refine Ae rfl (AR (A8 (ι := Nat × Option Addr × Value × Value × WS × Bool × AU) (fun zz => zz.1 ≤ rs.length ∧ Le I zz.2.2.2.2.2.2 ∧ Kk b zz.2.1 zz.2.2.1 zz.2.2.2.2.1 ∧ wz zz.2.2.2.2.1 + MA (rs.drop zz.1) ≤ 1000000000 ∧ LJ rs ah0 st0 = LJ (rs.drop zz.1) zz.2.2.2.2.2.1 zz.2.2.2.2.1) (fun zz => rs.length - zz.1) (fun zz => [(11, .int .i64 (zz.1 : Int)), (2, .bool zz.2.2.2.2.2.1)]) [(0, _), (1, _), (9, _), (10, _)] (fun zz => zz.2.2.2.2.2.2) (fun zz => (HG b zz.2.1 zz.2.2.1 zz.2.2.2.1 zz.2.2.2.2.1 F)) (0, p0, vb0, dv0, st0, ah0, I) ?_ (AB rfl) (AB rfl) (fun _ h => AA h) ?_))
 ·dsimp only; exact ⟨Nat.zero_le _, Le.refl _, hk, by rw [List.drop_zero]; exact hl, by rw [List.drop_zero]⟩
 rintro ⟨i, p, vb, dv, st, ah, J⟩ ⟨hi, BD, hk, N7, Dh⟩; dsimp only at *; refine Ar rfl (AN (AF rfl (fun hc0 => ?_) (fun hc0 => ?_)))
 ·simp at hc0
  have EJ : i < rs.length := by omega
  have hwr := SG EJ
  have hwR : wR (nth rs i rd0) = (nth rs i rd0).op.length + (nth rs i rd0).word.length + (nth rs i rd0).doc.length + 120 := rfl
  have ZM := (hro _ (DG (d := rd0) EJ)).1
  have hfd := (hro _ (DG (d := rd0) EJ)).2
  have hit := Nu (nth rs i rd0).fd hfd
  have hdl := VN ZM
  refine Al (AN (AR (tr ?_))); refine lq rfl ((by exact A5 rfl GX D1 rfl rfl (Sl.shape (UH.mono BD) (List.length_map _)) (by omega))) ?_; refine lq rfl ((by exact Bc rfl Kf D1 rfl rfl ((UH.mono BD).rds (Px (i := i) (by omega))))) ?_; refine le rfl (Ah rfl D1 rfl) ?_; rintro _ _ _ ⟨b7, rfl, rfl, rfl⟩; refine An rfl rfl ((by exact AE rfl D1 rfl rfl rfl (by exact C2 _) rfl)) ?_; rintro _ _ _ ⟨rfl, rfl⟩; refine ln (Bh (ι := Option Addr × Value × Value × WS × AU) (fun zz => Le I zz.2.2.2.2 ∧ Kk b zz.1 zz.2.1 zz.2.2.2.1 ∧ zz.2.2.2.1 = (if ah = true then B6 st [[32]] else st)) (fun zz => []) [(11, _), (2, _), (0, _), (1, _), (9, _), (10, _), (12, _), (7, _)] (fun zz => zz.2.2.2.2) (fun zz => (row b7 37 (BT (nth rs i rd0)) :: HG b zz.1 zz.2.1 zz.2.2.1 zz.2.2.2.1 F)) (AB rfl) ?_ ?_)
  ·refine Ar rfl (AF rfl (fun BI => ?_) (fun BI => ?_))
   ·refine AH (AC 1 rfl (le rfl (AS rfl CD CU rfl rfl rfl (by rfl) rfl) ?_)); rintro _ _ _ ⟨b17, rfl, rfl, rfl⟩; refine AI (H' := BO 9 1 Bo (.slice (some ⟨b17, 0, none⟩) 1 1) [[32]] :: _) ?_ (fun _ h => A7 h rfl (by decide)); refine BG (f := Bo) (l := [[32]]) (.slice (some ⟨b17, 0, none⟩) 1 1) (fun _ => rfl) (fun Jf B4 Ck => ?_)
    have BD := BD.trans B4
    refine Bw rfl rfl rfl rfl (fun w hw => CF b (.slice (some ⟨b17, 0, none⟩) 1 1) [[32]] p vb dv _ _ _ _ w hk (by simp only [List.flatten_cons, List.flatten_nil, List.length_nil, List.length_cons, List.append_nil]; omega) Ck (by simp) (BN hw)) ?_; rintro _ J _ ⟨rfl, hJ, p, vb, dv, hk, rfl⟩
    have BD := BD.trans hJ
    refine BX (Av ((p, vb, dv, B6 st [[32]], J)) ?_ (AW) (AB rfl) (fun _ h => by dsimp only; exact AA h))
    ·dsimp only; exact ⟨BD, hk, by rw [if_pos BI]⟩
   ·refine Au (Av ((p, vb, dv, st, J)) ?_ (AW) (AB rfl) (fun _ h => by dsimp only; exact AA h))
    ·dsimp only; exact ⟨BD, hk, by rw [if_neg (by rw [BI]; simp)]⟩
  rintro ⟨p, vb, dv, s1, J⟩ ⟨BD, hk, En⟩; dsimp only at *
  have hz1 : wz s1 ≤ wz st + 1 := by
   rw [En]
   split
   ·rw [Cu]; simp
   ·omega
  refine Ar rfl (Bh (ι := Option Addr × Value × Value × WS × AU) (fun zz => Le I zz.2.2.2.2 ∧ Kk b zz.1 zz.2.1 zz.2.2.2.1 ∧ zz.2.2.2.1 = (if 0 ≤ (nth rs i rd0).fd then B6 s1 [Lib.itoa (nth rs i rd0).fd] else s1)) (fun zz => []) [(11, _), (2, _), (0, _), (1, _), (9, _), (10, _), (12, _), (7, _)] (fun zz => zz.2.2.2.2) (fun zz => (row b7 37 (BT (nth rs i rd0)) :: HG b zz.1 zz.2.1 zz.2.2.1 zz.2.2.2.1 F)) (AB rfl) ?_ ?_)
  ·refine tr (AC 1 rfl (lq rfl (AZ rfl rfl (by rfl)) ?_)); refine Ae rfl (AF rfl (fun BU => ?_) (fun BU => ?_))
   ·simp at BU
    refine AH (AC 2 rfl (lq rfl (AZ rfl rfl (by rfl)) ?_)); refine lq rfl (qc rfl rfl rfl ((fun w hw => LF (nth rs i rd0).fd w hfd ((hG.mono BD).mono hw.le).gw))) (le rfl (AS rfl CD CU rfl rfl rfl (by rfl) rfl) ?_); rintro _ _ _ ⟨b26, rfl, rfl, rfl⟩; refine AI (H' := BO 9 1 Bo (.slice (some ⟨b26, 0, none⟩) 1 1) [Lib.itoa (nth rs i rd0).fd] :: _) ?_ (fun _ h => A7 h rfl (by decide)); refine BG (f := Bo) (l := [Lib.itoa (nth rs i rd0).fd]) (.slice (some ⟨b26, 0, none⟩) 1 1) (fun _ => rfl) (fun Jf B4 Ck => ?_)
    have BD := BD.trans B4
    refine Bw rfl rfl rfl rfl (fun w hw => CF b (.slice (some ⟨b26, 0, none⟩) 1 1) [Lib.itoa (nth rs i rd0).fd] p vb dv _ _ _ _ w hk (by simp only [List.flatten_cons, List.flatten_nil, List.append_nil]; omega) Ck (by simp) (BN hw)) ?_; rintro _ J _ ⟨rfl, hJ, p, vb, dv, hk, rfl⟩
    have BD := BD.trans hJ
    refine BX (Av ((p, vb, dv, B6 s1 [Lib.itoa (nth rs i rd0).fd], J)) ?_ (AW) (AB rfl) (fun _ h => by dsimp only; exact AA h))
    ·dsimp only; exact ⟨BD, hk, by rw [if_pos (by omega)]⟩
   ·simp at BU
    refine Au (Av ((p, vb, dv, s1, J)) ?_ (AW) (AB rfl) (fun _ h => by dsimp only; exact AA h))
    ·dsimp only; exact ⟨BD, hk, by rw [if_neg (by omega)]⟩
  rintro ⟨p, vb, dv, s2, J⟩ ⟨BD, hk, Ho⟩; dsimp only at *
  have hz2 : wz s2 ≤ wz s1 + 20 := by
   rw [Ho]
   split
   ·rw [Cu]; simp; omega
   ·omega
  refine tr (AC 2 rfl (lq rfl (AZ rfl rfl (by rfl)) ?_)); refine le rfl (AS rfl CD CU rfl rfl rfl (by rfl) rfl) ?_; rintro _ _ _ ⟨b31, rfl, rfl, rfl⟩; refine AI (H' := BO 9 1 Bo (.slice (some ⟨b31, 0, none⟩) 1 1) [(nth rs i rd0).op] :: _) ?_ (fun _ h => A7 h rfl (by decide)); refine BG (f := Bo) (l := [(nth rs i rd0).op]) (.slice (some ⟨b31, 0, none⟩) 1 1) (fun _ => rfl) (fun Jf B4 Ck => ?_)
  have BD := BD.trans B4
  refine Bw rfl rfl rfl rfl (fun w hw => CF b (.slice (some ⟨b31, 0, none⟩) 1 1) [(nth rs i rd0).op] p vb dv _ _ _ _ w hk (by simp only [List.flatten_cons, List.flatten_nil, List.append_nil]; omega) Ck (by simp) (BN hw)) ?_; rintro _ J _ ⟨rfl, hJ, p, vb, dv, hk, rfl⟩
  have BD := BD.trans hJ
  obtain ⟨s3, Pp⟩ : ∃ z, z = B6 s2 [(nth rs i rd0).op] := ⟨_, rfl⟩; rw [← Pp] at hk ⊢
  have hz3 : wz s3 = wz s2 + (nth rs i rd0).op.length := by rw [Pp, Cu]; simp
  refine K6 (AC 1 rfl (lq rfl (AZ rfl rfl (by rfl)) ?_)); refine lq rfl (C7 rfl rfl rfl) (ln (AF rfl (fun Bd => ?_) (fun Bd => ?_)))
  ·have Lg := of_decide_eq_true Bd
   refine tr (AC 2 rfl (lq rfl (AZ rfl rfl (by rfl)) ?_)); refine le rfl (AS rfl CD CU rfl rfl rfl (by rfl) rfl) ?_; rintro _ _ _ ⟨b39, rfl, rfl, rfl⟩; refine AI (H' := BO 9 1 Bo (.slice (some ⟨b39, 0, none⟩) 1 1) [(nth rs i rd0).word] :: _) ?_ (fun _ h => A7 h rfl (by decide)); refine BG (f := Bo) (l := [(nth rs i rd0).word]) (.slice (some ⟨b39, 0, none⟩) 1 1) (fun _ => rfl) (fun Jf B4 Ck => ?_)
   have BD := BD.trans B4
   refine Bw rfl rfl rfl rfl (fun w hw => CF b (.slice (some ⟨b39, 0, none⟩) 1 1) [(nth rs i rd0).word] p vb dv _ _ _ _ w hk (by simp only [List.flatten_cons, List.flatten_nil, List.append_nil]; omega) Ck (by simp) (BN hw)) ?_; rintro _ J _ ⟨rfl, hJ, p, vb, dv, hk, rfl⟩
   have BD := BD.trans hJ
   have hrd : rdW (nth rs i rd0) ah st = B6 s3 [(nth rs i rd0).word] := by unfold rdW; simp only; rw [← En, ← Ho, ← Pp, if_pos Lg]
   have TQ := Z5 (hro _ (DG (d := rd0) EJ)) ah st
   rw [hrd] at TQ; refine ln (BB (AG (AQ (Ai (AH (lq rfl (AX rfl rfl rfl (by omega)) ?_)))))); refine Ax rfl (Ak ((i + 1, p, vb, dv, B6 s3 [(nth rs i rd0).word], true, J)) ?_ ?_ (AB rfl) (AB rfl) (fun _ h => by dsimp only; exact AA h))
   ·dsimp only; exact ⟨by omega, BD, hk, by omega, by rw [Dh, Ru EJ, hrd]⟩
   ·dsimp only
    show rs.length - (i + 1) < rs.length - i
    omega
  ·have Lg := of_decide_eq_false Bd
   refine Al (tr (AC 1 rfl (lq rfl (AZ rfl rfl (by rfl)) ?_))); refine lq rfl (qc rfl rfl rfl ((fun w hw => Ue (nth rs i rd0).doc w ZM ((hG.mono BD).mono hw.le)))) (Ae rfl (AN (DH [10, 11, 14] [14] [row b7 37 (BT (nth rs i rd0)), row b 45 [.pointer p, vb, dv, .bool s3.bad]] mo (by kernel_rfl) (fun _ _ _ _ _ h => h) (Bg [0, 1, 2, 3] (by kernel_rfl) rfl rfl rfl (Ko 4 (by kernel_rfl) rfl (Le.refl _) rfl (fun _ hI => AZ rfl rfl (by rfl)) ?_))))); refine Bg [5] (by kernel_rfl) rfl rfl rfl (IC 6 (by kernel_rfl) rfl rfl (AZ rfl rfl (by rfl)) ?_); refine Bg [7] (by kernel_rfl) rfl rfl rfl (rqf 8 (by kernel_rfl) rfl rfl (fun _ => Dk rfl rfl rfl (by omega)) ?_); refine rqf 9 (by kernel_rfl) rfl rfl (fun _ => Dk rfl rfl rfl (by (simp only [List.length_append, List.length_cons, List.length_nil]; omega))) ?_; refine re 10 (by kernel_rfl) rfl (Le.refl _) rfl (AS rfl AJI CU rfl rfl rfl (by rfl) rfl) ?_; rintro _ _ _ ⟨b54, rfl, rfl, rfl⟩; refine ⟨Le.refl _, .inr CY.sub, ?_⟩; refine re 11 (by kernel_rfl) rfl (Le.refl _) rfl (Ba (f := Bo) (c := (nth rs i rd0).doc ++ Mx (nth rs i rd0).doc ++ [10]) rfl AJI CU rfl rfl rfl rfl rfl rfl rfl (Ev _) (by simp only [maxLen]; unfold wz at *; omega) (by unfold wz at *; omega)) ?_; rintro v55 _ _ ⟨rfl, rfl⟩; refine ⟨Le.refl _, .inr CY.sub, ?_⟩; refine AJh v55 (fun APo ALO => ?_); refine Bg [12, 13] (by kernel_rfl) rfl rfl rfl ?_
   refine Eu 14 (by kernel_rfl) (by kernel_rfl) rfl (Le.refl _) rfl rfl (Ac rfl ACS rfl rfl (by assumption) rfl (by (simp only [List.set_cons_succ, List.set_cons_zero]; try rfl))) ?_; rintro _ _ _ ⟨rfl, rfl⟩; refine ⟨Le.refl _, .inl rfl, ?_⟩; refine ES (H' := row b 45 [.pointer p, vb, v55, .bool s3.bad] :: _) ?_ (fun _ h => h); refine D3 (by kernel_rfl) (Ai (Bh (ι := List UInt8) (fun zz => zz = (if (nth rs i rd0).raw = true then [39] ++ Mx (nth rs i rd0).doc ++ [39] else Mx (nth rs i rd0).doc)) (fun zz => [(8, Bj zz)]) [(11, _), (2, _), (0, _), (1, _), (9, _), (10, _), (12, _), (7, _), (35, _)] (fun zz => J) (fun zz => (row b7 37 (BT (nth rs i rd0)) :: HG b p vb v55 (⟨s3.out, s3.docs ++ [(nth rs i rd0).doc ++ Mx (nth rs i rd0).doc ++ [10]], s3.bad⟩ : WS) F)) (AB rfl) ?_ ?_))
   ·refine tr (AC 1 rfl (lq rfl (AZ rfl rfl (by rfl)) ?_)); refine ln (AF rfl (fun Cg => ?_) (fun Cg => ?_))
    ·refine AH (AC 1 rfl (lq rfl (Dk rfl rfl rfl (by (simp only [List.length_cons, List.length_nil]; omega))) ?_)); refine lq rfl (Dk rfl rfl rfl (by (simp only [List.length_append, List.length_cons, List.length_nil]; omega))) ?_; refine Ax rfl (Av (([39] ++ Mx (nth rs i rd0).doc ++ [39])) ?_ (AB rfl) (AB rfl) (fun _ h => by dsimp only; exact AA h))
     ·rw [if_pos Cg]
    ·refine Au (Av ((Mx (nth rs i rd0).doc)) ?_ (AB rfl) (AB rfl) (fun _ h => by dsimp only; exact AA h))
     ·rw [if_neg (by rw [Cg]; simp)]
   rintro z hz; dsimp only at *
   have hzl : z.length ≤ (Mx (nth rs i rd0).doc).length + 2 := by rw [hz]; split <;> simp
   have hz4 : wz (⟨s3.out, s3.docs ++ [(nth rs i rd0).doc ++ Mx (nth rs i rd0).doc ++ [10]], s3.bad⟩ : WS) ≤ wz s3 + ((nth rs i rd0).doc.length + (Mx (nth rs i rd0).doc).length + 2) := by unfold wz; simp only [List.flatten_append, List.length_append, List.flatten_cons, List.flatten_nil, List.length_nil, List.length_cons]; omega
   refine AH (AC 2 rfl (le rfl (AS rfl CD CU rfl rfl rfl (by rfl) rfl) ?_)); rintro _ _ _ ⟨b65, rfl, rfl, rfl⟩; refine AI (H' := BO 9 1 Bo (.slice (some ⟨b65, 0, none⟩) 1 1) [z] :: _) ?_ (fun _ h => A7 h rfl (by decide)); refine BG (f := Bo) (l := [z]) (.slice (some ⟨b65, 0, none⟩) 1 1) (fun _ => rfl) (fun Jf B4 Ck => ?_)
   have BD := BD.trans B4
   refine Bw rfl rfl rfl rfl (fun w hw => CF b (.slice (some ⟨b65, 0, none⟩) 1 1) [z] p vb v55 _ _ _ _ w (show Kk b p vb (⟨s3.out, s3.docs ++ [(nth rs i rd0).doc ++ Mx (nth rs i rd0).doc ++ [10]], s3.bad⟩ : WS) from hk) (by simp only [List.flatten_cons, List.flatten_nil, List.append_nil]; omega) Ck (by simp) (BN hw)) ?_; rintro _ J _ ⟨rfl, hJ, p, vb, dv, hk, rfl⟩
   have BD := BD.trans hJ
   have hrd : rdW (nth rs i rd0) ah st = B6 (⟨s3.out, s3.docs ++ [(nth rs i rd0).doc ++ Mx (nth rs i rd0).doc ++ [10]], s3.bad⟩ : WS) [z] := by unfold rdW; simp only; rw [← En, ← Ho, ← Pp, if_neg (by simpa using Lg), ← hz]
   have TQ := Z5 (hro _ (DG (d := rd0) EJ)) ah st
   rw [hrd] at TQ; refine BX (AV (Ai (AH (lq rfl (AX rfl rfl rfl (by omega)) ?_)))); refine Ax rfl (Ak ((i + 1, p, vb, dv, B6 (⟨s3.out, s3.docs ++ [(nth rs i rd0).doc ++ Mx (nth rs i rd0).doc ++ [10]], s3.bad⟩ : WS) [z], true, J)) ?_ ?_ (AB rfl) (AB rfl) (fun _ h => by dsimp only; exact AA h))
   ·dsimp only; exact ⟨by omega, BD, hk, by omega, by rw [Dh, Ru EJ, hrd]⟩
   ·dsimp only
    show rs.length - (i + 1) < rs.length - i
    omega
 ·simp at hc0
  have EJ : i = rs.length := by omega
  rw [EJ, List.drop_length, LJ] at Dh; refine BB (AG (AG (AQ (Cm rfl (fun w' hw => ?_))))); rw [Dh]; exact ⟨_, rfl, J, _, ⟨rfl, BD, p, vb, dv, hk, rfl⟩, AA hw⟩
end Go.Tri

namespace Go.Tri
open Go.Proofs Go.RowKit
set_option maxRecDepth 10000
def JK (n : Hn) : Prop := ∀ (b : Nat) (c : HC) (d : Nat) (p : Option Addr) (vb dv : Value) (st : WS) (I : AU) (F : List HA) (w0 w : World) (hk : Kk b p vb st), D5 I n c → FC I → d ≤ 961 → wz st + wH n ≤ 1000000000 → St w0 I (HG b p vb dv st F) w → Calls Tryz.prog 17 [FK b, .agg (Eo c).toArray, .int .i64 (d : Int)].toArray w (fun e w' => ∃ v, e = .returned v ∧ ∃ I' H', GQ b (FR n d st) I F v I' H' ∧ St w I' H' w')
def IH (n : Hn) : Prop := ∀ (b : Nat) (c : HC) (d : Nat) (p : Option Addr) (vb dv : Value) (st : WS) (I : AU) (F : List HA) (w0 w : World) (hk : Kk b p vb st), D5 I n c → FC I → d ≤ 961 → wz st + wH n + 1 ≤ 1000000000 → St w0 I (HG b p vb dv st F) w → Calls Tryz.prog 57 [FK b, .agg (Eo c).toArray, .int .i64 (d : Int)].toArray w (fun e w' => ∃ v, e = .returned v ∧ ∃ I' H', GQ b (Et n d st) I F v I' H' ∧ St w I' H' w')
def wl : List Hn → Nat
 | [] => 0
 | n :: r => wH n + 1 + wl r
theorem ACm : ∀ l : List Hn, wl l ≤ Hm l
 | [] => Nat.le_refl _
 | n :: r => by have := ACm r; rw [wl, Hm]; omega
theorem ABd {l : List Hn} {i : Nat} (h : i < l.length) : wl (l.drop i) = wH (nth l i EL) + 1 + wl (l.drop (i + 1)) := by rw [Bi EL h, wl]
theorem Ux : ∀ l : List Hn, l.length ≤ wl l
 | [] => Nat.le_refl _
 | n :: r => by have := Ux r; rw [wl, List.length_cons]; omega
def RA (n : Hn) : List Hn := if n.kind = 5 then n.kids else [n]
theorem Xo (n : Hn) (d : Nat) (st : WS) : Et n d st = HK (Ci (RA n)) d st := by
 obtain ⟨k, nt, ii, nm, ws, rs, ks⟩ := n; rw [Et]; unfold RA Hn.kind Hn.kids; simp only
 split
 ·rfl
 ·rw [Ci, Ci, HK, HK, FR]
theorem WG {l : List Hn} {i : Nat} (h : i < l.length) (d : Nat) (st : WS) : HK (Ci (l.drop i)) d st = HK (Ci (l.drop (i + 1))) d (GG (FR (nth l i EL) d st)) := by rw [Bi EL h, Ci, HK]
theorem Jw {n : Hn} (h : Nj n) (d : Nat) (st : WS) : wz (FR n d st) ≤ wz st + wH n := (Ql n h).1 d st
theorem HV {n : Hn} (h : Nj n) (d : Nat) (st : WS) : wz (Et n d st) ≤ wz st + (wH n + 1) := (Ql n h).2 d st
theorem YS (btw : List UInt8) {l : List Hn} {i : Nat} (h : i < l.length) (fst : Bool) (d : Nat) (st : WS) : N4 btw fst (Ci (l.drop i)) d st = N4 btw false (Ci (l.drop (i + 1))) d (FR (nth l i EL) d (if fst = true then st else CK st [btw])) := by rw [Bi EL h, Ci, N4]
theorem Ys {l : List Hn} {i : Nat} (h : i + 1 < l.length) (sign : List UInt8) (d : Nat) (st : WS) : Iq (Ci (l.drop i)) sign d st = Iq (Ci (l.drop (i + 2))) Qv d (Et (nth l (i + 1) EL) d (CK (Et (nth l i EL) d (CK st [sign])) [thenS])) := by
 rw [Bi EL (show i < l.length by omega), Bi EL h, Ci, Ci, Iq]
theorem AAx (n : Hn) (Bb : Nj n) (hS : JK n) (XI : ∀ i, i < n.kids.length → JK (nth n.kids i EL)) : IH n := by
 intro b c d p0 vb0 dv0 st0 I F w0 w hk hn hG hd hl CE
 have BD := Le.refl I
 have hkd := hn.kind
 have Df := hn.ones
 obtain ⟨kcs, G9, GM⟩ : ∃ cs, Sl I 7 c.kv (cs.map Eo) ∧ Bx I n.kids cs := by
  cases n; unfold D5 at hn; obtain ⟨_, _, _, _, _, _, cs, h7, h8⟩ := hn; exact ⟨cs, h7, h8⟩
 have hkw : wl n.kids ≤ wH n := by
  cases n with
  | mk k nt ii nm ws rs ks => have := ACm ks; rw [wH]; show wl ks ≤ _; omega
 have R7 : E9 n.kids := by
  cases n; rw [Nj] at Bb; exact Bb.2
 rw [Xo]; refine enter Tryz.func57 rfl Tryz.ntmps57 rfl (CE.self) (tr (le rfl (FE rfl rfl rfl) ?_)); rintro _ _ _ ⟨b4, rfl, rfl, rfl⟩; refine AI (H' := row b4 26 (Eo c) :: _) ?_ (fun _ h => h); refine BQ (AC 1 rfl (lq rfl (AZ rfl rfl (by rfl)) ?_)); refine Ae rfl (Bh (ι := Value × List Hn × List HC × AU) (fun zz => Le I zz.2.2.2 ∧ zz.2.1 = RA n ∧ Sl zz.2.2.2 7 zz.1 (zz.2.2.1.map Eo) ∧ Bx zz.2.2.2 zz.2.1 zz.2.2.1) (fun zz => [(6, zz.1)]) [(0, _), (1, _), (2, _), (4, _)] (fun zz => zz.2.2.2) (fun zz => (row b4 26 (Eo c) :: HG b p0 vb0 dv0 st0 F)) (AB rfl) ?_ ?_)
 ·refine tr (AC 1 rfl (lq rfl (AZ rfl rfl (by rfl)) ?_)); refine Ae rfl (AF rfl (fun hc0 => ?_) (fun hc0 => ?_))
  ·have hk5 : c.kind ≠ 5 := of_decide_eq_true hc0
   refine AH (lq rfl ((by exact Af rfl BR Ab rfl rfl rfl)) ?_); refine le rfl (AS rfl CJ Ab rfl rfl rfl (by rfl) rfl) ?_; rintro _ _ _ ⟨b15, rfl, rfl, rfl⟩; refine AI (H' := BO 26 7 Eo (.slice (some ⟨b15, 0, none⟩) 1 1) [c] :: _) ?_ (fun _ h => A7 h rfl (by decide)); refine BG (f := Eo) (l := [c]) (.slice (some ⟨b15, 0, none⟩) 1 1) (fun _ => rfl) (fun Jf B4 Ck => ?_); refine Ax rfl (Av (((.slice (some ⟨b15, 0, none⟩) 1 1), [n], [c], Jf)) ?_ (AB rfl) (AB rfl) (fun _ h => by dsimp only; exact AA h))
   ·dsimp only; exact ⟨B4, by unfold RA; rw [if_neg (by rw [← hkd]; exact hk5)], Ck, by unfold Bx; exact ⟨hn.mono B4, by unfold Bx; trivial⟩⟩
  ·have hk5 : c.kind = 5 := by have := of_decide_eq_false hc0; omega
   refine Au (Av ((c.kv, n.kids, kcs, I)) ?_ (AB rfl) (AB rfl) (fun _ h => by dsimp only; exact AA h))
   ·dsimp only; exact ⟨Le.refl _, by unfold RA; rw [if_pos (by rw [← hkd]; exact hk5)], G9, GM⟩
 rintro ⟨lv, l, cs, Jl⟩ ⟨BD, UQ, Kj, Ki⟩; dsimp only at *
 have Jj := Ux l
 have hlw : wl l ≤ wH n + 1 := by
  rw [UQ]; unfold RA
  split
  ·omega
  ·rw [wl, wl]; omega
 have hSl : ∀ i, i < l.length → JK (nth l i EL) := by
  intro i hi
  rw [UQ] at hi ⊢; unfold RA at hi ⊢
  split
  ·rename_i h5; rw [if_pos h5] at hi; exact XI i hi
  ·rename_i h5; rw [if_neg h5] at hi; have : i = 0 := by simp at hi; omega
   subst this; exact hS
 have AHv : ∀ i, i < l.length → Nj (nth l i EL) := by
  intro i hi
  rw [UQ] at hi ⊢; unfold RA at hi ⊢
  split
  ·rename_i h5; rw [if_pos h5] at hi; exact R7.nth hi
  ·rename_i h5; rw [if_neg h5] at hi; have : i = 0 := by simp at hi; omega
   subst this; exact Bb
 rw [← UQ]; refine tr (AC 1 rfl ?_); refine lq rfl ((by exact CN rfl CJ rfl (Sl.lenOf Kj (by rw [List.length_map, Ki.len])))) ?_; refine Ae rfl (AR (A8 (ι := Nat × Option Addr × Value × Value × WS × AU) (fun zz => zz.1 ≤ l.length ∧ Le I zz.2.2.2.2.2 ∧ Le Jl zz.2.2.2.2.2 ∧ Kk b zz.2.1 zz.2.2.1 zz.2.2.2.2.1 ∧ wz zz.2.2.2.2.1 + wl (l.drop zz.1) ≤ 1000000000 ∧ HK (Ci l) d st0 = HK (Ci (l.drop zz.1)) d zz.2.2.2.2.1) (fun zz => l.length - zz.1) (fun zz => [(18, .int .i64 (zz.1 : Int))]) [(6, _), (0, _), (1, _), (2, _), (4, _), (16, _), (17, _)] (fun zz => zz.2.2.2.2.2) (fun zz => (HG b zz.2.1 zz.2.2.1 zz.2.2.2.1 zz.2.2.2.2.1 F)) (0, p0, vb0, dv0, st0, Jl) ?_ (AB rfl) (AB rfl) (fun _ h => AA h) ?_))
 ·dsimp only; exact ⟨Nat.zero_le _, BD, Le.refl _, hk, by rw [List.drop_zero]; omega, by rw [List.drop_zero]⟩
 rintro ⟨i, p, vb, dv, st, J⟩ ⟨hi, BD, Qm, hk, N7, Dh⟩; dsimp only at *; refine Ar rfl (AN (AF rfl (fun BI => ?_) (fun BI => ?_)))
 ·simp at BI
  have EJ : i < l.length := by omega
  have TQ := ABd EJ
  have NJ := (Bx.nth Ki EJ).ones
  refine Al (AN (AR (tr ?_))); refine lq rfl ((by exact A5 rfl CJ Ab rfl rfl (Sl.shape (n := l.length) (Kj.mono Qm) (by rw [List.length_map, Ki.len])) (by omega))) ?_; refine lq rfl ((by exact Bc rfl BR Ab rfl rfl ((Kj.mono Qm).rds (Fk (i := i) (by rw [Ki.len]; omega))))) ?_; refine le rfl (Ah rfl Ab rfl) ?_; rintro _ _ _ ⟨b8, rfl, rfl, rfl⟩; refine An rfl rfl ((by exact AE rfl Ab rfl rfl rfl (by exact NJ) rfl)) ?_; rintro _ _ _ ⟨rfl, rfl⟩; refine BQ (AC 1 rfl (lq rfl ((by exact Af rfl BR Ab rfl rfl rfl)) ?_)); refine AC 1 rfl (Bw rfl rfl rfl rfl (fun w hw => hSl i EJ b (nth cs i hc0) d p vb dv _ _ _ _ w hk (Bx.nth (Ki.mono Qm) EJ) (hG.mono BD) hd (by omega) (BN hw)) ?_); rintro _ J _ ⟨rfl, hJ, p, vb, dv, hk, rfl⟩
  have BD := BD.trans hJ
  have Qm := Qm.trans hJ
  refine ln (AH (AC 1 rfl (Bw rfl rfl rfl rfl (fun w hw => HQ b p vb dv _ _ _ _ w hk (by have := Jw (AHv i EJ) d st; omega) (BN hw)) ?_))); rintro _ J _ ⟨rfl, hJ, p, vb, dv, hk, rfl⟩
  have BD := BD.trans hJ
  have Qm := Qm.trans hJ
  refine BX (AV (Ai (AH (lq rfl (AX rfl rfl rfl (by omega)) ?_)))); refine Ax rfl (Ak ((i + 1, p, vb, dv, GG (FR (nth l i EL) d st), J)) ?_ ?_ (AB rfl) (AB rfl) (fun _ h => by dsimp only; exact AA h))
  ·dsimp only; exact ⟨by omega, BD, Qm, hk, by have h1 := IZ (FR (nth l i EL) d st); have h2 := Jw (AHv i EJ) d st; omega, by rw [Dh, WG EJ]⟩
  ·dsimp only
   show l.length - (i + 1) < l.length - i
   omega
 ·simp at BI
  have EJ : i = l.length := by omega
  rw [EJ, List.drop_length, Ci, HK] at Dh; refine BB (AG (AG (AQ (Cm rfl (fun w' hw => ?_))))); rw [Dh]; exact ⟨_, rfl, J, _, ⟨rfl, BD, p, vb, dv, hk, rfl⟩, AA hw⟩
end Go.Tri

namespace Go.Tri
open Go.Proofs Go.RowKit
set_option maxRecDepth 10000
theorem Fj : ∀ l : List Hn, l.length ≤ Hm l
 | [] => Nat.le_refl _
 | n :: r => by have := Fj r; rw [Hm, List.length_cons]; omega
theorem Wu (k : Int) (nt ii : Bool) (nm : List UInt8) (ws : List (List UInt8)) (rs : List EK) (ks : List Hn) (Bb : E9 ks) (XI : ∀ i, i < ks.length → JK (nth ks i EL)) (b : Nat) (c : HC) (d : Nat) (p0 : Option Addr) (vb0 dv0 : Value) (st0 : WS) (I : AU) (F : List HA) (w0 w : World) (hk : Kk b p0 vb0 st0) (hn : D5 I (.mk k nt ii nm ws rs ks) c) (hG : FC I) (hd : d ≤ 961) (hl : wz st0 + Hm ks + 40 ≤ 1000000000) (CE : St w0 I (HG b p0 vb0 dv0 st0 F) w) : Calls Tryz.prog 39 [FK b, .agg (Eo c).toArray, .int .i64 (d : Int)].toArray w (fun e w' => ∃ v, e = .returned v ∧ ∃ I' H', GQ b (HM k nt (Ci ks) d st0) I F v I' H' ∧ St w I' H' w') := by
 have BD := Le.refl I
 have Df := hn.ones
 unfold D5 at hn; obtain ⟨rfl, rfl, rfl, rfl, Kg, UH, kcs, G9, GM⟩ := hn
 have XP := Fj ks
 have XF := GM.len
 refine enter Tryz.func39 rfl Tryz.ntmps39 rfl (CE.self) (tr (le rfl (FE rfl rfl rfl) ?_)); rintro _ _ _ ⟨b4, rfl, rfl, rfl⟩; refine AI (H' := row b4 26 (Eo c) :: _) ?_ (fun _ h => h); refine BQ (Ae rfl (Bh (ι := Option Addr × Value × Value × WS × AU × List UInt8) (fun zz => Le I zz.2.2.2.2.1 ∧ Kk b zz.1 zz.2.1 zz.2.2.2.1 ∧ zz.2.2.2.1 = (if c.kind = 2 ∧ c.not = true then B6 st0 [[33, 32]] else st0) ∧ zz.2.2.2.2.2 = P0 c.kind ∧ zz.2.2.2.2.2.length ≤ 3) (fun zz => [(6, Bj zz.2.2.2.2.2)]) [(0, _), (1, _), (2, _), (4, _)] (fun zz => zz.2.2.2.2.1) (fun zz => (row b4 26 (Eo c) :: HG b zz.1 zz.2.1 zz.2.2.1 zz.2.2.2.1 F)) (AB rfl) ?_ ?_))
 ·refine tr (AC 1 rfl (lq rfl (AZ rfl rfl (by rfl)) ?_)); refine ln (AR (Ar rfl (AF rfl (fun hc0 => ?_) (fun hc0 => ?_))))
  ·simp at hc0
   refine Ar rfl (tr (AC 1 rfl (lq rfl (AZ rfl rfl (by rfl)) ?_))); refine ln (AF rfl (fun BI => ?_) (fun BI => ?_))
   ·refine AH (AC 1 rfl (le rfl (AS rfl CD CU rfl rfl rfl (by rfl) rfl) ?_)); rintro _ _ _ ⟨b16, rfl, rfl, rfl⟩; refine AI (H' := BO 9 1 Bo (.slice (some ⟨b16, 0, none⟩) 1 1) [[33, 32]] :: _) ?_ (fun _ h => A7 h rfl (by decide)); refine BG (f := Bo) (l := [[33, 32]]) (.slice (some ⟨b16, 0, none⟩) 1 1) (fun _ => rfl) (fun Jf B4 Ck => ?_)
    have BD := BD.trans B4
    refine Bw rfl rfl rfl rfl (fun w hw => CF b (.slice (some ⟨b16, 0, none⟩) 1 1) [[33, 32]] p0 vb0 dv0 _ _ _ _ w hk (by simp; omega) Ck (by simp) (BN hw)) ?_; rintro _ J _ ⟨rfl, hJ, p, vb, dv, hk, rfl⟩
    have BD := BD.trans hJ
    refine BX (AV (Av ((p, vb, dv, B6 st0 [[33, 32]], J, [32, 124])) ?_ (AB rfl) (AB rfl) (fun _ h => by dsimp only; exact AA h)))
    ·dsimp only; exact ⟨BD, hk, by rw [if_pos ⟨hc0, BI⟩], by unfold P0; rw [if_pos hc0], by decide⟩
   ·refine Au (AV (Av ((p0, vb0, dv0, st0, I, [32, 124])) ?_ (AB rfl) (AB rfl) (fun _ h => by dsimp only; exact AA h)))
    ·dsimp only; exact ⟨BD, hk, by rw [if_neg (fun h => by rw [h.2] at BI; cases BI)], by unfold P0; rw [if_pos hc0], by decide⟩
  ·simp at hc0
   refine Ar rfl (AF rfl (fun BU => ?_) (fun BU => ?_))
   ·simp at BU
    refine AH (Ax rfl (AV (Av ((p0, vb0, dv0, st0, I, [32, 38, 38])) ?_ (AB rfl) (AB rfl) (fun _ h => by dsimp only; exact AA h))))
    ·dsimp only; exact ⟨BD, hk, by rw [if_neg (fun h => hc0 h.1)], by unfold P0; rw [if_neg hc0, if_pos BU], by decide⟩
   ·simp at BU
    refine Ar rfl (AF rfl (fun Bd => ?_) (fun Bd => ?_))
    ·simp at Bd
     refine AH (Ax rfl (AV (Av ((p0, vb0, dv0, st0, I, [32, 124, 124])) ?_ (AB rfl) (AB rfl) (fun _ h => by dsimp only; exact AA h))))
     ·dsimp only; exact ⟨BD, hk, by rw [if_neg (fun h => hc0 h.1)], by unfold P0; rw [if_neg hc0, if_neg BU, if_pos Bd], by decide⟩
    ·simp at Bd
     refine Au (AV (Av ((p0, vb0, dv0, st0, I, [])) ?_ (AB rfl) (AB rfl) (fun _ h => by dsimp only; exact AA h)))
     ·dsimp only; exact ⟨BD, hk, by rw [if_neg (fun h => hc0 h.1)], by unfold P0; rw [if_neg hc0, if_neg BU, if_neg Bd], by decide⟩
 rintro ⟨p, vb, dv, s0, J, bt⟩ ⟨BD, hk, Ik, hbt, hbl⟩; dsimp only at *
 have hz0 : wz s0 ≤ wz st0 + 2 := by
  rw [Ik]
  split
  ·rw [Cu]; simp
  ·omega
 refine AN (tr (AC 1 rfl (lq rfl (AZ rfl rfl (by rfl)) ?_))); refine lq rfl ((by exact CN rfl CJ rfl (Sl.lenOf G9 (by rw [List.length_map, GM.len])))) ?_; refine Ae rfl (AR (A8 (ι := Nat × Option Addr × Value × Value × WS × AU) (fun zz => zz.1 ≤ ks.length ∧ Le I zz.2.2.2.2.2 ∧ Kk b zz.2.1 zz.2.2.1 zz.2.2.2.2.1 ∧ wz zz.2.2.2.2.1 + Hm (ks.drop zz.1) + 30 ≤ 1000000000 ∧ N4 bt true (Ci ks) d s0 = N4 bt (decide (zz.1 = 0)) (Ci (ks.drop zz.1)) d zz.2.2.2.2.1) (fun zz => ks.length - zz.1) (fun zz => [(25, .int .i64 (zz.1 : Int))]) [(6, _), (0, _), (1, _), (2, _), (4, _), (23, _), (24, _)] (fun zz => zz.2.2.2.2.2) (fun zz => (row b4 26 (Eo c) :: HG b zz.2.1 zz.2.2.1 zz.2.2.2.1 zz.2.2.2.2.1 F)) (0, p, vb, dv, s0, J) ?_ (AB rfl) (AB rfl) (fun _ h => AA h) ?_))
 ·dsimp only; exact ⟨Nat.zero_le _, BD, hk, by rw [List.drop_zero]; omega, by rw [List.drop_zero]; try rfl⟩
 rintro ⟨i, p, vb, dv, st, J⟩ ⟨hi, BD, hk, N7, Dh⟩; dsimp only at *; refine Ar rfl (AN (AF rfl (fun Cg => ?_) (fun Cg => ?_)))
 ·simp at Cg
  have EJ : i < ks.length := by omega
  have TQ := Fl EJ
  have NJ := (Bx.nth GM EJ).ones
  refine Al (AN (AR (tr (AC 1 rfl ?_)))); refine lq rfl ((by exact A5 rfl CJ Ab rfl rfl (Sl.shape (n := ks.length) (G9.mono BD) (by rw [List.length_map, GM.len])) (by omega))) ?_; refine lq rfl ((by exact Bc rfl BR Ab rfl rfl ((G9.mono BD).rds (Fk (i := i) (by omega))))) ?_; refine le rfl (Ah rfl Ab rfl) ?_; rintro _ _ _ ⟨b8, rfl, rfl, rfl⟩; refine AC 1 rfl (An rfl rfl ((by exact AE rfl Ab rfl rfl rfl (by exact NJ) rfl)) ?_); rintro _ _ _ ⟨rfl, rfl⟩; refine ln (Bh (ι := Option Addr × Value × Value × WS × AU) (fun zz => Le I zz.2.2.2.2 ∧ Kk b zz.1 zz.2.1 zz.2.2.2.1 ∧ zz.2.2.2.1 = (if decide (i = 0) = true then st else CK st [bt])) (fun zz => []) [(25, _), (6, _), (0, _), (1, _), (2, _), (4, _), (23, _), (24, _), (26, _), (8, _), (7, _)] (fun zz => zz.2.2.2.2) (fun zz => (row b8 26 (Eo (nth kcs i hc0)) :: row b4 26 (Eo c) :: HG b zz.1 zz.2.1 zz.2.2.1 zz.2.2.2.1 F)) (AB rfl) ?_ ?_)
  ·refine Ar rfl (AF rfl (fun C1 => ?_) (fun C1 => ?_))
   ·simp at C1
    refine AH (AC 2 rfl (le rfl (AS rfl CD CU rfl rfl rfl (by rfl) rfl) ?_)); rintro _ _ _ ⟨b34, rfl, rfl, rfl⟩; refine AI (H' := BO 9 1 Bo (.slice (some ⟨b34, 0, none⟩) 1 1) [bt] :: _) ?_ (fun _ h => A7 h rfl (by decide)); refine BG (f := Bo) (l := [bt]) (.slice (some ⟨b34, 0, none⟩) 1 1) (fun _ => rfl) (fun Jf B4 Ck => ?_)
    have BD := BD.trans B4
    refine Bw rfl rfl rfl rfl (fun w hw => DY b (.slice (some ⟨b34, 0, none⟩) 1 1) [bt] p vb dv _ _ _ _ w hk (by simp only [List.flatten_cons, List.flatten_nil, List.append_nil]; omega) Ck (by simp) (BN hw)) ?_; rintro _ J _ ⟨rfl, hJ, p, vb, dv, hk, rfl⟩
    have BD := BD.trans hJ
    refine BX (Av ((p, vb, dv, CK st [bt], J)) ?_ (AW) (AB rfl) (fun _ h => by dsimp only; exact AA h))
    ·dsimp only; exact ⟨BD, hk, by rw [if_neg (by simp; omega)]⟩
   ·simp at C1
    refine Au (Av ((p, vb, dv, st, J)) ?_ (AW) (AB rfl) (fun _ h => by dsimp only; exact AA h))
    ·dsimp only; exact ⟨BD, hk, by rw [if_pos (by simp; omega)]⟩
  rintro ⟨p, vb, dv, s1, J⟩ ⟨BD, hk, En⟩; dsimp only at *
  have hz1 : wz s1 ≤ wz st + 4 := by
   rw [En]
   split
   ·omega
   ·have := DM st [bt]; simp at this; omega
  refine AH (AC 1 rfl (lq rfl ((by exact Af rfl BR Ab rfl rfl rfl)) ?_)); refine AC 1 rfl (Bw rfl rfl rfl rfl (fun w hw => XI i EJ b (nth kcs i hc0) d p vb dv _ _ _ _ w hk (Bx.nth (GM.mono BD) EJ) (hG.mono BD) hd (by omega) (BN hw)) ?_); rintro _ J _ ⟨rfl, hJ, p, vb, dv, hk, rfl⟩
  have BD := BD.trans hJ
  refine BX (AV (Ai (AH (lq rfl (AX rfl rfl rfl (by omega)) ?_)))); refine Ax rfl (Ak ((i + 1, p, vb, dv, FR (nth ks i EL) d s1, J)) ?_ ?_ (AB rfl) (AB rfl) (fun _ h => by dsimp only; exact AA h))
  ·dsimp only; exact ⟨by omega, BD, hk, by have h2 := Jw (Bb.nth EJ) d s1; omega, by rw [Dh, YS _ EJ, ← En]; try rfl⟩
  ·dsimp only
   show ks.length - (i + 1) < ks.length - i
   omega
 ·simp at Cg
  have EJ : i = ks.length := by omega
  rw [EJ, List.drop_length, Ci, N4] at Dh; refine BB (AG (AG (AQ (Ai (tr (AC 1 rfl (lq rfl (AZ rfl rfl (by rfl)) ?_))))))); refine Ae rfl (AF rfl (fun Dd => ?_) (fun Dd => ?_))
  ·simp at Dd
   refine AH (AC 1 rfl (le rfl (AS rfl CD CU rfl rfl rfl (by rfl) rfl) ?_)); rintro _ _ _ ⟨b45, rfl, rfl, rfl⟩; refine AI (H' := BO 9 1 Bo (.slice (some ⟨b45, 0, none⟩) 1 1) [[32, 38]] :: _) ?_ (fun _ h => A7 h rfl (by decide)); refine BG (f := Bo) (l := [[32, 38]]) (.slice (some ⟨b45, 0, none⟩) 1 1) (fun _ => rfl) (fun Jf B4 Ck => ?_)
   have BD := BD.trans B4
   refine Bw rfl rfl rfl rfl (fun w hw => CF b (.slice (some ⟨b45, 0, none⟩) 1 1) [[32, 38]] p vb dv _ _ _ _ w hk (by simp only [List.flatten_cons, List.flatten_nil, List.length_nil, List.length_cons, List.append_nil]; omega) Ck (by simp) (BN hw)) ?_; rintro _ J _ ⟨rfl, hJ, p, vb, dv, hk, rfl⟩
   have BD := BD.trans hJ
   refine BX (Cm rfl (fun w' hw => ?_)); rw [show HM c.kind c.not (Ci ks) d st0 = B6 st [[32, 38]] by unfold HM; simp only; rw [← Ik, ← hbt, Dh, if_pos Dd]]; exact ⟨_, rfl, J, _, ⟨rfl, BD, p, vb, dv, hk, rfl⟩, AA hw⟩
  ·simp at Dd
   refine Au (Cm rfl (fun w' hw => ?_)); rw [show HM c.kind c.not (Ci ks) d st0 = st by unfold HM; simp only; rw [← Ik, ← hbt, Dh, if_neg Dd]]; exact ⟨_, rfl, J, _, ⟨rfl, BD, p, vb, dv, hk, rfl⟩, AA hw⟩
end Go.Tri

namespace Go.Tri
open Go.Proofs Go.RowKit
set_option maxRecDepth 10000
theorem WD {α : Type} (l : List α) (i : Nat) (d : α) : nth (l.drop 2) i d = nth l (i + 2) d := by
 match l with
 | [] => rfl
 | [_] => rfl
 | _ :: _ :: r => rfl
theorem AAk {l : List Hn} (h : 1 < l.length) (sign : List UInt8) (d : Nat) (st : WS) : Iq (Ci l) sign d st = Iq (Ci (l.drop 2)) Qv d (Et (nth l 1 EL) d (CK (Et (nth l 0 EL) d (CK st [sign])) [thenS])) := Ys (i := 0) h sign d st
theorem AAd {l : List Hn} (h : l.length = 1) (sign : List UInt8) (d : Nat) (st : WS) : Iq (Ci l) sign d st = B6 (Et (nth l 0 EL) d (CK st [MQ])) [fiS] := by
 match l, h with
 | [a], _ => rw [Ci, Ci, Iq]; try rfl
theorem ABZ {l : List Hn} (h : ¬ l.length = 1) (h2 : ¬ 1 < l.length) (sign : List UInt8) (d : Nat) (st : WS) : Iq (Ci l) sign d st = B6 st [fiS] := by
 match l, h, h2 with
 | [], _, _ => rw [Ci, Iq]
 | [_], h, _ => exact absurd rfl h
 | _ :: _ :: r, _, h => exact absurd (by simp) h
set_option maxHeartbeats 1000000 in
theorem AEn (k : Int) (nt ii : Bool) (nm : List UInt8) (ws : List (List UInt8)) (rs : List EK) (ks : List Hn) (Bb : E9 ks) (UR : ∀ i, i < ks.length → IH (nth ks i EL)) (b : Nat) (c : HC) (d : Nat) (p0 : Option Addr) (vb0 dv0 : Value) (st0 : WS) (I : AU) (F : List HA) (w0 w : World) (hk : Kk b p0 vb0 st0) (hn : D5 I (.mk k nt ii nm ws rs ks) c) (hG : FC I) (hd : d ≤ 961) (hl : wz st0 + Hm ks + 60 ≤ 1000000000) (CE : St w0 I (HG b p0 vb0 dv0 st0 F) w) : Calls Tryz.prog 58 [FK b, .agg (Eo c).toArray, .int .i64 (d : Int)].toArray w (fun e w' => ∃ v, e = .returned v ∧ ∃ I' H', GQ b (Iq (Ci ks) ifS d st0) I F v I' H' ∧ St w I' H' w') := by
 have BD := Le.refl I
 have Df := hn.ones
 unfold D5 at hn; obtain ⟨rfl, rfl, rfl, rfl, Kg, UH, kcs, G9, GM⟩ := hn
 have XP := Fj ks
 have XF := GM.len
 refine enter Tryz.func58 rfl Tryz.ntmps58 rfl (CE.self) (tr (le rfl (FE rfl rfl rfl) ?_)); rintro _ _ _ ⟨b4, rfl, rfl, rfl⟩; refine AI (H' := row b4 26 (Eo c) :: _) ?_ (fun _ h => h); refine BQ (Ae rfl (tr (AC 1 rfl (lq rfl (AZ rfl rfl (by rfl)) ?_)))); refine Ae rfl (AN (AR (A8 (ι := List Hn × List HC × Value × List UInt8 × Option Addr × Value × Value × WS × AU) (fun zz => Le I zz.2.2.2.2.2.2.2.2 ∧ Kk b zz.2.2.2.2.1 zz.2.2.2.2.2.1 zz.2.2.2.2.2.2.2.1 ∧ Sl I 7 zz.2.2.1 (zz.2.1.map Eo) ∧ Bx I zz.1 zz.2.1 ∧ E9 zz.1 ∧ (∀ i, i < zz.1.length → IH (nth zz.1 i EL)) ∧ zz.2.2.2.1.length ≤ 4 ∧ zz.1.length ≤ 1000000000 ∧ wz zz.2.2.2.2.2.2.2.1 + Hm zz.1 + 60 ≤ 1000000000 ∧ Iq (Ci ks) ifS d st0 = Iq (Ci zz.1) zz.2.2.2.1 d zz.2.2.2.2.2.2.2.1) (fun zz => zz.1.length) (fun zz => [(6, Bj zz.2.2.2.1), (7, zz.2.2.1)]) [(0, _), (1, _), (2, _), (4, _)] (fun zz => zz.2.2.2.2.2.2.2.2) (fun zz => (HG b zz.2.2.2.2.1 zz.2.2.2.2.2.1 zz.2.2.2.2.2.2.1 zz.2.2.2.2.2.2.2.1 F)) (ks, kcs, c.kv, ifS, p0, vb0, dv0, st0, I) ?_ (AB rfl) (AB rfl) (fun _ h => AA h) ?_)))
 ·dsimp only; exact ⟨BD, hk, G9, GM, Bb, UR, by decide, by omega, by omega, rfl⟩
 rintro ⟨l, cs, vv, sign, p, vb, dv, st, J⟩ ⟨BD, hk, Qr, Ki, hol, hBl, Kh, hlm, N7, Dh⟩; dsimp only at *
 have ADs := Ki.len
 refine AN (tr (AC 1 rfl ?_)); refine lq rfl ((by exact CN rfl CJ rfl (Sl.lenOf Qr (show _ = l.length by rw [List.length_map, Ki.len])))) ?_; refine Ae rfl (AF rfl (fun HB => ?_) (fun HB => ?_))
 ·simp at HB
  have EJ : 1 < l.length := by omega
  have TQ := Fl (l := l) (i := 0) (by omega)
  have AFI := Fl (l := l) (i := 1) EJ
  simp only [List.drop_zero, Nat.zero_add, Nat.reduceAdd] at TQ AFI; refine Al (AN (AR (tr (AC 2 rfl (le rfl (AS rfl CD CU rfl rfl rfl (by rfl) rfl) ?_))))); rintro _ _ _ ⟨b17, rfl, rfl, rfl⟩; refine AI (H' := BO 9 1 Bo (.slice (some ⟨b17, 0, none⟩) 1 1) [sign] :: _) ?_ (fun _ h => A7 h rfl (by decide)); refine BG (f := Bo) (l := [sign]) (.slice (some ⟨b17, 0, none⟩) 1 1) (fun _ => rfl) (fun Jf B4 Ck => ?_)
  have BD := BD.trans B4
  refine Bw rfl rfl rfl rfl (fun w hw => DY b (.slice (some ⟨b17, 0, none⟩) 1 1) [sign] p vb dv _ _ _ _ w hk (by simp only [List.flatten_cons, List.flatten_nil, List.append_nil]; omega) Ck (by simp) (BN hw)) ?_; rintro _ J _ ⟨rfl, hJ, p, vb, dv, hk, rfl⟩
  have BD := BD.trans hJ
  obtain ⟨s1, En⟩ : ∃ z, z = CK st [sign] := ⟨_, rfl⟩; rw [← En] at hk ⊢
  have QA : wz s1 ≤ wz st + 5 := by rw [En]; have h9 := DM st [sign]; simp only [List.flatten_cons, List.flatten_nil, List.append_nil] at h9; (try simp only [List.length_cons, List.length_nil, thenS, MQ, ifS, Wn, Lf] at h9); omega
  refine BQ (AC 2 rfl ?_); refine lq rfl ((by exact DZ rfl CJ Ab rfl rfl (Sl.shape (n := l.length) (Qr.mono BD) (by rw [List.length_map, Ki.len])) (by omega))) ?_; refine lq rfl ((by exact Bc rfl BR Ab rfl rfl ((Qr.mono BD).rds (Fk (i := 0) (by omega))))) ?_; refine AC 1 rfl (Bw rfl rfl rfl rfl (fun w hw => hBl 0 (by omega) b (nth cs 0 hc0) d p vb dv _ _ _ _ w hk ((Bx.nth Ki (by omega)).mono BD) (hG.mono BD) hd (by omega) (BN hw)) ?_); rintro _ J _ ⟨rfl, hJ, p, vb, dv, hk, rfl⟩
  have BD := BD.trans hJ
  obtain ⟨s2, Ho⟩ : ∃ z, z = Et (nth l 0 EL) d s1 := ⟨_, rfl⟩; rw [← Ho] at hk ⊢
  have V3 : wz s2 ≤ wz s1 + (wH (nth l 0 EL) + 1) := by rw [Ho]; exact HV (hol.nth (by omega)) d s1
  refine BQ (AC 1 rfl (le rfl (AS rfl CD CU rfl rfl rfl (by rfl) rfl) ?_)); rintro _ _ _ ⟨b26, rfl, rfl, rfl⟩; refine AI (H' := BO 9 1 Bo (.slice (some ⟨b26, 0, none⟩) 1 1) [[116, 104, 101, 110]] :: _) ?_ (fun _ h => A7 h rfl (by decide)); refine BG (f := Bo) (l := [[116, 104, 101, 110]]) (.slice (some ⟨b26, 0, none⟩) 1 1) (fun _ => rfl) (fun Jf B4 Ck => ?_)
  have BD := BD.trans B4
  refine Bw rfl rfl rfl rfl (fun w hw => DY b (.slice (some ⟨b26, 0, none⟩) 1 1) [[116, 104, 101, 110]] p vb dv _ _ _ _ w hk (by simp only [List.flatten_cons, List.flatten_nil, List.length_nil, List.length_cons, List.append_nil]; omega) Ck (by simp) (BN hw)) ?_; rintro _ J _ ⟨rfl, hJ, p, vb, dv, hk, rfl⟩
  have BD := BD.trans hJ
  obtain ⟨s3, Pp⟩ : ∃ z, z = CK s2 [[116, 104, 101, 110]] := ⟨_, rfl⟩; rw [← Pp] at hk ⊢
  have AHm : wz s3 ≤ wz s2 + 5 := by rw [Pp]; have h9 := DM s2 [[116, 104, 101, 110]]; simp only [List.flatten_cons, List.flatten_nil, List.append_nil] at h9; (try simp only [List.length_cons, List.length_nil] at h9); omega
  refine BQ (AC 2 rfl ?_); refine lq rfl ((by exact A5 rfl CJ Ab rfl rfl (Sl.shape (n := l.length) (Qr.mono BD) (by rw [List.length_map, Ki.len])) (by omega))) ?_; refine lq rfl ((by exact Bc rfl BR Ab rfl rfl ((Qr.mono BD).rds (Fk (i := 1) (by omega))))) ?_; refine AC 1 rfl (Bw rfl rfl rfl rfl (fun w hw => hBl 1 EJ b (nth cs 1 hc0) d p vb dv _ _ _ _ w hk ((Bx.nth Ki EJ).mono BD) (hG.mono BD) hd (by omega) (BN hw)) ?_); rintro _ J _ ⟨rfl, hJ, p, vb, dv, hk, rfl⟩
  have BD := BD.trans hJ
  obtain ⟨s4, Zs⟩ : ∃ z, z = Et (nth l 1 EL) d s3 := ⟨_, rfl⟩; rw [← Zs] at hk ⊢
  have AHB : wz s4 ≤ wz s3 + (wH (nth l 1 EL) + 1) := by rw [Zs]; exact HV (hol.nth EJ) d s3
  refine ln (AH (Ax rfl (AV (Ai (AH (AC 1 rfl (lq rfl ((by exact IR rfl CJ Ab rfl rfl (Sl.lenOf Qr (show _ = l.length by rw [List.length_map, Ki.len])) (by omega))) ?_))))))); refine Ax rfl (Ak ((l.drop 2, cs.drop 2, OS 7 2 l.length vv, Qv, p, vb, dv, s4, J)) ?_ ?_ (AB rfl) (AB rfl) (fun _ h => by dsimp only; exact AA h))
  ·dsimp only; exact ⟨BD, hk, Sl.dropM Qr ADs (by omega), Ki.drop 2, hol.drop 2, fun i hi => by rw [WD]; exact hBl (i + 2) (by simp at hi; omega), by decide, by simp; omega, by omega, by rw [Dh, AAk EJ, ← En, ← Ho, show [thenS] = [[116, 104, 101, 110]] from rfl, ← Pp, ← Zs]⟩
  ·dsimp only
   show (l.drop 2).length < l.length
   simp; omega
 ·simp at HB
  have EJ : ¬ 1 < l.length := by omega
  refine BB (AG (AG (AQ (Ai (AN (tr (AC 1 rfl ?_))))))); refine lq rfl ((by exact CN rfl CJ rfl (Sl.lenOf Qr (show _ = l.length by rw [List.length_map, Ki.len])))) ?_; refine Ae rfl (AF rfl (fun BI => ?_) (fun BI => ?_))
  ·simp at BI
   have hl1 : l.length = 1 := by omega
   have TQ := OD (l := l) (i := 0) (by omega)
   refine tr (AC 1 rfl (le rfl (AS rfl CD CU rfl rfl rfl (by rfl) rfl) ?_)); rintro _ _ _ ⟨b38, rfl, rfl, rfl⟩; refine AI (H' := BO 9 1 Bo (.slice (some ⟨b38, 0, none⟩) 1 1) [[101, 108, 115, 101]] :: _) ?_ (fun _ h => A7 h rfl (by decide)); refine BG (f := Bo) (l := [[101, 108, 115, 101]]) (.slice (some ⟨b38, 0, none⟩) 1 1) (fun _ => rfl) (fun Jf B4 Ck => ?_)
   have BD := BD.trans B4
   refine Bw rfl rfl rfl rfl (fun w hw => DY b (.slice (some ⟨b38, 0, none⟩) 1 1) [[101, 108, 115, 101]] p vb dv _ _ _ _ w hk (by simp only [List.flatten_cons, List.flatten_nil, List.length_nil, List.length_cons, List.append_nil]; omega) Ck (by simp) (BN hw)) ?_; rintro _ J _ ⟨rfl, hJ, p, vb, dv, hk, rfl⟩
   have BD := BD.trans hJ
   obtain ⟨s1, En⟩ : ∃ z, z = CK st [[101, 108, 115, 101]] := ⟨_, rfl⟩; rw [← En] at hk ⊢
   have QA : wz s1 ≤ wz st + 5 := by rw [En]; have h9 := DM st [[101, 108, 115, 101]]; simp only [List.flatten_cons, List.flatten_nil, List.append_nil] at h9; (try simp only [List.length_cons, List.length_nil] at h9); omega
   refine ln (AH (AC 2 rfl ?_)); refine lq rfl ((by exact DZ rfl CJ Ab rfl rfl (Sl.shape (n := l.length) (Qr.mono BD) (by rw [List.length_map, Ki.len])) (by omega))) ?_; refine lq rfl ((by exact Bc rfl BR Ab rfl rfl ((Qr.mono BD).rds (Fk (i := 0) (by omega))))) ?_; refine AC 1 rfl (Bw rfl rfl rfl rfl (fun w hw => hBl 0 (by omega) b (nth cs 0 hc0) d p vb dv _ _ _ _ w hk ((Bx.nth Ki (by omega)).mono BD) (hG.mono BD) hd (by omega) (BN hw)) ?_); rintro _ J _ ⟨rfl, hJ, p, vb, dv, hk, rfl⟩
   have BD := BD.trans hJ
   obtain ⟨s2, Ho⟩ : ∃ z, z = Et (nth l 0 EL) d s1 := ⟨_, rfl⟩; rw [← Ho] at hk ⊢
   have V3 : wz s2 ≤ wz s1 + (wH (nth l 0 EL) + 1) := by rw [Ho]; exact HV (hol.nth (by omega)) d s1
   refine ln (AH (AC 1 rfl (le rfl (AS rfl CD CU rfl rfl rfl (by rfl) rfl) ?_))); rintro _ _ _ ⟨b47, rfl, rfl, rfl⟩; refine AI (H' := BO 9 1 Bo (.slice (some ⟨b47, 0, none⟩) 1 1) [[102, 105]] :: _) ?_ (fun _ h => A7 h rfl (by decide)); refine BG (f := Bo) (l := [[102, 105]]) (.slice (some ⟨b47, 0, none⟩) 1 1) (fun _ => rfl) (fun Jf B4 Ck => ?_)
   have BD := BD.trans B4
   refine Bw rfl rfl rfl rfl (fun w hw => CF b (.slice (some ⟨b47, 0, none⟩) 1 1) [[102, 105]] p vb dv _ _ _ _ w hk (by simp only [List.flatten_cons, List.flatten_nil, List.length_nil, List.length_cons, List.append_nil]; omega) Ck (by simp) (BN hw)) ?_; rintro _ J _ ⟨rfl, hJ, p, vb, dv, hk, rfl⟩
   have BD := BD.trans hJ
   refine BX (Cm rfl (fun w' hw => ?_)); rw [Dh, AAd hl1, show [MQ] = [[101, 108, 115, 101]] from rfl, ← En, ← Ho, show fiS = [102, 105] from rfl]; exact ⟨_, rfl, J, _, ⟨rfl, BD, p, vb, dv, hk, rfl⟩, AA hw⟩
  ·simp at BI
   have hl1 : ¬ l.length = 1 := by omega
   refine Al (AH (AC 1 rfl (le rfl (AS rfl CD CU rfl rfl rfl (by rfl) rfl) ?_))); rintro _ _ _ ⟨b47, rfl, rfl, rfl⟩; refine AI (H' := BO 9 1 Bo (.slice (some ⟨b47, 0, none⟩) 1 1) [[102, 105]] :: _) ?_ (fun _ h => A7 h rfl (by decide)); refine BG (f := Bo) (l := [[102, 105]]) (.slice (some ⟨b47, 0, none⟩) 1 1) (fun _ => rfl) (fun Jf B4 Ck => ?_)
   have BD := BD.trans B4
   refine Bw rfl rfl rfl rfl (fun w hw => CF b (.slice (some ⟨b47, 0, none⟩) 1 1) [[102, 105]] p vb dv _ _ _ _ w hk (by simp only [List.flatten_cons, List.flatten_nil, List.length_nil, List.length_cons, List.append_nil]; omega) Ck (by simp) (BN hw)) ?_; rintro _ J _ ⟨rfl, hJ, p, vb, dv, hk, rfl⟩
   have BD := BD.trans hJ
   refine BX (Cm rfl (fun w' hw => ?_)); rw [Dh, ABZ hl1 EJ, show fiS = [102, 105] from rfl]; exact ⟨_, rfl, J, _, ⟨rfl, BD, p, vb, dv, hk, rfl⟩, AA hw⟩
end Go.Tri

namespace Go.Tri
open Go.Proofs Go.RowKit
set_option maxRecDepth 10000
theorem N0 (v : Value) (ws : List (List UInt8)) (sep : List UInt8) (w : World) (hn : ws.length ≤ 1000000000) (h : Sl (BF w) 1 v (ws.map Bo)) (hl : (Lib.join ws sep).length ≤ 1000000000) : Cw Tryz.prog 37 [v, Bj sep] w (Bj (Lib.join ws sep)) := by
 obtain ⟨⟨Ad, c, rfl, hc, QU, hAd⟩, T6⟩ := h
 by_cases EZ : ws = []
 ·subst EZ
  exact (Tryz.strings_Join_none Ad c ⟨sep.toArray⟩ w).mono fun e w' ⟨h1, h2⟩ => ⟨h1, h2 ▸ Below.refl _ _⟩
 have AJC : ws.map Bo ≠ [] := fun h => EZ (List.map_eq_nil_iff.1 h)
 cases Ad with
 | none => exact absurd rfl (hAd AJC)
 | some ad =>
  obtain ⟨bk, o, sp⟩ := ad
  have Ik : sp = none := QU AJC _ rfl
  subst Ik
  have AHY : ∀ (j : Nat) x, (ws.map fun l => (⟨l.toArray⟩ : ByteArray))[j]? = some x → w.cell? ⟨bk, o + j, none⟩ = some (.string x) := fun j x hj => by
   rw [List.getElem?_map] at hj
   cases Qq : ws[j]? with
   | none => rw [Qq] at hj; cases hj
   | some t =>
    rw [Qq] at hj
    cases hj
    have := T6 j 0 (Bo t) (Bj t) (by rw [List.getElem?_map, Qq]; try rfl) rfl
    obtain ⟨cur, U, fr, h1, h2⟩ := this
    have h1 : w.heap[bk]? = some (.cells cur U fr) := h1
    unfold World.cell?; rw [h1]
    have e : o + j * 1 + 0 = o + j := by omega
    rw [show (GN (Value.slice (some ⟨bk, o, none⟩) (ws.map Bo).length c)).off = o from rfl, e] at h2
    simpa [Bj] using h2
  have hbk : bk < w.heap.size := by
   obtain ⟨t, r, rfl⟩ := List.exists_cons_of_ne_nil EZ
   have := AHY 0 _ rfl
   unfold World.cell? at this
   cases hb : w.heap[bk]? with
   | none => rw [hb] at this; cases this
   | some _ => exact EQ hb
  have hm : (ws.map fun l => (⟨l.toArray⟩ : ByteArray)).map (fun y => y.data.toList) = ws := by
   rw [List.map_map]
   conv => rhs; rw [← List.map_id ws]
   refine List.map_congr_left fun l _ => ?_
   simp
  have hJ := Tryz.strings_Join bk o c (ws.map fun l => (⟨l.toArray⟩ : ByteArray)) ⟨sep.toArray⟩ w AHY hbk (by rw [List.length_map]; omega) (by rw [List.length_map]; rw [List.length_map] at hc; exact hc) (by rw [hm]; exact Nat.le_trans hl (by decide))
  rw [hm, List.length_map] at hJ; rw [List.length_map]
  exact hJ.mono fun e w' ⟨h1, h2⟩ => ⟨h1, h2⟩
theorem H1 : ∀ l : List (List UInt8), l.length ≤ Ix l
 | [] => Nat.zero_le _
 | w :: l => by have := H1 l; rw [GB, List.length_cons]; omega
theorem NX {ws : List (List UInt8)} {i : Nat} (h : i < ws.length) : Ix (ws.drop i) = (nth ws i []).length + 20 + Ix (ws.drop (i + 1)) := by rw [Bi [] h, GB]
theorem Y6 (l : List (List UInt8)) (w : List UInt8) : Ix (l ++ [w]) = Ix l + (w.length + 20) := by simp [Ix]
theorem Tv {α : Type} (l : List α) (i : Nat) (d : α) : nth (l.drop 1) i d = nth l (i + 1) d := by
 match l with
 | [] => rfl
 | _ :: r => rfl
theorem AJL {ws : List (List UInt8)} {i : Nat} (h : i < ws.length) (hx : nth ws i [] ≠ [41]) (pats : List (List UInt8)) (fs : List (Fn × Fn)) (d : Nat) (st : WS) : H7 (ws.drop i) pats fs d st = H7 (ws.drop (i + 1)) (pats ++ [nth ws i []]) fs d st := by 
 rw [Bi [] h, H7.eq_def]; simp only; rw [if_pos hx]
theorem AFj {ws : List (List UInt8)} {i : Nat} (h : i < ws.length) (hx : nth ws i [] = [41]) {pats : List (List UInt8)} {l : List Hn} (hn : l.length = 0 ∨ pats.length = 0) (d : Nat) (st : WS) : H7 (ws.drop i) pats (Ci l) d st = st.bd := by
 rw [Bi [] h, H7.eq_def]; simp only; rw [if_neg (by simpa using hx)]
 cases l with
 | nil => rw [Ci]
 | cons a r =>
  rw [Ci]; simp only
  rw [if_pos (by rcases hn with h | h; simp at h; exact List.eq_nil_of_length_eq_zero h)]
theorem AGv {ws : List (List UInt8)} {i : Nat} (h : i < ws.length) (hx : nth ws i [] = [41]) {pats : List (List UInt8)} {l : List Hn} (hl : 0 < l.length) (hp : 0 < pats.length) (d : Nat) (st : WS) : H7 (ws.drop i) pats (Ci l) d st = H7 (ws.drop (i + 1)) [] (Ci (l.drop 1)) d (CK (Et (nth l 0 EL) d (CK st [[40], Lib.join pats [124], [41]])) [[59, 59]]) := by
 rw [Bi [] h, H7.eq_def]; simp only; rw [if_neg (by simpa using hx)]
 cases l with
 | nil => exact absurd hl (Nat.lt_irrefl _)
 | cons a r =>
  rw [Ci]; simp only
  rw [if_neg (by intro h; rw [h] at hp; exact absurd hp (Nat.lt_irrefl _))]; try rfl
theorem ACG (pats : List (List UInt8)) (l : List Hn) (d : Nat) (st : WS) : H7 [] pats (Ci l) d st = B6 ⟨st.out, st.docs, st.bad || decide (0 < l.length + pats.length)⟩ [[101, 115, 97, 99]] := by rw [H7, G5]
set_option maxHeartbeats 1000000 in
theorem Yn (k : Int) (nt ii : Bool) (nm : List UInt8) (ws : List (List UInt8)) (rs : List EK) (ks : List Hn) (Bb : E9 ks) (UR : ∀ i, i < ks.length → IH (nth ks i EL)) (b : Nat) (c : HC) (d : Nat) (p0 : Option Addr) (vb0 dv0 : Value) (st0 : WS) (I : AU) (F : List HA) (w0 w : World) (hk : Kk b p0 vb0 st0) (hn : D5 I (.mk k nt ii nm ws rs ks) c) (hG : FC I) (hd : d ≤ 961) (hl : wz st0 + nm.length + Ix ws + Hm ks + 80 ≤ 1000000000) (CE : St w0 I (HG b p0 vb0 dv0 st0 F) w) : Calls Tryz.prog 59 [FK b, .agg (Eo c).toArray, .int .i64 (d : Int)].toArray w (fun e w' => ∃ v, e = .returned v ∧ ∃ I' H', GQ b (H7 ws [] (Ci ks) d (CK st0 [[99, 97, 115, 101, 32], nm, [32, 105, 110]])) I F v I' H' ∧ St w I' H' w') := by
 have BD := Le.refl I
 have Df := hn.ones
 unfold D5 at hn; obtain ⟨rfl, rfl, rfl, rfl, Kg, UH, kcs, G9, GM⟩ := hn
 have XP := Fj ks
 have XF := GM.len
 have hwm := H1 ws
 refine enter Tryz.func59 rfl Tryz.ntmps59 rfl (CE.self) (tr (le rfl (FE rfl rfl rfl) ?_)); rintro _ _ _ ⟨b4, rfl, rfl, rfl⟩; refine AI (H' := row b4 26 (Eo c) :: _) ?_ (fun _ h => h); refine BQ (AC 2 rfl (lq rfl ((by exact AZ rfl rfl (by rfl))) ?_)); refine le rfl (Cb (vs := [_, _, _]) (css := [Bo [99, 97, 115, 101, 32], Bo c.name, Bo [32, 105, 110]]) rfl CD CU rfl rfl rfl rfl (rfl) (by simp [Bo])) ?_; rintro _ _ _ ⟨b13, rfl, rfl, rfl⟩; refine AI (H' := BO 9 1 Bo (.slice (some ⟨b13, 0, none⟩) 3 3) [[99, 97, 115, 101, 32], c.name, [32, 105, 110]] :: _) ?_ (fun _ h => A7 h rfl (by decide)); refine BG (f := Bo) (l := [[99, 97, 115, 101, 32], c.name, [32, 105, 110]]) (.slice (some ⟨b13, 0, none⟩) 3 3) (fun _ => rfl) (fun Jf B4 Ck => ?_)
 have BD := BD.trans B4
 refine Bw rfl rfl rfl rfl (fun w hw => DY b (.slice (some ⟨b13, 0, none⟩) 3 3) [[99, 97, 115, 101, 32], c.name, [32, 105, 110]] p0 vb0 dv0 _ _ _ _ w hk (by simp only [List.flatten_cons, List.flatten_nil, List.length_append, List.length_nil, List.length_cons, List.append_nil]; omega) Ck (by simp) (BN hw)) ?_; rintro _ J _ ⟨rfl, hJ, p, vb, dv, hk, rfl⟩
 have BD := BD.trans hJ
 obtain ⟨s0, Ik⟩ : ∃ z, z = CK st0 [[99, 97, 115, 101, 32], c.name, [32, 105, 110]] := ⟨_, rfl⟩; rw [← Ik] at hk ⊢
 have AQM : wz s0 ≤ wz st0 + c.name.length + 9 := by rw [Ik]; have h9 := DM st0 [[99, 97, 115, 101, 32], c.name, [32, 105, 110]]; simp only [List.flatten_cons, List.flatten_nil, List.length_append, List.append_nil] at h9; (try simp only [List.length_cons, List.length_nil] at h9); omega
 refine BQ (AC 1 rfl (lq rfl ((by exact AZ rfl rfl (by rfl))) ?_)); refine Ae rfl (AN (tr (AC 1 rfl (lq rfl ((by exact AZ rfl rfl (by rfl))) ?_)))); refine lq rfl ((by exact CN rfl CD rfl (Sl.lenOf Kg (List.length_map _)))) ?_; refine Ae rfl (AR (A8 (ι := Nat × List (List UInt8) × Value × List Hn × List HC × Value × Option Addr × Value × Value × WS × AU) (fun zz => zz.1 ≤ ws.length ∧ Le I zz.2.2.2.2.2.2.2.2.2.2 ∧ Kk b zz.2.2.2.2.2.2.1 zz.2.2.2.2.2.2.2.1 zz.2.2.2.2.2.2.2.2.2.1 ∧ Sl I 7 zz.2.2.2.2.2.1 (zz.2.2.2.2.1.map Eo) ∧ Bx I zz.2.2.2.1 zz.2.2.2.2.1 ∧ E9 zz.2.2.2.1 ∧ (∀ m, m < zz.2.2.2.1.length → IH (nth zz.2.2.2.1 m EL)) ∧ zz.2.1.length ≤ zz.1 ∧ zz.2.2.2.1.length ≤ 1000000000 ∧ wz zz.2.2.2.2.2.2.2.2.2.1 + Ix zz.2.1 + Ix (ws.drop zz.1) + Hm zz.2.2.2.1 + 60 ≤ 1000000000 ∧ H7 ws [] (Ci ks) d s0 = H7 (ws.drop zz.1) zz.2.1 (Ci zz.2.2.2.1) d zz.2.2.2.2.2.2.2.2.2.1) (fun zz => ws.length - zz.1) (fun zz => [(6, zz.2.2.2.2.2.1), (7, zz.2.2.1), (20, .int .i64 (zz.1 : Int))]) [(0, _), (1, _), (2, _), (4, _), (18, _), (19, _)] (fun zz => zz.2.2.2.2.2.2.2.2.2.2) (fun zz => (BO 9 1 Bo zz.2.2.1 zz.2.1 :: HG b zz.2.2.2.2.2.2.1 zz.2.2.2.2.2.2.2.1 zz.2.2.2.2.2.2.2.2.1 zz.2.2.2.2.2.2.2.2.2.1 F)) (0, [], AO, ks, kcs, c.kv, p, vb, dv, s0, J) ?_ (AB rfl) (AB rfl) (fun _ h => AA (CS 9 1 Bo h)) ?_))
 ·dsimp only; exact ⟨Nat.zero_le _, BD, hk, G9, GM, Bb, UR, Nat.zero_le _, by omega, by rw [List.drop_zero]; show wz s0 + 0 + _ + _ + _ ≤ _; omega, by rw [List.drop_zero]⟩
 rintro ⟨i, pats, pv, l, cs, vv, p, vb, dv, st, J⟩ ⟨hi, BD, hk, Qr, Ki, hol, hBl, Gw, hlm, N7, Dh⟩; dsimp only at *
 have ADs := Ki.len
 have hjp := Kp [124] (by decide) pats
 refine Ar rfl (AN (AF rfl (fun HB => ?_) (fun HB => ?_)))
 ·simp at HB
  have EJ : i < ws.length := by omega
  have hwi := NX EJ
  refine Al (AN (AR (tr ?_))); refine lq rfl ((by exact A5 rfl CD CU rfl rfl (Sl.shape (n := ws.length) (Kg.mono BD) (List.length_map _)) (by omega))) ?_; refine lq rfl ((by exact B1 rfl rfl (Iw (i := i) (Kg.mono BD) (by omega)))) ?_; refine Ae rfl (AN (tr (AC 1 rfl (lq rfl (C7 rfl rfl rfl) (ln (AF rfl (fun Rv => ?_) (fun Rv => ?_)))))))
  ·have Lg := of_decide_eq_true Rv
   refine tr (AC 2 rfl (le rfl (AS rfl CD CU rfl rfl rfl (by rfl) rfl) ?_)); rintro _ _ _ ⟨b28, rfl, rfl, rfl⟩; refine le rfl (Ba (f := Bo) (c := (nth ws i [])) rfl CD CU rfl rfl rfl rfl rfl rfl rfl (Ev _) (by simp only [maxLen]; omega) (by omega)) ?_; rintro v29 _ _ ⟨rfl, rfl⟩; refine Ae rfl (BB (AG (AQ (Ai (AH (lq rfl (AX rfl rfl rfl (by omega)) ?_)))))); refine Ax rfl (Ak ((i + 1, pats ++ [(nth ws i [])], v29, l, cs, vv, p, vb, dv, st, J)) ?_ ?_ (AB rfl) (AB rfl) (fun _ h => by dsimp only; exact AA h))
   ·dsimp only; exact ⟨by omega, BD, hk, Qr, Ki, hol, hBl, by simp; omega, hlm, by rw [Y6]; omega, by rw [Dh, AJL EJ Lg]⟩
   ·dsimp only
    show ws.length - (i + 1) < ws.length - i
    omega
  ·have Lg : (nth ws i []) = [41] := Decidable.not_not.1 (of_decide_eq_false Rv)
   refine Al (AN (tq (AK 1 rfl ?_))); refine sq rfl ((by exact CN rfl CJ rfl (Sl.lenOf Qr (show _ = l.length by rw [List.length_map, Ki.len])))) ?_; refine AK 2 rfl ?_
   refine Bf 3 3 33 37 36 _ _ rfl rfl rfl rfl rfl rfl (fun h37 => by
     simp at h37
     refine AJ 1 rfl ?_; refine sg rfl ((by exact Eq rfl CD rfl)) ?_; refine AJ 1 rfl ?_; exact Ao rfl
    ) (AM rfl) rfl rfl rfl ?_
   refine Cy (AF rfl (fun TV => ?_) (fun TV => ?_))
   ·have h9 := TV
    rw [Bool.or_eq_true, decide_eq_true_eq, decide_eq_true_eq] at h9
    have ET : l.length = 0 ∨ pats.length = 0 := by omega
    refine tr (AC 3 rfl ?_); refine An rfl rfl (Ac rfl De rfl rfl (by exact ⟨rfl, rfl⟩) rfl (by (simp only [List.set_cons_succ, List.set_cons_zero]; try rfl))) ?_; rintro _ _ _ ⟨rfl, rfl⟩; refine ln (C0 (Jb rfl (fun w' hw => ?_))); rw [Dh, AFj EJ Lg ET]; exact ⟨_, rfl, J, HG b p vb dv st.bd F, ⟨rfl, BD, p, vb, dv, hk, rfl⟩, AA (H' := row b 45 [.pointer p, vb, dv, .bool true] :: BO 5 1 Fo vb st.out :: BO 9 1 Bo dv st.docs :: F) hw⟩
   ·have h9 := TV
    rw [Bool.or_eq_false_iff, decide_eq_false_iff_not, decide_eq_false_iff_not] at h9
    have hl0 : 0 < l.length := by omega
    have WN : 0 < pats.length := by omega
    have TQ := Fl (l := l) (i := 0) (by omega)
    simp only [List.drop_zero, Nat.zero_add] at TQ; refine Al (tr (AC 2 rfl (BG (f := Bo) (l := pats) pv (fun _ => rfl) (fun Jp hJp hpv => ?_))))
    have BD := BD.trans hJp
    refine lq rfl (qc rfl rfl rfl ((fun w hw => N0 pv pats [124] w (by omega) (hpv.mono hw.le) (by omega)))) ?_; refine le rfl (Cb (vs := [_, _, _]) (css := [Bo [40], Bo (Lib.join pats [124]), Bo [41]]) rfl CD CU rfl rfl rfl rfl (rfl) (by simp [Bo])) ?_; rintro _ _ _ ⟨b44, rfl, rfl, rfl⟩; refine AI (H' := BO 9 1 Bo (.slice (some ⟨b44, 0, none⟩) 3 3) [[40], Lib.join pats [124], [41]] :: _) ?_ (fun _ h => A7 h rfl (by decide)); refine BG (f := Bo) (l := [[40], Lib.join pats [124], [41]]) (.slice (some ⟨b44, 0, none⟩) 3 3) (fun _ => rfl) (fun Jf B4 Ck => ?_)
    have BD := BD.trans B4
    refine Bw rfl rfl rfl rfl (fun w hw => DY b (.slice (some ⟨b44, 0, none⟩) 3 3) [[40], Lib.join pats [124], [41]] p vb dv _ _ _ _ w hk (by simp only [List.flatten_cons, List.flatten_nil, List.length_append, List.length_nil, List.length_cons, List.append_nil]; omega) Ck (by simp) (BN hw)) ?_; rintro _ J _ ⟨rfl, hJ, p, vb, dv, hk, rfl⟩
    have BD := BD.trans hJ
    obtain ⟨s1, En⟩ : ∃ z, z = CK st [[40], Lib.join pats [124], [41]] := ⟨_, rfl⟩; rw [← En] at hk ⊢
    have QA : wz s1 ≤ wz st + (Lib.join pats [124]).length + 3 := by rw [En]; have h9 := DM st [[40], Lib.join pats [124], [41]]; simp only [List.flatten_cons, List.flatten_nil, List.length_append, List.append_nil] at h9; (try simp only [List.length_cons, List.length_nil] at h9); omega
    refine BQ (AC 2 rfl ?_); refine lq rfl ((by exact A5 rfl CJ Ab rfl rfl (Sl.shape (n := l.length) (Qr.mono BD) (by rw [List.length_map, Ki.len])) (by omega))) ?_; refine lq rfl ((by exact Bc rfl BR Ab rfl rfl ((Qr.mono BD).rds (Fk (i := 0) (by omega))))) ?_; refine AC 1 rfl (Bw rfl rfl rfl rfl (fun w hw => hBl 0 (by omega) b (nth cs 0 hc0) d p vb dv _ _ _ _ w hk ((Bx.nth Ki (by omega)).mono BD) (hG.mono BD) hd (by omega) (BN hw)) ?_); rintro _ J _ ⟨rfl, hJ, p, vb, dv, hk, rfl⟩
    have BD := BD.trans hJ
    obtain ⟨s2, Ho⟩ : ∃ z, z = Et (nth l 0 EL) d s1 := ⟨_, rfl⟩; rw [← Ho] at hk ⊢
    have V3 : wz s2 ≤ wz s1 + (wH (nth l 0 EL) + 1) := by rw [Ho]; exact HV (hol.nth (by omega)) d s1
    refine BQ (AC 1 rfl (le rfl (AS rfl CD CU rfl rfl rfl (by rfl) rfl) ?_)); rintro _ _ _ ⟨b53, rfl, rfl, rfl⟩; refine AI (H' := BO 9 1 Bo (.slice (some ⟨b53, 0, none⟩) 1 1) [[59, 59]] :: _) ?_ (fun _ h => A7 h rfl (by decide)); refine BG (f := Bo) (l := [[59, 59]]) (.slice (some ⟨b53, 0, none⟩) 1 1) (fun _ => rfl) (fun Jf B4 Ck => ?_)
    have BD := BD.trans B4
    refine Bw rfl rfl rfl rfl (fun w hw => DY b (.slice (some ⟨b53, 0, none⟩) 1 1) [[59, 59]] p vb dv _ _ _ _ w hk (by simp only [List.flatten_cons, List.flatten_nil, List.length_nil, List.length_cons, List.append_nil]; omega) Ck (by simp) (BN hw)) ?_; rintro _ J _ ⟨rfl, hJ, p, vb, dv, hk, rfl⟩
    have BD := BD.trans hJ
    obtain ⟨s3, Pp⟩ : ∃ z, z = CK s2 [[59, 59]] := ⟨_, rfl⟩; rw [← Pp] at hk ⊢
    have AHm : wz s3 ≤ wz s2 + 3 := by rw [Pp]; have h9 := DM s2 [[59, 59]]; simp only [List.flatten_cons, List.flatten_nil, List.append_nil] at h9; (try simp only [List.length_cons, List.length_nil] at h9); omega
    refine ln (AH (AC 1 rfl (lq rfl ((by exact IR rfl CJ Ab rfl rfl (Sl.lenOf Qr (show _ = l.length by rw [List.length_map, Ki.len])) (by omega))) ?_))); refine Ax rfl (AV (Ai (AH (lq rfl (AX rfl rfl rfl (by omega)) ?_)))); refine Ax rfl (Ak ((i + 1, [], AO, l.drop 1, cs.drop 1, OS 7 1 l.length vv, p, vb, dv, s3, J)) ?_ ?_ (AB rfl) (AB rfl) (fun _ h => by dsimp only; exact AA (CS 9 1 Bo h)))
    ·dsimp only; exact ⟨by omega, BD, hk, Sl.dropM Qr ADs (by omega), Ki.drop 1, hol.drop 1, fun m hm => by rw [Tv]; exact hBl (m + 1) (by simp at hm; omega), Nat.zero_le _, by simp; omega, by show wz s3 + 0 + _ + _ + _ ≤ _; omega, by rw [Dh, AGv EJ Lg hl0 WN, ← En, ← Ho, ← Pp]⟩
    ·dsimp only
     show ws.length - (i + 1) < ws.length - i
     omega
 ·simp at HB
  have EJ : i = ws.length := by omega
  rw [EJ, List.drop_length, ACG] at Dh; refine BB (AG (AG (AQ (Ai (tr (Dl 13 (AK 4 rfl (sq rfl ((by exact AZ rfl rfl (by rfl))) ?_)))))))); refine AK 1 rfl ?_
  refine Bf 6 5 63 70 69 _ _ rfl rfl rfl rfl rfl rfl (fun h70 => by
    refine AJ 1 rfl ?_; refine sg rfl ((by exact CN rfl CJ rfl (Sl.lenOf Qr (show _ = l.length by rw [List.length_map, Ki.len])))) ?_; refine AJ 1 rfl ?_; refine sg rfl ((by exact Eq rfl CD rfl)) ?_; refine sg rfl (AX rfl rfl rfl (by omega)) ?_; refine AJ 1 rfl ?_; exact Ao rfl
   ) (AM rfl) rfl rfl rfl ?_
  refine Hb (AC 2 rfl ?_); refine An rfl rfl (Ac rfl De rfl rfl (by exact ⟨rfl, rfl⟩) rfl (by (simp only [List.set_cons_succ, List.set_cons_zero]; try rfl))) ?_; rintro _ _ _ ⟨rfl, rfl⟩; rw [show decide ((0 : Int) < (l.length : Int) + (pats.length : Int)) = decide (0 < l.length + pats.length) from decide_eq_decide.2 (by omega)]; refine AI (H' := HG b p vb dv (⟨st.out, st.docs, st.bad || decide (0 < l.length + pats.length)⟩ : WS) F) ?_ (fun _ h => AA h); refine ln (AH (AC 1 rfl (le rfl (AS rfl CD CU rfl rfl rfl (by rfl) rfl) ?_))); rintro _ _ _ ⟨b74, rfl, rfl, rfl⟩; refine AI (H' := BO 9 1 Bo (.slice (some ⟨b74, 0, none⟩) 1 1) [[101, 115, 97, 99]] :: _) ?_ (fun _ h => A7 h rfl (by decide)); refine BG (f := Bo) (l := [[101, 115, 97, 99]]) (.slice (some ⟨b74, 0, none⟩) 1 1) (fun _ => rfl) (fun Jf B4 Ck => ?_)
  have BD := BD.trans B4
  refine Bw rfl rfl rfl rfl (fun w hw => CF b (.slice (some ⟨b74, 0, none⟩) 1 1) [[101, 115, 97, 99]] p vb dv _ _ _ _ w (show Kk b p vb (⟨st.out, st.docs, st.bad || decide (0 < l.length + pats.length)⟩ : WS) from hk) (by show wz st + 4 ≤ _; omega) Ck (by simp) (BN hw)) ?_; rintro _ J _ ⟨rfl, hJ, p, vb, dv, hk, rfl⟩
  have BD := BD.trans hJ
  refine BX (Cm rfl (fun w' hw => ?_)); rw [Dh]; exact ⟨_, rfl, J, _, ⟨rfl, BD, p, vb, dv, hk, rfl⟩, AA hw⟩
end Go.Tri

namespace Go.Tri
open Go.Proofs Go.RowKit
set_option maxRecDepth 10000
theorem YA {k : Int} (h : k = 7 ∨ k = 8) (nm : List UInt8) (ii : Bool) (ws : List (List UInt8)) (l : List Hn) (d : Nat) (st : WS) :
  Fc k nm ii ws (Ci l) d st = if (Dv st l.length 1 1).bad = true then Dv st l.length 1 1 else B6 ((nth (Ci l) 0 Qu).2 d (CK (Dv st l.length 1 1) [if k = 8 then [123] else [40]])) [if k = 8 then [125] else [41]] := by
 unfold Fc; rw [if_pos h, G5]
theorem ACd {k : Int} (h : k = 9) (nm : List UInt8) (ii : Bool) (ws : List (List UInt8)) (l : List Hn) (d : Nat) (st : WS) :
  Fc k nm ii ws (Ci l) d st = if (Dv st l.length 2 l.length).bad = true then Dv st l.length 2 l.length else Iq (Ci l) ifS d (Dv st l.length 2 l.length) := by
 unfold Fc; rw [if_neg (by omega), if_pos h, G5]
theorem ZX {k : Int} (h : k = 10 ∨ k = 11) (nm : List UInt8) (ii : Bool) (ws : List (List UInt8)) (l : List Hn) (d : Nat) (st : WS) :
  Fc k nm ii ws (Ci l) d st = if (Dv st l.length 2 2).bad = true then Dv st l.length 2 2 else B6 ((nth (Ci l) 1 Qu).2 d (CK ((nth (Ci l) 0 Qu).2 d (CK (Dv st l.length 2 2) [if k = 11 then [117, 110, 116, 105, 108] else [119, 104, 105, 108, 101]])) [Wn])) [Lf] := by
 unfold Fc; rw [if_neg (by omega), if_neg (by omega), if_pos h, G5]
theorem YB {k : Int} (h : k = 12) (nm : List UInt8) (ii : Bool) (ws : List (List UInt8)) (l : List Hn) (d : Nat) (st : WS) :
  Fc k nm ii ws (Ci l) d st = if (Dv st l.length 1 1).bad = true then Dv st l.length 1 1 else S3 nm ii ws (nth (Ci l) 0 Qu).2 d (Dv st l.length 1 1) := by
 unfold Fc; rw [if_neg (by omega), if_neg (by omega), if_neg (by omega), if_pos h, G5]
theorem AFA {k : Int} (h : k = 13) (nm : List UInt8) (ii : Bool) (ws : List (List UInt8)) (l : List Hn) (d : Nat) (st : WS) :
  Fc k nm ii ws (Ci l) d st = H7 ws [] (Ci l) d (CK st [[99, 97, 115, 101, 32], nm, [32, 105, 110]]) := by
 unfold Fc; rw [if_neg (by omega), if_neg (by omega), if_neg (by omega), if_neg (by omega), if_pos h]
theorem ABy {k : Int} (h7 : ¬ (k = 7 ∨ k = 8)) (h9 : ¬ k = 9) (QZ : ¬ (k = 10 ∨ k = 11)) (h12 : ¬ k = 12) (h13 : ¬ k = 13) (nm : List UInt8) (ii : Bool) (ws : List (List UInt8)) (l : List Hn) (d : Nat) (st : WS) : Fc k nm ii ws (Ci l) d st = st.bd := by
 unfold Fc; rw [if_neg h7, if_neg h9, if_neg QZ, if_neg h12, if_neg h13]
theorem Hd {b : Bool} (h : (!b) = true) : ¬ b = true := by cases b; simp; cases h
theorem LB {b : Bool} (h : (!b) = false) : b = true := by cases b; cases h; rfl
theorem VK {l : List Hn} {i : Nat} (h : i < l.length) : (nth (Ci l) i Qu).2 = Et (nth l i EL) := by rw [Nx h]
theorem AHr {l : List Hn} {i : Nat} (h : i < l.length) : (nth (Ci l) i Qu).1 = FR (nth l i EL) := by rw [Nx h]
theorem UK {ws : List (List UInt8)} {i : Nat} (h : i < ws.length) (st : WS) : (ws.drop i).foldl (fun aa y => B6 aa [[32], y]) st = (ws.drop (i + 1)).foldl (fun aa y => B6 aa [[32], y]) (B6 st [[32], nth ws i []]) := by rw [Bi [] h, List.foldl_cons]
set_option maxHeartbeats 2000000 in
theorem SZ (k : Int) (nt ii : Bool) (nm : List UInt8) (ws : List (List UInt8)) (rs : List EK) (ks : List Hn) (Bb : E9 ks) (UR : ∀ i, i < ks.length → IH (nth ks i EL)) (b : Nat) (c : HC) (d : Nat) (p0 : Option Addr) (vb0 dv0 : Value) (st0 : WS) (I : AU) (F : List HA) (w0 w : World) (hk : Kk b p0 vb0 st0) (hn : D5 I (.mk k nt ii nm ws rs ks) c) (hG : FC I) (hd : d ≤ 961) (hl : wz st0 + nm.length + Ix ws + Hm ks + 100 ≤ 1000000000) (CE : St w0 I (HG b p0 vb0 dv0 st0 F) w) : Calls Tryz.prog 41 [FK b, .agg (Eo c).toArray, .int .i64 (d : Int)].toArray w (fun e w' => ∃ v, e = .returned v ∧ ∃ I' H', GQ b (Fc k nm ii ws (Ci ks) d st0) I F v I' H' ∧ St w I' H' w') := by
 have Fg := hn
 have BD := Le.refl I
 have Df := hn.ones
 unfold D5 at hn; obtain ⟨rfl, rfl, rfl, rfl, Kg, UH, kcs, G9, GM⟩ := hn
 have XP := Fj ks
 have XF := GM.len
 have hwm := H1 ws
 refine enter Tryz.func41 rfl Tryz.ntmps41 rfl (CE.self) (tr (le rfl (FE rfl rfl rfl) ?_)); rintro _ _ _ ⟨b4, rfl, rfl, rfl⟩; refine AI (H' := row b4 26 (Eo c) :: _) ?_ (fun _ h => h); refine BQ (AC 1 rfl (lq rfl ((by exact AZ rfl rfl (by rfl))) ?_)); refine ln (AR (Bh (ι := Bool) (fun zz => zz = decide (c.kind = 7 ∨ c.kind = 8)) (fun zz => [(15, .bool zz)]) [(0, _), (1, _), (2, _), (4, _), (11, _)] (fun zz => I) (fun zz => (row b4 26 (Eo c) :: HG b p0 vb0 dv0 st0 F)) (AB rfl) ?_ ?_))
 ·refine Ar rfl (AF rfl (fun HB => ?_) (fun HB => ?_))
  ·simp at HB
   refine Au (Av ((decide (c.kind = 7))) ?_ (AB rfl) (AB rfl) (fun _ h => by dsimp only; exact AA h))
   ·simp [HB]
  ·simp at HB
   refine AH (Ax rfl (Av ((decide (c.kind = 8))) ?_ (AB rfl) (AB rfl) (fun _ h => by dsimp only; exact AA h)))
   ·simp [HB]
 rintro q hq; refine AF rfl (fun BI => ?_) (fun BI => ?_)
 ·have h7 : c.kind = 7 ∨ c.kind = 8 := of_decide_eq_true (hq ▸ BI)
  refine Ar rfl (Bh (ι := List UInt8) (fun zz => zz = (if c.kind = 8 then [123, 125] else [40, 41])) (fun zz => [(6, Bj zz)]) [(15, _), (0, _), (1, _), (2, _), (4, _), (11, _)] (fun zz => I) (fun zz => (row b4 26 (Eo c) :: HG b p0 vb0 dv0 st0 F)) (AB rfl) ?_ ?_)
  ·refine tr (AC 1 rfl (lq rfl ((by exact AZ rfl rfl (by rfl))) ?_)); refine Ae rfl (AF rfl (fun BU => ?_) (fun BU => ?_))
   ·simp at BU
    refine AH (Ax rfl (Av ([123, 125]) ?_ (AB rfl) (AB rfl) (fun _ h => by dsimp only; exact AA h)))
    ·rw [if_pos BU]
   ·simp at BU
    refine Au (Av ([40, 41]) ?_ (AB rfl) (AB rfl) (fun _ h => by dsimp only; exact AA h))
    ·rw [if_neg BU]
  rintro br hbr
  have hbl : br.length = 2 := by rw [hbr]; split <;> rfl
  have hb1 : br.take 1 = (if c.kind = 8 then [123] else [40]) := by rw [hbr]; split <;> rfl
  have Ei : br.drop 1 = (if c.kind = 8 then [125] else [41]) := by rw [hbr]; split <;> rfl
  have hb3 : (br.drop 1).length = 1 := by rw [List.length_drop, hbl]
  have hb4 : (br.take 1).length = 1 := by rw [List.length_take, hbl]; try rfl
  refine tr (AC 1 rfl (lq rfl ((by exact Af rfl BR Ab rfl rfl rfl)) ?_)); refine Bw rfl rfl rfl rfl (fun w hw => GI b c ks.length 1 1 (Sl.lenOf G9 (by rw [List.length_map, GM.len])) Df p0 vb0 dv0 _ _ _ _ w hk (BN hw)) ?_; rintro _ J _ ⟨rfl, hJ, p, vb, dv, hk, rfl⟩
  have BD := BD.trans hJ
  refine ln (AF rfl (fun Bd => ?_) (fun Bd => ?_))
  ·obtain ⟨U4, hlo, XV⟩ := F6 (Hd Bd)
   have MW := Hd Bd
   rw [U4] at hk ⊢
   have TQ := OD (l := ks) (i := 0) (by omega)
   refine tr (AC 2 rfl (lq rfl (G3 rfl CW rfl rfl (by omega)) ?_)); refine le rfl (AS rfl CD CU rfl rfl rfl (by rfl) rfl) ?_; rintro _ _ _ ⟨b27, rfl, rfl, rfl⟩; refine AI (H' := BO 9 1 Bo (.slice (some ⟨b27, 0, none⟩) 1 1) [br.take 1] :: _) ?_ (fun _ h => A7 h rfl (by decide)); refine BG (f := Bo) (l := [br.take 1]) (.slice (some ⟨b27, 0, none⟩) 1 1) (fun _ => rfl) (fun Jf B4 Ck => ?_)
   have BD := BD.trans B4
   refine Bw rfl rfl rfl rfl (fun w hw => DY b (.slice (some ⟨b27, 0, none⟩) 1 1) [br.take 1] p vb dv _ _ _ _ w hk (by simp only [List.flatten_cons, List.flatten_nil, List.append_nil]; omega) Ck (by simp) (BN hw)) ?_; rintro _ J _ ⟨rfl, hJ, p, vb, dv, hk, rfl⟩
   have BD := BD.trans hJ
   obtain ⟨s1, En⟩ : ∃ z, z = CK st0 [br.take 1] := ⟨_, rfl⟩; rw [← En] at hk ⊢
   have QA : wz s1 ≤ wz st0 + 2 := by rw [En]; have h9 := DM st0 [br.take 1]; simp only [List.flatten_cons, List.flatten_nil, List.append_nil, List.length_take] at h9; omega
   refine BQ (AC 2 rfl (lq rfl ((by exact AZ rfl rfl (by rfl))) ?_)); refine lq rfl ((by exact DZ rfl CJ Ab rfl rfl (Sl.shape (n := ks.length) (G9.mono BD) (by rw [List.length_map, GM.len])) (by omega))) ?_; refine lq rfl ((by exact Bc rfl BR Ab rfl rfl ((G9.mono BD).rds (Fk (i := 0) (by omega))))) ?_; refine AC 1 rfl (Bw rfl rfl rfl rfl (fun w hw => UR 0 (by omega) b (nth kcs 0 Tri.hc0) d p vb dv _ _ _ _ w hk ((Bx.nth GM (by omega)).mono BD) (hG.mono BD) hd (by omega) (BN hw)) ?_); rintro _ J _ ⟨rfl, hJ, p, vb, dv, hk, rfl⟩
   have BD := BD.trans hJ
   obtain ⟨s2, Ho⟩ : ∃ z, z = Et (nth ks 0 EL) d s1 := ⟨_, rfl⟩; rw [← Ho] at hk ⊢
   have V3 : wz s2 ≤ wz s1 + (wH (nth ks 0 EL) + 1) := by rw [Ho]; exact HV (Bb.nth (by omega)) d s1
   refine ln (AH (AC 2 rfl (lq rfl (Cp rfl CW rfl rfl (by omega)) ?_))); refine le rfl (AS rfl CD CU rfl rfl rfl (by rfl) rfl) ?_; rintro _ _ _ ⟨b39, rfl, rfl, rfl⟩; refine AI (H' := BO 9 1 Bo (.slice (some ⟨b39, 0, none⟩) 1 1) [br.drop 1] :: _) ?_ (fun _ h => A7 h rfl (by decide)); refine BG (f := Bo) (l := [br.drop 1]) (.slice (some ⟨b39, 0, none⟩) 1 1) (fun _ => rfl) (fun Jf B4 Ck => ?_)
   have BD := BD.trans B4
   refine Bw rfl rfl rfl rfl (fun w hw => CF b (.slice (some ⟨b39, 0, none⟩) 1 1) [br.drop 1] p vb dv _ _ _ _ w hk (by simp only [List.flatten_cons, List.flatten_nil, List.append_nil]; omega) Ck (by simp) (BN hw)) ?_; rintro _ J _ ⟨rfl, hJ, p, vb, dv, hk, rfl⟩
   have BD := BD.trans hJ
   refine BX (AV (Cm rfl (fun w' hw => ?_))); rw [YA h7, if_neg MW, U4, ← hb1, ← Ei, VK (by omega), ← En, ← Ho]; exact ⟨_, rfl, J, _, ⟨rfl, BD, p, vb, dv, hk, rfl⟩, AA hw⟩
  ·have hyb := LB Bd
   refine Au (AV (Cm rfl (fun w' hw => ?_))); rw [YA h7, if_pos hyb]; exact ⟨_, rfl, J, _, ⟨rfl, BD, p, vb, dv, hk, rfl⟩, AA hw⟩
 ·have h7 : ¬ (c.kind = 7 ∨ c.kind = 8) := of_decide_eq_false (hq ▸ BI)
  refine Ar rfl (AF rfl (fun Cg => ?_) (fun Cg => ?_))
  ·simp at Cg
   refine tr (AC 1 rfl (lq rfl ((by exact Af rfl BR Ab rfl rfl rfl)) ?_)); refine AC 1 rfl (lq rfl ((by exact AZ rfl rfl (by rfl))) ?_); refine lq rfl ((by exact CN rfl CJ rfl (Sl.lenOf G9 (by rw [List.length_map, GM.len])))) ?_; refine Bw rfl rfl rfl rfl (fun w hw => GI b c ks.length 2 ks.length (Sl.lenOf G9 (by rw [List.length_map, GM.len])) Df p0 vb0 dv0 _ _ _ _ w hk (BN hw)) ?_; rintro _ J _ ⟨rfl, hJ, p, vb, dv, hk, rfl⟩
   have BD := BD.trans hJ
   refine ln (AF rfl (fun C1 => ?_) (fun C1 => ?_))
   ·obtain ⟨U4, hlo, XV⟩ := F6 (Hd C1)
    have MW := Hd C1
    rw [U4] at hk ⊢; refine AH (AC 1 rfl (lq rfl ((by exact Af rfl BR Ab rfl rfl rfl)) ?_)); refine AC 1 rfl (Bw rfl rfl rfl rfl (fun w hw => AEn _ _ _ _ _ _ ks Bb UR b c d p vb dv _ _ _ _ w hk (Fg.mono BD) (hG.mono BD) hd (by omega) (BN hw)) ?_); rintro _ J _ ⟨rfl, hJ, p, vb, dv, hk, rfl⟩
    have BD := BD.trans hJ
    refine BX (AV (Cm rfl (fun w' hw => ?_))); rw [ACd Cg, if_neg MW, U4]; exact ⟨_, rfl, J, _, ⟨rfl, BD, p, vb, dv, hk, rfl⟩, AA hw⟩
   ·have hyb := LB C1
    refine Au (AV (Cm rfl (fun w' hw => ?_))); rw [ACd Cg, if_pos hyb]; exact ⟨_, rfl, J, _, ⟨rfl, BD, p, vb, dv, hk, rfl⟩, AA hw⟩
  ·simp at Cg
   refine Bh (ι := Bool) (fun zz => zz = decide (c.kind = 10 ∨ c.kind = 11)) (fun zz => [(53, .bool zz)]) [(15, _), (0, _), (1, _), (2, _), (4, _), (11, _), (41, _)] (fun zz => I) (fun zz => (row b4 26 (Eo c) :: HG b p0 vb0 dv0 st0 F)) (AB rfl) ?_ ?_
   ·refine Ar rfl (AF rfl (fun Dd => ?_) (fun Dd => ?_))
    ·simp at Dd
     refine Au (Av ((decide (c.kind = 10))) ?_ (AB rfl) (AB rfl) (fun _ h => by dsimp only; exact AA h))
     ·simp [Dd]
    ·simp at Dd
     refine AH (Ax rfl (Av ((decide (c.kind = 11))) ?_ (AB rfl) (AB rfl) (fun _ h => by dsimp only; exact AA h)))
     ·simp [Dd]
   rintro q hq; refine AF rfl (fun EW => ?_) (fun EW => ?_)
   ·have QZ : c.kind = 10 ∨ c.kind = 11 := of_decide_eq_true (hq ▸ EW)
    refine tr (AC 1 rfl (lq rfl ((by exact Af rfl BR Ab rfl rfl rfl)) ?_)); refine Bw rfl rfl rfl rfl (fun w hw => GI b c ks.length 2 2 (Sl.lenOf G9 (by rw [List.length_map, GM.len])) Df p0 vb0 dv0 _ _ _ _ w hk (BN hw)) ?_; rintro _ J _ ⟨rfl, hJ, p, vb, dv, hk, rfl⟩
    have BD := BD.trans hJ
    refine ln (AF rfl (fun HF => ?_) (fun HF => ?_))
    ·obtain ⟨U4, hlo, XV⟩ := F6 (Hd HF)
     have MW := Hd HF
     rw [U4] at hk ⊢
     have TQ := Fl (l := ks) (i := 0) (by omega)
     have AFI := Fl (l := ks) (i := 1) (by omega)
     simp only [List.drop_zero, Nat.zero_add, Nat.reduceAdd] at TQ AFI; refine Ar rfl (Bh (ι := List UInt8) (fun zz => zz = (if c.kind = 11 then [117, 110, 116, 105, 108] else [119, 104, 105, 108, 101])) (fun zz => [(7, Bj zz)]) [(53, _), (15, _), (0, _), (1, _), (2, _), (4, _), (11, _), (41, _), (58, _)] (fun zz => J) (fun zz => (row b4 26 (Eo c) :: HG b p vb dv st0 F)) (AB rfl) ?_ ?_)
     ·refine tr (AC 1 rfl (lq rfl ((by exact AZ rfl rfl (by rfl))) ?_)); refine Ae rfl (AF rfl (fun J0 => ?_) (fun J0 => ?_))
      ·simp at J0
       refine AH (Ax rfl (Av ([117, 110, 116, 105, 108]) ?_ (AB rfl) (AB rfl) (fun _ h => by dsimp only; exact AA h)))
       ·rw [if_pos J0]
      ·simp at J0
       refine Au (Av ([119, 104, 105, 108, 101]) ?_ (AB rfl) (AB rfl) (fun _ h => by dsimp only; exact AA h))
       ·rw [if_neg J0]
     rintro sg hsg
     have Kh : sg.length = 5 := by rw [hsg]; split <;> rfl
     refine tr (AC 2 rfl (le rfl (AS rfl CD CU rfl rfl rfl (by rfl) rfl) ?_)); rintro _ _ _ ⟨b64, rfl, rfl, rfl⟩; refine AI (H' := BO 9 1 Bo (.slice (some ⟨b64, 0, none⟩) 1 1) [sg] :: _) ?_ (fun _ h => A7 h rfl (by decide)); refine BG (f := Bo) (l := [sg]) (.slice (some ⟨b64, 0, none⟩) 1 1) (fun _ => rfl) (fun Jf B4 Ck => ?_)
     have BD := BD.trans B4
     refine Bw rfl rfl rfl rfl (fun w hw => DY b (.slice (some ⟨b64, 0, none⟩) 1 1) [sg] p vb dv _ _ _ _ w hk (by simp only [List.flatten_cons, List.flatten_nil, List.append_nil]; omega) Ck (by simp) (BN hw)) ?_; rintro _ J _ ⟨rfl, hJ, p, vb, dv, hk, rfl⟩
     have BD := BD.trans hJ
     obtain ⟨s1, En⟩ : ∃ z, z = CK st0 [sg] := ⟨_, rfl⟩; rw [← En] at hk ⊢
     have QA : wz s1 ≤ wz st0 + 6 := by rw [En]; have h9 := DM st0 [sg]; simp only [List.flatten_cons, List.flatten_nil, List.append_nil] at h9; (try simp only [List.length_cons, List.length_nil, thenS, MQ, ifS, Wn, Lf] at h9); omega
     refine BQ (AC 2 rfl (lq rfl ((by exact AZ rfl rfl (by rfl))) ?_)); refine lq rfl ((by exact DZ rfl CJ Ab rfl rfl (Sl.shape (n := ks.length) (G9.mono BD) (by rw [List.length_map, GM.len])) (by omega))) ?_; refine lq rfl ((by exact Bc rfl BR Ab rfl rfl ((G9.mono BD).rds (Fk (i := 0) (by omega))))) ?_; refine AC 1 rfl (Bw rfl rfl rfl rfl (fun w hw => UR 0 (by omega) b (nth kcs 0 Tri.hc0) d p vb dv _ _ _ _ w hk ((Bx.nth GM (by omega)).mono BD) (hG.mono BD) hd (by omega) (BN hw)) ?_); rintro _ J _ ⟨rfl, hJ, p, vb, dv, hk, rfl⟩
     have BD := BD.trans hJ
     obtain ⟨s2, Ho⟩ : ∃ z, z = Et (nth ks 0 EL) d s1 := ⟨_, rfl⟩; rw [← Ho] at hk ⊢
     have V3 : wz s2 ≤ wz s1 + (wH (nth ks 0 EL) + 1) := by rw [Ho]; exact HV (Bb.nth (by omega)) d s1
     refine BQ (AC 1 rfl (le rfl (AS rfl CD CU rfl rfl rfl (by rfl) rfl) ?_)); rintro _ _ _ ⟨b74, rfl, rfl, rfl⟩; refine AI (H' := BO 9 1 Bo (.slice (some ⟨b74, 0, none⟩) 1 1) [[100, 111]] :: _) ?_ (fun _ h => A7 h rfl (by decide)); refine BG (f := Bo) (l := [[100, 111]]) (.slice (some ⟨b74, 0, none⟩) 1 1) (fun _ => rfl) (fun Jf B4 Ck => ?_)
     have BD := BD.trans B4
     refine Bw rfl rfl rfl rfl (fun w hw => DY b (.slice (some ⟨b74, 0, none⟩) 1 1) [[100, 111]] p vb dv _ _ _ _ w hk (by simp only [List.flatten_cons, List.flatten_nil, List.length_nil, List.length_cons, List.append_nil]; omega) Ck (by simp) (BN hw)) ?_; rintro _ J _ ⟨rfl, hJ, p, vb, dv, hk, rfl⟩
     have BD := BD.trans hJ
     obtain ⟨s3, Pp⟩ : ∃ z, z = CK s2 [[100, 111]] := ⟨_, rfl⟩; rw [← Pp] at hk ⊢
     have AHm : wz s3 ≤ wz s2 + 3 := by rw [Pp]; have h9 := DM s2 [[100, 111]]; simp only [List.flatten_cons, List.flatten_nil, List.append_nil] at h9; (try simp only [List.length_cons, List.length_nil] at h9); omega
     refine BQ (AC 2 rfl (lq rfl ((by exact AZ rfl rfl (by rfl))) ?_)); refine lq rfl ((by exact DZ rfl CJ Ab rfl rfl (Sl.shape (n := ks.length) (G9.mono BD) (by rw [List.length_map, GM.len])) (by omega))) ?_; refine lq rfl ((by exact Bc rfl BR Ab rfl rfl ((G9.mono BD).rds (Fk (i := 1) (by omega))))) ?_; refine AC 1 rfl (Bw rfl rfl rfl rfl (fun w hw => UR 1 (by omega) b (nth kcs 1 Tri.hc0) d p vb dv _ _ _ _ w hk ((Bx.nth GM (by omega)).mono BD) (hG.mono BD) hd (by omega) (BN hw)) ?_); rintro _ J _ ⟨rfl, hJ, p, vb, dv, hk, rfl⟩
     have BD := BD.trans hJ
     obtain ⟨s4, Zs⟩ : ∃ z, z = Et (nth ks 1 EL) d s3 := ⟨_, rfl⟩; rw [← Zs] at hk ⊢
     have AHB : wz s4 ≤ wz s3 + (wH (nth ks 1 EL) + 1) := by rw [Zs]; exact HV (Bb.nth (by omega)) d s3
     refine ln (AH (AC 1 rfl (le rfl (AS rfl CD CU rfl rfl rfl (by rfl) rfl) ?_))); rintro _ _ _ ⟨b84, rfl, rfl, rfl⟩; refine AI (H' := BO 9 1 Bo (.slice (some ⟨b84, 0, none⟩) 1 1) [[100, 111, 110, 101]] :: _) ?_ (fun _ h => A7 h rfl (by decide)); refine BG (f := Bo) (l := [[100, 111, 110, 101]]) (.slice (some ⟨b84, 0, none⟩) 1 1) (fun _ => rfl) (fun Jf B4 Ck => ?_)
     have BD := BD.trans B4
     refine Bw rfl rfl rfl rfl (fun w hw => CF b (.slice (some ⟨b84, 0, none⟩) 1 1) [[100, 111, 110, 101]] p vb dv _ _ _ _ w hk (by simp only [List.flatten_cons, List.flatten_nil, List.length_nil, List.length_cons, List.append_nil]; omega) Ck (by simp) (BN hw)) ?_; rintro _ J _ ⟨rfl, hJ, p, vb, dv, hk, rfl⟩
     have BD := BD.trans hJ
     refine BX (AV (Cm rfl (fun w' hw => ?_))); rw [ZX QZ, if_neg MW, U4, ← hsg, VK (by omega), VK (by omega), ← En, ← Ho, show [Wn] = [[100, 111]] from rfl, ← Pp, ← Zs, show [Lf] = [[100, 111, 110, 101]] from rfl]; exact ⟨_, rfl, J, _, ⟨rfl, BD, p, vb, dv, hk, rfl⟩, AA hw⟩
    ·have hyb := LB HF
     refine Au (AV (Cm rfl (fun w' hw => ?_))); rw [ZX QZ, if_pos hyb]; exact ⟨_, rfl, J, _, ⟨rfl, BD, p, vb, dv, hk, rfl⟩, AA hw⟩
   ·have QZ : ¬ (c.kind = 10 ∨ c.kind = 11) := of_decide_eq_false (hq ▸ EW)
    refine Ar rfl (AF rfl (fun GH => ?_) (fun GH => ?_))
    ·simp at GH
     refine tr (AC 1 rfl (lq rfl ((by exact Af rfl BR Ab rfl rfl rfl)) ?_)); refine Bw rfl rfl rfl rfl (fun w hw => GI b c ks.length 1 1 (Sl.lenOf G9 (by rw [List.length_map, GM.len])) Df p0 vb0 dv0 _ _ _ _ w hk (BN hw)) ?_; rintro _ J _ ⟨rfl, hJ, p, vb, dv, hk, rfl⟩
     have BD := BD.trans hJ
     refine ln (AF rfl (fun Ka => ?_) (fun Ka => ?_))
     ·obtain ⟨U4, hlo, XV⟩ := F6 (Hd Ka)
      have MW := Hd Ka
      rw [U4] at hk ⊢
      have TQ := OD (l := ks) (i := 0) (by omega)
      refine tr (AC 2 rfl (lq rfl ((by exact AZ rfl rfl (by rfl))) ?_)); refine le rfl (Cb (vs := [_, _]) (css := [Bo [102, 111, 114, 32], Bo c.name]) rfl CD CU rfl rfl rfl rfl (rfl) (by simp [Bo])) ?_; rintro _ _ _ ⟨b94, rfl, rfl, rfl⟩; refine AI (H' := BO 9 1 Bo (.slice (some ⟨b94, 0, none⟩) 2 2) [[102, 111, 114, 32], c.name] :: _) ?_ (fun _ h => A7 h rfl (by decide)); refine BG (f := Bo) (l := [[102, 111, 114, 32], c.name]) (.slice (some ⟨b94, 0, none⟩) 2 2) (fun _ => rfl) (fun Jf B4 Ck => ?_)
      have BD := BD.trans B4
      refine Bw rfl rfl rfl rfl (fun w hw => CF b (.slice (some ⟨b94, 0, none⟩) 2 2) [[102, 111, 114, 32], c.name] p vb dv _ _ _ _ w hk (by simp only [List.flatten_cons, List.flatten_nil, List.length_append, List.length_nil, List.length_cons, List.append_nil]; omega) Ck (by simp) (BN hw)) ?_; rintro _ J _ ⟨rfl, hJ, p, vb, dv, hk, rfl⟩
      have BD := BD.trans hJ
      obtain ⟨s1, En⟩ : ∃ z, z = B6 st0 [[102, 111, 114, 32], c.name] := ⟨_, rfl⟩; rw [← En] at hk ⊢
      have QA : wz s1 ≤ wz st0 + c.name.length + 4 := by rw [En]; rw [Cu]; simp only [List.flatten_cons, List.flatten_nil, List.length_append, List.append_nil]; (try simp only [List.length_cons, List.length_nil]); omega
      refine ln (Bh (ι := Option Addr × Value × Value × WS × AU) (fun zz => Le I zz.2.2.2.2 ∧ Kk b zz.1 zz.2.1 zz.2.2.2.1 ∧ zz.2.2.2.1 = (if c.isin = true then B6 s1 [[32, 105, 110]] else s1)) (fun zz => []) [(53, _), (15, _), (0, _), (1, _), (2, _), (4, _), (11, _), (41, _), (86, _), (90, _)] (fun zz => zz.2.2.2.2) (fun zz => (row b4 26 (Eo c) :: HG b zz.1 zz.2.1 zz.2.2.1 zz.2.2.2.1 F)) (AB rfl) ?_ ?_)
      ·refine tr (AC 1 rfl (lq rfl ((by exact AZ rfl rfl (by rfl))) ?_)); refine ln (AF rfl (fun P3 => ?_) (fun P3 => ?_))
       ·refine AH (AC 1 rfl (le rfl (AS rfl CD CU rfl rfl rfl (by rfl) rfl) ?_)); rintro _ _ _ ⟨b99, rfl, rfl, rfl⟩; refine AI (H' := BO 9 1 Bo (.slice (some ⟨b99, 0, none⟩) 1 1) [[32, 105, 110]] :: _) ?_ (fun _ h => A7 h rfl (by decide)); refine BG (f := Bo) (l := [[32, 105, 110]]) (.slice (some ⟨b99, 0, none⟩) 1 1) (fun _ => rfl) (fun Jf B4 Ck => ?_)
        have BD := BD.trans B4
        refine Bw rfl rfl rfl rfl (fun w hw => CF b (.slice (some ⟨b99, 0, none⟩) 1 1) [[32, 105, 110]] p vb dv _ _ _ _ w hk (by simp only [List.flatten_cons, List.flatten_nil, List.length_nil, List.length_cons, List.append_nil]; omega) Ck (by simp) (BN hw)) ?_; rintro _ J _ ⟨rfl, hJ, p, vb, dv, hk, rfl⟩
        have BD := BD.trans hJ
        refine BX (Av ((p, vb, dv, B6 s1 [[32, 105, 110]], J)) ?_ (AW) (AB rfl) (fun _ h => by dsimp only; exact AA h))
        ·dsimp only; exact ⟨BD, hk, by rw [if_pos P3]⟩
       ·refine Au (Av ((p, vb, dv, s1, J)) ?_ (AW) (AB rfl) (fun _ h => by dsimp only; exact AA h))
        ·dsimp only; exact ⟨BD, hk, by rw [if_neg (by rw [P3]; simp)]⟩
      rintro ⟨p, vb, dv, s2, J⟩ ⟨BD, hk, Ho⟩; dsimp only at *
      have V3 : wz s2 ≤ wz s1 + 3 := by
       rw [Ho]
       split
       ·rw [Cu]; simp
       ·omega
      refine AN (tr (AC 1 rfl (lq rfl ((by exact AZ rfl rfl (by rfl))) ?_))); refine lq rfl ((by exact CN rfl CD rfl (Sl.lenOf Kg (List.length_map _)))) ?_; refine Ae rfl (AR (A8 (ι := Nat × Option Addr × Value × Value × WS × AU) (fun zz => zz.1 ≤ ws.length ∧ Le I zz.2.2.2.2.2 ∧ Kk b zz.2.1 zz.2.2.1 zz.2.2.2.2.1 ∧ wz zz.2.2.2.2.1 + Ix (ws.drop zz.1) + Hm ks + 20 ≤ 1000000000 ∧ ws.foldl (fun aa y => B6 aa [[32], y]) s2 = (ws.drop zz.1).foldl (fun aa y => B6 aa [[32], y]) zz.2.2.2.2.1) (fun zz => ws.length - zz.1) (fun zz => [(104, .int .i64 (zz.1 : Int))]) [(53, _), (15, _), (0, _), (1, _), (2, _), (4, _), (11, _), (41, _), (86, _), (90, _), (102, _), (103, _)] (fun zz => zz.2.2.2.2.2) (fun zz => (row b4 26 (Eo c) :: HG b zz.2.1 zz.2.2.1 zz.2.2.2.1 zz.2.2.2.2.1 F)) (0, p, vb, dv, s2, J) ?_ (AB rfl) (AB rfl) (fun _ h => AA h) ?_))
      ·dsimp only; exact ⟨Nat.zero_le _, BD, hk, by rw [List.drop_zero]; omega, by rw [List.drop_zero]⟩
      rintro ⟨i, p, vb, dv, st, J⟩ ⟨hi, BD, hk, N7, Dh⟩; dsimp only at *; refine Ar rfl (AN (AF rfl (fun TY => ?_) (fun TY => ?_)))
      ·simp at TY
       have EJ : i < ws.length := by omega
       have hwi := NX EJ
       refine Al (AN (AR (tr ?_))); refine lq rfl ((by exact A5 rfl CD CU rfl rfl (Sl.shape (n := ws.length) (Kg.mono BD) (List.length_map _)) (by omega))) ?_; refine lq rfl ((by exact B1 rfl rfl (Iw (i := i) (Kg.mono BD) (by omega)))) ?_; refine Ae rfl (AH (AC 2 rfl (le rfl (Cb (vs := [_, _]) (css := [Bo [32], Bo (nth ws i [])]) rfl CD CU rfl rfl rfl rfl (rfl) (by simp [Bo])) ?_))); rintro _ _ _ ⟨b110, rfl, rfl, rfl⟩; refine AI (H' := BO 9 1 Bo (.slice (some ⟨b110, 0, none⟩) 2 2) [[32], (nth ws i [])] :: _) ?_ (fun _ h => A7 h rfl (by decide)); refine BG (f := Bo) (l := [[32], (nth ws i [])]) (.slice (some ⟨b110, 0, none⟩) 2 2) (fun _ => rfl) (fun Jf B4 Ck => ?_)
       have BD := BD.trans B4
       refine Bw rfl rfl rfl rfl (fun w hw => CF b (.slice (some ⟨b110, 0, none⟩) 2 2) [[32], (nth ws i [])] p vb dv _ _ _ _ w hk (by simp only [List.flatten_cons, List.flatten_nil, List.length_append, List.length_nil, List.length_cons, List.append_nil]; omega) Ck (by simp) (BN hw)) ?_; rintro _ J _ ⟨rfl, hJ, p, vb, dv, hk, rfl⟩
       have BD := BD.trans hJ
       obtain ⟨s4, Zs⟩ : ∃ z, z = B6 st [[32], (nth ws i [])] := ⟨_, rfl⟩; rw [← Zs] at hk ⊢
       have AHB : wz s4 ≤ wz st + (nth ws i []).length + 1 := by rw [Zs]; rw [Cu]; simp only [List.flatten_cons, List.flatten_nil, List.length_append, List.append_nil]; (try simp only [List.length_cons, List.length_nil]); omega
       refine BX (AV (Ai (AH (lq rfl (AX rfl rfl rfl (by omega)) ?_)))); refine Ax rfl (Ak ((i + 1, p, vb, dv, s4, J)) ?_ ?_ (AB rfl) (AB rfl) (fun _ h => by dsimp only; exact AA h))
       ·dsimp only; exact ⟨by omega, BD, hk, by omega, by rw [Dh, UK EJ, ← Zs]⟩
       ·dsimp only
        show ws.length - (i + 1) < ws.length - i
        omega
      ·simp at TY
       have EJ : i = ws.length := by omega
       rw [EJ, List.drop_length, List.foldl_nil] at Dh; refine BB (AG (AG (AQ (Ai (tr (AC 1 rfl (Bw rfl rfl rfl rfl (fun w hw => HQ b p vb dv _ _ _ _ w hk (by omega) (BN hw)) ?_))))))); rintro _ J _ ⟨rfl, hJ, p, vb, dv, hk, rfl⟩
       have BD := BD.trans hJ
       obtain ⟨s5, hs5⟩ : ∃ z, z = GG st := ⟨_, rfl⟩; rw [← hs5] at hk ⊢
       have AQN : wz s5 ≤ wz st + 1 := by rw [hs5]; exact IZ st
       refine BQ (AC 1 rfl (le rfl (AS rfl CD CU rfl rfl rfl (by rfl) rfl) ?_)); rintro _ _ _ ⟨b116, rfl, rfl, rfl⟩; refine AI (H' := BO 9 1 Bo (.slice (some ⟨b116, 0, none⟩) 1 1) [[100, 111]] :: _) ?_ (fun _ h => A7 h rfl (by decide)); refine BG (f := Bo) (l := [[100, 111]]) (.slice (some ⟨b116, 0, none⟩) 1 1) (fun _ => rfl) (fun Jf B4 Ck => ?_)
       have BD := BD.trans B4
       refine Bw rfl rfl rfl rfl (fun w hw => DY b (.slice (some ⟨b116, 0, none⟩) 1 1) [[100, 111]] p vb dv _ _ _ _ w hk (by simp only [List.flatten_cons, List.flatten_nil, List.length_nil, List.length_cons, List.append_nil]; omega) Ck (by simp) (BN hw)) ?_; rintro _ J _ ⟨rfl, hJ, p, vb, dv, hk, rfl⟩
       have BD := BD.trans hJ
       obtain ⟨s6, X6⟩ : ∃ z, z = CK s5 [[100, 111]] := ⟨_, rfl⟩; rw [← X6] at hk ⊢
       have AQn : wz s6 ≤ wz s5 + 3 := by rw [X6]; have h9 := DM s5 [[100, 111]]; simp only [List.flatten_cons, List.flatten_nil, List.append_nil] at h9; (try simp only [List.length_cons, List.length_nil] at h9); omega
       refine BQ (AC 2 rfl (lq rfl ((by exact AZ rfl rfl (by rfl))) ?_)); refine lq rfl ((by exact DZ rfl CJ Ab rfl rfl (Sl.shape (n := ks.length) (G9.mono BD) (by rw [List.length_map, GM.len])) (by omega))) ?_; refine lq rfl ((by exact Bc rfl BR Ab rfl rfl ((G9.mono BD).rds (Fk (i := 0) (by omega))))) ?_; refine AC 1 rfl (Bw rfl rfl rfl rfl (fun w hw => UR 0 (by omega) b (nth kcs 0 Tri.hc0) d p vb dv _ _ _ _ w hk ((Bx.nth GM (by omega)).mono BD) (hG.mono BD) hd (by omega) (BN hw)) ?_); rintro _ J _ ⟨rfl, hJ, p, vb, dv, hk, rfl⟩
       have BD := BD.trans hJ
       obtain ⟨s7, hs7⟩ : ∃ z, z = Et (nth ks 0 EL) d s6 := ⟨_, rfl⟩; rw [← hs7] at hk ⊢
       have ARe : wz s7 ≤ wz s6 + (wH (nth ks 0 EL) + 1) := by rw [hs7]; exact HV (Bb.nth (by omega)) d s6
       refine ln (AH (AC 1 rfl (le rfl (AS rfl CD CU rfl rfl rfl (by rfl) rfl) ?_))); rintro _ _ _ ⟨b126, rfl, rfl, rfl⟩; refine AI (H' := BO 9 1 Bo (.slice (some ⟨b126, 0, none⟩) 1 1) [[100, 111, 110, 101]] :: _) ?_ (fun _ h => A7 h rfl (by decide)); refine BG (f := Bo) (l := [[100, 111, 110, 101]]) (.slice (some ⟨b126, 0, none⟩) 1 1) (fun _ => rfl) (fun Jf B4 Ck => ?_)
       have BD := BD.trans B4
       refine Bw rfl rfl rfl rfl (fun w hw => CF b (.slice (some ⟨b126, 0, none⟩) 1 1) [[100, 111, 110, 101]] p vb dv _ _ _ _ w hk (by simp only [List.flatten_cons, List.flatten_nil, List.length_nil, List.length_cons, List.append_nil]; omega) Ck (by simp) (BN hw)) ?_; rintro _ J _ ⟨rfl, hJ, p, vb, dv, hk, rfl⟩
       have BD := BD.trans hJ
       refine BX (AV (Cm rfl (fun w' hw => ?_))); rw [YB GH, if_neg MW, U4]; unfold S3; simp only; rw [← En, ← Ho, Dh, ← hs5, show [Wn] = [[100, 111]] from rfl, ← X6, VK (by omega), ← hs7, show [Lf] = [[100, 111, 110, 101]] from rfl]; exact ⟨_, rfl, J, _, ⟨rfl, BD, p, vb, dv, hk, rfl⟩, AA hw⟩
     ·have hyb := LB Ka
      refine Au (AV (Cm rfl (fun w' hw => ?_))); rw [YB GH, if_pos hyb]; exact ⟨_, rfl, J, _, ⟨rfl, BD, p, vb, dv, hk, rfl⟩, AA hw⟩
    ·simp at GH
     refine Ar rfl (AF rfl (fun ZL => ?_) (fun ZL => ?_))
     ·simp at ZL
      refine AH (AC 1 rfl (lq rfl ((by exact Af rfl BR Ab rfl rfl rfl)) ?_)); refine AC 1 rfl (Bw rfl rfl rfl rfl (fun w hw => Yn _ _ _ _ _ _ ks Bb UR b c d p0 vb0 dv0 _ _ _ _ w hk (Fg.mono BD) (hG.mono BD) hd (by omega) (BN hw)) ?_); rintro _ J _ ⟨rfl, hJ, p, vb, dv, hk, rfl⟩
      have BD := BD.trans hJ
      refine BX (AV (Cm rfl (fun w' hw => ?_))); rw [AFA ZL]; exact ⟨_, rfl, J, _, ⟨rfl, BD, p, vb, dv, hk, rfl⟩, AA hw⟩
     ·simp at ZL
      refine AH (AC 3 rfl ?_); refine An rfl rfl (Ac rfl De rfl rfl (by exact ⟨rfl, rfl⟩) rfl (by (simp only [List.set_cons_succ, List.set_cons_zero]; try rfl))) ?_; rintro _ _ _ ⟨rfl, rfl⟩; refine AI (H' := row b 45 [.pointer p0, vb0, dv0, .bool true] :: _) ?_ (fun _ h => h); refine BX (AV (Cm rfl (fun w' hw => ?_))); rw [ABy h7 Cg QZ GH ZL]; exact ⟨_, rfl, I, HG b p0 vb0 dv0 st0.bd F, ⟨rfl, BD, p0, vb0, dv0, hk, rfl⟩, AA (H' := row b 45 [.pointer p0, vb0, dv0, .bool true] :: BO 5 1 Fo vb0 st0.out :: BO 9 1 Bo dv0 st0.docs :: F) hw⟩
end Go.Tri

namespace Go.Tri
open Go.Proofs Go.RowKit
set_option maxRecDepth 10000
theorem AFX {d : Nat} {st : WS} (h : 960 < d ∨ st.bad = true) (k : Int) (nt ii : Bool) (nm : List UInt8) (ws : List (List UInt8)) (rs : List EK) (fs : List (Fn × Fn)) : Gz k nt ii nm ws rs fs d st = st.bd := by unfold Gz; rw [if_pos h]
theorem ALa {d : Nat} {st : WS} (h : ¬ (960 < d ∨ st.bad = true)) {k : Int} (h1 : k = 1) (nt ii : Bool) (nm : List UInt8) (ws : List (List UInt8)) (rs : List EK) (fs : List (Fn × Fn)) : Gz k nt ii nm ws rs fs d st = LJ rs (decide (0 < ws.length)) (B6 st [Lib.join ws [32]]) := by unfold Gz; rw [if_neg h, if_pos h1]
theorem AMr {d : Nat} {st : WS} (h : ¬ (960 < d ∨ st.bad = true)) {k : Int} (h1 : k = 2 ∨ k = 3 ∨ k = 4 ∨ k = 6) (nt ii : Bool) (nm : List UInt8) (ws : List (List UInt8)) (rs : List EK) (fs : List (Fn × Fn)) : Gz k nt ii nm ws rs fs d st = HM k nt fs (d + 1) st := by unfold Gz; rw [if_neg h, if_neg (by omega), if_pos h1]
theorem ACz {d : Nat} {st : WS} (h : ¬ (960 < d ∨ st.bad = true)) {k : Int} (h1 : k = 14) (nt ii : Bool) (nm : List UInt8) (ws : List (List UInt8)) (rs : List EK) (l : List Hn) : Gz k nt ii nm ws rs (Ci l) d st = if (Dv st l.length 1 1).bad = true then Dv st l.length 1 1 else (nth (Ci l) 0 Qu).1 (d + 1) (B6 (Dv st l.length 1 1) [nm, [40, 41, 32]]) := by unfold Gz; rw [if_neg h, if_neg (by omega), if_neg (by omega), if_pos h1, G5]
theorem AOM {d : Nat} {st : WS} (h : ¬ (960 < d ∨ st.bad = true)) {k : Int} (h1 : ¬ k = 1) (h2 : ¬ (k = 2 ∨ k = 3 ∨ k = 4 ∨ k = 6)) (h3 : ¬ k = 14) (nt ii : Bool) (nm : List UInt8) (ws : List (List UInt8)) (rs : List EK) (fs : List (Fn × Fn)) : Gz k nt ii nm ws rs fs d st = LJ rs true (Fc k nm ii ws fs (d + 1) st) := by unfold Gz; rw [if_neg h, if_neg h1, if_neg h2, if_neg h3]
set_option maxHeartbeats 2000000 in
theorem ACL (k : Int) (nt ii : Bool) (nm : List UInt8) (ws : List (List UInt8)) (rs : List EK) (ks : List Hn) (Bb : Nj (.mk k nt ii nm ws rs ks)) (XI : ∀ i, i < ks.length → JK (nth ks i EL)) (UR : ∀ i, i < ks.length → IH (nth ks i EL)) : JK (.mk k nt ii nm ws rs ks) := by
 intro b c d p0 vb0 dv0 st0 I F w0 w hk hn hG hd hl CE; rw [FR]; rw [wH] at hl; rw [Nj] at Bb
 have Fg := hn
 have BD := Le.refl I
 have Df := hn.ones
 unfold D5 at hn; obtain ⟨rfl, rfl, rfl, rfl, Kg, UH, kcs, G9, GM⟩ := hn
 have XP := Fj ks
 have XF := GM.len
 have hwm := H1 ws
 have Qs := Kp [32] (by decide) ws
 refine enter Tryz.func17 rfl Tryz.ntmps17 rfl (CE.self) (tr (le rfl (FE rfl rfl rfl) ?_)); rintro _ _ _ ⟨b4, rfl, rfl, rfl⟩; refine AI (H' := row b4 26 (Eo c) :: _) ?_ (fun _ h => h); refine Gb (tq (AK 3 rfl ?_))
 refine Bf 4 2 8 13 12 _ _ rfl rfl rfl rfl rfl rfl (fun h13 => by
   simp at h13
   refine AJ 3 rfl (sg rfl (AZ rfl rfl (by rfl)) ?_); exact Ao rfl
  ) (AM rfl) rfl rfl rfl ?_
 refine Cy (AF rfl (fun HB => ?_) (fun HB => ?_))
 ·have Qp : 960 < d ∨ st0.bad = true := by
   have h9 := HB
   rw [Bool.or_eq_true, decide_eq_true_eq] at h9; rcases h9 with h9 | h9
   ·exact .inl (by omega)
   ·exact .inr h9
  refine tr (AC 3 rfl ?_); refine An rfl rfl (Ac rfl De rfl rfl (by exact ⟨rfl, rfl⟩) rfl (by (simp only [List.set_cons_succ, List.set_cons_zero]; try rfl))) ?_; rintro _ _ _ ⟨rfl, rfl⟩; refine AI (H' := row b 45 [.pointer p0, vb0, dv0, .bool true] :: _) ?_ (fun _ h => h); refine ln (C0 (Jb rfl (fun w' hw => ?_))); rw [AFX Qp]; exact ⟨_, rfl, I, HG b p0 vb0 dv0 st0.bd F, ⟨rfl, BD, p0, vb0, dv0, hk, rfl⟩, AA (H' := row b 45 [.pointer p0, vb0, dv0, .bool true] :: BO 5 1 Fo vb0 st0.out :: BO 9 1 Bo dv0 st0.docs :: F) hw⟩
 ·have Qp : ¬ (960 < d ∨ st0.bad = true) := by
   have h9 := HB
   rw [Bool.or_eq_false_iff, decide_eq_false_iff_not] at h9; intro h8; rcases h8 with h8 | h8
   ·omega
   ·rw [h8] at h9; cases h9.2
  have hd9 : d ≤ 960 := by omega
  refine Al (tr (AC 1 rfl (lq rfl (AX rfl rfl rfl (by omega)) ?_))); refine Ae rfl (AN (tr (AC 1 rfl (lq rfl (AZ rfl rfl (by rfl)) ?_)))); refine ln (AR (Ar rfl (AF rfl (fun BI => ?_) (fun BI => ?_))))
  ·simp at BI
   refine tr (AC 2 rfl (lq rfl (AZ rfl rfl (by rfl)) ?_)); refine lq rfl (qc rfl rfl rfl ((fun w hw => N0 c.wv ws [32] w (by omega) (Kg.mono (BD.trans hw.le)) (by omega)))) ?_; refine le rfl (AS rfl CD CU rfl rfl rfl (by rfl) rfl) ?_; rintro _ _ _ ⟨b27, rfl, rfl, rfl⟩; refine AI (H' := BO 9 1 Bo (.slice (some ⟨b27, 0, none⟩) 1 1) [Lib.join ws [32]] :: _) ?_ (fun _ h => A7 h rfl (by decide)); refine BG (f := Bo) (l := [Lib.join ws [32]]) (.slice (some ⟨b27, 0, none⟩) 1 1) (fun _ => rfl) (fun Jf B4 Ck => ?_)
   have BD := BD.trans B4
   refine Bw rfl rfl rfl rfl (fun w hw => CF b (.slice (some ⟨b27, 0, none⟩) 1 1) [Lib.join ws [32]] p0 vb0 dv0 _ _ _ _ w hk (by simp only [List.flatten_cons, List.flatten_nil, List.append_nil]; omega) Ck (by simp) (BN hw)) ?_; rintro _ J _ ⟨rfl, hJ, p, vb, dv, hk, rfl⟩
   have BD := BD.trans hJ
   obtain ⟨s1, En⟩ : ∃ z, z = B6 st0 [Lib.join ws [32]] := ⟨_, rfl⟩; rw [← En] at hk ⊢
   have QA : wz s1 ≤ wz st0 + Ix ws := by rw [En]; rw [Cu]; simp only [List.flatten_cons, List.flatten_nil, List.append_nil]; omega
   refine BQ (AC 2 rfl (lq rfl (AZ rfl rfl (by rfl)) ?_)); refine AC 1 rfl (lq rfl (AZ rfl rfl (by rfl)) ?_); refine lq rfl ((by exact CN rfl CD rfl (Sl.lenOf Kg (List.length_map _)))) ?_; refine AC 1 rfl ?_; rw [show decide ((0 : Int) < (ws.length : Int)) = decide (0 < ws.length) from decide_eq_decide.2 (by omega)]; refine Bw rfl rfl rfl rfl (fun w hw => KH b c.rv rs (decide (0 < ws.length)) p vb dv _ _ _ _ w hk (by omega) (UH.mono BD) Bb.1 (hG.mono BD) (BN hw)) ?_; rintro _ J _ ⟨rfl, hJ, p, vb, dv, hk, rfl⟩
   have BD := BD.trans hJ
   refine ln (C0 (Jb rfl (fun w' hw => ?_))); rw [ALa Qp BI, ← En]; exact ⟨_, rfl, J, _, ⟨rfl, BD, p, vb, dv, hk, rfl⟩, AA hw⟩
  ·simp at BI
   refine Bh (ι := Bool) (fun zz => zz = decide (c.kind = 2 ∨ c.kind = 3 ∨ c.kind = 4 ∨ c.kind = 6)) (fun zz => [(37, .bool zz)]) [(0, _), (1, _), (2, _), (4, _), (13, _), (20, _), (21, _)] (fun zz => I) (fun zz => (row b4 26 (Eo c) :: HG b p0 vb0 dv0 st0 F)) (AB rfl) ?_ ?_
   ·refine Ar rfl (AF rfl (fun BU => ?_) (fun BU => ?_))
    ·simp at BU
     refine Au (Av ((decide (c.kind = 2))) ?_ (AB rfl) (AB rfl) (fun _ h => by dsimp only; exact AA h))
     ·simp [BU]
    ·simp at BU
     refine Ar rfl (AF rfl (fun Bd => ?_) (fun Bd => ?_))
     ·simp at Bd
      refine Au (Av ((decide (c.kind = 3))) ?_ (AB rfl) (AB rfl) (fun _ h => by dsimp only; exact AA h))
      ·simp [Bd]
     ·simp at Bd
      refine Ar rfl (AF rfl (fun Cg => ?_) (fun Cg => ?_))
      ·simp at Cg
       refine Au (Av ((decide (c.kind = 4))) ?_ (AB rfl) (AB rfl) (fun _ h => by dsimp only; exact AA h))
       ·simp [Cg]
      ·simp at Cg
       refine AH (Ax rfl (Av ((decide (c.kind = 6))) ?_ (AB rfl) (AB rfl) (fun _ h => by dsimp only; exact AA h)))
       ·simp [BU, Bd, Cg]
   rintro q hq; dsimp only at *; refine AF rfl (fun C1 => ?_) (fun C1 => ?_)
   ·have hj : c.kind = 2 ∨ c.kind = 3 ∨ c.kind = 4 ∨ c.kind = 6 := of_decide_eq_true (hq ▸ C1)
    refine tr (AC 1 rfl (lq rfl ((by exact Af rfl BR Ab rfl rfl rfl)) ?_)); refine AC 1 rfl (Bw rfl rfl rfl rfl (fun w hw => Wu _ _ _ _ _ _ ks Bb.2 XI b c (d + 1) p0 vb0 dv0 _ _ _ _ w hk (Fg.mono BD) (hG.mono BD) (by omega) (by omega) (BN hw)) ?_); rintro _ J _ ⟨rfl, hJ, p, vb, dv, hk, rfl⟩
    have BD := BD.trans hJ
    refine ln (C0 (Jb rfl (fun w' hw => ?_))); rw [AMr Qp hj]; exact ⟨_, rfl, J, _, ⟨rfl, BD, p, vb, dv, hk, rfl⟩, AA hw⟩
   ·have hj : ¬ (c.kind = 2 ∨ c.kind = 3 ∨ c.kind = 4 ∨ c.kind = 6) := of_decide_eq_false (hq ▸ C1)
    refine Ar rfl (AF rfl (fun Dd => ?_) (fun Dd => ?_))
    ·simp at Dd
     refine AN (tr (AC 1 rfl (lq rfl ((by exact Af rfl BR Ab rfl rfl rfl)) ?_))); refine Bw rfl rfl rfl rfl (fun w hw => GI b c ks.length 1 1 (Sl.lenOf G9 (by rw [List.length_map, GM.len])) Df p0 vb0 dv0 _ _ _ _ w hk (BN hw)) ?_; rintro _ J _ ⟨rfl, hJ, p, vb, dv, hk, rfl⟩
     have BD := BD.trans hJ
     refine ln (AF rfl (fun EW => ?_) (fun EW => ?_))
     ·obtain ⟨U4, hlo, XV⟩ := F6 (Hd EW)
      have MW := Hd EW
      rw [U4] at hk ⊢
      have TQ := OD (l := ks) (i := 0) (by omega)
      refine tr (AC 2 rfl (lq rfl (AZ rfl rfl (by rfl)) ?_)); refine le rfl (Cb (vs := [_, _]) (css := [Bo c.name, Bo [40, 41, 32]]) rfl CD CU rfl rfl rfl rfl (rfl) (by simp [Bo])) ?_; rintro _ _ _ ⟨b54, rfl, rfl, rfl⟩; refine AI (H' := BO 9 1 Bo (.slice (some ⟨b54, 0, none⟩) 2 2) [c.name, [40, 41, 32]] :: _) ?_ (fun _ h => A7 h rfl (by decide)); refine BG (f := Bo) (l := [c.name, [40, 41, 32]]) (.slice (some ⟨b54, 0, none⟩) 2 2) (fun _ => rfl) (fun Jf B4 Ck => ?_)
      have BD := BD.trans B4
      refine Bw rfl rfl rfl rfl (fun w hw => CF b (.slice (some ⟨b54, 0, none⟩) 2 2) [c.name, [40, 41, 32]] p vb dv _ _ _ _ w hk (by simp only [List.flatten_cons, List.flatten_nil, List.length_append, List.length_nil, List.length_cons, List.append_nil]; omega) Ck (by simp) (BN hw)) ?_; rintro _ J _ ⟨rfl, hJ, p, vb, dv, hk, rfl⟩
      have BD := BD.trans hJ
      obtain ⟨s1, En⟩ : ∃ z, z = B6 st0 [c.name, [40, 41, 32]] := ⟨_, rfl⟩; rw [← En] at hk ⊢
      have QA : wz s1 ≤ wz st0 + c.name.length + 3 := by rw [En]; rw [Cu]; simp only [List.flatten_cons, List.flatten_nil, List.length_append, List.append_nil, List.length_cons, List.length_nil]; omega
      refine ln (AH (AC 2 rfl (lq rfl (AZ rfl rfl (by rfl)) ?_))); refine lq rfl ((by exact DZ rfl CJ Ab rfl rfl (Sl.shape (n := ks.length) (G9.mono BD) (by rw [List.length_map, GM.len])) (by omega))) ?_; refine lq rfl ((by exact Bc rfl BR Ab rfl rfl ((G9.mono BD).rds (Fk (i := 0) (by omega))))) ?_; refine AC 1 rfl (Bw rfl rfl rfl rfl (fun w hw => XI 0 (by omega) b (nth kcs 0 Tri.hc0) (d + 1) p vb dv _ _ _ _ w hk ((Bx.nth GM (by omega)).mono BD) (hG.mono BD) (by omega) (by omega) (BN hw)) ?_); rintro _ J _ ⟨rfl, hJ, p, vb, dv, hk, rfl⟩
      have BD := BD.trans hJ
      refine ln (C0 (Jb rfl (fun w' hw => ?_))); rw [ACz Qp Dd, if_neg MW, U4, ← En, AHr (by omega)]; exact ⟨_, rfl, J, _, ⟨rfl, BD, p, vb, dv, hk, rfl⟩, AA hw⟩
     ·have hyb := LB EW
      refine Al (C0 (Jb rfl (fun w' hw => ?_))); rw [ACz Qp Dd, if_pos hyb]; exact ⟨_, rfl, J, _, ⟨rfl, BD, p, vb, dv, hk, rfl⟩, AA hw⟩
    ·simp at Dd
     refine Au (AV (Ai (tr (AC 1 rfl (lq rfl ((by exact Af rfl BR Ab rfl rfl rfl)) ?_))))); refine AC 1 rfl (Bw rfl rfl rfl rfl (fun w hw => SZ _ _ _ _ _ _ ks Bb.2 UR b c (d + 1) p0 vb0 dv0 _ _ _ _ w hk (Fg.mono BD) (hG.mono BD) (by omega) (by omega) (BN hw)) ?_); rintro _ J _ ⟨rfl, hJ, p, vb, dv, hk, rfl⟩
     have BD := BD.trans hJ
     obtain ⟨s1, En⟩ : ∃ z, z = Fc c.kind c.name c.isin ws (Ci ks) (d + 1) st0 := ⟨_, rfl⟩; rw [← En] at hk ⊢
     have QA : wz s1 ≤ wz st0 + c.name.length + Ix ws + Hm ks + 60 := by rw [En]; exact U8 (Ud ks Bb.2) (d + 1) st0
     refine ln (AH (AC 2 rfl (lq rfl (AZ rfl rfl (by rfl)) ?_))); refine Bw rfl rfl rfl rfl (fun w hw => KH b c.rv rs true p vb dv _ _ _ _ w hk (by omega) (UH.mono BD) Bb.1 (hG.mono BD) (BN hw)) ?_; rintro _ J _ ⟨rfl, hJ, p, vb, dv, hk, rfl⟩
     have BD := BD.trans hJ
     refine BX (Cm rfl (fun w' hw => ?_)); rw [AOM Qp BI hj Dd, ← En]; exact ⟨_, rfl, J, _, ⟨rfl, BD, p, vb, dv, hk, rfl⟩, AA hw⟩
mutual
theorem SW : ∀ n : Hn, Nj n → JK n ∧ IH n
 | .mk k nt ii nm ws rs ks, h => by
  have h2 : E9 ks := by rw [Nj] at h; exact h.2
  have hk := L7 ks h2
  have hS := ACL k nt ii nm ws rs ks h (fun i hi => (hk i hi).1) (fun i hi => (hk i hi).2)
  exact ⟨hS, AAx _ h hS (fun i hi => (hk i hi).1)⟩
theorem L7 : ∀ l : List Hn, E9 l → ∀ i, i < l.length → JK (nth l i EL) ∧ IH (nth l i EL)
 | [], _, _, h => absurd h (Nat.not_lt_zero _)
 | n :: r, h, 0, _ => by
  rw [E9] at h; exact SW n h.1
 | n :: r, h, i + 1, hi => by
  rw [E9] at h; exact L7 r h.2 i (by simpa using hi)
end
end Go.Tri

namespace Go.Tri
open Go.Proofs Go.RowKit
set_option maxRecDepth 10000
theorem ON (bt : List UInt8) {l : List Hn} {i : Nat} (h : i < l.length) (st : WS) : GV bt (l.drop i) st = GV (if (nth l i EL).kind = 6 then [32] else [59, 32]) (l.drop (i + 1)) (FR (nth l i EL) 0 (B6 st [bt])) := by rw [Bi EL h, GV]
set_option maxHeartbeats 1000000 in
theorem Yk (k : Int) (nt ii : Bool) (nm : List UInt8) (ws : List (List UInt8)) (rs : List EK) (ks : List Hn) (Bb : Nj (.mk k nt ii nm ws rs ks)) (b : Nat) (c : HC) (p0 : Option Addr) (vb0 dv0 : Value) (st0 : WS) (I : AU) (F : List HA) (w0 w : World) (hk : Kk b p0 vb0 st0) (hn : D5 I (.mk k nt ii nm ws rs ks) c) (hG : FC I) (hl : wz st0 + wH (.mk k nt ii nm ws rs ks) ≤ 1000000000) (CE : St w0 I (HG b p0 vb0 dv0 st0 F) w) : Calls Tryz.prog 9 [FK b, .agg (Eo c).toArray].toArray w (fun e w' => ∃ v, e = .returned v ∧ ∃ I' H', GQ b (IS (.mk k nt ii nm ws rs ks) st0) I F v I' H' ∧ St w I' H' w') := by
 have Fg := hn
 have hSn := (SW _ Bb).1
 have UQ := hl
 rw [wH] at UQ
 have AGO : E9 ks := by rw [Nj] at Bb; exact Bb.2
 have XI := L7 ks AGO
 have BD := Le.refl I
 have Df := hn.ones
 unfold D5 at hn; obtain ⟨rfl, rfl, rfl, rfl, Kg, UH, kcs, G9, GM⟩ := hn
 have XP := Fj ks
 have XF := GM.len
 refine enter Tryz.func9 rfl Tryz.ntmps9 rfl (CE.self) (tr (le rfl (FE rfl rfl rfl) ?_)); rintro _ _ _ ⟨b3, rfl, rfl, rfl⟩; refine AI (H' := row b3 26 (Eo c) :: _) ?_ (fun _ h => h); refine K6 (AC 1 rfl (lq rfl (AZ rfl rfl (by rfl)) ?_)); refine Ae rfl (AF rfl (fun HB => ?_) (fun HB => ?_))
 ·have hk5 : c.kind ≠ 5 := of_decide_eq_true HB
  refine tr (AC 1 rfl (lq rfl ((by exact Af rfl BR Ab rfl rfl rfl)) ?_)); refine Bw rfl rfl rfl rfl (fun w hw => hSn b c 0 p0 vb0 dv0 _ _ _ _ w hk (Fg.mono BD) (hG.mono BD) (by omega) hl (BN hw)) ?_; rintro _ J _ ⟨rfl, hJ, p, vb, dv, hk, rfl⟩
  have BD := BD.trans hJ
  refine ln (C0 (Jb rfl (fun w' hw => ?_))); rw [show IS (.mk c.kind c.not c.isin c.name ws rs ks) st0 = FR (.mk c.kind c.not c.isin c.name ws rs ks) 0 st0 from if_neg hk5]; exact ⟨_, rfl, J, _, ⟨rfl, BD, p, vb, dv, hk, rfl⟩, AA hw⟩
 ·have hk5 : c.kind = 5 := by have := of_decide_eq_false HB; omega
  refine Al (Ar rfl (tr (AC 1 rfl (lq rfl (AZ rfl rfl (by rfl)) ?_)))); refine lq rfl ((by exact CN rfl CJ rfl (Sl.lenOf G9 (by rw [List.length_map, GM.len])))) ?_; refine Ae rfl (AR (A8 (ι := Nat × List UInt8 × Option Addr × Value × Value × WS × AU) (fun zz => zz.1 ≤ ks.length ∧ Le I zz.2.2.2.2.2.2 ∧ Kk b zz.2.2.1 zz.2.2.2.1 zz.2.2.2.2.2.1 ∧ zz.2.1.length ≤ 2 ∧ wz zz.2.2.2.2.2.1 + Hm (ks.drop zz.1) + 20 ≤ 1000000000 ∧ GV [] ks st0 = GV zz.2.1 (ks.drop zz.1) zz.2.2.2.2.2.1) (fun zz => ks.length - zz.1) (fun zz => [(4, Bj zz.2.1), (16, .int .i64 (zz.1 : Int))]) [(0, _), (1, _), (3, _), (9, _), (14, _), (15, _)] (fun zz => zz.2.2.2.2.2.2) (fun zz => (row b3 26 (Eo c) :: HG b zz.2.2.1 zz.2.2.2.1 zz.2.2.2.2.1 zz.2.2.2.2.2.1 F)) (0, [], p0, vb0, dv0, st0, I) ?_ (AB rfl) (AB rfl) (fun _ h => AA h) ?_))
  ·dsimp only; exact ⟨Nat.zero_le _, BD, hk, Nat.zero_le _, by rw [List.drop_zero]; omega, by rw [List.drop_zero]⟩
  rintro ⟨i, bt, p, vb, dv, st, J⟩ ⟨hi, BD, hk, hbl, N7, Dh⟩; dsimp only at *; refine Ar rfl (AN (AF rfl (fun BI => ?_) (fun BI => ?_)))
  ·simp at BI
   have EJ : i < ks.length := by omega
   have TQ := Fl EJ
   have NJ := (Bx.nth GM EJ).ones
   have AKC := (Bx.nth GM EJ).kind
   refine Al (AN (AR (tr ?_))); refine lq rfl ((by exact A5 rfl CJ Ab rfl rfl (Sl.shape (n := ks.length) (G9.mono BD) (by rw [List.length_map, GM.len])) (by omega))) ?_; refine lq rfl ((by exact Bc rfl BR Ab rfl rfl ((G9.mono BD).rds (Fk (i := i) (by omega))))) ?_; refine le rfl (Ah rfl Ab rfl) ?_; rintro _ _ _ ⟨b6, rfl, rfl, rfl⟩; refine An rfl rfl ((by exact AE rfl Ab rfl rfl rfl (by exact NJ) rfl)) ?_; rintro _ _ _ ⟨rfl, rfl⟩; refine BQ (AC 2 rfl (le rfl (AS rfl CD CU rfl rfl rfl (by rfl) rfl) ?_)); rintro _ _ _ ⟨b22, rfl, rfl, rfl⟩; refine AI (H' := BO 9 1 Bo (.slice (some ⟨b22, 0, none⟩) 1 1) [bt] :: _) ?_ (fun _ h => A7 h rfl (by decide)); refine BG (f := Bo) (l := [bt]) (.slice (some ⟨b22, 0, none⟩) 1 1) (fun _ => rfl) (fun Jf B4 Ck => ?_)
   have BD := BD.trans B4
   refine Bw rfl rfl rfl rfl (fun w hw => CF b (.slice (some ⟨b22, 0, none⟩) 1 1) [bt] p vb dv _ _ _ _ w hk (by simp only [List.flatten_cons, List.flatten_nil, List.append_nil]; omega) Ck (by simp) (BN hw)) ?_; rintro _ J _ ⟨rfl, hJ, p, vb, dv, hk, rfl⟩
   have BD := BD.trans hJ
   obtain ⟨s1, En⟩ : ∃ z, z = B6 st [bt] := ⟨_, rfl⟩; rw [← En] at hk ⊢
   have QA : wz s1 ≤ wz st + 2 := by rw [En]; rw [Cu]; simp only [List.flatten_cons, List.flatten_nil, List.append_nil]; omega
   refine BQ (AC 1 rfl (lq rfl ((by exact Af rfl BR Ab rfl rfl rfl)) ?_)); refine Bw rfl rfl rfl rfl (fun w hw => (XI i EJ).1 b (nth kcs i Tri.hc0) 0 p vb dv _ _ _ _ w hk ((Bx.nth GM EJ).mono BD) (hG.mono BD) (by omega) (by omega) (BN hw)) ?_; rintro _ J _ ⟨rfl, hJ, p, vb, dv, hk, rfl⟩
   have BD := BD.trans hJ
   obtain ⟨s2, Ho⟩ : ∃ z, z = FR (nth ks i EL) 0 s1 := ⟨_, rfl⟩; rw [← Ho] at hk ⊢
   have V3 : wz s2 ≤ wz s1 + wH (nth ks i EL) := by rw [Ho]; exact Jw (AGO.nth EJ) 0 s1
   refine BQ (Ae rfl (tr (AC 1 rfl (lq rfl (AZ rfl rfl (by rfl)) ?_)))); refine Ae rfl (AF rfl (fun BU => ?_) (fun BU => ?_))
   ·simp at BU
    refine AH (Ax rfl (AV (Ai (AH (lq rfl (AX rfl rfl rfl (by omega)) ?_))))); refine Ax rfl (Ak ((i + 1, [32], p, vb, dv, s2, J)) ?_ ?_ (AB rfl) (AB rfl) (fun _ h => by dsimp only; exact AA h))
    ·dsimp only; exact ⟨by omega, BD, hk, by decide, by omega, by rw [Dh, ON _ EJ, if_pos (by rw [← AKC]; exact BU), ← En, ← Ho]⟩
    ·dsimp only
     show ks.length - (i + 1) < ks.length - i
     omega
   ·simp at BU
    refine Au (AV (Ai (AH (lq rfl (AX rfl rfl rfl (by omega)) ?_)))); refine Ax rfl (Ak ((i + 1, [59, 32], p, vb, dv, s2, J)) ?_ ?_ (AB rfl) (AB rfl) (fun _ h => by dsimp only; exact AA h))
    ·dsimp only; exact ⟨by omega, BD, hk, by decide, by omega, by rw [Dh, ON _ EJ, if_neg (by rw [← AKC]; exact BU), ← En, ← Ho]⟩
    ·dsimp only
     show ks.length - (i + 1) < ks.length - i
     omega
  ·simp at BI
   have EJ : i = ks.length := by omega
   rw [EJ, List.drop_length, GV] at Dh; refine BB (AG (AG (AQ (Cm rfl (fun w' hw => ?_))))); rw [show IS (.mk c.kind c.not c.isin c.name ws rs ks) st0 = GV [] ks st0 from if_pos hk5, Dh]; exact ⟨_, rfl, J, _, ⟨rfl, BD, p, vb, dv, hk, rfl⟩, AA hw⟩
end Go.Tri
