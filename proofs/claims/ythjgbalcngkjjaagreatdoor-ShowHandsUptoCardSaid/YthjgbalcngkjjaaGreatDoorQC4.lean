/-
 The parser: its small steps.
-/
import Derived.Test.YthjgbalcngkjjaaGreatDoorQB2
import Derived.Test.YthjgbalcngkjjaaGreatDoorPCode
namespace Go.Tri
open Go.Proofs Go.RowKit
set_option maxRecDepth 10000
def CO (s : List UInt8) (lv : Value) (n : Nat) : List Value := [Bj s, lv, .int .i64 (n : Int)]
def TO (a e : Nat) : Value := .iface 53 (.agg #[.int .i64 (a : Int), .int .i64 (e : Int)])
def BT (r : EK) : List Value := [.int .i64 r.fd, Bj r.op, Bj r.word, Bj r.doc, .bool r.raw]
theorem C2 (r : EK) : ∀ u ∈ BT r, u.oneCell' = true := fun u hu => by
 simp only [BT, List.mem_cons, List.not_mem_nil, or_false] at hu
 rcases hu with rfl | rfl | rfl | rfl | rfl <;> rfl
structure NC where
 kind : Nat
 not : Bool
 isin : Bool
 name : List UInt8
 wv : Value
 rv : Value
 kv : Value
def A2 (c : NC) : List Value := [.int .i64 (c.kind : Int), .bool c.not, .bool c.isin, Bj c.name, c.wv, c.rv, c.kv]
abbrev AO : Value := .slice none 0 0
def DB : NC := ⟨0, false, false, [], AO, AO, AO⟩
mutual
def Bm (I : AU) : Nd → NC → Prop
 | .mk k nt isin nm ws rs ks, c => c.kind = k ∧ c.not = nt ∧ c.isin = isin ∧ c.name = nm ∧ Sl I 1 c.wv (ws.map Bo) ∧ Sl I 5 c.rv (rs.map BT) ∧ ∃ cs : List NC, Sl I 7 c.kv (cs.map A2) ∧ A0 I ks cs
def A0 (I : AU) : List Nd → List NC → Prop
 | [], [] => True
 | k :: ks, c :: cs => Bm I k c ∧ A0 I ks cs
 | _, _ => False
end
mutual
theorem Bm.mono {I J : AU} (Ec : Le I J) : ∀ {n : Nd} {c : NC}, Bm I n c → Bm J n c
 | .mk k nt isin nm ws rs ks, c, h => by
  unfold Bm at h ⊢; obtain ⟨h1, h2, h3, h4, h5, h6, cs, h7, h8⟩ := h; exact ⟨h1, h2, h3, h4, h5.mono Ec, h6.mono Ec, cs, h7.mono Ec, A0.mono Ec h8⟩
theorem A0.mono {I J : AU} (Ec : Le I J) : ∀ {ks : List Nd} {cs : List NC}, A0 I ks cs → A0 J ks cs
 | [], [], _ => by unfold A0; trivial
 | k :: ks, c :: cs, h => by
  unfold A0 at h ⊢; exact ⟨Bm.mono Ec h.1, A0.mono Ec h.2⟩
 | [], _ :: _, h => by unfold A0 at h; exact h.elim
 | _ :: _, [], h => by unfold A0 at h; exact h.elim
end
theorem FP {c : NC} (h1 : Lh c.wv) (h2 : Lh c.rv) (h3 : Lh c.kv) : ∀ u ∈ A2 c, u.oneCell' = true := fun u hu => by
 simp only [A2, List.mem_cons, List.not_mem_nil, or_false] at hu; rcases hu with rfl | rfl | rfl | rfl | rfl | rfl | rfl
 ·rfl
 ·rfl
 ·rfl
 ·rfl
 ·exact h1.2
 ·exact h2.2
 ·exact h3.2
theorem Bm.ones {I : AU} {n : Nd} {c : NC} (h : Bm I n c) : ∀ u ∈ A2 c, u.oneCell' = true := by
 obtain ⟨k, nt, isin, nm, ws, rs, ks⟩ := n; unfold Bm at h; obtain ⟨-, -, -, -, h5, h6, cs, h7, -⟩ := h; exact FP h5.one h6.one h7.one
theorem A0.len {I : AU} : ∀ {ks : List Nd} {cs : List NC}, A0 I ks cs → cs.length = ks.length
 | [], [], _ => rfl
 | k :: ks, c :: cs, h => by
  unfold A0 at h; rw [List.length_cons, List.length_cons, A0.len h.2]
 | [], _ :: _, h => by unfold A0 at h; exact h.elim
 | _ :: _, [], h => by unfold A0 at h; exact h.elim
theorem A0.snoc {I : AU} {n : Nd} {c : NC} (hn : Bm I n c) : ∀ {ks : List Nd} {cs : List NC}, A0 I ks cs → A0 I (ks ++ [n]) (cs ++ [c])
 | [], [], _ => by
  show A0 I [n] [c]
  unfold A0; exact ⟨hn, by unfold A0; trivial⟩
 | k :: ks, d :: cs, h => by
  unfold A0 at h
  show A0 I (k :: (ks ++ [n])) (d :: (cs ++ [c]))
  unfold A0; exact ⟨h.1, A0.snoc hn h.2⟩
 | [], _ :: _, h => by unfold A0 at h; exact h.elim
 | _ :: _, [], h => by unfold A0 at h; exact h.elim
theorem Bm.kind {I : AU} {n : Nd} {c : NC} (h : Bm I n c) : c.kind = n.kind := by
 obtain ⟨k, nt, isin, nm, ws, rs, ks⟩ := n; unfold Bm at h; exact h.1
theorem Bm.of {I : AU} {k : Nat} {nt isin : Bool} {nm : List UInt8} {ws : List (List UInt8)} {rs : List EK} {ks : List Nd} {wv rv kv : Value} {cs : List NC} (h5 : Sl I 1 wv (ws.map Bo)) (h6 : Sl I 5 rv (rs.map BT)) (h7 : Sl I 7 kv (cs.map A2)) (h8 : A0 I ks cs) :
  Bm I (.mk k nt isin nm ws rs ks) ⟨k, nt, isin, nm, wv, rv, kv⟩ := by
 unfold Bm; exact ⟨rfl, rfl, rfl, rfl, h5, h6, cs, h7, h8⟩
theorem DP {I : AU} {sz : Nat} : Sl I sz AO [] := Fv (fun _ h => by cases h)
theorem A0.nil {I : AU} : A0 I [] [] := by unfold A0; trivial
theorem A0.one {I : AU} {n : Nd} {c : NC} (h : Bm I n c) : A0 I [n] [c] := A0.snoc h A0.nil
theorem Bm.kids {I : AU} {k : Nat} {nt : Bool} {kv : Value} {ks : List Nd} {cs : List NC} (h7 : Sl I 7 kv (cs.map A2)) (h8 : A0 I ks cs) : Bm I (.mk k nt false [] [] [] ks) ⟨k, nt, false, [], AO, AO, kv⟩ := Bm.of DP DP h7 h8
theorem B3 : Lh AO := ⟨rfl, rfl⟩
def J7 (s : List UInt8) (p : PS) (lv : Value) (I : AU) : Prop := S8 s p ∧ FC I ∧ Sl I 5 lv (p.line.map BZ)
theorem J7.mono {s : List UInt8} {p : PS} {lv : Value} {I J : AU} (h : J7 s p lv I) (Ec : Le I J) : J7 s p lv J := ⟨h.1, h.2.1.mono Ec, h.2.2.mono Ec⟩
def U6 {α : Type} (b : Nat) (s : List UInt8) (p : PS) (I : AU) (F : List HA) (V : AU → PS → α → Value → Prop) (δ : Nat) (R : CC α) (v : Value) (I' : AU) (H' : List HA) : Prop :=
 Le I I' ∧ ∃ x q lv', R = .ok x q ∧ Bp s q + δ ≤ Bp s p ∧ J7 s q lv' I' ∧ V I' q x v ∧ H' = row b 58 (CO s lv' q.next) :: F
def ABV {α : Type} (I : AU) (F : List HA) (R : CC α) (ch : List PanicEntry) (I' : AU) (H' : List HA) : Prop :=
 Le I I' ∧ F = H' ∧ ∃ a e, R = .bad a e ∧ ch = chn (TO a e)
def D8 {α : Type} (f : FuncId) (b : Nat) (s : List UInt8) (args : List Value) (m : PS → CC α) (V : AU → PS → α → Value → Prop) (δ : Nat) : Prop :=
 ∀ (p : PS) (lv : Value) (I : AU) (F : List HA) (w0 w : World) (R : CC α), R = m p → J7 s p lv I → St w0 I (row b 58 (CO s lv p.next) :: F) w →
  F5 Tryz.prog f (FK b :: args).toArray w (U6 b s p I F V δ R) (ABV I F R)
def AJJ (s : List UInt8) : AU → PS → CX → Value → Prop := fun _ q x v => x = AP s q ∧ CH s q ∧ v = .agg (BZ x).toArray
def AHT : AU → PS → CX → Value → Prop := fun _ _ x v => v = .agg (BZ x).toArray
def Ws (s : List UInt8) (b : CX → Bool) : AU → PS → CX → Value → Prop := fun _ q t v => t = AP s q ∧ CH s q ∧ v = .bool (b t)
def ZN : AU → PS → Unit → Value → Prop := fun _ _ _ v => v = .tuple #[]
def YW (s : List UInt8) : AU → PS → Unit → Value → Prop := fun _ q _ v => v = .tuple #[] ∧ CH s q ∧ (AP s q).kind ≠ 3
def AJx (s : List UInt8) : AU → PS → List UInt8 → Value → Prop := fun _ _ x v => v = Bj x ∧ x.length ≤ s.length
def AJq : AU → PS → EK → Value → Prop := fun _ _ x v => v = .agg (BT x).toArray
def Fy : AU → PS → Nd → Value → Prop := fun I _ x v => ∃ c, v = .agg (A2 c).toArray ∧ Bm I x c
theorem Zf {w0 : World} {I : AU} {H : List HA} {v : Value} {l : List CX} {t : CX} {r : List CX} (h : Sl I 5 v (l.map BZ)) (hl : l = t :: r) : XH w0 I H (GN v).block ((GN v).off + 0 * 5) (BZ t) := h.rds (by rw [hl]; try rfl)
theorem AGu {w0 : World} {I : AU} {H : List HA} {v u : Value} {l : List CX} {t : CX} {r : List CX} {j : Nat} (h : Sl I 5 v (l.map BZ)) (hl : l = t :: r) (hu : (BZ t)[j]? = some u) : Rd w0 I H (GN v).block ((GN v).off + 0 * 5 + j) u := h.rd (i := 0) (by rw [hl]; try rfl) hu
theorem Er {p : PS} (h : ¬ p.line = []) : ∃ t r, p.line = t :: r := by
 cases hl : p.line with
 | nil => exact absurd hl h
 | cons t r => exact ⟨t, r, rfl⟩
theorem C5 (b : Nat) (s : List UInt8) (hs : s.length ≤ 65536) : D8 32 b s [] (C4 s) (AJJ s) 0 := by
 intro p lv I F w0 w R hR hp CE
 have hL := Le.refl I
 obtain ⟨M, hM⟩ : ∃ M, M = Bp s p := ⟨_, rfl⟩; unfold C4 Sj at hR; refine enter Tryz.func32 rfl Tryz.ntmps32 rfl (CE.self) (tr (le rfl (Ah rfl BL rfl) ?_)); rintro _ _ _ ⟨b2, rfl, rfl, rfl⟩; refine AI (H' := row b2 73 (BZ BV) :: _) ?_ (fun _ h => h); refine Gb (AR (A8 (ι := PS × Value × AU × Nat) (fun zz => Le I zz.2.2.1 ∧ J7 s zz.1 zz.2.1 zz.2.2.1 ∧ Bp s zz.1 ≤ Bp s p ∧ s.length - zz.1.next < zz.2.2.2 ∧ R = Cf (HJ s zz.2.2.2) (fun _ q => CC.ok (AP s q) q) zz.1) (fun zz => s.length - zz.1.next) (fun zz => []) [(0, _), (2, _)] (fun zz => zz.2.2.1) (fun zz => (row b2 73 (BZ BV) :: row b 58 (CO s zz.2.1 zz.1.next) :: F)) (p, lv, I, s.length - p.next + 1) ?_ (AW) (AB rfl) (fun _ h => AA h) ?_))
 ·dsimp only; exact ⟨hL, hp, Nat.le_refl _, Nat.lt_succ_self _, hR⟩
 rintro ⟨p, lv, J, g⟩ ⟨hL, hp, I4, hg, hR⟩; dsimp only at *; refine AN (AN (CI mo (by kernel_rfl) (fun _ _ _ _ _ h => h) (AK 3 rfl (sq rfl (AZ rfl rfl (by rfl)) ?_)))); refine sq rfl ((by exact CN rfl Dx rfl (Sl.lenOf hp.2.2 (List.length_map _)))) ?_; refine AK 2 rfl ?_
 refine BA 10 6 13 24 23 _ _ rfl rfl rfl rfl rfl rfl (fun P8 => by
   simp at P8
   refine AJ 3 rfl (sg rfl (AZ rfl rfl (by rfl)) ?_); refine AJ 3 rfl (sg rfl (AZ rfl rfl (by rfl)) ?_); refine sg rfl (Ap rfl CW rfl) (AJ 1 rfl ?_); exact Ao rfl
  ) (AM rfl) rfl rfl rfl ?_
 refine Cy (AF rfl (fun hc0 => ?_) (fun hc0 => ?_))
 ·have hc : p.line = [] ∧ p.next < s.length := by
   have h := hc0
   simp only [Bool.and_eq_true, decide_eq_true_eq] at h; exact ⟨List.length_eq_zero_iff.1 (by omega), by omega⟩
  obtain ⟨g, rfl⟩ : ∃ g', g = g' + 1 := ⟨g - 1, by omega⟩
  have Dh := WR hc hR
  refine Al (AR (AN (DH [8] [] [] mo (by kernel_rfl) (fun _ _ _ _ _ h => h) (Bg [0, 1, 2] (by kernel_rfl) rfl rfl rfl (IC 3 (by kernel_rfl) rfl rfl (AZ rfl rfl (by rfl)) ?_))))); refine Bg [4, 5, 6] (by kernel_rfl) rfl rfl rfl (IC 7 (by kernel_rfl) rfl rfl (AZ rfl rfl (by rfl)) ?_); refine re 8 (by kernel_rfl) rfl (Le.refl _) rfl (ec rfl rfl rfl (fun w hw => TZ s (p.next : Int) _ _ _ w (by omega) hp.2.1 hw)) ?_; rintro _ J _ ⟨hJ, rfl, vl34, rfl, ACa⟩; refine ⟨hJ, .inr CY.sub, ?_⟩
  have hL := hL.trans hJ
  refine Bg [9, 10, 11, 12, 13, 14, 15, 16, 17] (by kernel_rfl) rfl rfl rfl (D3 (by kernel_rfl) (Ai (AN (Ar rfl (AF rfl (fun BI => ?_) (fun BI => ?_))))))
  ·simp at BI
   have he : (B9 s p.next).err ≠ 0 := by omega
   refine AH (AC 2 rfl (lq rfl (A6 (pl := [(_, _), (_, _)]) (cs := ([.int .i64 ((B9 s p.next).place : Int), .int .i64 ((B9 s p.next).err : Int)]).toArray) rfl Pt W4 ⟨rfl, ⟨_, _, B0⟩, rfl, ⟨_, _, Mp⟩, trivial⟩ rfl rfl) (lq rfl (HT rfl Pt rfl rfl) (M1 rfl rfl rfl (AL (Aj (AL (Aj (AL (?_))))))))))
   exact Am fun w hw => .inr ⟨_, rfl, J, _, ⟨hL, rfl, _, _, Dh.2 he, rfl⟩, AA hw⟩
  ·simp at BI
   have he : (B9 s p.next).err = 0 := by omega
   have XJ := VU hp.1 hc he
   refine Al (AH (AC 6 rfl ?_)); refine An rfl rfl (Ac rfl UM rfl rfl (by exact ACa.one) rfl (by rfl)) ?_; rintro _ _ _ ⟨rfl, rfl⟩; refine AC 2 rfl ?_; refine An rfl rfl (Ac rfl B0 rfl rfl (by exact ⟨rfl, rfl⟩) rfl (by rfl)) ?_; rintro _ _ _ ⟨rfl, rfl⟩; refine AI (H' := row b 58 (CO s vl34 (B9 s p.next).fin) :: _) ?_ (fun _ h => h); refine BX (AV (Ak ((⟨(B9 s p.next).toks, (B9 s p.next).fin⟩, vl34, J, g)) ?_ ?_ (AW) (AB rfl) (fun _ h => by dsimp only; exact AA h)))
   ·dsimp only; exact ⟨hL, ⟨XJ.1, hp.2.1.mono hJ, ACa⟩, Nat.le_trans XJ.2.1 I4, by have := XJ.2.2; omega, Dh.1 he⟩
   ·dsimp only; exact XJ.2.2
 ·have hc : CH s p := fun ⟨h1, h2⟩ => by
   have h := hc0
   rw [Bool.and_eq_false_iff, decide_eq_false_iff_not, decide_eq_false_iff_not] at h; rcases h with h | h
   ·exact h (by rw [h1]; try rfl)
   ·omega
  have hR := W6 hc hR
  refine BB (AG (AG (AQ (Ai (AN (tr (AC 3 rfl (lq rfl (AZ rfl rfl (by rfl)) ?_)))))))); refine lq rfl ((by exact CN rfl Dx rfl (Sl.lenOf hp.2.2 (List.length_map _)))) ?_; refine Ae rfl (AF rfl (fun BU => ?_) (fun BU => ?_))
  ·simp at BU
   have Jj : p.line = [] := by simpa using BU
   have hh := F4 (s := s) Jj
   refine tr (AC 3 rfl (lq rfl (AZ rfl rfl (by rfl)) ?_)); refine lq rfl (Ap rfl CW rfl) (lq rfl (A6 (pl := [(_, _), (_, _), (_, _), (_, _), (_, _)]) (cs := (BZ (PR s)).toArray) rfl Cz BL ⟨rfl, ⟨_, _, B0⟩, rfl, ⟨_, _, CU⟩, rfl, ⟨_, _, B0⟩, rfl, ⟨_, _, CU⟩, rfl, ⟨_, _, De⟩, trivial⟩ rfl rfl) (An rfl rfl ((by exact AE rfl BL rfl rfl rfl (by exact A4 _) rfl)) ?_)); rintro _ _ _ ⟨rfl, rfl⟩; refine ln (Aq (Ag (A3 (.inl rfl) rfl (by exact BK rfl Cz BL rfl rfl (BJ)) (fun w' hw => ?_)))); exact .inl ⟨_, rfl, J, _, ⟨hL, _, p, lv, hR, by omega, hp, ⟨rfl, hc, by rw [hh]; try rfl⟩, rfl⟩, AA hw⟩
  ·simp at BU
   obtain ⟨t0, r0, Jj⟩ := Er (p := p) (fun h => by rw [h] at BU; simp at BU)
   have hh := Db (s := s) Jj
   have Gw : 0 < p.line.length := List.length_pos_iff.2 (by rw [Jj]; simp)
   refine Al (tr (AC 3 rfl (lq rfl (AZ rfl rfl (by rfl)) ?_))); refine lq rfl ((by exact A5 rfl Dx BL rfl rfl (Sl.shape hp.2.2 (List.length_map _)) (by omega))) ?_; refine lq rfl ((by exact Bc rfl Cz BL rfl rfl (Zf hp.2.2 Jj))) ?_; refine An rfl rfl ((by exact AE rfl BL rfl rfl rfl (by exact A4 _) rfl)) ?_; rintro _ _ _ ⟨rfl, rfl⟩; refine ln (Aq (A3 (.inl rfl) rfl (by exact BK rfl Cz BL rfl rfl (BJ)) (fun w' hw => ?_))); exact .inl ⟨_, rfl, J, _, ⟨hL, _, p, lv, hR, by omega, hp, ⟨rfl, hc, by rw [hh]; try rfl⟩, rfl⟩, AA hw⟩
theorem F2 (b : Nat) (s : List UInt8) (p : PS) (lv : Value) (w : World) (hs : s.length ≤ 65536) (hf : CH s p) (hp : S8 s p) (hb : KP (BF w) b (CO s lv p.next)) (Kh : Sl (BF w) 5 lv (p.line.map BZ)) : Cw Tryz.prog 32 [FK b] w (.agg (BZ (AP s p)).toArray) := by
 refine enter Tryz.func32 rfl Tryz.ntmps32 rfl (St.start w (BF w) (Le.refl _)) (tr (le rfl (Ah rfl BL rfl) ?_)); rintro _ _ _ ⟨b2, rfl, rfl, rfl⟩; refine AI (H' := row b2 73 (BZ BV) :: _) ?_ (fun _ h => h); refine Gb (AR (A8 (ι := Unit) (fun _ => True) (fun _ => 0) (fun _ => []) [(0, _), (2, _)] (fun _ => BF w) (fun _ => (row b2 73 (BZ BV) :: [])) () ?_ (AW) (AB rfl) (fun _ h => AA h) ?_))
 ·dsimp only
  all_goals trivial
 rintro _ _; refine AN (AN (CI mo (by kernel_rfl) (fun _ _ _ _ _ h => h) (AK 3 rfl (sq rfl ((by exact B1 rfl rfl (B2 (hb 1 _ rfl)))) ?_)))); refine sq rfl ((by exact CN rfl Dx rfl (Sl.lenOf Kh (List.length_map _)))) ?_; refine AK 2 rfl ?_
 refine BA 10 6 13 24 23 _ _ rfl rfl rfl rfl rfl rfl (fun P8 => by
   simp at P8
   refine AJ 3 rfl (sg rfl ((by exact B1 rfl rfl (B2 (hb 2 _ rfl)))) ?_); refine AJ 3 rfl (sg rfl ((by exact B1 rfl rfl (B2 (hb 0 _ rfl)))) ?_); refine sg rfl (Ap rfl CW rfl) (AJ 1 rfl ?_); exact Ao rfl
  ) (AM rfl) rfl rfl rfl ?_
 refine Cy (AF rfl (fun hc0 => ?_) (fun hc0 => ?_))
 ·exfalso
  have h := hc0
  simp only [Bool.and_eq_true, decide_eq_true_eq] at h; exact hf ⟨List.length_eq_zero_iff.1 (by omega), by omega⟩
 ·refine BB (AG (AG (AQ (Ai (AN (tr (AC 3 rfl (lq rfl ((by exact B1 rfl rfl (B2 (hb 1 _ rfl)))) ?_)))))))); refine lq rfl ((by exact CN rfl Dx rfl (Sl.lenOf Kh (List.length_map _)))) ?_; refine Ae rfl (AF rfl (fun BI => ?_) (fun BI => ?_))
  ·simp at BI
   have Jj : p.line = [] := by simpa using BI
   have hh := F4 (s := s) Jj
   refine tr (AC 3 rfl (lq rfl ((by exact B1 rfl rfl (B2 (hb 0 _ rfl)))) ?_)); refine lq rfl (Ap rfl CW rfl) (lq rfl (A6 (pl := [(_, _), (_, _), (_, _), (_, _), (_, _)]) (cs := (BZ (PR s)).toArray) rfl Cz BL ⟨rfl, ⟨_, _, B0⟩, rfl, ⟨_, _, CU⟩, rfl, ⟨_, _, B0⟩, rfl, ⟨_, _, CU⟩, rfl, ⟨_, _, De⟩, trivial⟩ rfl rfl) (An rfl rfl ((by exact AE rfl BL rfl rfl rfl (by exact A4 _) rfl)) ?_)); rintro _ _ _ ⟨rfl, rfl⟩; refine ln (Aq (Ag (A3 (.inl rfl) rfl (by exact BK rfl Cz BL rfl rfl (BJ)) (fun w' hw => ?_)))); refine ⟨?_, hw.below⟩
   rw [hh]; try rfl
  ·simp at BI
   obtain ⟨t0, r0, Jj⟩ := Er (p := p) (fun h => by rw [h] at BI; simp at BI)
   have hh := Db (s := s) Jj
   have Gw : 0 < p.line.length := List.length_pos_iff.2 (by rw [Jj]; simp)
   refine Al (tr (AC 3 rfl (lq rfl ((by exact B1 rfl rfl (B2 (hb 1 _ rfl)))) ?_))); refine lq rfl ((by exact A5 rfl Dx BL rfl rfl (Sl.shape Kh (List.length_map _)) (by omega))) ?_; refine lq rfl ((by exact Bc rfl Cz BL rfl rfl (Zf Kh Jj))) ?_; refine An rfl rfl ((by exact AE rfl BL rfl rfl rfl (by exact A4 _) rfl)) ?_; rintro _ _ _ ⟨rfl, rfl⟩; refine ln (Aq (A3 (.inl rfl) rfl (by exact BK rfl Cz BL rfl rfl (BJ)) (fun w' hw => ?_))); refine ⟨?_, hw.below⟩
   rw [hh]; try rfl
theorem IK {x : List UInt8} {t : CX} : (decide ((t.kind : Int) = 2) && decide (t.text = x)) = C8 x t := by
 unfold C8; rw [show decide ((t.kind : Int) = 2) = decide (t.kind = 2) by by_cases h : t.kind = 2 <;> simp [h] <;> omega]
theorem Sq {x : List UInt8} {t : CX} : (decide ((t.kind : Int) = 1) && decide (t.text = x)) = Bu x t := by
 unfold Bu; rw [show decide ((t.kind : Int) = 1) = decide (t.kind = 1) by by_cases h : t.kind = 1 <;> simp [h] <;> omega]
theorem OU {t : CX} : (decide ((t.kind : Int) = 4) || (decide ((t.kind : Int) = 2) && Dy Hq t.text)) = Cj t := by
 unfold Cj; rw [show decide ((t.kind : Int) = 2) = decide (t.kind = 2) by by_cases h : t.kind = 2 <;> simp [h] <;> omega, show decide ((t.kind : Int) = 4) = decide (t.kind = 4) by by_cases h : t.kind = 4 <;> simp [h] <;> omega]
theorem UZ {t : CX} : ((decide ((t.kind : Int) = 1) && !Dy G4 t.text) || C8 [40] t || Cj t) = E5 t := by
 unfold E5; rw [show decide ((t.kind : Int) = 1) = decide (t.kind = 1) by by_cases h : t.kind = 1 <;> simp [h] <;> omega]
theorem Gy (b : Nat) (s x : List UInt8) (p : PS) (lv : Value) (w : World) (hs : s.length ≤ 65536) (hf : CH s p) (hp : S8 s p) (hb : KP (BF w) b (CO s lv p.next)) (Kh : Sl (BF w) 5 lv (p.line.map BZ)) : Cw Tryz.prog 52 [FK b, Bj x] w (.bool (C8 x (AP s p))) := by
 refine enter Tryz.func52 rfl Tryz.ntmps52 rfl (St.start w (BF w) (Le.refl _)) (Ar rfl (tr (AC 1 rfl (lq rfl (qc rfl rfl rfl ((fun w hw => F2 b s p lv w hs hf hp (hb.mono hw.le) (Kh.mono hw.le)))) (le rfl (Ah rfl BL rfl) ?_))))); rintro _ _ _ ⟨b5, rfl, rfl, rfl⟩; refine An rfl rfl ((by exact AE rfl BL rfl rfl rfl (by exact A4 _) rfl)) ?_; rintro _ _ _ ⟨rfl, rfl⟩; refine AI (H' := row b5 73 (BZ (AP s p)) :: _) ?_ (fun _ h => h); refine Gb (Dw (AK 1 rfl (sq rfl (AZ rfl rfl (by rfl)) ?_))); refine AK 2 rfl ?_
 refine BA 4 3 11 16 15 _ _ rfl rfl rfl rfl rfl rfl (fun V5 => by
   simp at V5
   refine AJ 1 rfl (sg rfl (AZ rfl rfl (by rfl)) ?_); refine AJ 1 rfl (sg rfl (BM rfl rfl rfl) ?_); exact Ao rfl
  ) (AM rfl) rfl rfl rfl ?_
 refine AK 1 rfl (Cy (Aq (A1 rfl rfl (fun w' hw => ?_)))); refine ⟨?_, hw.below⟩; rw [← IK]
theorem Gv (b : Nat) (s : List UInt8) (hs : s.length ≤ 65536) (x : List UInt8) : D8 52 b s [Bj x] (C4 s) (Ws s (C8 x)) 0 := by
 intro p lv I F w0 w R hR hp CE
 have hL := Le.refl I
 obtain ⟨M, hM⟩ : ∃ M, M = Bp s p := ⟨_, rfl⟩; refine enter Tryz.func52 rfl Tryz.ntmps52 rfl (CE.self) (Ar rfl (tr (AC 1 rfl (B7 rfl rfl rfl (Aa rfl rfl rfl Tryz.func32 (by kernel_rfl) rfl (fun w hw => C5 b s hs p lv _ _ _ w _ rfl hp (AD (row b 58 (CO s lv p.next)) hw))) ?_ ?_))))
 ·rintro _ Jx _ ⟨Br, rfl, ax, ex, Bs, rfl⟩; rw [Bs] at hR; refine AL (?_)
  exact Am fun w hw => .inr ⟨_, rfl, Jx, _, ⟨hL.trans Br, rfl, ax, ex, hR, rfl⟩, AA hw⟩
 rintro v7 J _ ⟨hJ, x7, p, lv, UT, SH, hp, ⟨rfl, hf, rfl⟩, rfl⟩
 have hL := hL.trans hJ
 rw [UT] at hR; refine le rfl (Ah rfl BL rfl) ?_; rintro _ _ _ ⟨b5, rfl, rfl, rfl⟩; refine An rfl rfl ((by exact AE rfl BL rfl rfl rfl (by exact A4 _) rfl)) ?_; rintro _ _ _ ⟨rfl, rfl⟩; refine AI (H' := row b5 73 (BZ (AP s p)) :: _) ?_ (fun _ h => h); refine Gb (Dw (AK 1 rfl (sq rfl (AZ rfl rfl (by rfl)) ?_))); refine AK 2 rfl ?_
 refine BA 4 3 11 16 15 _ _ rfl rfl rfl rfl rfl rfl (fun V5 => by
   simp at V5
   refine AJ 1 rfl (sg rfl (AZ rfl rfl (by rfl)) ?_); refine AJ 1 rfl (sg rfl (BM rfl rfl rfl) ?_); exact Ao rfl
  ) (AM rfl) rfl rfl rfl ?_
 refine AK 1 rfl (Cy (Aq (A1 rfl rfl (fun w' hw => ?_)))); exact .inl ⟨_, rfl, J, _, ⟨hL, _, p, lv, hR, (by omega), hp, ⟨rfl, hf, congrArg Value.bool IK⟩, rfl⟩, AA hw⟩
theorem Ey (b : Nat) (s x : List UInt8) (p : PS) (lv : Value) (w : World) (hs : s.length ≤ 65536) (hf : CH s p) (hp : S8 s p) (hb : KP (BF w) b (CO s lv p.next)) (Kh : Sl (BF w) 5 lv (p.line.map BZ)) : Cw Tryz.prog 91 [FK b, Bj x] w (.bool (Bu x (AP s p))) := by
 refine enter Tryz.func91 rfl Tryz.ntmps91 rfl (St.start w (BF w) (Le.refl _)) (Ar rfl (tr (AC 1 rfl (lq rfl (qc rfl rfl rfl ((fun w hw => F2 b s p lv w hs hf hp (hb.mono hw.le) (Kh.mono hw.le)))) (le rfl (Ah rfl BL rfl) ?_))))); rintro _ _ _ ⟨b5, rfl, rfl, rfl⟩; refine An rfl rfl ((by exact AE rfl BL rfl rfl rfl (by exact A4 _) rfl)) ?_; rintro _ _ _ ⟨rfl, rfl⟩; refine AI (H' := row b5 73 (BZ (AP s p)) :: _) ?_ (fun _ h => h); refine Gb (Dw (AK 1 rfl (sq rfl (AZ rfl rfl (by rfl)) ?_))); refine AK 2 rfl ?_
 refine BA 4 3 11 16 15 _ _ rfl rfl rfl rfl rfl rfl (fun V5 => by
   simp at V5
   refine AJ 1 rfl (sg rfl (AZ rfl rfl (by rfl)) ?_); refine AJ 1 rfl (sg rfl (BM rfl rfl rfl) ?_); exact Ao rfl
  ) (AM rfl) rfl rfl rfl ?_
 refine AK 1 rfl (Cy (Aq (A1 rfl rfl (fun w' hw => ?_)))); refine ⟨?_, hw.below⟩; rw [← Sq]
theorem L9 (b : Nat) (s : List UInt8) (hs : s.length ≤ 65536) (x : List UInt8) : D8 91 b s [Bj x] (C4 s) (Ws s (Bu x)) 0 := by
 intro p lv I F w0 w R hR hp CE
 have hL := Le.refl I
 obtain ⟨M, hM⟩ : ∃ M, M = Bp s p := ⟨_, rfl⟩; refine enter Tryz.func91 rfl Tryz.ntmps91 rfl (CE.self) (Ar rfl (tr (AC 1 rfl (B7 rfl rfl rfl (Aa rfl rfl rfl Tryz.func32 (by kernel_rfl) rfl (fun w hw => C5 b s hs p lv _ _ _ w _ rfl hp (AD (row b 58 (CO s lv p.next)) hw))) ?_ ?_))))
 ·rintro _ Jx _ ⟨Br, rfl, ax, ex, Bs, rfl⟩; rw [Bs] at hR; refine AL (?_)
  exact Am fun w hw => .inr ⟨_, rfl, Jx, _, ⟨hL.trans Br, rfl, ax, ex, hR, rfl⟩, AA hw⟩
 rintro v7 J _ ⟨hJ, x7, p, lv, UT, SH, hp, ⟨rfl, hf, rfl⟩, rfl⟩
 have hL := hL.trans hJ
 rw [UT] at hR; refine le rfl (Ah rfl BL rfl) ?_; rintro _ _ _ ⟨b5, rfl, rfl, rfl⟩; refine An rfl rfl ((by exact AE rfl BL rfl rfl rfl (by exact A4 _) rfl)) ?_; rintro _ _ _ ⟨rfl, rfl⟩; refine AI (H' := row b5 73 (BZ (AP s p)) :: _) ?_ (fun _ h => h); refine Gb (Dw (AK 1 rfl (sq rfl (AZ rfl rfl (by rfl)) ?_))); refine AK 2 rfl ?_
 refine BA 4 3 11 16 15 _ _ rfl rfl rfl rfl rfl rfl (fun V5 => by
   simp at V5
   refine AJ 1 rfl (sg rfl (AZ rfl rfl (by rfl)) ?_); refine AJ 1 rfl (sg rfl (BM rfl rfl rfl) ?_); exact Ao rfl
  ) (AM rfl) rfl rfl rfl ?_
 refine AK 1 rfl (Cy (Aq (A1 rfl rfl (fun w' hw => ?_)))); exact .inl ⟨_, rfl, J, _, ⟨hL, _, p, lv, hR, (by omega), hp, ⟨rfl, hf, congrArg Value.bool Sq⟩, rfl⟩, AA hw⟩
theorem Gs (b : Nat) (s : List UInt8) (hs : s.length ≤ 65536) : D8 35 b s [] (Kz s) AHT 0 := by
 intro p lv I F w0 w R hR hp CE
 have hL := Le.refl I
 obtain ⟨M, hM⟩ : ∃ M, M = Bp s p := ⟨_, rfl⟩; unfold Kz at hR; refine enter Tryz.func35 rfl Tryz.ntmps35 rfl (CE.self) (tr (le rfl (Ah rfl BL rfl) ?_)); rintro _ _ _ ⟨b2, rfl, rfl, rfl⟩; refine BQ (AC 1 rfl (B7 rfl rfl rfl (Aa rfl rfl rfl Tryz.func32 (by kernel_rfl) rfl (fun w hw => C5 b s hs p lv _ _ _ w _ rfl hp (AD (row b 58 (CO s lv p.next)) hw))) ?_ ?_))
 ·rintro _ Jx _ ⟨Br, rfl, ax, ex, Bs, rfl⟩; rw [Ay Bs] at hR; refine AL (?_)
  exact Am fun w hw => .inr ⟨_, rfl, Jx, _, ⟨hL.trans Br, rfl, ax, ex, hR, rfl⟩, AA hw⟩
 rintro v5 J _ ⟨hJ, x5, p, lv, he5, AGW, hp, ⟨rfl, hf, rfl⟩, rfl⟩
 have hL := hL.trans hJ
 rw [AY he5] at hR; refine le rfl (Ah rfl BL rfl) ?_; rintro _ _ _ ⟨b3, rfl, rfl, rfl⟩; refine An rfl rfl ((by exact AE rfl BL rfl rfl rfl (by exact A4 _) rfl)) ?_; rintro _ _ _ ⟨rfl, rfl⟩; refine AI (H' := row b3 73 (BZ (AP s p)) :: _) ?_ (fun _ h => h); refine K6 (AC 3 rfl (lq rfl (AZ rfl rfl (by rfl)) ?_)); refine lq rfl ((by exact CN rfl Dx rfl (Sl.lenOf hp.2.2 (List.length_map _)))) ?_; refine Ae rfl (AF rfl (fun hc0 => ?_) (fun hc0 => ?_))
 ·simp at hc0
  have Gw : 0 < p.line.length := by omega
  have ALj := Sl.dropM hp.2.2 rfl (show 1 ≤ p.line.length by omega)
  refine AH (AC 4 rfl (lq rfl (AZ rfl rfl (by rfl)) ?_)); refine lq rfl ((by exact IR rfl Dx BL rfl rfl (Sl.lenOf hp.2.2 (List.length_map _)) (by omega))) ?_; refine AC 2 rfl ?_; refine An rfl rfl (Ac rfl UM rfl rfl (by exact (Sl.dropM hp.2.2 rfl (by omega)).one) rfl (by rfl)) ?_; rintro _ _ _ ⟨rfl, rfl⟩; refine AI (H' := row b 58 (CO s (OS 5 1 p.line.length lv) p.next) :: _) ?_ (fun _ h => h); refine BQ (lq rfl (Af rfl Cz BL rfl rfl rfl) (An rfl rfl ((by exact AE rfl BL rfl rfl rfl (by exact A4 _) rfl)) ?_)); rintro _ _ _ ⟨rfl, rfl⟩; refine ln (Aq (A3 (.inl rfl) rfl (by exact BK rfl Cz BL rfl rfl (BJ)) (fun w' hw => ?_)))
  have hp2 : J7 s (BE p) (OS 5 1 p.line.length lv) J := ⟨hp.1.step, hp.2.1, ALj⟩
  have hm0 := SB (s := s) (p := p)
  refine .inl ⟨_, rfl, J, _, ⟨hL, _, BE p, _, hR, by omega, hp2, rfl, rfl⟩, ?_⟩; exact (AA hw : St _ _ (row b 58 (CO s (OS 5 1 p.line.length lv) p.next) :: F) _)
 ·simp at hc0
  have Gw : p.line = [] := by simpa using hc0
  have QU : BE p = p := by unfold BE; rw [Gw]; cases p; simp_all
  refine Al (tr (lq rfl (Af rfl Cz BL rfl rfl rfl) (An rfl rfl ((by exact AE rfl BL rfl rfl rfl (by exact A4 _) rfl)) ?_))); rintro _ _ _ ⟨rfl, rfl⟩; refine ln (Aq (A3 (.inl rfl) rfl (by exact BK rfl Cz BL rfl rfl (BJ)) (fun w' hw => ?_))); rw [QU] at hR; exact .inl ⟨_, rfl, J, _, ⟨hL, _, p, lv, hR, (by omega), hp, rfl, rfl⟩, AA hw⟩
theorem Ds (b : Nat) (s : List UInt8) (p : PS) (lv : Value) (hs : s.length ≤ 65536) (I : AU) (F : List HA) (w0 w : World) (hf : CH s p) (hp : J7 s p lv I) (CE : St w0 I (row b 58 (CO s lv p.next) :: F) w) : F5 Tryz.prog 34 [FK b].toArray w (fun _ _ _ => False) (fun ch I' H' => Le I I' ∧ F = H' ∧ ch = chn (TO (AP s p).pos 56)) := by
 refine enter Tryz.func34 rfl Tryz.ntmps34 rfl (CE.self) (AH (AC 1 rfl (lq rfl (qc rfl rfl rfl ((fun w hw => F2 b s p lv w hs hf hp.1 (Bn hw) (hp.2.2.mono hw.le)))) (lq rfl (DT rfl Cz rfl Li rfl rfl rfl) (lq rfl (A6 (pl := [(_, _), (_, _)]) (cs := ([.int .i64 ((AP s p).pos : Int), .int .i64 56]).toArray) rfl Pt W4 ⟨rfl, ⟨_, _, B0⟩, rfl, ⟨_, _, Mp⟩, trivial⟩ rfl rfl) (lq rfl (HT rfl Pt rfl rfl) (M1 rfl rfl rfl ?_))))))); refine ?_
 exact Am fun w hw => .inr ⟨_, rfl, I, _, ⟨Le.refl _, rfl, rfl⟩, AA hw⟩
end Go.Tri

namespace Go.Tri
open Go.Proofs Go.RowKit
set_option maxRecDepth 10000
theorem Bv (b : Nat) (s : List UInt8) (hs : s.length ≤ 65536) (p : PS) (lv : Value) (I : AU) (F : List HA) (w0 w : World) (hf : CH s p) (hp : J7 s p lv I) (CE : St w0 I (row b 58 (CO s lv p.next) :: F) w) :
  Calls Tryz.prog 35 [FK b].toArray w (fun e w' => ∃ v, e = .returned v ∧ ∃ I' H', (Le I I' ∧ v = .agg (BZ (AP s p)).toArray ∧ ∃ q lv', q = BE p ∧ Bp s q ≤ Bp s p ∧ ((AP s p).kind ≠ 0 → Bp s q + 1 ≤ Bp s p) ∧ J7 s q lv' I' ∧ H' = row b 58 (CO s lv' q.next) :: F) ∧ St w I' H' w') := by
 refine Calls.mono (Gs b s hs p lv I F w0 w _ rfl hp CE) fun e w' h => ?_
 rcases h with ⟨v, h1, I', H', ⟨h2, x, q, lv', h3, h4, h5, h6, h7⟩, h8⟩ | ⟨ch, h1, I', H', ⟨_, _, a, e, h3, _⟩, _⟩
 ·rw [FM hf] at h3
  cases h3
  exact ⟨v, h1, I', H', ⟨h2, h6, _, lv', rfl, SB, CP, h5, h7⟩, h8⟩
 ·rw [FM hf] at h3
  cases h3
theorem G1 (ws t : List UInt8) (w : World) (h1 : ws.length ≤ 1000) (h2 : t.length ≤ 1000000) (hG : FC (BF w)) : Cw Tryz.prog 118 [Bj ws, Bj t] w (.bool (Dy ws t)) := by
 refine enter Tryz.func118 rfl Tryz.ntmps118 rfl (St.start w (BF w) (Le.refl _)) (Ar rfl (tq (AK 1 rfl (sq rfl (C7 rfl rfl rfl) (AK 1 rfl ?_)))))
 refine BA 3 2 7 11 10 _ _ rfl rfl rfl rfl rfl rfl (fun h11 => by
   simp at h11
   refine AJ 1 rfl (sg rfl (qc rfl rfl rfl ((fun w hw => Hi t [32] w (by omega) (hG.mono hw.le)))) ?_); refine AJ 1 rfl ?_; exact Ao rfl
  ) (AM rfl) rfl rfl rfl ?_
 refine AK 1 rfl ?_
 refine BA 7 7 12 20 19 _ _ rfl rfl rfl rfl rfl rfl (fun YR => by
   simp at YR
   refine AJ 1 rfl (sg rfl (Dk rfl rfl rfl (by (simp only [List.length_cons, List.length_nil]; omega))) ?_); refine sg rfl (Dk rfl rfl rfl (by (simp only [List.length_append, List.length_cons, List.length_nil]; omega))) ?_; refine AJ 1 rfl (sg rfl (Dk rfl rfl rfl (by (simp only [List.length_cons, List.length_nil]; omega))) ?_); refine sg rfl (Dk rfl rfl rfl (by (simp only [List.length_append, List.length_cons, List.length_nil]; omega))) ?_; refine sg rfl (qc rfl rfl rfl ((fun w hw => Hi ([32] ++ ws ++ [32]) ([32] ++ t ++ [32]) w (by simp only [List.length_append, List.length_cons, List.length_nil]; omega) (hG.mono hw.le)))) ?_; exact Ao rfl
  ) (AM rfl) rfl rfl rfl ?_
 refine AK 1 rfl (Cy (Aq (A1 rfl rfl (fun w' hw => ?_)))); exact ⟨rfl, hw.below⟩
theorem Hv (b : Nat) (s : List UInt8) (p : PS) (lv : Value) (w : World) (hs : s.length ≤ 65536) (hf : CH s p) (hp : S8 s p) (hG : FC (BF w)) (hb : KP (BF w) b (CO s lv p.next)) (Kh : Sl (BF w) 5 lv (p.line.map BZ)) : Cw Tryz.prog 150 [FK b] w (.bool (Cj (AP s p))) := by
 refine enter Tryz.func150 rfl Tryz.ntmps150 rfl (St.start w (BF w) (Le.refl _)) (Ar rfl (tr (AC 1 rfl (lq rfl (qc rfl rfl rfl ((fun w hw => F2 b s p lv w hs hf hp (hb.mono hw.le) (Kh.mono hw.le)))) (le rfl (Ah rfl BL rfl) ?_))))); rintro _ _ _ ⟨b3, rfl, rfl, rfl⟩; refine An rfl rfl ((by exact AE rfl BL rfl rfl rfl (by exact A4 _) rfl)) ?_; rintro _ _ _ ⟨rfl, rfl⟩; refine AI (H' := row b3 73 (BZ (AP s p)) :: _) ?_ (fun _ h => h); refine Gb (Dw (AK 1 rfl (sq rfl (AZ rfl rfl (by rfl)) ?_))); refine AK 2 rfl ?_
 refine Bf 8 3 9 18 17 _ _ rfl rfl rfl rfl rfl rfl (fun h18 => by
   simp at h18
   refine AJ 1 rfl (sg rfl (AZ rfl rfl (by rfl)) ?_); refine AJ 2 rfl ?_
   refine BA 3 7 13 17 16 _ _ rfl rfl rfl rfl rfl rfl (fun h17 => by
     simp at h17
     refine AJ 1 rfl (sg rfl (AZ rfl rfl (by rfl)) ?_); refine sg rfl (qc rfl rfl rfl ((fun w hw => G1 Hq (AP s p).text w (by decide) (by have := Dq hp; omega) (hG.mono hw.le)))) ?_; exact Ao rfl
    ) (Be rfl rfl rfl rfl) rfl rfl rfl ?_
   exact Ao rfl
  ) (AM rfl) rfl rfl rfl ?_
 refine AK 1 rfl (Cy (Aq (A1 rfl rfl (fun w' hw => ?_)))); refine ⟨?_, hw.below⟩; rw [← OU]
theorem H3 (b : Nat) (s : List UInt8) (hs : s.length ≤ 65536) : D8 150 b s [] (C4 s) (Ws s Cj) 0 := by
 intro p lv I F w0 w R hR hp CE
 have hL := Le.refl I
 obtain ⟨M, hM⟩ : ∃ M, M = Bp s p := ⟨_, rfl⟩; refine enter Tryz.func150 rfl Tryz.ntmps150 rfl (CE.self) (Ar rfl (tr (AC 1 rfl (B7 rfl rfl rfl (Aa rfl rfl rfl Tryz.func32 (by kernel_rfl) rfl (fun w hw => C5 b s hs p lv _ _ _ w _ rfl hp (AD (row b 58 (CO s lv p.next)) hw))) ?_ ?_))))
 ·rintro _ Jx _ ⟨Br, rfl, ax, ex, Bs, rfl⟩; rw [Bs] at hR; refine AL (?_)
  exact Am fun w hw => .inr ⟨_, rfl, Jx, _, ⟨hL.trans Br, rfl, ax, ex, hR, rfl⟩, AA hw⟩
 rintro v5 J _ ⟨hJ, x5, p, lv, he5, AGW, hp, ⟨rfl, hf, rfl⟩, rfl⟩
 have hL := hL.trans hJ
 rw [he5] at hR; refine le rfl (Ah rfl BL rfl) ?_; rintro _ _ _ ⟨b3, rfl, rfl, rfl⟩; refine An rfl rfl ((by exact AE rfl BL rfl rfl rfl (by exact A4 _) rfl)) ?_; rintro _ _ _ ⟨rfl, rfl⟩; refine AI (H' := row b3 73 (BZ (AP s p)) :: _) ?_ (fun _ h => h); refine Gb (Dw (AK 1 rfl (sq rfl (AZ rfl rfl (by rfl)) ?_))); refine AK 2 rfl ?_
 refine Bf 8 3 9 18 17 _ _ rfl rfl rfl rfl rfl rfl (fun h18 => by
   simp at h18
   refine AJ 1 rfl (sg rfl (AZ rfl rfl (by rfl)) ?_); refine AJ 2 rfl ?_
   refine BA 3 7 13 17 16 _ _ rfl rfl rfl rfl rfl rfl (fun h17 => by
     simp at h17
     refine AJ 1 rfl (sg rfl (AZ rfl rfl (by rfl)) ?_); refine sg rfl (qc rfl rfl rfl ((fun w hw => G1 Hq (AP s p).text w (by decide) (by have := Dq hp.1; omega) ((hp.2.1).mono hw.le)))) ?_; exact Ao rfl
    ) (Be rfl rfl rfl rfl) rfl rfl rfl ?_
   exact Ao rfl
  ) (AM rfl) rfl rfl rfl ?_
 refine AK 1 rfl (Cy (Aq (A1 rfl rfl (fun w' hw => ?_)))); exact .inl ⟨_, rfl, J, _, ⟨hL, _, p, lv, hR, (by omega), hp, ⟨rfl, hf, congrArg Value.bool OU⟩, rfl⟩, AA hw⟩
theorem Io (b : Nat) (s : List UInt8) (p : PS) (lv : Value) (w : World) (hs : s.length ≤ 65536) (hf : CH s p) (hp : S8 s p) (hG : FC (BF w)) (hb : KP (BF w) b (CO s lv p.next)) (Kh : Sl (BF w) 5 lv (p.line.map BZ)) : Cw Tryz.prog 168 [FK b] w (.bool (E5 (AP s p))) := by
 refine enter Tryz.func168 rfl Tryz.ntmps168 rfl (St.start w (BF w) (Le.refl _)) (Ar rfl (tr (AC 1 rfl (lq rfl (qc rfl rfl rfl ((fun w hw => F2 b s p lv w hs hf hp (hb.mono hw.le) (Kh.mono hw.le)))) (le rfl (Ah rfl BL rfl) ?_))))); rintro _ _ _ ⟨b3, rfl, rfl, rfl⟩; refine An rfl rfl ((by exact AE rfl BL rfl rfl rfl (by exact A4 _) rfl)) ?_; rintro _ _ _ ⟨rfl, rfl⟩; refine AI (H' := row b3 73 (BZ (AP s p)) :: _) ?_ (fun _ h => h); refine Gb (Dw (AK 1 rfl (sq rfl (AZ rfl rfl (by rfl)) ?_))); refine AK 2 rfl ?_
 refine BA 4 3 9 14 13 _ _ rfl rfl rfl rfl rfl rfl (fun h14 => by
   simp at h14
   refine AJ 1 rfl (sg rfl (AZ rfl rfl (by rfl)) ?_); refine sg rfl (qc rfl rfl rfl ((fun w hw => G1 G4 (AP s p).text w (by decide) (by have := Dq hp; omega) (hG.mono hw.le)))) ?_; refine AJ 1 rfl ?_; exact Ao rfl
  ) (AM rfl) rfl rfl rfl ?_
 refine AK 1 rfl ?_
 refine Bf 2 9 15 18 17 _ _ rfl rfl rfl rfl rfl rfl (fun h18 => by
   simp at h18
   refine AJ 1 rfl (sg rfl (qc rfl rfl rfl ((fun w hw => Gy b s [40] p lv w hs hf hp (hb.mono hw.le) (Kh.mono hw.le)))) ?_); exact Ao rfl
  ) (AM rfl) rfl rfl rfl ?_
 refine AK 1 rfl ?_
 refine Bf 2 13 19 22 21 _ _ rfl rfl rfl rfl rfl rfl (fun Vp => by
   simp at Vp
   refine AJ 1 rfl (sg rfl (qc rfl rfl rfl ((fun w hw => Hv b s p lv w hs hf hp (hG.mono hw.le) (hb.mono hw.le) (Kh.mono hw.le)))) ?_); exact Ao rfl
  ) (AM rfl) rfl rfl rfl ?_
 refine AK 1 rfl (Cy (Aq (A1 rfl rfl (fun w' hw => ?_)))); refine ⟨?_, hw.below⟩; rw [← UZ]
theorem Gn (b : Nat) (s : List UInt8) (hs : s.length ≤ 65536) (x : List UInt8) : D8 144 b s [Bj x] (Ep s (C8 x)) ZN 1 := by
 intro p lv I F w0 w R hR hp CE
 have hL := Le.refl I
 obtain ⟨M, hM⟩ : ∃ M, M = Bp s p := ⟨_, rfl⟩; unfold Ep at hR; refine enter Tryz.func144 rfl Tryz.ntmps144 rfl (CE.self) (AN (tr (AC 2 rfl (B7 rfl rfl rfl (Aa rfl rfl rfl Tryz.func52 (by kernel_rfl) rfl (fun w hw => Gv b s hs x p lv _ _ _ w _ rfl hp (AD (row b 58 (CO s lv p.next)) hw))) ?_ ?_))))
 ·rintro _ Jx _ ⟨Br, rfl, ax, ex, Bs, rfl⟩; rw [Ay Bs] at hR; refine AL (AL (?_))
  exact Am fun w hw => .inr ⟨_, rfl, Jx, _, ⟨hL.trans Br, rfl, ax, ex, hR, rfl⟩, AA hw⟩
 rintro v6 J _ ⟨hJ, x6, p, lv, he6, ANx, hp, ⟨rfl, hf, rfl⟩, rfl⟩
 have hL := hL.trans hJ
 rw [AY he6] at hR; refine Ae rfl (AF rfl (fun hc0 => ?_) (fun hc0 => ?_))
 ·have Bs : ¬ C8 x (AP s p) = true := by simpa using hc0
  rw [if_neg Bs] at hR; refine AH (AC 1 rfl (B7 rfl rfl rfl (Aa rfl rfl rfl Tryz.func34 (by kernel_rfl) rfl (fun w hw => Ds b s p lv hs _ _ _ w hf hp (AD (row b 58 (CO s lv p.next)) hw))) ?_ ?_))
  ·rintro _ Jx _ ⟨Br, rfl, rfl⟩; refine AL (?_)
   exact Am fun w hw => .inr ⟨_, rfl, Jx, _, ⟨hL.trans Br, rfl, _, _, hR, rfl⟩, AA hw⟩
  rintro _ _ _ ⟨⟩
 ·have Bs : C8 x (AP s p) = true := by simpa using hc0
  rw [if_pos Bs] at hR; refine Al (AH (AC 1 rfl (Bw rfl rfl rfl rfl (fun w hw => Bv b s hs p lv _ _ _ w hf hp (AD (row b 58 (CO s lv p.next)) hw)) ?_))); rintro _ J _ ⟨hJ, rfl, p, lv, Rq, ACY, VJ, hp, rfl⟩
  have hL := hL.trans hJ
  rw [← Rq] at hR
  have EX := VJ (Bq Bs)
  refine BX (Cm rfl (fun w' hw => ?_)); exact .inl ⟨_, rfl, J, _, ⟨hL, _, p, lv, hR, (by omega), hp, rfl, rfl⟩, AA hw⟩
theorem DR (b : Nat) (s : List UInt8) (hs : s.length ≤ 65536) (x : List UInt8) : D8 145 b s [Bj x] (Ep s (Bu x)) ZN 1 := by
 intro p lv I F w0 w R hR hp CE
 have hL := Le.refl I
 obtain ⟨M, hM⟩ : ∃ M, M = Bp s p := ⟨_, rfl⟩; unfold Ep at hR; refine enter Tryz.func145 rfl Tryz.ntmps145 rfl (CE.self) (AN (tr (AC 2 rfl (B7 rfl rfl rfl (Aa rfl rfl rfl Tryz.func91 (by kernel_rfl) rfl (fun w hw => L9 b s hs x p lv _ _ _ w _ rfl hp (AD (row b 58 (CO s lv p.next)) hw))) ?_ ?_))))
 ·rintro _ Jx _ ⟨Br, rfl, ax, ex, Bs, rfl⟩; rw [Ay Bs] at hR; refine AL (AL (?_))
  exact Am fun w hw => .inr ⟨_, rfl, Jx, _, ⟨hL.trans Br, rfl, ax, ex, hR, rfl⟩, AA hw⟩
 rintro v6 J _ ⟨hJ, x6, p, lv, he6, ANx, hp, ⟨rfl, hf, rfl⟩, rfl⟩
 have hL := hL.trans hJ
 rw [AY he6] at hR; refine Ae rfl (AF rfl (fun hc0 => ?_) (fun hc0 => ?_))
 ·have Bs : ¬ Bu x (AP s p) = true := by simpa using hc0
  rw [if_neg Bs] at hR; refine AH (AC 1 rfl (B7 rfl rfl rfl (Aa rfl rfl rfl Tryz.func34 (by kernel_rfl) rfl (fun w hw => Ds b s p lv hs _ _ _ w hf hp (AD (row b 58 (CO s lv p.next)) hw))) ?_ ?_))
  ·rintro _ Jx _ ⟨Br, rfl, rfl⟩; refine AL (?_)
   exact Am fun w hw => .inr ⟨_, rfl, Jx, _, ⟨hL.trans Br, rfl, _, _, hR, rfl⟩, AA hw⟩
  rintro _ _ _ ⟨⟩
 ·have Bs : Bu x (AP s p) = true := by simpa using hc0
  rw [if_pos Bs] at hR; refine Al (AH (AC 1 rfl (Bw rfl rfl rfl rfl (fun w hw => Bv b s hs p lv _ _ _ w hf hp (AD (row b 58 (CO s lv p.next)) hw)) ?_))); rintro _ J _ ⟨hJ, rfl, p, lv, Rq, ACY, VJ, hp, rfl⟩
  have hL := hL.trans hJ
  rw [← Rq] at hR
  have EX := VJ (Cc Bs)
  refine BX (Cm rfl (fun w' hw => ?_)); exact .inl ⟨_, rfl, J, _, ⟨hL, _, p, lv, hR, (by omega), hp, rfl, rfl⟩, AA hw⟩
theorem Cn (b : Nat) (s : List UInt8) (hs : s.length ≤ 65536) : D8 31 b s [] (Dj s) (YW s) 0 := by
 intro p lv I F w0 w R hR hp CE
 have hL := Le.refl I
 obtain ⟨M, hM⟩ : ∃ M, M = Bp s p := ⟨_, rfl⟩; unfold Dj at hR; refine enter Tryz.func31 rfl Tryz.ntmps31 rfl (CE.self) (AR (A8 (ι := PS × Value × AU × Nat) (fun zz => Le I zz.2.2.1 ∧ J7 s zz.1 zz.2.1 zz.2.2.1 ∧ Bp s zz.1 ≤ Bp s p ∧ Bp s zz.1 < zz.2.2.2 ∧ R = Jh s zz.2.2.2 zz.1) (fun zz => Bp s zz.1) (fun zz => []) [(0, _)] (fun zz => zz.2.2.1) (fun zz => (row b 58 (CO s zz.2.1 zz.1.next) :: F)) (p, lv, I, Bp s p + 1) ?_ (AW) (AB rfl) (fun _ h => AA h) ?_))
 ·dsimp only; exact ⟨hL, hp, Nat.le_refl _, Nat.lt_succ_self _, hR⟩
 rintro ⟨p, lv, J, g⟩ ⟨hL, hp, I4, hg, hR⟩; dsimp only at *; refine AN (tr (AC 1 rfl ?_)); obtain ⟨g, rfl⟩ : ∃ g', g = g' + 1 := ⟨g - 1, by omega⟩; rw [Jh] at hR; refine B7 rfl rfl rfl (Aa rfl rfl rfl Tryz.func32 (by kernel_rfl) rfl (fun w hw => C5 b s hs p lv _ _ _ w _ rfl hp (AD (row b 58 (CO s lv p.next)) hw))) ?_ ?_
 ·rintro _ Jx _ ⟨Br, rfl, ax, ex, Bs, rfl⟩; rw [Ay Bs] at hR; refine AL (AL (AL (Aj (?_))))
  exact Am fun w hw => .inr ⟨_, rfl, Jx, _, ⟨hL.trans Br, rfl, ax, ex, hR, rfl⟩, AA hw⟩
 rintro v3 J _ ⟨hJ, x3, p, lv, he3, AHF, hp, ⟨rfl, hf, rfl⟩, rfl⟩
 have hL := hL.trans hJ
 rw [AY he3] at hR; refine lq rfl (DT rfl Cz rfl Li rfl rfl rfl) (Ae rfl (AF rfl (fun hc0 => ?_) (fun hc0 => ?_)))
 ·simp at hc0
  have hk : (AP s p).kind = 3 := by omega
  rw [if_pos hk] at hR; refine Al (AR (AH (AC 1 rfl (Bw rfl rfl rfl rfl (fun w hw => Bv b s hs p lv _ _ _ w hf hp (AD (row b 58 (CO s lv p.next)) hw)) ?_)))); rintro _ J _ ⟨hJ, rfl, p, lv, AMU, ARX, ANS, hp, rfl⟩
  have hL := hL.trans hJ
  rw [← AMU] at hR
  have EX := ANS (by omega)
  refine BX (AV (Ak ((p, lv, J, g)) ?_ ?_ (AW) (AB rfl) (fun _ h => by dsimp only; exact AA h)))
  ·dsimp only; exact ⟨hL, hp, by omega, by omega, hR⟩
  ·dsimp only
   omega
 ·simp at hc0
  have hk : ¬ (AP s p).kind = 3 := by omega
  rw [if_neg hk] at hR; refine BB (AG (AG (AQ (Cm rfl (fun w' hw => ?_))))); exact .inl ⟨_, rfl, J, _, ⟨hL, _, p, lv, hR, (by omega), hp, ⟨rfl, hf, hk⟩, rfl⟩, AA hw⟩
theorem FW (b : Nat) (s : List UInt8) (hs : s.length ≤ 65536) : D8 152 b s [] (FU s) (AJx s) 1 := by
 intro p lv I F w0 w R hR hp CE
 have hL := Le.refl I
 obtain ⟨M, hM⟩ : ∃ M, M = Bp s p := ⟨_, rfl⟩; unfold FU at hR; refine enter Tryz.func152 rfl Tryz.ntmps152 rfl (CE.self) (Ar rfl (AN (tr (AC 1 rfl (B7 rfl rfl rfl (Aa rfl rfl rfl Tryz.func32 (by kernel_rfl) rfl (fun w hw => C5 b s hs p lv _ _ _ w _ rfl hp (AD (row b 58 (CO s lv p.next)) hw))) ?_ ?_)))))
 ·rintro _ Jx _ ⟨Br, rfl, ax, ex, Bs, rfl⟩; rw [Ay Bs] at hR; refine AL (AL (?_))
  exact Am fun w hw => .inr ⟨_, rfl, Jx, _, ⟨hL.trans Br, rfl, ax, ex, hR, rfl⟩, AA hw⟩
 rintro v4 J _ ⟨hJ, x4, p, lv, he4, ANn, hp, ⟨rfl, hf, rfl⟩, rfl⟩
 have hL := hL.trans hJ
 rw [AY he4] at hR; refine lq rfl (DT rfl Cz rfl Li rfl rfl rfl) (Ae rfl (AF rfl (fun hc0 => ?_) (fun hc0 => ?_)))
 ·simp at hc0
  have hk : ¬ (AP s p).kind = 1 := by omega
  rw [if_neg hk] at hR; refine AH (AC 1 rfl (B7 rfl rfl rfl (Aa rfl rfl rfl Tryz.func34 (by kernel_rfl) rfl (fun w hw => Ds b s p lv hs _ _ _ w hf hp (AD (row b 58 (CO s lv p.next)) hw))) ?_ ?_))
  ·rintro _ Jx _ ⟨Br, rfl, rfl⟩; refine AL (?_)
   exact Am fun w hw => .inr ⟨_, rfl, Jx, _, ⟨hL.trans Br, rfl, _, _, hR, rfl⟩, AA hw⟩
  rintro _ _ _ ⟨⟩
 ·simp at hc0
  have hk : (AP s p).kind = 1 := by omega
  rw [if_pos hk] at hR
  have XR := Dq hp.1
  refine Al (tr (AC 1 rfl (Bw rfl rfl rfl rfl (fun w hw => Bv b s hs p lv _ _ _ w hf hp (AD (row b 58 (CO s lv p.next)) hw)) ?_))); rintro _ J _ ⟨hJ, rfl, p, lv, AJr, APa, AGq, hp, rfl⟩
  skip
  have hL := hL.trans hJ
  rw [← AJr] at hR
  have EX := AGq (by omega)
  refine lq rfl (DT rfl Cz rfl CW rfl rfl rfl) (Ae rfl (Aq (A1 rfl rfl (fun w' hw => ?_)))); exact .inl ⟨_, rfl, J, _, ⟨hL, _, p, lv, hR, (by omega), hp, ⟨rfl, XR⟩, rfl⟩, AA hw⟩
end Go.Tri

namespace Go.Tri
open Go.Proofs Go.RowKit
set_option maxRecDepth 10000
def rd0 : EK := ⟨0, [], [], [], false⟩
theorem ABD {t : List UInt8} (h : (!(ER t).isSome || decide (9 < (ER t).getD 0)) = true) : ¬ JI t = true := by
 unfold JI
 cases hn : ER t with
 | none => simp
 | some v => rw [hn] at h; simp at h ⊢; omega
theorem AAg {t : List UInt8} (h : (!(ER t).isSome || decide (9 < (ER t).getD 0)) = false) : JI t = true := by
 unfold JI
 cases hn : ER t with
 | none => rw [hn] at h; cases h
 | some v => rw [hn] at h; simp at h ⊢; omega
theorem MZ (b : Nat) (s : List UInt8) (hs : s.length ≤ 65536) : D8 151 b s [] (Iu s) AJq 1 := by
 intro p lv I F w0 w R hR hp CE
 have hL := Le.refl I
 obtain ⟨M, hM⟩ : ∃ M, M = Bp s p := ⟨_, rfl⟩; unfold Iu at hR; refine enter Tryz.func151 rfl Tryz.ntmps151 rfl (CE.self) (tr (le rfl (Ah rfl D1 rfl) ?_)); rintro _ _ _ ⟨b2, rfl, rfl, rfl⟩; refine AI (H' := row b2 37 (BT rd0) :: _) ?_ (fun _ h => h); refine BQ (lq rfl (A6 (pl := [(_, _), (_, _), (_, _), (_, _), (_, _)]) (cs := (BT ⟨-1, [], [], [], false⟩).toArray) rfl Kf D1 ⟨rfl, ⟨_, _, B0⟩, rfl, ⟨_, _, CU⟩, rfl, ⟨_, _, CU⟩, rfl, ⟨_, _, CU⟩, rfl, ⟨_, _, De⟩, trivial⟩ rfl rfl) (le rfl (Ah rfl D1 rfl) ?_)); rintro _ _ _ ⟨b3, rfl, rfl, rfl⟩; refine An rfl rfl ((by exact AE rfl D1 rfl rfl rfl (by exact C2 _) rfl)) ?_; rintro _ _ _ ⟨rfl, rfl⟩; refine AI (H' := row b3 37 (BT ⟨-1, [], [], [], false⟩) :: _) ?_ (fun _ h => h); refine ln (Bh (ι := PS × Value × AU × Int) (fun zz => Le I zz.2.2.1 ∧ J7 s zz.1 zz.2.1 zz.2.2.1 ∧ Bp s zz.1 ≤ Bp s p ∧ R = Kb s zz.2.2.2 zz.1) (fun zz => []) [(0, _), (2, _), (3, _)] (fun zz => zz.2.2.1) (fun zz => (row b2 37 (BT rd0) :: row b3 37 (BT ⟨zz.2.2.2, [], [], [], false⟩) :: row b 58 (CO s zz.2.1 zz.1.next) :: F)) (AB rfl) ?_ ?_)
 ·refine tr (AC 1 rfl (B7 rfl rfl rfl (Aa rfl rfl rfl Tryz.func32 (by kernel_rfl) rfl (fun w hw => C5 b s hs p lv _ _ _ w _ rfl hp (AD (row b 58 (CO s lv p.next)) hw))) ?_ ?_))
  ·rintro _ Jx _ ⟨Br, rfl, ax, ex, Bs, rfl⟩; rw [Ay Bs] at hR; refine AL (AL (?_))
   exact Am fun w hw => .inr ⟨_, rfl, Jx, _, ⟨hL.trans Br, rfl, ax, ex, hR, rfl⟩, AA hw⟩
  rintro v10 J _ ⟨hJ, x10, p, lv, Hj, Mb, hp, ⟨rfl, hf, rfl⟩, rfl⟩
  have hL := hL.trans hJ
  rw [AY Hj] at hR; refine le rfl (Ah rfl BL rfl) ?_; rintro _ _ _ ⟨b4, rfl, rfl, rfl⟩; refine An rfl rfl ((by exact AE rfl BL rfl rfl rfl (by exact A4 _) rfl)) ?_; rintro _ _ _ ⟨rfl, rfl⟩; refine AI (H' := row b4 73 (BZ (AP s p)) :: _) ?_ (fun _ h => h); refine BQ (AC 1 rfl (lq rfl (AZ rfl rfl (by rfl)) ?_)); refine Ae rfl (AF rfl (fun hc0 => ?_) (fun hc0 => ?_))
  ·simp at hc0
   have hk : (AP s p).kind = 4 := by omega
   rw [if_pos hk] at hR; obtain ⟨fdx, AGd⟩ : ∃ z, ABT (AP s p).text = z := ⟨_, rfl⟩; rw [AGd] at hR; refine tr (AC 1 rfl (lq rfl (AZ rfl rfl (by rfl)) ?_)); refine lq rfl (qc rfl rfl rfl ((fun w hw => RN (AP s p).text w (by have := Dq hp.1; omega) (hp.2.1.mono hw.le).gw))) ?_; refine Ae rfl (AN (tq (AK 3 rfl ?_)))
   refine Bf 2 2 22 25 24 _ _ rfl rfl rfl rfl rfl rfl (fun h25 => by
     simp at h25
     refine AJ 2 rfl ?_; exact Ao rfl
    ) (AM rfl) rfl rfl rfl ?_
   refine Cy (AF rfl (fun BI => ?_) (fun BI => ?_))
   ·have hn : ¬ JI (AP s p).text = true := ABD BI
    rw [if_neg hn] at hR
    skip
    refine AH (AC 1 rfl (B7 rfl rfl rfl (Aa rfl rfl rfl Tryz.func34 (by kernel_rfl) rfl (fun w hw => Ds b s p lv hs _ _ _ w hf hp (AD (row b 58 (CO s lv p.next)) hw))) ?_ ?_))
    ·rintro _ Jx _ ⟨Br, rfl, rfl⟩; refine AL (AL (?_))
     exact Am fun w hw => .inr ⟨_, rfl, Jx, _, ⟨hL.trans Br, rfl, _, _, hR, rfl⟩, AA hw⟩
    rintro _ _ _ ⟨⟩
   ·have hn : JI (AP s p).text = true := AAg BI
    rw [if_pos hn] at hR; refine Al (tr (AC 2 rfl ?_)); refine An rfl rfl (Ac rfl B0 rfl rfl (by exact ⟨rfl, rfl⟩) rfl (by rfl)) ?_; rintro _ _ _ ⟨rfl, rfl⟩; refine AI (H' := row b3 37 (BT ⟨fdx, [], [], [], false⟩) :: _) ?_ (fun _ h => by rw [← AGd]; exact h); refine BQ (AC 1 rfl (Bw rfl rfl rfl rfl (fun w hw => Bv b s hs p lv _ _ _ w hf hp (AD (row b 58 (CO s lv p.next)) hw)) ?_)); rintro _ J _ ⟨hJ, rfl, p, lv, Zv, AJb, Zy, hp, rfl⟩
    have hL := hL.trans hJ
    rw [← Zv] at hR
    have EX := Zy (by omega)
    refine BQ (AC 1 rfl (B7 rfl rfl rfl (Aa rfl rfl rfl Tryz.func32 (by kernel_rfl) rfl (fun w hw => C5 b s hs p lv _ _ _ w _ rfl hp (AD (row b 58 (CO s lv p.next)) hw))) ?_ ?_))
    ·rintro _ Jx _ ⟨Br, rfl, ax, ex, Bs, rfl⟩; rw [Ay Bs] at hR; refine AL (AL (?_))
     exact Am fun w hw => .inr ⟨_, rfl, Jx, _, ⟨hL.trans Br, rfl, ax, ex, hR, rfl⟩, AA hw⟩
    rintro v33 J _ ⟨hJ, x33, p, lv, AKh, AOc, hp, ⟨rfl, hf, rfl⟩, rfl⟩
    have hL := hL.trans hJ
    rw [AY AKh] at hR; refine Dl 7 (sq rfl (DT rfl Cz rfl Li rfl rfl rfl) (AK 2 rfl ?_))
    refine Bf 3 4 36 40 39 _ _ rfl rfl rfl rfl rfl rfl (fun XK => by
      simp at XK
      refine AJ 1 rfl (sg rfl (qc rfl rfl rfl ((fun w hw => Hv b s p lv w hs hf hp.1 (hp.2.1.mono hw.le) (Bn hw) (hp.2.2.mono hw.le)))) (AJ 1 rfl ?_)); exact Ao rfl
     ) (AM rfl) rfl rfl rfl ?_
    refine Hb (ln (AF rfl (fun BU => ?_) (fun BU => ?_)))
    ·have OZ : ¬ ((AP s p).kind = 2 ∧ Cj (AP s p) = true) := fun ⟨h1, h2⟩ => by
      have h := BU
      rw [h2, show decide (((AP s p).kind : Int) ≠ 2) = false from decide_eq_false (by omega)] at h
      cases h
     rw [if_neg OZ] at hR; refine AH (AC 1 rfl (B7 rfl rfl rfl (Aa rfl rfl rfl Tryz.func34 (by kernel_rfl) rfl (fun w hw => Ds b s p lv hs _ _ _ w hf hp (AD (row b 58 (CO s lv p.next)) hw))) ?_ ?_))
     ·rintro _ Jx _ ⟨Br, rfl, rfl⟩; refine AL (?_)
      exact Am fun w hw => .inr ⟨_, rfl, Jx, _, ⟨hL.trans Br, rfl, _, _, hR, rfl⟩, AA hw⟩
     rintro _ _ _ ⟨⟩
    ·have OZ : ((AP s p).kind = 2 ∧ Cj (AP s p) = true) := by
      have h := BU
      rw [Bool.or_eq_false_iff, decide_eq_false_iff_not, Bool.not_eq_false'] at h; exact ⟨by omega, h.2⟩
     rw [if_pos OZ] at hR; refine Au (Av ((p, lv, J, fdx)) ?_ (AW) (AB rfl) (fun _ h => by dsimp only; exact AA h))
     ·dsimp only; exact ⟨hL, hp, by omega, hR⟩
  ·simp at hc0
   have hk : ¬ (AP s p).kind = 4 := by omega
   rw [if_neg hk] at hR; refine Au (Av ((p, lv, J, -1)) ?_ (AW) (AB rfl) (fun _ h => by dsimp only; exact AA h))
   ·dsimp only; exact ⟨hL, hp, by omega, hR⟩
 rintro ⟨p, lv, J, fd⟩ ⟨hL, hp, I4, hR⟩; dsimp only at *; unfold Kb at hR; refine tr (AC 1 rfl (B7 rfl rfl rfl (Aa rfl rfl rfl Tryz.func35 (by kernel_rfl) rfl (fun w hw => Gs b s hs p lv _ _ _ w _ rfl hp (AD (row b 58 (CO s lv p.next)) hw))) ?_ ?_))
 ·rintro _ Jx _ ⟨Br, rfl, ax, ex, Bs, rfl⟩; rw [Ay Bs] at hR; refine AL (?_)
  exact Am fun w hw => .inr ⟨_, rfl, Jx, _, ⟨hL.trans Br, rfl, ax, ex, hR, rfl⟩, AA hw⟩
 rintro v44 J _ ⟨hJ, x44, p, lv, ZV, ACU, hp, rfl, rfl⟩
 have hL := hL.trans hJ
 rw [AY ZV] at hR; refine lq rfl (DT rfl Cz rfl CW rfl rfl rfl) (AC 1 rfl ?_); refine An rfl rfl (Ac rfl CU rfl rfl (by exact ⟨rfl, rfl⟩) rfl (by rfl)) ?_; rintro _ _ _ ⟨rfl, rfl⟩; refine AI (H' := row b3 37 (BT ⟨fd, x44.text, [], [], false⟩) :: _) ?_ (fun _ h => h); refine BQ (AC 1 rfl (B7 rfl rfl rfl (Aa rfl rfl rfl Tryz.func32 (by kernel_rfl) rfl (fun w hw => C5 b s hs p lv _ _ _ w _ rfl hp (AD (row b 58 (CO s lv p.next)) hw))) ?_ ?_))
 ·rintro _ Jx _ ⟨Br, rfl, ax, ex, Bs, rfl⟩; rw [Ay Bs] at hR; refine AL (?_)
  exact Am fun w hw => .inr ⟨_, rfl, Jx, _, ⟨hL.trans Br, rfl, ax, ex, hR, rfl⟩, AA hw⟩
 rintro v48 J _ ⟨hJ, x48, p, lv, Uc, ZE, hp, ⟨rfl, hf, rfl⟩, rfl⟩
 have hL := hL.trans hJ
 rw [AY Uc] at hR; obtain ⟨tt, KD⟩ : ∃ tt, AP s p = tt := ⟨_, rfl⟩; rw [KD] at hR; refine le rfl (Ah rfl BL rfl) ?_; rintro _ _ _ ⟨b7, rfl, rfl, rfl⟩; refine An rfl rfl ((by exact AE rfl BL rfl rfl rfl (by exact A4 _) rfl)) ?_; rintro _ _ _ ⟨rfl, rfl⟩; refine AI (H' := row b7 73 (BZ tt) :: _) ?_ (fun _ h => by rw [← KD]; exact h); refine K6 (AC 1 rfl (lq rfl (AZ rfl rfl (by rfl)) ?_)); refine Ae rfl (AF rfl (fun Bd => ?_) (fun Bd => ?_))
 ·simp at Bd
  have Ic : ¬ tt.kind = 1 := by omega
  rw [if_neg Ic] at hR; rw [← KD] at hR; refine AH (AC 1 rfl (B7 rfl rfl rfl (Aa rfl rfl rfl Tryz.func34 (by kernel_rfl) rfl (fun w hw => Ds b s p lv hs _ _ _ w hf hp (AD (row b 58 (CO s lv p.next)) hw))) ?_ ?_))
  ·rintro _ Jx _ ⟨Br, rfl, rfl⟩; refine AL (?_)
   exact Am fun w hw => .inr ⟨_, rfl, Jx, _, ⟨hL.trans Br, rfl, _, _, hR, rfl⟩, AA hw⟩
  rintro _ _ _ ⟨⟩
 ·simp at Bd
  have Ic : tt.kind = 1 := by omega
  rw [if_pos Ic] at hR; refine Al (tr (AC 1 rfl (Bw rfl rfl rfl rfl (fun w hw => Bv b s hs p lv _ _ _ w hf hp (AD (row b 58 (CO s lv p.next)) hw)) ?_))); rintro _ J _ ⟨hJ, rfl, p, lv, AIH, APf, AJv, hp, rfl⟩
  have hL := hL.trans hJ
  rw [← AIH] at hR
  have EX := AJv (by rw [KD]; omega)
  refine K6 (AC 1 rfl (lq rfl (AZ rfl rfl (by rfl)) ?_)); refine lq rfl (qc rfl rfl rfl ((fun w _ => Gu x44.text [60, 60] w))) (ln (AF rfl (fun Cg => ?_) (fun Cg => ?_)))
  ·have h4 : EY x44.text [60, 60] = true := Cg
   rw [if_pos h4] at hR; refine DH [5, 7, 9] [] [row b7 73 (BZ tt)] mo (by kernel_rfl) (fun _ _ _ _ _ h => h) (Bg [0] (by kernel_rfl) rfl rfl rfl (Ko 1 (by kernel_rfl) rfl (Le.refl _) rfl (fun _ hI => AZ rfl rfl (by rfl)) ?_)); refine Bg [2] (by kernel_rfl) rfl rfl rfl (Ko 3 (by kernel_rfl) rfl (Le.refl _) rfl (fun _ hI => AZ rfl rfl (by rfl)) ?_); refine Bg [4] (by kernel_rfl) rfl rfl rfl ?_; refine Eu 5 (by kernel_rfl) (by kernel_rfl) rfl (Le.refl _) rfl rfl (Ac rfl CU rfl rfl (by exact ⟨rfl, rfl⟩) rfl (by rfl)) ?_; rintro _ _ _ ⟨rfl, rfl⟩; refine ⟨Le.refl _, .inr CY.sub, ?_⟩; refine Bg [6] (by kernel_rfl) rfl rfl rfl ?_; refine Eu 7 (by kernel_rfl) (by kernel_rfl) rfl (Le.refl _) rfl rfl (Ac rfl CU rfl rfl (by exact ⟨rfl, rfl⟩) rfl (by rfl)) ?_; rintro _ _ _ ⟨rfl, rfl⟩; refine ⟨Le.refl _, .inr CY.sub, ?_⟩; refine Bg [8] (by kernel_rfl) rfl rfl rfl ?_; refine Eu 9 (by kernel_rfl) (by kernel_rfl) rfl (Le.refl _) rfl rfl (Ac rfl De rfl rfl (by exact ⟨rfl, rfl⟩) rfl (by rfl)) ?_; rintro _ _ _ ⟨rfl, rfl⟩; refine ⟨Le.refl _, .inr CY.sub, ?_⟩; refine ES (H' := row b3 37 (BT ⟨fd, [60, 60], [], tt.doc, tt.raw⟩) :: _) ?_ (fun _ h => h); refine D3 (by kernel_rfl) (Ai (tr (lq rfl (Af rfl Kf D1 rfl rfl rfl) (An rfl rfl ((by exact AE rfl D1 rfl rfl rfl (by exact C2 _) rfl)) ?_)))); rintro _ _ _ ⟨rfl, rfl⟩
   refine ln (Aq (A3 (.inl rfl) rfl (by exact BK rfl Kf D1 rfl rfl (BJ)) (fun w' hw => ?_))); exact .inl ⟨_, rfl, J, _, ⟨hL, _, p, lv, hR, (by omega), hp, rfl, rfl⟩, AA hw⟩
  ·have h4 : EY x44.text [60, 60] = false := Cg
   rw [if_neg (by rw [h4]; simp)] at hR; refine AH (AC 1 rfl (lq rfl (AZ rfl rfl (by rfl)) ?_)); refine AC 1 rfl ?_; refine An rfl rfl (Ac rfl CU rfl rfl (by exact ⟨rfl, rfl⟩) rfl (by rfl)) ?_; rintro _ _ _ ⟨rfl, rfl⟩; refine AI (H' := row b3 37 (BT ⟨fd, x44.text, tt.text, [], false⟩) :: _) ?_ (fun _ h => h); refine BQ (lq rfl (Af rfl Kf D1 rfl rfl rfl) (An rfl rfl ((by exact AE rfl D1 rfl rfl rfl (by exact C2 _) rfl)) ?_)); rintro _ _ _ ⟨rfl, rfl⟩; refine ln (Aq (A3 (.inl rfl) rfl (by exact BK rfl Kf D1 rfl rfl (BJ)) (fun w' hw => ?_))); exact .inl ⟨_, rfl, J, _, ⟨hL, _, p, lv, hR, (by omega), hp, rfl, rfl⟩, AA hw⟩
end Go.Tri

namespace Go.Tri
open Go.Proofs Go.RowKit
set_option maxRecDepth 10000
def ADT : AU → PS → List EK → Value → Prop := fun I _ l v => Sl I 5 v (l.map BT)
def AEU : AU → PS → List (List UInt8) → Value → Prop := fun I _ l v => Sl I 1 v (l.map Bo)
def UJ (f : FuncId) (b : Nat) : Value := .func (.func f) #[FK b] #[]
theorem Pb {α : Type} {s : List UInt8} {bt : CX → Bool} {m : PS → CC α} {g : Nat} {l : List α} {p q : PS} {R : CC (List α)} (h : R = Gt s bt m (g + 1) l p) (hn : C4 s p = .ok (AP s q) q) : (bt (AP s q) = true → R = Cf m (fun x r => Gt s bt m g (l ++ [x]) r) q) ∧ (bt (AP s q) = false → R = .ok l q) := by
 rw [Gt, AY hn] at h; exact ⟨fun h1 => by rw [h, if_pos h1], fun h1 => by rw [h, if_neg (by rw [h1]; simp)]⟩
theorem SY {α : Type} {s : List UInt8} {bt : CX → Bool} {m : PS → CC α} {g : Nat} {l : List α} {p : PS} {R : CC (List α)} {a e : Nat} (h : R = Gt s bt m (g + 1) l p) (hn : C4 s p = .bad a e) : R = .bad a e := by
 rw [h, Gt, Ay hn]
def Ku (v : Value) : NC := ⟨5, false, false, [], AO, AO, v⟩
def WI (v : Value) : List NC → NC
 | [c] => if c.kind = 6 then Ku v else c
 | _ => Ku v
theorem Fu {I : AU} {v : Value} {ks : List Nd} {cs : List NC} (hv : Sl I 7 v (cs.map A2)) (h : A0 I ks cs) : Bm I (Ct ks) (WI v cs) := by
 have hl := h.len
 match ks, cs, hl, h with
 | [], [], _, h => exact Bm.kids hv h
 | [k], [c], _, h =>
  have h1 : Bm I k c := by unfold A0 at h; exact h.1
  show Bm I (if k.kind = 6 then Ip 5 [k] else k) (if c.kind = 6 then Ku v else c)
  rw [h1.kind]
  split
  ·exact Bm.kids hv h
  ·exact h1
 | k :: k2 :: ks, c :: c2 :: cs, _, h => exact Bm.kids hv h
theorem AAz {v : Value} {c : NC} {cs : List NC} (h : (decide ((cs.length : Int) = 1) && decide (((nth cs 0 DB).kind : Int) ≠ 6)) = true) : WI v cs = nth cs 0 DB ∧ 0 < cs.length := by
 rw [Bool.and_eq_true, decide_eq_true_eq, decide_eq_true_eq] at h
 match cs, h with
 | [c], h =>
  refine ⟨?_, by simp⟩
  show (if c.kind = 6 then Ku v else c) = c
  rw [if_neg]
  have h2 : (c.kind : Int) ≠ 6 := h.2
  omega
theorem Yl {v : Value} {cs : List NC} (h : (decide ((cs.length : Int) = 1) && decide (((nth cs 0 DB).kind : Int) ≠ 6)) = false) : WI v cs = Ku v := by
 rw [Bool.and_eq_false_iff, decide_eq_false_iff_not, decide_eq_false_iff_not] at h
 match cs, h with
 | [], _ => rfl
 | [c], h =>
  show (if c.kind = 6 then Ku v else c) = Ku v
  rw [if_pos]; rcases h with h | h
  ·exact absurd rfl h
  ·have h2 : ¬ ((c.kind : Int) ≠ 6) := h
   omega
 | _ :: _ :: _, _ => rfl
theorem SD (b : Nat) (s : List UInt8) (hs : s.length ≤ 65536) (p : PS) (lv : Value) (I : AU) (F : List HA) (w0 w : World) (R : CC (List (EK))) (hR : R = Gh s p) (hp : J7 s p lv I) (CE : St w0 I (row b 58 (CO s lv p.next) :: F) w) : F5 Tryz.prog 171 [UJ 150 b, UJ 151 b].toArray w (U6 b s p I F ADT 0 R) (ABV I F R) := by
 have hL := Le.refl I
 unfold Gh O1 at hR
 have Ox := FD hp.1
 refine enter Tryz.func171 rfl Tryz.ntmps171 rfl (CE.self) (Ar rfl (Ar rfl (AN (AR (A8 (ι := PS × Value × AU × Value × List (EK) × Nat) (fun zz => Le I zz.2.2.1 ∧ J7 s zz.1 zz.2.1 zz.2.2.1 ∧ Bp s zz.1 + zz.2.2.2.2.1.length ≤ Bp s p ∧ Bp s zz.1 < zz.2.2.2.2.2 ∧ R = Gt s (Cj) (Iu s) zz.2.2.2.2.2 zz.2.2.2.2.1 zz.1) (fun zz => Bp s zz.1) (fun zz => [(5, zz.2.2.2.1)]) [(0, _), (1, _), (4, _)] (fun zz => zz.2.2.1) (fun zz => (BO 37 5 BT zz.2.2.2.1 zz.2.2.2.2.1 :: row b 58 (CO s zz.2.1 zz.1.next) :: F)) (p, lv, I, .slice none 0 0, [], Bp s p + 1) ?_ (AB rfl) (AB rfl) (fun _ h => by dsimp only; exact AA (CS 37 5 BT h)) ?_)))))
 ·dsimp only; exact ⟨hL, hp, Nat.le_refl _, Nat.lt_succ_self _, hR⟩
 rintro ⟨p, lv, J, v, l, g⟩ ⟨hL, hp, I4, hg, hR⟩; dsimp only at *; obtain ⟨g, rfl⟩ : ∃ g', g = g' + 1 := ⟨g - 1, by omega⟩; refine AN (tr (AC 1 rfl (B7 rfl rfl rfl (KM (bl := [FK b]) rfl rfl rfl rfl rfl Tryz.func150 (by kernel_rfl) rfl (fun w hw => H3 b s hs p lv _ _ _ w _ rfl hp (AD (row b 58 (CO s lv p.next)) hw))) ?_ ?_)))
 ·rintro _ Jx _ ⟨Br, rfl, ax, ex, Bs, rfl⟩; refine AL (AL (AL (Aj (AL (?_)))))
  exact Am fun w hw => .inr ⟨_, rfl, Jx, _, ⟨hL.trans Br, rfl, ax, ex, SY hR Bs, rfl⟩, AA hw⟩
 rintro v7 J _ ⟨hJ, x7, p, lv, UT, SH, hp, ⟨rfl, hf, rfl⟩, rfl⟩
 have hL := hL.trans hJ
 have Dh := Pb hR UT
 refine ln (AF rfl (fun hc0 => ?_) (fun hc0 => ?_))
 ·have hR := Dh.1 hc0
  refine Al (AR (AH (AC 2 rfl (B7 rfl rfl rfl (KM (bl := [FK b]) rfl rfl rfl rfl rfl Tryz.func151 (by kernel_rfl) rfl (fun w hw => MZ b s hs p lv _ _ _ w _ rfl hp (AD (row b 58 (CO s lv p.next)) hw))) ?_ ?_))))
  ·rintro _ Jx _ ⟨Br, rfl, ax, ex, Bs, rfl⟩; refine Aj (AL (Aj (AL (?_))))
   exact Am fun w hw => .inr ⟨_, rfl, Jx, _, ⟨hL.trans Br, rfl, ax, ex, hR.trans (Ay Bs), rfl⟩, AA hw⟩
  rintro v10 J _ ⟨hJ, x10, p, lv, Hj, Mb, hp, rfl, rfl⟩
  have hL := hL.trans hJ
  rw [AY Hj] at hR; refine le rfl (AS rfl GX D1 rfl rfl rfl (by rfl) rfl) ?_; rintro _ _ _ ⟨b11, rfl, rfl, rfl⟩; refine le rfl (Ba (f := BT) (c := x10) rfl GX D1 rfl rfl rfl rfl rfl rfl rfl (by exact C2 _) (by simp only [maxLen]; omega) (by omega)) ?_; rintro v12 _ _ ⟨rfl, rfl⟩; refine FV v12 (fun Df => ?_); refine Ax rfl (AV (Ak ((p, lv, J, v12, l ++ [x10], g)) ?_ ?_ (AB rfl) (AB rfl) (fun _ h => by dsimp only; exact AA h)))
  ·dsimp only; exact ⟨hL, hp, by rw [List.length_append, List.length_singleton]; omega, by omega, hR⟩
  ·dsimp only
   omega
 ·have hR := Dh.2 hc0
  refine BB (AG (AG (AQ (Ai (AN (CG (f := BT) (l := l) v (fun _ => rfl) (fun Jf B4 Ck => ?_))))))); refine AH (Ae rfl (Aq (A1 rfl rfl (fun w' hw => ?_)))); exact .inl ⟨_, rfl, Jf, _, ⟨hL.trans B4, l, p, lv, hR, by omega, hp.mono B4, Ck, rfl⟩, AA hw⟩
theorem QW (b : Nat) (s : List UInt8) (hs : s.length ≤ 65536) : D8 149 b s [] (Gh s) ADT 0 := by
 intro p lv I F w0 w R hR hp CE
 have hL := Le.refl I
 obtain ⟨M, hM⟩ : ∃ M, M = Bp s p := ⟨_, rfl⟩; refine enter Tryz.func149 rfl Tryz.ntmps149 rfl (CE.self) (Ar rfl (tr (AC 1 rfl (lq rfl (F3 rfl rfl rfl) (AC 1 rfl (lq rfl (F3 rfl rfl rfl) (B7 rfl rfl rfl (Aa rfl rfl rfl Tryz.func171 (by kernel_rfl) rfl (fun w hw => SD b s hs p lv _ _ _ w _ rfl hp (AD (row b 58 (CO s lv p.next)) hw))) ?_ ?_)))))))
 ·rintro _ Jx _ ⟨Br, rfl, ax, ex, Bs, rfl⟩; rw [Bs] at hR; refine AL (?_)
  exact Am fun w hw => .inr ⟨_, rfl, Jx, _, ⟨hL.trans Br, rfl, ax, ex, hR, rfl⟩, AA hw⟩
 rintro v7 J _ ⟨hJ, x7, p, lv, UT, SH, hp, hv7, rfl⟩
 have hL := hL.trans hJ
 rw [UT] at hR; refine Ae rfl (Aq (A1 rfl rfl (fun w' hw => ?_))); exact .inl ⟨_, rfl, J, _, ⟨hL, _, p, lv, hR, (by omega), hp, hv7, rfl⟩, AA hw⟩
theorem RQ (b b2 : Nat) (s : List UInt8) (hs : s.length ≤ 65536) (p : PS) (lv : Value) (I : AU) (F : List HA) (w0 w : World) (R : CC CX) (hR : R = C4 s p) (hp : J7 s p lv I) (Ei : GF I b2 0 (FK b)) (CE : St w0 I (row b 58 (CO s lv p.next) :: F) w) : F5 Tryz.prog 170 [FK b2].toArray w (U6 b s p I F (Ws s (fun t => decide (t.kind = 1))) 0 R) (ABV I F R) := by
 have hL := Le.refl I
 refine enter Tryz.func170 rfl Tryz.ntmps170 rfl (CE.self) (Ar rfl (tr (lq rfl ((by exact B1 rfl rfl (B2 Ei))) ?_))); refine B7 rfl rfl rfl (Aa rfl rfl rfl Tryz.func32 (by kernel_rfl) rfl (fun w hw => C5 b s hs p lv _ _ _ w _ rfl hp (AD (row b 58 (CO s lv p.next)) hw))) ?_ ?_
 ·rintro _ Jx _ ⟨Br, rfl, ax, ex, Bs, rfl⟩; rw [Bs] at hR; refine AL (?_)
  exact Am fun w hw => .inr ⟨_, rfl, Jx, _, ⟨hL.trans Br, rfl, ax, ex, hR, rfl⟩, AA hw⟩
 rintro v3 J _ ⟨hJ, x3, p, lv, he3, AHF, hp, ⟨rfl, hf, rfl⟩, rfl⟩
 have hL := hL.trans hJ
 rw [he3] at hR; refine lq rfl (DT rfl Cz rfl Li rfl rfl rfl) (Ae rfl (Aq (A1 rfl rfl (fun w' hw => ?_)))); exact .inl ⟨_, rfl, J, _, ⟨hL, _, p, lv, hR, (by omega), hp, ⟨rfl, hf, congrArg Value.bool (by by_cases h : (AP s p).kind = 1 <;> simp [h] <;> omega)⟩, rfl⟩, AA hw⟩
theorem Rk (b b2 : Nat) (s : List UInt8) (hs : s.length ≤ 65536) (p : PS) (lv : Value) (I : AU) (F : List HA) (w0 w : World) (R : CC (List (List UInt8))) (hR : R = QC s p) (hp : J7 s p lv I) (Ei : GF I b2 0 (FK b)) (CE : St w0 I (row b 58 (CO s lv p.next) :: F) w) : F5 Tryz.prog 169 [.func (.func 170) #[] #[FK b2], UJ 152 b].toArray w (U6 b s p I F AEU 0 R) (ABV I F R) := by
 have hL := Le.refl I
 unfold QC O1 at hR
 have Ox := FD hp.1
 have Ei := Ei.mono hL
 refine enter Tryz.func169 rfl Tryz.ntmps169 rfl (CE.self) (Ar rfl (Ar rfl (AN (AR (A8 (ι := PS × Value × AU × Value × List (List UInt8) × Nat) (fun zz => Le I zz.2.2.1 ∧ J7 s zz.1 zz.2.1 zz.2.2.1 ∧ Bp s zz.1 + zz.2.2.2.2.1.length ≤ Bp s p ∧ Bp s zz.1 < zz.2.2.2.2.2 ∧ R = Gt s (fun t => decide (t.kind = 1)) (FU s) zz.2.2.2.2.2 zz.2.2.2.2.1 zz.1) (fun zz => Bp s zz.1) (fun zz => [(5, zz.2.2.2.1)]) [(0, _), (1, _), (4, _)] (fun zz => zz.2.2.1) (fun zz => (BO 9 1 Bo zz.2.2.2.1 zz.2.2.2.2.1 :: row b 58 (CO s zz.2.1 zz.1.next) :: F)) (p, lv, I, .slice none 0 0, [], Bp s p + 1) ?_ (AB rfl) (AB rfl) (fun _ h => by dsimp only; exact AA (CS 9 1 Bo h)) ?_)))))
 ·dsimp only; exact ⟨hL, hp, Nat.le_refl _, Nat.lt_succ_self _, hR⟩
 rintro ⟨p, lv, J, v, l, g⟩ ⟨hL, hp, I4, hg, hR⟩; dsimp only at *
 have Ei := Ei.mono hL
 obtain ⟨g, rfl⟩ : ∃ g', g = g' + 1 := ⟨g - 1, by omega⟩; refine AN (tr (AC 1 rfl (B7 rfl rfl rfl (UP (cs := [FK b2]) rfl rfl rfl rfl rfl Tryz.func170 (by kernel_rfl) rfl (fun w hw => RQ b b2 s hs p lv _ _ _ w _ rfl hp Ei (AD (row b 58 (CO s lv p.next)) hw))) ?_ ?_)))
 ·rintro _ Jx _ ⟨Br, rfl, ax, ex, Bs, rfl⟩; refine AL (AL (AL (Aj (AL (?_)))))
  exact Am fun w hw => .inr ⟨_, rfl, Jx, _, ⟨hL.trans Br, rfl, ax, ex, SY hR Bs, rfl⟩, AA hw⟩
 rintro v7 J _ ⟨hJ, x7, p, lv, UT, SH, hp, ⟨rfl, hf, rfl⟩, rfl⟩
 have hL := hL.trans hJ
 have Dh := Pb hR UT
 have Ei := Ei.mono hJ
 refine ln (AF rfl (fun hc0 => ?_) (fun hc0 => ?_))
 ·have hR := Dh.1 hc0
  refine Al (AR (AH (AC 2 rfl (B7 rfl rfl rfl (KM (bl := [FK b]) rfl rfl rfl rfl rfl Tryz.func152 (by kernel_rfl) rfl (fun w hw => FW b s hs p lv _ _ _ w _ rfl hp (AD (row b 58 (CO s lv p.next)) hw))) ?_ ?_))))
  ·rintro _ Jx _ ⟨Br, rfl, ax, ex, Bs, rfl⟩; refine Aj (AL (Aj (AL (?_))))
   exact Am fun w hw => .inr ⟨_, rfl, Jx, _, ⟨hL.trans Br, rfl, ax, ex, hR.trans (Ay Bs), rfl⟩, AA hw⟩
  rintro v10 J _ ⟨hJ, x10, p, lv, Hj, Mb, hp, ⟨rfl, APW⟩, rfl⟩
  have hL := hL.trans hJ
  rw [AY Hj] at hR
  have Ei := Ei.mono hJ
  refine le rfl (AS rfl CD CU rfl rfl rfl (by rfl) rfl) ?_; rintro _ _ _ ⟨b11, rfl, rfl, rfl⟩; refine le rfl (Ba (f := Bo) (c := x10) rfl CD CU rfl rfl rfl rfl rfl rfl rfl (by exact Ev _) (by simp only [maxLen]; omega) (by omega)) ?_; rintro v12 _ _ ⟨rfl, rfl⟩; refine FV v12 (fun Df => ?_); refine Ax rfl (AV (Ak ((p, lv, J, v12, l ++ [x10], g)) ?_ ?_ (AB rfl) (AB rfl) (fun _ h => by dsimp only; exact AA h)))
  ·dsimp only; exact ⟨hL, hp, by rw [List.length_append, List.length_singleton]; omega, by omega, hR⟩
  ·dsimp only
   omega
 ·have hR := Dh.2 hc0
  refine BB (AG (AG (AQ (Ai (AN (CG (f := Bo) (l := l) v (fun _ => rfl) (fun Jf B4 Ck => ?_))))))); refine AH (Ae rfl (Aq (A1 rfl rfl (fun w' hw => ?_)))); exact .inl ⟨_, rfl, Jf, _, ⟨hL.trans B4, l, p, lv, hR, by omega, hp.mono B4, Ck, rfl⟩, AA hw⟩
theorem Ih (v : Value) (cs : List NC) (w : World) (h1 : cs.length ≤ 1000000) (ho : ∀ u ∈ A2 (nth cs 0 DB), u.oneCell' = true) (hv : Sl (BF w) 7 v (cs.map A2)) : Cw Tryz.prog 36 [v] w (.agg (A2 (WI v cs)).toArray) := by
 refine enter Tryz.func36 rfl Tryz.ntmps36 rfl (St.start w (BF w) (Le.refl _)) (tr (le rfl (Ah rfl Ab rfl) ?_)); rintro _ _ _ ⟨b2, rfl, rfl, rfl⟩; refine Gb (tq (AK 1 rfl ?_)); refine sq rfl ((by exact CN rfl CJ rfl (Sl.lenOf hv (List.length_map _)))) ?_; refine AK 2 rfl ?_
 refine BA 5 3 6 12 11 _ _ rfl rfl rfl rfl rfl rfl (fun h12 => by
   simp at h12
   have hl1 : 0 < cs.length := by omega
   refine AJ 1 rfl ?_; refine sg rfl ((by exact A5 rfl CJ Ab rfl rfl (Sl.shape hv (List.length_map _)) (by omega))) ?_; refine AJ 1 rfl (sg rfl ((by exact B1 rfl rfl (hv.rd (i := 0) (j := 0) (Jn cs A2 DB (by omega)) rfl))) ?_); refine AJ 1 rfl ?_; exact Ao rfl
  ) (AM rfl) rfl rfl rfl ?_
 refine Cy (AF rfl (fun hc0 => ?_) (fun hc0 => ?_))
 ·obtain ⟨En, Ho⟩ := AAz (v := v) (c := DB) hc0; refine tr (AC 1 rfl ?_); refine lq rfl ((by exact A5 rfl CJ Ab rfl rfl (Sl.shape hv (List.length_map _)) (by omega))) ?_; refine lq rfl ((by exact Bc rfl BR Ab rfl rfl (hv.rds (i := 0) (Jn cs A2 DB (by omega))))) ?_; refine An rfl rfl ((by exact AE rfl Ab rfl rfl rfl (by exact ho) rfl)) ?_; rintro _ _ _ ⟨rfl, rfl⟩; refine ln (Aq (Ag (A3 (.inl rfl) rfl (by exact BK rfl BR Ab rfl rfl (BJ)) (fun w' hw => ?_)))); refine ⟨?_, hw.below⟩
  rw [En]; try rfl
 ·have En := Yl (v := v) hc0
  refine Al (tr (AC 1 rfl (lq rfl (A6 (pl := [(_, _), (_, _), (_, _), (_, _), (_, _), (_, _), (_, _)]) (cs := (A2 (Ku v)).toArray) rfl BR Ab ⟨rfl, ⟨_, _, B0⟩, rfl, ⟨_, _, De⟩, rfl, ⟨_, _, De⟩, rfl, ⟨_, _, CU⟩, rfl, ⟨_, _, EE⟩, rfl, ⟨_, _, El⟩, rfl, ⟨_, _, D6⟩, trivial⟩ rfl (by obtain ⟨A, c, h⟩ := Sl.lenOf hv rfl; rw [h]; try rfl)) ?_))); refine An rfl rfl ((by exact AE rfl Ab rfl rfl rfl (by exact FP (c := Ku v) B3 B3 hv.one) rfl)) ?_; rintro _ _ _ ⟨rfl, rfl⟩; refine ln (Aq (A3 (.inl rfl) rfl (by exact BK rfl BR Ab rfl rfl (BJ)) (fun w' hw => ?_))); refine ⟨?_, hw.below⟩
  rw [En]; try rfl
end Go.Tri
