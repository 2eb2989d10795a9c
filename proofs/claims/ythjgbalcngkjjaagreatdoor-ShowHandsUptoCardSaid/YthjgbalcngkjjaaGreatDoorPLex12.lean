/-
 Tokens stand in the text where they say.
-/
import Derived.Test.YthjgbalcngkjjaaGreatDoorPLex5
namespace Go.Tri
open Go.RowKit
theorem KW (s : List UInt8) (i : Nat) : nth (s.drop i) 0 0 = nth s i 0 := by
 unfold nth; rw [List.getD_eq_getElem?_getD, List.getD_eq_getElem?_getD, List.getElem?_drop]; rfl
def Og (s : List UInt8) (a b : Nat) : Prop := ∀ i, a ≤ i → i < b → (∃ k, a ≤ k ∧ k ≤ i ∧ nth s k 0 = 35) ∨ nth s i 0 = 9 ∨ nth s i 0 = 32 ∨ nth s i 0 = 92 ∨ nth s i 0 = 10
theorem ACR {s : List UInt8} {a b c : Nat} (h1 : Og s a b) (h2 : Og s b c) (hab : a ≤ b) : Og s a c := fun i hi hc => by
 by_cases h : i < b
 ·exact h1 i hi h
 ·rcases h2 i (by omega) hc with ⟨k, k1, k2, k3⟩ | h
  ·exact .inl ⟨k, by omega, k2, k3⟩
  ·exact .inr h
theorem QH (s : List UInt8) (a : Nat) : Og s a a := fun i h1 h2 => absurd h2 (by omega)
def StT (s : List UInt8) (j : Nat) : TR → Prop
 | .tok off k kind text => k = off + text.length ∧ j + k ≤ s.length ∧ (s.drop (j + off)).take text.length = text ∧ text ≠ [] ∧ 1 ≤ kind ∧ kind ≤ 4 ∧ Og s j (j + off)
 | .stop k => j + k ≤ s.length
 | .bad _ _ => True
theorem Zx {l t : List UInt8} (h : EY l t = true) : l.take t.length = t := of_decide_eq_true h
theorem W3 {s : List UInt8} {j : Nat} (hj : j < s.length) : Og s j (j + Ce (s.drop j)) := by
 intro i h1 h2
 unfold Ce at h2
 split at h2
 ·rename_i h
  have ht := Zx h
  have h2l := Ig h
  rw [List.length_drop] at h2l
  replace h2l : 2 ≤ s.length - j := h2l
  have e0 : nth s j 0 = 92 := by
   have := congrArg (fun l => nth l 0 0) ht
   simpa [Bi 0 hj, nth] using this
  have e1 : nth s (j + 1) 0 = 10 := by
   have := congrArg (fun l => nth l 1 0) ht
   rw [Bi 0 hj, Bi 0 (show j + 1 < s.length by omega)] at this
   simpa [nth] using this
  rcases (show i = j ∨ i = j + 1 by omega) with rfl | rfl
  ·exact .inr (.inr (.inr (.inl e0)))
  ·exact .inr (.inr (.inr (.inr e1)))
 ·split at h2
  ·rename_i h
   obtain rfl : i = j := by omega
   rw [KW, Bool.or_eq_true, decide_eq_true_eq, decide_eq_true_eq] at h
   rcases h with h | h
   ·exact .inr (.inr (.inl h))
   ·exact .inr (.inl h)
  ·split at h2
   ·rename_i h
    rw [KW] at h
    exact .inl ⟨j, Nat.le_refl _, h1, h⟩
   ·omega
theorem YO {s : List UInt8} {j : Nat} (hj : j < s.length) (hb : Ce (s.drop j) = 0) : StT s j (E3 (s.drop j)) := by
 have hl : s.drop j ≠ [] := List.ne_nil_of_length_pos (by rw [List.length_drop]; omega)
 have Dg := PZ hl hb
 have BH : (s.drop j).length = s.length - j := List.length_drop
 unfold E3 at Dg ⊢
 split
 ·rename_i h
  rw [KW] at h
  refine ⟨rfl, by omega, ?_, by simp, by decide, by decide, QH s j⟩
  rw [Nat.add_zero, Bi 0 hj, h]; rfl
 ·split
  ·rename_i h1 h2
   obtain ⟨h3, h4, h5⟩ := LD 3 (s.drop j)
   refine ⟨by omega, ?_, ?_, h2, by decide, by decide, QH s j⟩
   ·rw [BH] at h3
    show j + (OX 3 (s.drop j)).length ≤ _
    omega
   ·rw [Nat.add_zero]; exact h5.symm
  ·rename_i h1 h2
   rw [if_neg h1, if_neg h2] at Dg
   unfold Hx at Dg ⊢
   cases hw : EN (s.drop j) with
   | bad a e => trivial
   | ok k =>
    simp only [hw] at Dg
    show StT s j (if 4096 < k then .bad 0 51 else _)
    split
    ·trivial
    ·rename_i h3
     rw [if_neg h3] at Dg
     have hk := L8 hw
     have GO : 1 ≤ k := Dg.1
     have XR : ((s.drop j).take k).length = k := by rw [List.length_take]; omega
     refine ⟨by omega, by omega, by rw [Nat.add_zero, XR], ?_, by split <;> decide, by split <;> decide, QH s j⟩
     exact List.ne_nil_of_length_pos (by omega)
theorem AEa {s : List UInt8} {j n : Nat} {r : TR} (h : StT s (j + n) r) (hg : Og s j (j + n)) : StT s j (r.on n) := by
 cases r with
 | stop k =>
  show j + (n + k) ≤ _
  have h2 : j + n + k ≤ s.length := h
  omega
 | bad a e => trivial
 | tok off k kind text =>
  obtain ⟨h1, h2, h3, h4, h5, h6, h7⟩ := h
  refine ⟨by omega, by omega, by rw [← Nat.add_assoc]; exact h3, h4, h5, h6, ?_⟩
  rw [← Nat.add_assoc]
  exact ACR hg h7 (by omega)
theorem Vi (s : List UInt8) : ∀ (f j : Nat), j ≤ s.length → StT s j (Hp f (s.drop j))
 | 0, j, h => by show j + 0 ≤ _; omega
 | f + 1, j, h => by
  unfold Hp
  split
  ·show j + 0 ≤ _; omega
  ·rename_i hl
   have hj : j < s.length := by
    refine Classical.byContradiction fun hn => hl (List.drop_of_length_le (by omega))
   have hb := L0 hl
   rw [List.length_drop] at hb
   split
   ·rw [List.drop_drop]
    exact AEa (Vi s f (j + Ce (s.drop j)) (by omega)) (W3 hj)
   ·rename_i h0
    exact YO hj (by simpa using h0)
def GR (s : List UInt8) : Nat → List CX → Nat → Prop
 | a, [], e => a ≤ e ∧ e ≤ s.length
 | a, t :: r, e => (a ≤ t.pos ∧ t.pos + t.text.length ≤ s.length ∧ (s.drop t.pos).take t.text.length = t.text ∧ t.text ≠ [] ∧ 1 ≤ t.kind ∧ t.kind ≤ 4 ∧ Og s a t.pos) ∧ GR s (t.pos + t.text.length) r e
theorem Km (s : List UInt8) : ∀ (f j : Nat) (ts : List CX) (k : Nat), j ≤ s.length → DE f j (s.drop j) = .ok ts k → GR s j ts (j + k)
 | 0, j, ts, k, h, h1 => by cases h1; exact ⟨by omega, by omega⟩
 | f + 1, j, ts, k, h, h1 => by
  rw [DE] at h1
  have Dh : StT s j (I6 (s.drop j)) := Vi s _ j h
  cases ht : I6 (s.drop j) with
  | stop m =>
   rw [ht] at Dh
   simp only [ht] at h1
   cases h1
   exact ⟨by omega, Dh⟩
  | bad a e => simp only [ht] at h1; cases h1
  | tok off m kind text =>
   rw [ht] at Dh
   simp only [ht] at h1
   obtain ⟨s1, s2, s3, s4, s5, s6, s7⟩ := Dh
   have ADV : (j ≤ j + off ∧ j + off + text.length ≤ s.length ∧ (s.drop (j + off)).take text.length = text ∧ text ≠ [] ∧ 1 ≤ kind ∧ kind ≤ 4 ∧ Og s j (j + off)) := ⟨by omega, by omega, s3, s4, s5, s6, s7⟩
   split at h1
   ·cases h1
    exact ⟨ADV, by show j + off + text.length ≤ _; omega, by omega⟩
   ·cases hr : DE f (j + m) ((s.drop j).drop m) with
    | bad a e => rw [hr] at h1; cases h1
    | ok ts' k' =>
     rw [hr] at h1
     cases h1
     rw [List.drop_drop] at hr
     have := Km s f (j + m) ts' k' s2 hr
     refine ⟨ADV, ?_⟩
     rw [show j + off + text.length = j + m by omega, show j + (m + k') = j + m + k' by omega]
     exact this
theorem VY (strip : Bool) (d : List UInt8) : ∀ (f : Nat) (l : List UInt8) (x : List UInt8 × Nat), I5 strip d f l = some x → x.2 ≤ l.length
 | 0, l, x, h => by cases h
 | f + 1, l, x, h => by
  rw [I5] at h
  split at h
  ·cases h
  ·split at h
   ·cases h
    show min _ _ ≤ _
    omega
   ·split at h
    ·cases h
    ·rename_i hb
     have hb' : DX l 10 = true := by simpa using hb
     have hr := (IG (l := l)).1 hb'
     cases hd : I5 strip d f (l.drop (Bz l + 1)) with
     | none => rw [hd] at h; cases h
     | some y =>
      rw [hd] at h
      cases h
      have := VY strip d f _ y hd
      rw [List.length_drop] at this
      show Bz l + 1 + y.2 ≤ _
      omega
theorem OB (s : List UInt8) : ∀ (ts : List CX) (prev : Option CX) (a e : Nat) (ds : List CX) (j : Nat), GR s a ts e → FH s prev ts e = .ok ds j → GR s a ds j ∧ e ≤ j := by
 have key : ∀ (ts : List CX) (prev : Option CX) (a e0 e : Nat) (ds : List CX) (j : Nat), e0 ≤ e → e ≤ s.length → GR s a ts e0 → FH s prev ts e = .ok ds j → GR s a ds j ∧ e ≤ j := by
  intro ts
  induction ts with
  | nil =>
   intro prev a e0 e ds j h0 h1 h2 h3
   cases h3
   exact ⟨⟨Nat.le_trans h2.1 h0, h1⟩, Nat.le_refl _⟩
  | cons t r ih =>
   intro prev a e0 e ds j h0 h1 h2 h3
   rw [FH] at h3
   split at h3
   ·cases hd : LV (Nw prev) (DN t.text) (s.drop e) with
    | none => simp only [hd] at h3; cases h3
    | some x =>
     simp only [hd] at h3
     have hx := VY _ _ _ _ _ hd
     rw [List.length_drop] at hx
     cases hr : FH s (some t) r (e + x.2) with
     | bad p => rw [hr] at h3; cases h3
     | ok ds' j' =>
      rw [hr] at h3
      cases h3
      obtain ⟨k1, k2⟩ := ih (some t) _ e0 (e + x.2) ds' j (by omega) (by omega) h2.2 hr
      exact ⟨⟨h2.1, k1⟩, by omega⟩
   ·cases hr : FH s (some t) r e with
    | bad p => rw [hr] at h3; cases h3
    | ok ds' j' =>
     rw [hr] at h3
     cases h3
     obtain ⟨k1, k2⟩ := ih (some t) _ e0 e ds' j h0 h1 h2.2 hr
     exact ⟨⟨h2.1, k1⟩, k2⟩
 intro ts prev a e ds j h1 h2
 have he : e ≤ s.length := by
  clear h2
  induction ts generalizing a with
  | nil => exact h1.2
  | cons t r ih => exact ih _ h1.2
 exact key ts prev a e e ds j (Nat.le_refl _) he h1 h2
theorem La : ∀ (f p : Nat) (l : List UInt8) (a e : Nat), DE f p l = .bad a e → e ≠ 0
 | 0, p, l, a, e, h => by cases h
 | f + 1, p, l, a, e, h => by
  rw [DE] at h
  have Dg := JC l
  cases ht : I6 l with
  | stop k => simp only [ht] at h; cases h
  | bad a' e' =>
   rw [ht] at Dg
   simp only [ht] at h
   cases h; exact Dg
  | tok off k kind text =>
   simp only [ht] at h
   split at h
   ·cases h
   ·cases hr : DE f (p + k) (l.drop k) with
    | bad a' e' =>
     rw [hr] at h
     cases h
     exact La f _ _ _ _ hr
    | ok ts j => rw [hr] at h; cases h
theorem No {s : List UInt8} {i : Int} (h : (B9 s i).err = 0) : s.length ≤ 65536 ∧ 0 ≤ i ∧ i ≤ s.length ∧ ∃ ts k ds j, DE (s.length + 1) i.toNat (s.drop i.toNat) = .ok ts k ∧ FH s none ts (i.toNat + k) = .ok ds j ∧ B9 s i = ⟨ds, j, 0, 0⟩ := by
 unfold B9 at *
 split at h
 ·cases h
 ·rename_i h1
  rw [if_neg h1] at *
  split at h
  ·cases h
  ·rename_i h2
   rw [if_neg h2]
   refine ⟨by omega, by omega, by omega, ?_⟩
   unfold JB at *
   cases hl : DE (s.length + 1) i.toNat (s.drop i.toNat) with
   | bad a e =>
    simp only [hl] at h
    exact absurd h (La _ _ _ _ _ hl)
   | ok ts k =>
    simp only [hl] at h ⊢
    cases hd : FH s none ts (i.toNat + k) with
    | bad a => simp only [hd] at h; cases h
    | ok ds j => exact ⟨ts, k, ds, j, rfl, hd, rfl⟩
theorem ANW {s : List UInt8} (h : (B9 s 0).err = 0) : GR s 0 (B9 s 0).toks (B9 s 0).fin := by
 obtain ⟨_, _, _, ts, k, ds, j, h1, h2, h3⟩ := No h
 rw [h3]
 have := Km s _ 0 ts k (Nat.zero_le _) (by simpa using h1)
 simp only [Nat.zero_add] at this
 exact (OB s ts none 0 k ds j this (by simpa using h2)).1
theorem GR.at {s : List UInt8} {l : List CX} {e : Nat} : ∀ {n a : Nat}, GR s a (l.drop n) e → n < l.length → (a ≤ (nth l n BV).pos ∧ (nth l n BV).pos + (nth l n BV).text.length ≤ s.length ∧ (s.drop (nth l n BV).pos).take (nth l n BV).text.length = (nth l n BV).text ∧ (nth l n BV).text ≠ [] ∧ 1 ≤ (nth l n BV).kind ∧ (nth l n BV).kind ≤ 4 ∧ Og s a (nth l n BV).pos) ∧ GR s ((nth l n BV).pos + (nth l n BV).text.length) (l.drop (n + 1)) e := fun h hn => by
 rw [Bi BV hn] at h
 exact h
theorem Ju {s : List UInt8} : ∀ {l : List CX} {a e : Nat}, GR s a l e → a + l.length ≤ e ∧ e ≤ s.length
 | [], a, e, h => ⟨by simpa using h.1, h.2⟩
 | t :: r, a, e, h => by
  obtain ⟨⟨h1, h2, h3, h4, _⟩, h5⟩ := h
  have := Ju h5
  have hp := List.length_pos_iff.2 h4
  simp only [List.length_cons]
  omega
deriving instance DecidableEq for Yr
end Go.Tri

namespace Go.Tri
open Go.RowKit
theorem F7 (b : UInt8) (l sub : List UInt8) : Lib.contains (b :: l) sub = (sub.isPrefixOf (b :: l) || Lib.contains l sub) := by
 unfold Lib.contains
 have NL := Lib.index_ge l sub
 rw [Lib.index]
 cases hp : sub.isPrefixOf (b :: l) with
 | true => simp
 | false =>
  rw [if_neg (by simp), Bool.false_or]
  split
  ·rename_i h
   have : Lib.index l sub = -1 := by simpa using h
   rw [this]
  ·rename_i h
   have h2 : ¬ Lib.index l sub = -1 := by simpa using h
   rw [decide_eq_true (by omega), decide_eq_true (by omega)]
theorem Ns : ∀ (f g : Nat) (l : List UInt8), l.length ≤ f → l.length ≤ g → D9 f l = D9 g l
 | 0, g, l, h, _ => by
  have : l = [] := List.eq_nil_of_length_eq_zero (by omega)
  subst this; rw [Gr, Gr]
 | f + 1, 0, l, _, h => by
  have : l = [] := List.eq_nil_of_length_eq_zero (by omega)
  subst this; rw [Gr, Gr]
 | f + 1, g + 1, l, h1, h2 => by
  rw [D9, D9]
  split
  ·rfl
  ·rename_i hl
   split
   ·rfl
   ·have hf := E2 hl
    cases hs : CA l with
    | bad a e => rfl
    | ok k =>
     rw [hs] at hf
     have hk : 1 ≤ k := hf.1
     show (D9 f (l.drop k)).on k = (D9 g (l.drop k)).on k
     rw [Ns f g (l.drop k) (by rw [List.length_drop]; omega) (by rw [List.length_drop]; omega)]
theorem AAm {l : List UInt8} {k : Nat} (h1 : DX Cv (nth l 0 0) = false) (hl : l ≠ []) (hs : CA l = .ok k) : EN l = (EN (l.drop k)).on k := by
 have hp := List.length_pos_iff.2 hl
 have hf := E2 hl
 rw [hs] at hf
 have hk : 1 ≤ k := hf.1
 unfold EN
 obtain ⟨n, hn⟩ : ∃ n, l.length = n + 1 := ⟨l.length - 1, by omega⟩
 rw [hn, D9, if_neg hl, if_neg (by rw [h1]; simp), hs]
 show (D9 n (l.drop k)).on k = _
 rw [Ns n (l.drop k).length (l.drop k) (by rw [List.length_drop]; omega) (Nat.le_refl _)]
theorem Y3 {c : UInt8} (h : c = 32 ∨ c = 9) (r : List UInt8) : Ce (c :: r) = 1 := by
 have h1 : EY (c :: r) [92, 10] = false := by
  unfold EY
  rw [decide_eq_false]
  intro e
  have := congrArg (fun l => nth l 0 0) e
  have h2 : c = 92 := by simpa [nth] using this
  rcases h with rfl | rfl <;> cases h2
 unfold Ce
 rw [h1, if_neg (by simp), if_pos (by rcases h with rfl | rfl <;> rfl)]
end Go.Tri

namespace Go.Tri
open Go.RowKit
theorem LC {sub : List UInt8} {c : UInt8} (hc : c ∈ sub) : ∀ s : List UInt8, Lib.contains s sub = true → c ∈ s
 | [], h => by
  unfold Lib.contains Lib.index at h
  cases sub with
  | nil => cases hc
  | cons d q => simp at h
 | d :: s, h => by
  rw [F7, Bool.or_eq_true] at h
  rcases h with h | h
  ·rw [List.isPrefixOf_iff_prefix] at h
   exact h.subset hc
  ·exact List.mem_cons_of_mem _ (LC hc s h)
end Go.Tri

namespace Go.Tri
open Go.RowKit
end Go.Tri
namespace Go.Tri
open Go.RowKit
end Go.Tri
namespace Go.Tri
open Go.RowKit
end Go.Tri

namespace Go.Tri
open Go.RowKit
theorem AAH : ∀ (f : Nat) (l : List UInt8) (k : Nat), l ≠ [] → Hp (f + 1) l = .stop k → 1 ≤ k := fun f l k hl h => by
 rw [Hp, if_neg hl] at h
 split at h
 ·cases hr : Hp f (l.drop (Ce l)) with
  | stop m => rw [hr] at h; cases h; omega
  | bad a e => rw [hr] at h; cases h
  | tok o m kd tx => rw [hr] at h; cases h
 ·unfold E3 at h
  split at h
  ·cases h
  ·split at h
   ·cases h
   ·unfold Hx at h
    split at h
    ·cases h
    ·split at h <;> cases h
theorem XC (f p : Nat) (l : List UInt8) (ts : List CX) (k : Nat) (hl : l ≠ []) (h : DE (f + 1) p l = .ok ts k) : 1 ≤ k := by
 rw [DE] at h
 have Dg := JC l
 cases ht : I6 l with
 | stop m => simp only [ht] at h; cases h; exact AAH _ _ _ hl ht
 | bad a e => simp only [ht] at h; cases h
 | tok off m kind text =>
  rw [ht] at Dg
  have h1 : 1 ≤ m := Dg.1
  simp only [ht] at h
  split at h
  ·cases h; exact h1
  ·cases hr : DE f (p + m) (l.drop m) with
   | bad a e => rw [hr] at h; cases h
   | ok ts' k' => rw [hr] at h; cases h; omega
theorem X7 {s : List UInt8} {i : Nat} (hi : i ≤ s.length) (h : (B9 s i).err = 0) : i ≤ (B9 s i).fin ∧ (B9 s i).fin ≤ s.length ∧ (i < s.length → i < (B9 s i).fin) ∧ i + (B9 s i).toks.length ≤ (B9 s i).fin := by
 obtain ⟨_, _, _, ts, k, ds, j, e1, e2, e3⟩ := No h
 rw [e3, Int.toNat_natCast] at *
 have h1 := Km s _ i ts k hi e1
 have h2 := OB s ts none i (i + k) ds j h1 e2
 have h3 := Ju h2.1
 refine ⟨Nat.le_trans (Nat.le_add_right _ _) h2.2, h3.2, fun FA => ?_, ?_⟩
 ·have := XC _ _ _ _ _ (List.ne_nil_of_length_pos (by rw [List.length_drop]; omega)) e1
  show i < j
  omega
 ·show i + ds.length ≤ j
  omega
end Go.Tri

namespace Go.Tri
open Go.RowKit
deriving instance DecidableEq for I7
end Go.Tri

namespace Go.Tri
open Go.RowKit
def MX (i : Nat) : SR → Nat
 | .ok k => i + k
 | .bad _ _ => 0
def My (i : Nat) : SR → Nat
 | .ok _ => 0
 | .bad a _ => i + a
def K2 : SR → Nat
 | .ok _ => 0
 | .bad _ e => e
def dl (b : Bool) (x : Nat) : Nat := if b then x else 0
def Du (s : List UInt8) (i : Nat) : Bool := EY (s.drop i) [36, 40] || EY (s.drop i) [36, 123]
theorem Ek {s : List UInt8} {j : Nat} {c : UInt8} (hj : j < s.length) : EY (s.drop j) [c] = decide (nth s j 0 = c) := by
 rw [Bi 0 hj, U3]
theorem Vm {s : List UInt8} {j : Nat} {c d : UInt8} (h : EY (s.drop j) [c, d] = true) : j + 2 ≤ s.length ∧ nth s j 0 = c ∧ nth s (j + 1) 0 = d := by
 have hl := Ig h
 rw [List.length_drop] at hl
 simp only [List.length_cons, List.length_nil] at hl
 have h1 := of_decide_eq_true h
 simp only [List.length_cons, List.length_nil] at h1
 rw [Bi 0 (show j < s.length by omega), Bi 0 (show j + 1 < s.length by omega)] at h1
 simp at h1
 exact ⟨by omega, h1.1, h1.2⟩
theorem K9 {s : List UInt8} {i : Nat} (h : Du s i = true) : i + 2 ≤ s.length ∧ nth s i 0 = 36 ∧ (nth s (i + 1) 0 = 40 ∨ nth s (i + 1) 0 = 123) := by
 unfold Du at h
 rw [Bool.or_eq_true] at h
 rcases h with h | h
 ·have := Vm h; exact ⟨this.1, this.2.1, .inl this.2.2⟩
 ·have := Vm h; exact ⟨this.1, this.2.1, .inr this.2.2⟩
theorem Jq {s : List UInt8} {i : Nat} (h : nth s i 0 ≠ 36) : Du s i = false := by
 rw [← Bool.not_eq_true]
 exact fun h1 => h (K9 h1).2.1
theorem Cq {D : Bool → List UInt8 → SR} {q apo : Bool} {s : List UInt8} {j : Nat} (hj : j < s.length) :
  Bt D q apo (s.drop j) = if nth s j 0 = 92 then .ok (min 2 (s.length - j)) else if nth s j 0 = 39 ∧ apo = true then Ca (s.drop j) else if nth s j 0 = 96 then .bad 0 55 else if Du s j = true then D q (s.drop j) else .ok 1 := by
 unfold Bt
 rw [Ek hj, Ek hj, Ek hj, List.length_drop, show min 1 (s.length - j) = 1 by omega]
 simp only [decide_eq_true_eq, Bool.and_eq_true]
 rfl
def JA (len j : Nat) (r : SR) (e p x : Nat) : Prop := match r with
 | .ok k => p = 0 ∧ x = 0 ∧ 1 ≤ k ∧ j + k ≤ len ∧ (e = j + k ∨ (len < e ∧ e ≤ len + 1 ∧ j + k = len))
 | .bad a e' => x = e' ∧ e' ≠ 0 ∧ p = j + a ∧ e = 0
theorem JA.of {s : List UInt8} {j : Nat} {r : SR} (Dg : RC (s.drop j) r) (hf : EO r) (hj : j < s.length) : JA s.length j r (MX j r) (My j r) (K2 r) := by
 cases r with
 | ok k =>
  have h1 : 1 ≤ k := Dg.1
  have h2 : k ≤ (s.drop j).length := Dg.2
  rw [List.length_drop] at h2
  exact ⟨rfl, rfl, h1, by omega, .inl rfl⟩
 | bad a e => exact ⟨rfl, hf, rfl, rfl⟩
theorem JA.esc {len j : Nat} (hj : j < len) : JA len j (.ok (min 2 (len - j))) (j + 2) 0 0 := ⟨rfl, rfl, by omega, by omega, by omega⟩
theorem JA.one {len j : Nat} (hj : j < len) : JA len j (.ok 1) (j + 1) 0 0 := ⟨rfl, rfl, by omega, by omega, .inl rfl⟩
theorem JA.bad55 {len j : Nat} : JA len j (.bad 0 55) 0 j 55 := ⟨rfl, by decide, rfl, rfl⟩
theorem JA.f {len j e p x : Nat} {r : SR} (h : JA len j r e p x) (hx : x ≠ 0) : ∃ a, r = .bad a x ∧ p = j + a ∧ e = 0 := by
 cases r with
 | ok k => exact absurd h.2.1 hx
 | bad a e' => obtain ⟨rfl, _, h3, h4⟩ := h; exact ⟨a, rfl, h3, h4⟩
theorem JA.t {len j e p x : Nat} {r : SR} (h : JA len j r e p x) (hx : x = 0) : ∃ k, r = .ok k ∧ 1 ≤ k ∧ j + k ≤ len ∧ (e = j + k ∨ (len < e ∧ e ≤ len + 1 ∧ j + k = len)) := by
 cases r with
 | ok k => exact ⟨k, rfl, h.2.2⟩
 | bad a e' => obtain ⟨rfl, h2, _⟩ := h; exact absurd hx h2
theorem Qj {s : List UInt8} {j : Nat} {r : SR} (b : Bool) (Dg : b = true → RC (s.drop j) r) (hf : EO r) : (decide ((0 : Int) < (dl b (MX j r) : Int)) || decide ((0 : Int) < (dl b (K2 r) : Int))) = b := by
 cases b with
 | false => rfl
 | true =>
  unfold dl
  cases r with
  | ok k =>
   have h1 : 1 ≤ k := (Dg rfl).1
   rw [decide_eq_true (show (0 : Int) < _ by simp [MX]; omega)]; rfl
  | bad a e =>
   have h1 : e ≠ 0 := hf
   rw [Bool.or_eq_true]; right
   exact decide_eq_true (by simp [K2]; omega)
theorem KZ {a b c a' b' c' : Int} (h1 : a = a') (h2 : b = b') (h3 : c = c') : Value.agg #[.int .i64 a, .int .i64 b, .int .i64 c] = Value.agg #[.int .i64 a', .int .i64 b', .int .i64 c'] := by rw [h1, h2, h3]
def KV (len j kv : Nat) : Prop := kv = j ∨ (j = len ∧ len < kv ∧ kv ≤ len + 1)
theorem QD {s : List UInt8} {i j : Nat} (hi : i < j) (hj : j < s.length) (hc : nth s j 0 = 39) (ET : ∀ k, i + 1 ≤ k → k < j → nth s k 0 ≠ 39) : Ca (s.drop i) = .ok (j + 1 - i) := by
 unfold Ca
 rw [List.drop_drop]
 have hn : ∀ m, nth (s.drop (i + 1)) m 0 = nth s (i + 1 + m) 0 := fun m => by
  unfold nth; rw [List.getD_eq_getElem?_getD, List.getD_eq_getElem?_getD, List.getElem?_drop]
 have NL := Lib.indexByte_ge (s.drop (i + 1)) 39
 by_cases h : Lib.indexByte (s.drop (i + 1)) 39 = -1
 ·exfalso
  have h1 := JX h
  apply h1
  rw [← hc, show j = i + 1 + (j - (i + 1)) by omega, ← hn]
  exact DG (by rw [List.length_drop]; omega)
 ·obtain ⟨m, hm⟩ : ∃ m : Nat, Lib.indexByte (s.drop (i + 1)) 39 = m := ⟨(Lib.indexByte (s.drop (i + 1)) 39).toNat, by omega⟩
  obtain ⟨h1, h2, h3⟩ := Co hm
  rw [hn] at h2
  have h4 : m = j - (i + 1) := by
   rcases Nat.lt_trichotomy m (j - (i + 1)) with h | h | h
   ·exact absurd h2 (ET _ (by omega) (by omega))
   ·exact h
   ·exfalso
    apply h3
    have h5 : j - (i + 1) < ((s.drop (i + 1)).take m).length := by rw [List.length_take]; omega
    have h6 : nth ((s.drop (i + 1)).take m) (j - (i + 1)) 0 = 39 := by
     rw [← hc]
     unfold nth
     rw [List.getD_eq_getElem?_getD, List.getD_eq_getElem?_getD, List.getElem?_take, if_pos h, List.getElem?_drop, show i + 1 + (j - (i + 1)) = j by omega]
    rw [← h6]; exact DG h5
  rw [hm, if_neg (by omega)]
  congr 1; omega
theorem R6 {s : List UInt8} {i : Nat} (ET : ∀ k, i + 1 ≤ k → k < s.length → nth s k 0 ≠ 39) : Ca (s.drop i) = .bad 0 53 := by
 unfold Ca
 rw [List.drop_drop]
 have NL := Lib.indexByte_ge (s.drop (i + 1)) 39
 by_cases h : Lib.indexByte (s.drop (i + 1)) 39 = -1
 ·rw [h, if_pos (by decide)]
 ·exfalso
  obtain ⟨m, hm⟩ : ∃ m : Nat, Lib.indexByte (s.drop (i + 1)) 39 = m := ⟨(Lib.indexByte (s.drop (i + 1)) 39).toNat, by omega⟩
  obtain ⟨h1, h2, _⟩ := Co hm
  rw [List.length_drop] at h1
  refine ET (i + 1 + m) (by omega) (by omega) ?_
  rw [← h2]
  unfold nth; rw [List.getD_eq_getElem?_getD, List.getD_eq_getElem?_getD, List.getElem?_drop]
theorem OE (l : List UInt8) (h : l ≠ []) : RC l (Ca l) := by
 have hp := List.length_pos_iff.2 h
 unfold Ca
 split
 ·trivial
 ·rename_i h1
  have NL := Lib.indexByte_ge (l.drop 1) 39
  obtain ⟨i, hi⟩ : ∃ i : Nat, Lib.indexByte (l.drop 1) 39 = i := ⟨(Lib.indexByte (l.drop 1) 39).toNat, by omega⟩
  have := (Co hi).1
  rw [List.length_drop] at this
  rw [hi]
  exact ⟨by omega, by omega⟩
end Go.Tri
