/-
 Is a text one of some words? By the list of the words.
-/
import Derived.Test.YthjgbalcngkjjaaGreatDoorPCode
import Derived.Test.YthjgbalcngkjjaaGreatDoorPLex12
import Derived.Test.YthjgbalcngkjjaaGreatDoorPLex5
namespace Go.Tri
open Go.RowKit
theorem AEu {s sub : List UInt8} (h : Lib.contains s sub = true) : ∃ i, ∀ j, j < sub.length → i + j < s.length ∧ nth s (i + j) 0 = nth sub j 0 := by
 unfold Lib.contains at h
 have h0 := of_decide_eq_true h
 rcases Lib.index_spec s sub with ⟨h1, _⟩ | ⟨i, h1, h2, h3, _⟩
 ·omega
 ·refine ⟨i, fun j hj => ?_⟩
  unfold Lib.occAt at h3
  obtain ⟨r, hr⟩ := List.isPrefixOf_iff_prefix.1 h3
  have hl := congrArg List.length hr
  rw [List.length_append, List.length_drop] at hl
  refine ⟨by omega, ?_⟩
  unfold nth
  rw [List.getD_eq_getElem?_getD, List.getD_eq_getElem?_getD, ← List.getElem?_drop, ← hr, List.getElem?_append_left hj]
theorem Wk {t : List UInt8} (h : (32 : UInt8) ∈ t) : Lib.contains t [32] = true := by
 unfold Lib.contains
 rw [index_one, Dn]
 unfold DX
 rw [List.any_eq_true]
 exact ⟨32, h, by decide⟩
def BW : List (List UInt8) → List UInt8
 | [] => [32]
 | w :: r => 32 :: (w ++ BW r)
theorem AAt (W : List (List UInt8)) : ∃ l, BW W = 32 :: l := by
 cases W with
 | nil => exact ⟨[], rfl⟩
 | cons w r => exact ⟨w ++ BW r, rfl⟩
theorem OJ (t : List UInt8) : Lib.contains [] (32 :: t) = false := by
 cases h : Lib.contains [] (32 :: t) with
 | false => rfl
 | true => obtain ⟨i, hi⟩ := AEu h; have := (hi 0 (by simp)).1; simp at this
theorem KC {t : List UInt8} : ∀ (w l : List UInt8), 32 ∉ w → Lib.contains (w ++ l) (32 :: t) = Lib.contains l (32 :: t)
 | [], l, _ => rfl
 | c :: w, l, h => by
  rw [List.mem_cons, not_or] at h
  rw [List.cons_append, F7, KC w l h.2]
  have : (32 :: t).isPrefixOf (c :: (w ++ l)) = false := by
   rw [List.isPrefixOf_cons_cons, show ((32 : UInt8) == c) = false by simpa using h.1]; rfl
  rw [this, Bool.false_or]
theorem MU {b : List UInt8} : ∀ (t w : List UInt8), 32 ∉ t → 32 ∉ w → (t ++ [32]).isPrefixOf (w ++ (32 :: b)) = decide (t = w)
 | [], [], _, _ => by simp
 | [], c :: w, _, h => by
  rw [List.mem_cons, not_or] at h
  rw [List.nil_append, List.cons_append, List.isPrefixOf_cons_cons, show ((32 : UInt8) == c) = false by simpa using h.1]; simp
 | c :: t, [], h, _ => by
  rw [List.mem_cons, not_or] at h
  rw [List.nil_append, List.cons_append, List.isPrefixOf_cons_cons, show (c == (32 : UInt8)) = false by simpa using fun e => h.1 e.symm]; simp
 | c :: t, d :: w, h1, h2 => by
  rw [List.mem_cons, not_or] at h1 h2
  rw [List.cons_append, List.cons_append, List.isPrefixOf_cons_cons, MU t w h1.2 h2.2]
  by_cases e : c = d
  ·subst e; simp
  ·simp [e]
theorem JP {t : List UInt8} (ht : t ≠ []) (On : 32 ∉ t) : ∀ (W : List (List UInt8)), (∀ w ∈ W, 32 ∉ w) → Lib.contains (BW W) (32 :: (t ++ [32])) = decide (t ∈ W)
 | [], _ => by
  rw [BW, F7, OJ, List.isPrefixOf_cons_cons]
  cases t with
  | nil => exact absurd rfl ht
  | cons c t => simp
 | w :: r, h => by
  have ih := JP ht On r (fun x hx => h x (List.mem_cons_of_mem _ hx))
  have hw := h w (List.mem_cons_self)
  obtain ⟨l, hl⟩ := AAt r
  rw [BW, F7, KC w _ hw, ih, List.isPrefixOf_cons_cons, hl, MU t w On hw]
  by_cases e : t = w
  ·simp [e]
  ·simp [e]
theorem Kc {ws : List UInt8} (W : List (List UInt8)) (hB : [32] ++ ws ++ [32] = BW W) (hW : W.all (fun w => decide (w ≠ []) && !w.contains 32) = true) (t : List UInt8) : Dy ws t = decide (t ∈ W) := by
 have hW' : ∀ w ∈ W, w ≠ [] ∧ 32 ∉ w := fun w hw => by
  have := List.all_eq_true.1 hW w hw
  simpa using this
 unfold Dy
 rw [hB]
 by_cases ht : t = []
 ·subst ht
  rw [decide_eq_false (show ¬ ([] : List UInt8) ∈ W from fun h => (hW' _ h).1 rfl)]; rfl
 ·by_cases On : 32 ∈ t
  ·rw [Wk On, decide_eq_false (show ¬ t ∈ W from fun h => (hW' _ h).2 On)]; simp
  ·have hc : Lib.contains t [32] = false := by
    cases h : Lib.contains t [32] with
    | false => rfl
    | true => exact absurd (LC (c := 32) (by simp) t h) On
   rw [hc, show ([32] ++ t ++ [32] : List UInt8) = 32 :: (t ++ [32]) by simp, JP ht On W (fun w hw => (hW' w hw).2)]
   simp [ht]
def AAl : List (List UInt8) := [[33], [123], [99, 97, 115, 101], [102, 111, 114], [105, 102], [117, 110, 116, 105, 108], [119, 104, 105, 108, 101], [125], [100, 111], [100, 111, 110, 101], [101, 108, 105, 102], [101, 108, 115, 101], [101, 115, 97, 99], [102, 105], [105, 110], [116, 104, 101, 110]]
def ADv : List (List UInt8) := [[125], [100, 111], [100, 111, 110, 101], [101, 108, 105, 102], [101, 108, 115, 101], [101, 115, 97, 99], [102, 105], [105, 110], [116, 104, 101, 110]]
def I8 : List (List UInt8) := [[60], [62], [62, 124], [62, 62], [60, 60], [60, 60, 45], [60, 38], [62, 38], [60, 62]]
theorem Z0 (t : List UInt8) : Dy Dp t = decide (t ∈ AAl) := Kc AAl (by decide) (by decide) t
theorem Fb (t : List UInt8) : Dy G4 t = decide (t ∈ ADv) := Kc ADv (by decide) (by decide) t
theorem RS (t : List UInt8) : Dy Hq t = decide (t ∈ I8) := Kc I8 (by decide) (by decide) t
def JF : List (List UInt8) := [[38, 38], [124, 124], [59, 59], [60, 60], [60, 60, 45], [62, 62], [60, 38], [62, 38], [60, 62], [62, 124], [38], [59], [124], [60], [62], [40], [41]]
theorem AAw {t : List UInt8} (ht : t ≠ []) : Y4 t = decide (t ∈ JF) := by
 have hB : ABY = BW JF := by decide
 have hW : ∀ w ∈ JF, 32 ∉ w := by decide
 unfold Y4
 by_cases On : 32 ∈ t
 ·rw [show DX t 32 = true by unfold DX; rw [List.any_eq_true]; exact ⟨32, On, by decide⟩, decide_eq_false (show ¬ t ∈ JF from fun h => hW _ h On)]; simp
 ·rw [show DX t 32 = false by unfold DX; rw [List.any_eq_false]; intro x hx h; exact On (by simp at h; exact h ▸ hx), hB, show ([32] ++ t ++ [32] : List UInt8) = 32 :: (t ++ [32]) by simp, JP ht On JF hW]; simp
end Go.Tri

namespace Go.Tri
open Go.RowKit
def FY : List (List UInt8) := [[60, 60, 45], [38, 38], [124, 124], [59, 59], [60, 60], [62, 62], [60, 38], [62, 38], [60, 62], [62, 124], [38], [59], [124], [60], [62], [40], [41]]
def Ga (l : List UInt8) (k : Nat) : List UInt8 := ((FY.take k).find? fun o => EY l o).getD []
theorem S1 (l : List UInt8) {k : Nat} (h : k < FY.length) (hn : Ga l k = []) : Ga l (k + 1) = if EY l (nth FY k []) then nth FY k [] else [] := by
 unfold Ga at *
 rw [D2 [] h, List.find?_append]
 cases hf : (FY.take k).find? fun o => EY l o with
 | none =>
  rw [Option.none_or, List.find?_singleton]
  cases EY l (nth FY k []) <;> rfl
 | some o =>
  rw [hf] at hn
  have hm : o ∈ FY := List.mem_of_mem_take (List.mem_of_find?_eq_some hf)
  have hn : o = [] := hn
  subst hn
  exact absurd hm (by decide)
theorem TC (l : List UInt8) : ∀ (n k : Nat), Ga l k ≠ [] → Ga l (k + n) = Ga l k
 | 0, k, _ => rfl
 | n + 1, k, h => by
  have ih := TC l n k h
  rw [← Nat.add_assoc, ← ih]
  unfold Ga at *
  rcases Nat.lt_or_ge (k + n) FY.length with hl | hl
  ·rw [D2 [] hl, List.find?_append]
   cases hf : (FY.take (k + n)).find? fun o => EY l o with
   | none => rw [hf] at ih; exact absurd ih.symm h
   | some o => rfl
  ·rw [List.take_of_length_le (by omega), List.take_of_length_le hl]
theorem Xi (l : List UInt8) (n : Nat) : Mh l (n + 1) = decide ((l.take (n + 1)).length = n + 1 ∧ l.take (n + 1) ∈ JF) := by
 unfold Mh
 by_cases h : (l.take (n + 1)).length = n + 1
 ·rw [AAw (fun h0 => by rw [h0] at h; simp at h)]
  simp [h]
 ·rw [decide_eq_false h, decide_eq_false (fun h9 => h h9.1)]; rfl
theorem Pz (l : List UInt8) : Ga l FY.length = Ng l := by
 have Dh : ∀ o : List UInt8, EY l o = decide (l.take o.length = o) := fun o => rfl
 unfold Ga Ng
 rw [List.take_of_length_le (Nat.le_refl _), OX, OX, OX, OX, Xi, Xi, Xi]
 have h3 : (decide ((l.take 3).length = 3 ∧ l.take 3 ∈ JF)) = EY l [60, 60, 45] := by
  rw [Dh]
  apply decide_eq_decide.2
  constructor
  ·rintro ⟨h1, h2⟩
   simp only [JF, List.mem_cons, List.not_mem_nil, or_false] at h2
   rcases h2 with h | h | h | h | h | h | h | h | h | h | h | h | h | h | h | h | h <;> first | exact h | (rw [h] at h1; exact absurd h1 (by decide))
  ·intro h
   have h : l.take 3 = [60, 60, 45] := h
   rw [h]; decide
 have h2 : (decide ((l.take 2).length = 2 ∧ l.take 2 ∈ JF)) = ([[38, 38], [124, 124], [59, 59], [60, 60], [62, 62], [60, 38], [62, 38], [60, 62], [62, 124]] : List (List UInt8)).any fun o => EY l o := by
  rw [Bool.eq_iff_iff, decide_eq_true_eq, List.any_eq_true]
  constructor
  ·rintro ⟨h1, h2⟩
   refine ⟨l.take 2, ?_, by rw [Dh, h1]; simp⟩
   simp only [JF, List.mem_cons, List.not_mem_nil, or_false] at h2
   rcases h2 with h | h | h | h | h | h | h | h | h | h | h | h | h | h | h | h | h <;> first | (rw [h]; decide) | (rw [h] at h1; exact absurd h1 (by decide))
  ·rintro ⟨o, ho, h⟩
   rw [Dh, decide_eq_true_eq] at h
   have hl : o.length = 2 ∧ o ∈ JF := by
    clear h
    revert o; decide
   rw [hl.1] at h
   rw [h]; exact hl
 have h1 : (decide ((l.take 1).length = 1 ∧ l.take 1 ∈ JF)) = ([[38], [59], [124], [60], [62], [40], [41]] : List (List UInt8)).any fun o => EY l o := by
  rw [Bool.eq_iff_iff, decide_eq_true_eq, List.any_eq_true]
  constructor
  ·rintro ⟨h1, h2⟩
   refine ⟨l.take 1, ?_, by rw [Dh, h1]; simp⟩
   simp only [JF, List.mem_cons, List.not_mem_nil, or_false] at h2
   rcases h2 with h | h | h | h | h | h | h | h | h | h | h | h | h | h | h | h | h <;> first | (rw [h]; decide) | (rw [h] at h1; exact absurd h1 (by decide))
  ·rintro ⟨o, ho, h⟩
   rw [Dh, decide_eq_true_eq] at h
   have hl : o.length = 1 ∧ o ∈ JF := by
    clear h
    revert o; decide
   rw [hl.1] at h
   rw [h]; exact hl
 have key : ∀ (L : List (List UInt8)) (n : Nat) (r : List (List UInt8)), (∀ o ∈ L, o.length = n) → ((L ++ r).find? fun o => EY l o) = if (L.any fun o => EY l o) then some (l.take n) else r.find? fun o => EY l o := by
  intro L n r hL
  induction L with
  | nil => simp
  | cons o L ih =>
   rw [List.cons_append, List.find?_cons, List.any_cons]
   cases ho : EY l o with
   | true =>
    rw [Dh, decide_eq_true_eq, hL o (List.mem_cons_self)] at ho
    simp [ho]
   | false => rw [ih (fun x hx => hL x (List.mem_cons_of_mem _ hx)), Bool.false_or]
 show ((([[60, 60, 45]] : List (List UInt8)) ++ ([[38, 38], [124, 124], [59, 59], [60, 60], [62, 62], [60, 38], [62, 38], [60, 62], [62, 124]] ++ ([[38], [59], [124], [60], [62], [40], [41]] ++ []))).find? fun o => EY l o).getD [] = _
 rw [key _ 3 _ (by decide), key _ 2 _ (by decide), key _ 1 _ (by decide)]
 show Option.getD _ _ = if (decide ((l.take 3).length = 3 ∧ l.take 3 ∈ JF)) = true then l.take 3 else if (decide ((l.take 2).length = 2 ∧ l.take 2 ∈ JF)) = true then l.take 2 else if (decide ((l.take 1).length = 1 ∧ l.take 1 ∈ JF)) = true then l.take 1 else []
 rw [h3, h2, h1]
 have e3 : (([[60, 60, 45]] : List (List UInt8)).any fun o => EY l o) = EY l [60, 60, 45] := by simp
 rw [e3]
 split
 ·rfl
 ·split
  ·rfl
  ·split <;> rfl
theorem ABo {l : List UInt8} (h : Ng l ≠ []) : Ng l ∈ FY := by
 rw [← Pz] at h ⊢
 unfold Ga at *
 cases hf : (FY.take FY.length).find? fun o => EY l o with
 | none => rw [hf] at h; exact absurd rfl h
 | some o => exact List.mem_of_mem_take (List.mem_of_find?_eq_some hf)
theorem OT {s : List UInt8} {i : Nat} (h : i < s.length) : s.drop i ≠ [] := fun e => by
 have := congrArg List.length e
 rw [List.length_drop, List.length_nil] at this; omega
def ADN (f p : Nat) (l : List UInt8) : TR → I7
 | .stop k => .ok [] k
 | .bad a e => .bad (p + a) e
 | .tok off k kind text => if kind = 3 then .ok [⟨kind, text, p + off, [], false⟩] k else (DE f (p + k) (l.drop k)).app [⟨kind, text, p + off, [], false⟩] k
theorem AAi (f p : Nat) (l : List UInt8) : DE (f + 1) p l = ADN f p l (I6 l) := by
 rw [DE]
 cases I6 l <;> rfl
def LQ (s : List UInt8) (a : Nat) (T : I7) (i : Nat) (l : List CX) : Prop :=
 ∃ p f g, a ≤ p ∧ p ≤ i ∧ i ≤ s.length ∧ s.length ≤ f + p ∧ (s.drop i).length < g ∧ T = (ADN f p (s.drop p) ((Hp g (s.drop i)).on (i - p))).app l (p - a)
theorem Zd {s : List UInt8} {a i f : Nat} {T : I7} {l : List CX} (ha : a ≤ i) (hi : i ≤ s.length) (hf : s.length < f + i) (h : T = (DE f i (s.drop i)).app l (i - a)) : LQ s a T i l := by
 obtain ⟨g, rfl⟩ : ∃ g, f = g + 1 := ⟨f - 1, by omega⟩
 refine ⟨i, g, (s.drop i).length + 1, ha, Nat.le_refl _, hi, by omega, by omega, ?_⟩
 rw [h, AAi, Nat.sub_self, TR.on_zero]; rfl
theorem Zk {s : List UInt8} {a : Nat} (ha : a ≤ s.length) : LQ s a (DE (s.length + 1) a (s.drop a)) a [] :=
 Zd (f := s.length + 1) (Nat.le_refl _) ha (by omega) (by rw [Nat.sub_self, I7.app_nil])
theorem AFk {s : List UInt8} {a i : Nat} {T : I7} {l : List CX} (h : LQ s a T i l) (hi : s.length ≤ i) : T = .ok l (i - a) := by
 obtain ⟨p, f, g, h1, h2, h3, h4, h5, h6⟩ := h
 rw [List.drop_of_length_le hi] at h5 h6
 have := (JS (r := (Hp g []).on (i - p)) (j := i - p) rfl h5).1 rfl
 rw [h6, this]
 show (I7.ok [] (i - p)).app l (p - a) = _
 simp only [I7.app, List.append_nil]
 congr 1; omega
theorem Np {s : List UInt8} {a i : Nat} {T : I7} {l : List CX} (h : LQ s a T i l) (hi : i < s.length) {k : Nat} (hb : Ce (s.drop i) = k) (hk : k ≠ 0) : LQ s a T (i + k) l := by
 obtain ⟨p, f, g, h1, h2, h3, h4, h5, h6⟩ := h
 have EZ : s.drop i ≠ [] := OT hi
 have Ec := L0 EZ
 have := ((JS (r := (Hp g (s.drop i)).on (i - p)) (j := i - p) rfl h5).2 EZ).2 k hb hk
 rw [hb, List.length_drop] at Ec
 rw [List.length_drop] at h5
 refine ⟨p, f, g - 1, h1, by omega, by omega, h4, by rw [List.length_drop]; omega, ?_⟩
 rw [h6, this, List.drop_drop]
 congr 3; omega
theorem Py {s : List UInt8} {a i : Nat} {T : I7} {l : List CX} (h : LQ s a T i l) (hi : i < s.length) (hb : Ce (s.drop i) = 0) {k kind : Nat} {text : List UInt8} (hh : E3 (s.drop i) = .tok 0 k kind text) (hk : 1 ≤ k ∧ i + k ≤ s.length) :
  (kind = 3 → T = .ok (l ++ [⟨3, text, i, [], false⟩]) (i + k - a)) ∧ (kind ≠ 3 → LQ s a T (i + k) (l ++ [⟨kind, text, i, [], false⟩])) := by
 obtain ⟨p, f, g, h1, h2, h3, h4, h5, h6⟩ := h
 have EZ : s.drop i ≠ [] := OT hi
 have hs := ((JS (r := (Hp g (s.drop i)).on (i - p)) (j := i - p) rfl h5).2 EZ).1 hb
 rw [hs, hh] at h6
 have h6 : T = (if kind = 3 then I7.ok [⟨kind, text, p + (i - p + 0), [], false⟩] (i - p + k) else (DE f (p + (i - p + k)) ((s.drop p).drop (i - p + k))).app [⟨kind, text, p + (i - p + 0), [], false⟩] (i - p + k)).app l (p - a) := h6
 have e1 : p + (i - p + 0) = i := by omega
 have e2 : p + (i - p + k) = i + k := by omega
 rw [e1, List.drop_drop, e2] at h6
 refine ⟨fun h9 => ?_, fun h9 => ?_⟩
 ·subst h9
  rw [h6, if_pos rfl]
  simp only [I7.app]
  congr 1; omega
 ·rw [if_neg h9, I7.app_app] at h6
  refine Zd (f := f) (by omega) hk.2 (by omega) ?_
  rw [h6]; congr 1; omega
theorem Xb {s : List UInt8} {a i : Nat} {T : I7} {l : List CX} (h : LQ s a T i l) (hi : i < s.length) (hb : Ce (s.drop i) = 0) {x e : Nat} (hh : E3 (s.drop i) = .bad x e) : T = .bad (i + x) e := by
 obtain ⟨p, f, g, h1, h2, h3, h4, h5, h6⟩ := h
 have EZ : s.drop i ≠ [] := OT hi
 have hs := ((JS (r := (Hp g (s.drop i)).on (i - p)) (j := i - p) rfl h5).2 EZ).1 hb
 rw [hs, hh] at h6
 rw [h6]
 show I7.bad (p + (i - p + x)) e = _
 congr 1; omega
end Go.Tri

namespace Go.Tri
open Go.RowKit
theorem Nm (c : UInt8) : DX Cv c = (decide (c = 9) || decide (c = 10) || decide (c = 32) || decide (c = 38) || decide (c = 59) || decide (c = 124) || decide (c = 60) || decide (c = 62) || decide (c = 40) || decide (c = 41)) := by
 rw [Bool.eq_iff_iff]
 simp only [DX, Cv, List.any_cons, List.any_nil, Bool.or_false, Bool.or_eq_true, beq_iff_eq, decide_eq_true_eq, @eq_comm _ c]
 simp only [or_assoc, or_comm, or_left_comm]
def T7 (t : List UInt8) : Bool := decide (t ≠ []) && t.all fun c => decide (48 ≤ c.toNat) && decide (c.toNat ≤ 57)
theorem AFR : ∀ c : UInt8, M6.contains c = (decide (48 ≤ c.toNat) && decide (c.toNat ≤ 57)) := by
 intro c
 have h : ∀ n : Fin 256, M6.contains (UInt8.ofNat n.val) = (decide (48 ≤ (UInt8.ofNat n.val).toNat) && decide ((UInt8.ofNat n.val).toNat ≤ 57)) := by decide +kernel
 have := h ⟨c.toNat, c.toNat_lt⟩
 simpa using this
theorem NF {p : UInt8 → Bool} : ∀ {l : List UInt8}, l.dropWhile p = [] ↔ ∀ x ∈ l, p x = true
 | [] => ⟨fun _ _ h => (by cases h), fun _ => rfl⟩
 | a :: l => by
  rw [List.dropWhile_cons]
  cases h : p a with
  | false => exact ⟨fun h2 => (by simp at h2), fun h2 => (by rw [h2 a List.mem_cons_self] at h; cases h)⟩
  | true =>
   rw [if_pos rfl, NF]
   exact ⟨fun h2 x hx => (List.mem_cons.1 hx).elim (fun e => e ▸ h) (h2 x), fun h2 x hx => h2 x (List.mem_cons_of_mem _ hx)⟩
theorem NU {p : UInt8 → Bool} {c : UInt8} (hc : p c = false) : ∀ {l : List UInt8}, c ∈ l → c ∈ l.dropWhile p
 | [], h => by cases h
 | a :: l, h => by
  rw [List.dropWhile_cons]
  cases ha : p a with
  | false => exact h
  | true =>
   rw [if_pos rfl]
   rcases List.mem_cons.1 h with rfl | h
   ·rw [hc] at ha; cases ha
   ·exact NU hc h
theorem XA {s cs : List UInt8} : Lib.trimS s cs = [] ↔ s.all (cs.contains ·) = true := by
 unfold Lib.trimS Lib.trimRightS Lib.trimLeftS
 rw [NF, List.all_eq_true]
 constructor
 ·intro h c hc
  cases hb : cs.contains c with
  | true => rfl
  | false =>
   have hm := NU (p := (cs.contains ·)) hb (List.mem_reverse.2 hc)
   have := h c (List.mem_reverse.2 hm)
   rw [hb] at this; cases this
 ·intro h c hc
  have := (List.dropWhile_sublist (l := s.reverse) (cs.contains ·)).mem (List.mem_reverse.1 hc)
  exact h c (List.mem_reverse.1 this)
theorem TW {l : List UInt8} {k : Nat} (hk : l.take k ≠ []) : Ez l k = (T7 (l.take k) && (EY (l.drop k) [60] || EY (l.drop k) [62])) := by
 unfold Ez T7
 congr 1
 rw [decide_eq_true hk, Bool.true_and, Bool.eq_iff_iff, decide_eq_true_eq, XA]
 simp only [AFR]
theorem Za {t : List UInt8} {i : Nat} (h : i < t.length) : (t.take (i + 1)).all (fun c => decide (48 ≤ c.toNat) && decide (c.toNat ≤ 57)) = ((t.take i).all (fun c => decide (48 ≤ c.toNat) && decide (c.toNat ≤ 57)) && (decide (48 ≤ (nth t i 0).toNat) && decide ((nth t i 0).toNat ≤ 57))) := by
 rw [D2 0 h, List.all_append]; simp
theorem AEN {t : List UInt8} {i : Nat} (h : i < t.length) (hn : (decide (48 ≤ (nth t i 0).toNat) && decide ((nth t i 0).toNat ≤ 57)) = false) : T7 t = false := by
 unfold T7
 rw [Bool.and_eq_false_iff]; right
 rw [← Bool.not_eq_true, List.all_eq_true]
 intro h9
 have := h9 _ (DG (d := 0) h)
 rw [hn] at this; cases this
theorem Ea (s : List UInt8) (j k : Nat) : nth (s.drop j) k 0 = nth s (j + k) 0 := by
 unfold nth; rw [List.getD_eq_getElem?_getD, List.getD_eq_getElem?_getD, List.getElem?_drop]
theorem PQ {s : List UInt8} {j e : Nat} (hj : j ≤ e) (he : e ≤ s.length) (ET : ∀ k, j ≤ k → k < e → nth s k 0 ≠ 10) (J3 : e < s.length → nth s e 0 = 10) : Bz (s.drop j) = e - j ∧ DX (s.drop j) 10 = decide (e < s.length) := by
 have hr := IG (l := s.drop j)
 have Ec := O0 (s.drop j)
 rw [List.length_drop] at Ec hr
 cases hb : DX (s.drop j) 10 with
 | true =>
  obtain ⟨h1, h2⟩ := hr.1 hb
  rw [Ea] at h2
  have h3 : ¬ j + Bz (s.drop j) < e := fun h => ET _ (by omega) h h2
  have h4 : e < s.length := by omega
  refine ⟨?_, (decide_eq_true h4).symm⟩
  rcases Nat.lt_or_ge e (j + Bz (s.drop j)) with h5 | h5
  ·exfalso
   have h6 : e - j < Bz (s.drop j) := by omega
   unfold Bz at h6
   split at h6
   ·rename_i h7
    obtain ⟨i, hi⟩ : ∃ i : Nat, Lib.indexByte (s.drop j) 10 = i := ⟨(Lib.indexByte (s.drop j) 10).toNat, by omega⟩
    obtain ⟨h8, h9, QZ⟩ := Co hi
    rw [hi] at h6
    apply QZ
    have h11 : e - j < ((s.drop j).take i).length := by rw [List.length_take]; omega
    have h12 : nth ((s.drop j).take i) (e - j) 0 = 10 := by
     rw [← J3 h4]
     unfold nth
     rw [List.getD_eq_getElem?_getD, List.getD_eq_getElem?_getD, List.getElem?_take, if_pos (by omega), List.getElem?_drop, show j + (e - j) = e by omega]
    rw [← h12]; exact DG h11
   ·rename_i h7
    have h8 : Lib.indexByte (s.drop j) 10 = -1 := by have := Lib.indexByte_ge (s.drop j) 10; omega
    apply JX h8
    rw [← J3 h4, show e = j + (e - j) by omega, ← Ea]
    exact DG (by rw [List.length_drop]; omega)
  ·omega
 | false =>
  have h1 := hr.2 hb
  have h2 : ¬ e < s.length := fun h => by
   have h3 := J3 h
   rw [show e = j + (e - j) by omega, ← Ea] at h3
   have h4 : 10 ∈ s.drop j := by rw [← h3]; exact DG (by rw [List.length_drop]; omega)
   have : DX (s.drop j) 10 = true := by unfold DX; rw [List.any_eq_true]; exact ⟨10, h4, by simp⟩
   rw [hb] at this; cases this
  exact ⟨by omega, (decide_eq_false h2).symm⟩
theorem Z1 {l : List UInt8} (h : l ≠ []) (h9 : nth l 0 0 = 9) : Lib.trimLeftB l 9 = Lib.trimLeftB (l.drop 1) 9 := by
 cases l with
 | nil => exact absurd rfl h
 | cons c r =>
  have h9 : c = 9 := h9
  subst h9
  unfold Lib.trimLeftB
  rw [List.dropWhile_cons, if_pos (by decide)]; rfl
theorem ABA {l : List UInt8} (h : l = [] ∨ nth l 0 0 ≠ 9) : Lib.trimLeftB l 9 = l := by
 cases l with
 | nil => rfl
 | cons c r =>
  have h9 : c ≠ 9 := by rcases h with h | h; cases h; exact h
  unfold Lib.trimLeftB
  rw [List.dropWhile_cons, if_neg (by simpa using h9)]
def Qt (t : CX) : Prop := (t.kind = 3 → t.text = [10]) ∧ (t.kind = 2 → t.text ∈ FY)
theorem Nh {t : List UInt8} (h : t ∈ FY) : EY t [60, 60] = (decide (t = [60, 60]) || decide (t = [60, 60, 45])) := by
 revert t; decide
theorem AFc {l : List UInt8} {o : List UInt8} (ho : o ∈ FY) (hs : EY l o = true) : Ng l ≠ [] := by
 rw [← Pz]
 unfold Ga
 rw [List.take_of_length_le (Nat.le_refl _)]
 cases hf : FY.find? fun o => EY l o with
 | none =>
  have := List.find?_eq_none.1 hf o ho
  exact absurd hs this
 | some x =>
  have hm := List.mem_of_find?_eq_some hf
  intro h
  have h : x = [] := h
  subst h
  exact absurd hm (by decide)
theorem R2 {l : List UInt8} (hl : l ≠ []) (hb : Ce l = 0) (QZ : nth l 0 0 ≠ 10) (ho : Ng l = []) : DX Cv (nth l 0 0) = false := by
 cases l with
 | nil => exact absurd rfl hl
 | cons c r =>
  have QZ : c ≠ 10 := QZ
  show DX Cv c = false
  cases hs : DX Cv c with
  | false => rfl
  | true =>
   exfalso
   have Lg : ∀ d : UInt8, [d] ∈ FY → c = d → False := fun d hd e => AFc (l := c :: r) hd (by rw [U3]; exact decide_eq_true e) ho
   have hbw : c = 32 ∨ c = 9 → False := fun h => by rw [Y3 h] at hb; cases hb
   rw [Nm] at hs
   simp only [Bool.or_eq_true, decide_eq_true_eq] at hs
   rcases hs with ((((((((h | h) | h) | h) | h) | h) | h) | h) | h) | h
   ·exact hbw (.inr h)
   ·exact QZ h
   ·exact hbw (.inl h)
   ·exact Lg 38 (by decide) h
   ·exact Lg 59 (by decide) h
   ·exact Lg 124 (by decide) h
   ·exact Lg 60 (by decide) h
   ·exact Lg 62 (by decide) h
   ·exact Lg 40 (by decide) h
   ·exact Lg 41 (by decide) h
theorem Xd {l : List UInt8} {k : Nat} (hl : l ≠ []) (hs : DX Cv (nth l 0 0) = false) (h : EN l = .ok k) : 1 ≤ k := by
 cases hw : CA l with
 | bad a e =>
  have := ((Hs (r := EN l) (j := 0) (by unfold EN; rw [SR.on_zero]) hl (Nat.le_refl _)).2 hs).1 a e hw
  rw [h] at this; cases this
 | ok m =>
  have h1 := AAm hs hl hw
  have h2 : RC l (.ok m) := hw ▸ E2 hl
  have h3 : 1 ≤ m := h2.1
  rw [h] at h1
  cases h4 : EN (l.drop m) with
  | bad a e => rw [h4] at h1; cases h1
  | ok j =>
   rw [h4] at h1
   injection h1 with h1
   omega
theorem JR {s : List UInt8} {i : Nat} (h : i < s.length) : EG (s.take (i + 1)) DF = (EG (s.take i) DF || DX DF (nth s i 0)) := by
 unfold EG
 rw [D2 0 h, List.any_append]; simp
theorem AAp {s : List UInt8} {i : Nat} (h : i + 1 < s.length) (hq : DX DF (nth s i 0) = true) : EG (s.take (i + 2)) DF = true := by
 rw [JR h, JR (by omega), hq, Bool.or_true, Bool.true_or]
theorem P4 (c : UInt8) : DX DF c = (decide (c = 39) || decide (c = 34) || decide (c = 92)) := by
 rw [Bool.eq_iff_iff]
 simp only [DX, DF, List.any_cons, List.any_nil, Bool.or_false, Bool.or_eq_true, beq_iff_eq, decide_eq_true_eq, @eq_comm _ c]
 simp only [or_assoc]
end Go.Tri
