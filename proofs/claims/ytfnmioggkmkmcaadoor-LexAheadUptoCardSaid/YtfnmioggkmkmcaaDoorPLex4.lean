/-
  A line of a shell text, in plain words.
-/
import Derived.Test.YtfnmioggkmkmcaaDoorPLex3
namespace Go.Tri
open Go.RowKit
/-- no fault bears the number 0 -/
def Faulty : SR → Prop
  | .ok _ => True
  | .bad _ e => e ≠ 0
def FaultyL : LR → Prop
  | .bad _ e => e ≠ 0
  | _ => True
theorem faulty_close {r : LR} {k e : Nat} (h : FaultyL r) (he : e ≠ 0) : Faulty (r.close k e) := by
  cases r with
  | ok j => trivial
  | bad a e' => exact h
  | out => exact he
theorem faultyL_on {r : LR} {k : Nat} (h : FaultyL r) : FaultyL (r.on k) := by
  cases r with
  | ok j => trivial
  | bad a e' => exact h
  | out => trivial
theorem single_faulty (l : List UInt8) : Faulty (singleP l) := by
  unfold singleP
  split
  · exact Nat.succ_ne_zero _
  · trivial
theorem inside_faulty {dlr : Bool → List UInt8 → SR} {q apo : Bool} {l : List UInt8} (hd : ∀ q l, Faulty (dlr q l)) : Faulty (insideP dlr q apo l) := by
  unfold insideP
  split
  · trivial
  · split
    · exact single_faulty l
    · split
      · exact Nat.succ_ne_zero _
      · split
        · exact hd _ _
        · trivial
theorem dblL_faulty {dlr : Bool → List UInt8 → SR} (hd : ∀ q l, Faulty (dlr q l)) : ∀ (f : Nat) (l : List UInt8), FaultyL (dblL dlr f l)
  | 0, _ => trivial
  | f + 1, l => by
    unfold dblL
    split
    · trivial
    · split
      · trivial
      · have hf := inside_faulty (q := true) (apo := false) (l := l) hd
        cases hi : insideP dlr true false l with
        | bad a e => rw [hi] at hf; exact hf
        | ok k => exact faultyL_on (dblL_faulty hd f _)
theorem dlrL_faulty {dbl : List UInt8 → SR} {dlr : Bool → List UInt8 → SR} {brace q : Bool} (hb : ∀ l, Faulty (dbl l)) (hd : ∀ q l, Faulty (dlr q l)) : ∀ (f o : Nat) (l : List UInt8), FaultyL (dlrL dbl dlr brace q f o l)
  | 0, _, _ => trivial
  | f + 1, o, l => by
    unfold dlrL
    split
    · trivial
    · split
      · have hf := hb l
        cases hi : dbl l with
        | bad a e => rw [hi] at hf; exact hf
        | ok k => exact faultyL_on (dlrL_faulty hb hd f _ _)
      · split
        · trivial
        · have hf := inside_faulty (q := q) (apo := !q) (l := l) hd
          cases hi : insideP dlr q (!q) l with
          | bad a e => rw [hi] at hf; exact hf
          | ok k => exact faultyL_on (dlrL_faulty hb hd f _ _)
theorem lv_faulty : ∀ n, (∀ l, Faulty ((lv n).1 l)) ∧ ∀ q l, Faulty ((lv n).2 q l)
  | 0 => ⟨fun _ => Nat.succ_ne_zero _, fun _ _ => Nat.succ_ne_zero _⟩
  | n + 1 => by
    obtain ⟨h1, h2⟩ := lv_faulty n
    exact ⟨fun l => faulty_close (dblL_faulty h2 _ _) (Nat.succ_ne_zero _), fun q l => faulty_close (dlrL_faulty h1 h2 _ _ _) (Nat.succ_ne_zero _)⟩
theorem wordStep_faulty (l : List UInt8) : Faulty (wordStep l) := by
  unfold wordStep
  split
  · exact (lv_faulty 24).1 l
  · exact inside_faulty (lv_faulty 24).2
theorem wordL_faulty : ∀ (f : Nat) (l : List UInt8), Faulty (wordL f l)
  | 0, _ => trivial
  | f + 1, l => by
    unfold wordL
    split
    · trivial
    · split
      · trivial
      · have hf := wordStep_faulty l
        cases hs : wordStep l with
        | bad a e => rw [hs] at hf; exact hf
        | ok k =>
          have := wordL_faulty f (l.drop k)
          show Faulty ((wordL f (l.drop k)).on k)
          cases hr : wordL f (l.drop k) with
          | bad a e => rw [hr] at this; exact this
          | ok j => trivial
/-- what a token's scan tells: so far it goes on, and no fault bears 0 -/
def FitT (l : List UInt8) : TR → Prop
  | .stop k => k ≤ l.length
  | .tok off k kind text => 1 ≤ k ∧ k ≤ l.length ∧ off < k ∧ text.length ≤ l.length
  | .bad _ e => e ≠ 0
theorem ops_one (c : UInt8) (h : hasB specials c = true) : c = 32 ∨ c = 9 ∨ c = 10 ∨ isOp [c] = true := by
  revert c; exact u8_all (by decide +kernel)
theorem headP_fit {l : List UInt8} (hl : l ≠ []) (hb : blankN l = 0) : FitT l (headP l) := by
  have hp := List.length_pos_iff.2 hl
  unfold headP
  split
  · exact ⟨Nat.le_refl _, hp, by omega, hp⟩
  · rename_i h10
    split
    · rename_i hop
      obtain ⟨h1, h2, h3⟩ := opN_len 3 l
      have h0 := List.length_pos_iff.2 hop
      exact ⟨h0, h1, h0, h1⟩
    · rename_i hop
      unfold restP
      have hf := wordL_faulty l.length l
      cases hw : wordP l with
      | bad a e => unfold wordP at hw; rw [hw] at hf; exact hf
      | ok k =>
        have hk := wordP_fit hw
        have h1 : 1 ≤ k := by
          rcases Nat.eq_zero_or_pos k with h | h
          · exfalso
            subst h
            -- then the first byte is special
            have hx : wordP l = (wordL l.length l).on 0 := (SR.on_zero _).symm
            have hst := word_step hx hl (Nat.le_refl _)
            cases hs : hasB specials (nth l 0 0) with
            | true =>
              have hop' : opP l = [] := Classical.not_not.1 hop
              have hnb : ¬ (nth l 0 0 = 32) ∧ ¬ (nth l 0 0 = 9) := by
                constructor <;> (intro e; unfold blankN at hb; split at hb; cases hb; rw [if_pos (by rw [e]; rfl)] at hb; cases hb)
              rcases ops_one _ hs with h | h | h | h
              · exact hnb.1 h
              · exact hnb.2 h
              · exact h10 h
              · have h1 : l.take 1 = [nth l 0 0] := by
                  cases l with
                  | nil => exact absurd rfl hl
                  | cons c r => rfl
                have ho : opAt l 1 = true := by
                  unfold opAt
                  rw [h1, h]; rfl
                have hne : opP l ≠ [] := by
                  unfold opP opN
                  split
                  · intro e
                    have := congrArg List.length e
                    rename_i h3
                    unfold opAt at h3
                    rw [Bool.and_eq_true, decide_eq_true_eq] at h3
                    rw [h3.1] at this; cases this
                  · unfold opN
                    split
                    · intro e
                      have := congrArg List.length e
                      rename_i h3
                      unfold opAt at h3
                      rw [Bool.and_eq_true, decide_eq_true_eq] at h3
                      rw [h3.1] at this; cases this
                    · unfold opN
                      rw [if_pos ho, h1]; simp
                exact hne hop'
            | false =>
              have hno := hst.2 hs
              have hfit := wordStep_fit hl
              cases hws : wordStep l with
              | bad a e =>
                have := hno.1 a e hws
                rw [hw] at this; cases this
              | ok j =>
                have h2 := hno.2 j hws
                rw [hws] at hfit
                have hj : 1 ≤ j := hfit.1
                rw [hw] at h2
                cases hr : wordL (l.length - 1) (l.drop j) with
                | bad a e => rw [hr] at h2; cases h2
                | ok m =>
                  rw [hr] at h2
                  have h3 : (SR.ok 0) = SR.ok (0 + j + m) := h2
                  injection h3 with h3; omega
          · exact h
        show FitT l (if 4096 < k then .bad 0 51 else _)
        split
        · exact Nat.succ_ne_zero _
        · exact ⟨h1, hk, by omega, by rw [List.length_take]; omega⟩
theorem fitT_on {l : List UInt8} {n : Nat} {r : TR} (hn : n ≤ l.length) (h : FitT (l.drop n) r) : FitT l (r.on n) := by
  cases r with
  | stop k =>
    have h2 : k ≤ (l.drop n).length := h
    rw [List.length_drop] at h2
    show n + k ≤ l.length
    omega
  | tok off k kind text =>
    have h2 : 1 ≤ k ∧ k ≤ (l.drop n).length ∧ off < k ∧ text.length ≤ (l.drop n).length := h
    rw [List.length_drop] at h2
    exact ⟨by omega, by omega, by omega, by omega⟩
  | bad a e => exact h
theorem tokL_fit : ∀ (f : Nat) (l : List UInt8), FitT l (tokL f l)
  | 0, l => Nat.zero_le _
  | f + 1, l => by
    unfold tokL
    split
    · exact Nat.zero_le _
    · rename_i hl
      split
      · exact fitT_on (blankN_le hl) (tokL_fit f _)
      · rename_i hb
        exact headP_fit hl (by simpa using hb)
theorem tokP_fit (l : List UInt8) : FitT l (tokP l) := tokL_fit _ _
/-- a line's tokens; where it ends; or its fault, by its place in the whole text -/
inductive LnR where
  | ok (toks : List Tok) (k : Nat)
  | bad (a e : Nat)
def LnR.app (l : List Tok) (k : Nat) : LnR → LnR
  | .ok ts j => .ok (l ++ ts) (k + j)
  | .bad a e => .bad a e
theorem LnR.app_app (l m : List Tok) (j k : Nat) (r : LnR) : (r.app m k).app l j = r.app (l ++ m) (j + k) := by cases r <;> simp [LnR.app, Nat.add_assoc]
theorem LnR.app_nil (r : LnR) : r.app [] 0 = r := by cases r <;> simp [LnR.app]
def lineL : Nat → Nat → List UInt8 → LnR
  | 0, _, _ => .ok [] 0
  | f + 1, p, l => match tokP l with
    | .stop k => .ok [] k
    | .bad a e => .bad (p + a) e
    | .tok off k kind text => if kind = 3 then .ok [⟨kind, text, p + off, [], false⟩] k else (lineL f (p + k) (l.drop k)).app [⟨kind, text, p + off, [], false⟩] k
theorem line_step {f p : Nat} {l : List UInt8} {r : LnR} {m : List Tok} {j : Nat} (h : r = (lineL f p l).app m j) (hf : l.length < f) :
    (∀ k, tokP l = .stop k → r = .ok m (j + k)) ∧ (∀ a e, tokP l = .bad a e → r = .bad (p + a) e) ∧
    (∀ off k kind text, tokP l = .tok off k kind text → (kind = 3 → r = .ok (m ++ [⟨kind, text, p + off, [], false⟩]) (j + k)) ∧ (¬ kind = 3 → r = (lineL (f - 1) (p + k) (l.drop k)).app (m ++ [⟨kind, text, p + off, [], false⟩]) (j + k))) := by
  obtain ⟨g, rfl⟩ : ∃ g, f = g + 1 := ⟨f - 1, by omega⟩
  refine ⟨fun k h1 => ?_, fun a e h1 => ?_, fun off k kind text h1 => ⟨fun h2 => ?_, fun h2 => ?_⟩⟩
  · rw [h, lineL, h1]; simp [LnR.app]
  · rw [h, lineL, h1]; rfl
  · rw [h, lineL, h1]
    show (if kind = 3 then _ else _ : LnR).app m j = _
    rw [if_pos h2]; rfl
  · rw [h, lineL, h1]
    show (if kind = 3 then _ else _ : LnR).app m j = _
    rw [if_neg h2, Nat.add_sub_cancel]
    exact LnR.app_app _ _ _ _ _
/-- is a token the delimiter of a document? -/
def hereB (prev : Option Tok) (t : Tok) : Bool := match prev with
  | none => false
  | some q => decide (t.kind = 1) && decide (q.kind = 2) && stB q.text [60, 60]
def stripB (prev : Option Tok) : Bool := match prev with
  | none => false
  | some q => decide (q.text = [60, 60, 45])
/-- the documents of a line: read behind it one by one -/
inductive DsR where
  | ok (toks : List Tok) (j : Nat)
  | bad (a : Nat)
def DsR.app (l : List Tok) : DsR → DsR
  | .ok ts j => .ok (l ++ ts) j
  | .bad a => .bad a
theorem DsR.app_app (l m : List Tok) (r : DsR) : (r.app m).app l = r.app (l ++ m) := by cases r <;> simp [DsR.app]
def docsL (s : List UInt8) : Option Tok → List Tok → Nat → DsR
  | _, [], j => .ok [] j
  | prev, t :: r, j => if hereB prev t then match docP (stripB prev) (bareP t.text) (s.drop j) with
      | none => .bad t.pos
      | some x => (docsL s (some t) r (j + x.2)).app [{ t with doc := x.1, raw := anyOf t.text quoteSet }]
    else (docsL s (some t) r j).app [t]
structure LineV where
  toks : List Tok
  fin : Nat
  place : Nat
  err : Nat
def lineAt (s : List UInt8) (i : Nat) : LineV := match lineL (s.length + 1) i (s.drop i) with
  | .bad a e => ⟨[], 0, a, e⟩
  | .ok ts k => match docsL s none ts (i + k) with
    | .bad a => ⟨[], 0, a, 54⟩
    | .ok ds j => ⟨ds, j, 0, 0⟩
def lineP (s : List UInt8) (at' : Int) : LineV := if 65536 < s.length then ⟨[], 0, 0, 50⟩ else if at' < 0 ∨ (s.length : Int) < at' then ⟨[], 0, 0, 73⟩ else lineAt s at'.toNat
end Go.Tri
