/-
 A word as parts, in plain words.
-/
import Derived.Test.YtmjcakamgeepbaaGreatDoorPLex12
import Derived.Test.YtmjcakamgeepbaaGreatDoorTriZ
namespace Go.Tri
open Go.RowKit
/-- a part -/
inductive PT where
 | mk (kind : Nat) (text op : List UInt8) (word : List PT) (q : Bool)
def PT.kind : PT → Nat
 | .mk k _ _ _ _ => k
def PT.text : PT → List UInt8
 | .mk _ t _ _ _ => t
def PT.op : PT → List UInt8
 | .mk _ _ o _ _ => o
def PT.word : PT → List PT
 | .mk _ _ _ w _ => w
def PT.q : PT → Bool
 | .mk _ _ _ _ q => q
def pt0 : PT := .mk 0 [] [] [] false
/-- parts, or why they are refused -/
inductive PR where
 | ok (l : List PT)
 | bad (e : Nat)
/-- a step: the parts so far and how many bytes it took -/
inductive SP where
 | ok (l : List PT) (k : Nat)
 | bad (e : Nat)
inductive BR where
 | ok (p : PT)
 | bad (e : Nat)
def litP (l : List PT) (t : List UInt8) (q : Bool) : List PT :=
 if l ≠ [] ∧ (nth l (l.length - 1) pt0).kind = 1 ∧ (nth l (l.length - 1) pt0).q = q then l.set (l.length - 1) (.mk 1 ((nth l (l.length - 1) pt0).text ++ t) (nth l (l.length - 1) pt0).op (nth l (l.length - 1) pt0).word q)
 else l ++ [.mk 1 t [] [] q]
def allP (l : List PT) : List PT → List PT
 | [] => l
 | p :: m => allP (if p.kind = 1 then litP l p.text p.q else l ++ [p]) m
/-- how far the text is a name -/
def nameN : Nat → Nat → List UInt8 → Nat
 | 0, n, _ => n
 | f + 1, n, s => if n < s.length ∧ nameB (s.take (n + 1)) = true then nameN f (n + 1) s else n
def markS : List UInt8 := [64, 42, 35, 63, 36, 33]
def paramN (s : List UInt8) : Nat :=
 let n := nameN s.length 0 s
 let d := s.length - (Lib.trimLeftS s digitsS).length
 if n ≠ 0 then n else if d ≠ 0 then d else if s ≠ [] ∧ hasB markS (nth s 0 0) = true then 1 else 0
def opsW : List (List UInt8) := [[58, 45], [58, 61], [58, 63], [58, 43], [37, 37], [35, 35], [45], [61], [63], [43], [37], [35]]
def findOp (s : List UInt8) : List UInt8 := (opsW.find? (fun o => stB s o)).getD []
def lenW : List UInt8 := [108, 101, 110]
def bracedP (W : Nat → List UInt8 → PR) (kind : Nat) (s : List UInt8) : BR :=
 if (stB s [35] && decide (1 < s.length) && decide (paramN (s.drop 1) = s.length - 1)) = true then .ok (.mk 2 (s.drop 1) lenW [] (decide (kind ≠ 0)))
 else if paramN s = 0 then .bad 55
 else if s.drop (paramN s) = [] then .ok (.mk 2 (s.take (paramN s)) [] [] (decide (kind ≠ 0)))
 else if findOp (s.drop (paramN s)) = [] then .bad 55
 else match W (if Lib.contains [37, 37, 35, 35] (findOp (s.drop (paramN s))) = true then 0 else kind) ((s.drop (paramN s)).drop (findOp (s.drop (paramN s))).length) with
  | .bad e => .bad e
  | .ok w => .ok (.mk 2 (s.take (paramN s)) (findOp (s.drop (paramN s))) w (decide (kind ≠ 0)))
def beginsB (l : List UInt8) : Bool := stB l [36, 40] || stB l [36, 123]
def exprB (s : List UInt8) (q : Bool) : Bool := stB s [40] && match (lv 24).2 q (36 :: s) with
 | .ok k => decide (k = s.length + 1)
 | .bad _ _ => false
def dolP (n : Nat) (W : Nat → List UInt8 → PR) (kind : Nat) (l : List UInt8) (acc : List PT) : SP :=
 if beginsB l = true then
  match (lv n).2 (decide (kind ≠ 0)) l with
  | .bad _ e => .bad e
  | .ok k =>
   if nth l 1 0 = 123 then
    match bracedP W kind ((l.take (k - 1)).drop 2) with
    | .bad e => .bad e
    | .ok p => .ok (acc ++ [p]) k
   else if exprB ((l.take (k - 1)).drop 2) (decide (kind ≠ 0)) = true then
    match W 2 ((((l.take (k - 1)).drop 2).take (((l.take (k - 1)).drop 2).length - 1)).drop 1) with
    | .bad e => .bad e
    | .ok w => .ok (acc ++ [.mk 4 [] [] w (decide (kind ≠ 0))]) k
   else .ok (acc ++ [.mk 3 ((l.take (k - 1)).drop 2) [] [] (decide (kind ≠ 0))]) k
 else if paramN (l.drop 1) = 0 then .ok (litP acc [36] (decide (kind ≠ 0))) 1
 else .ok (acc ++ [.mk 2 ((l.drop 1).take (if 48 ≤ (nth l 1 0).toNat ∧ (nth l 1 0).toNat ≤ 57 then 1 else paramN (l.drop 1))) [] [] (decide (kind ≠ 0))]) ((if 48 ≤ (nth l 1 0).toNat ∧ (nth l 1 0).toNat ≤ 57 then 1 else paramN (l.drop 1)) + 1)
def bslP (kind : Nat) (l : List UInt8) (acc : List PT) : SP :=
 if l.length = 1 then .ok (litP acc [92] true) 1
 else if nth l 1 0 = 10 then .ok acc 2
 else if kind = 0 ∨ hasB [36, 96, 92] (nth l 1 0) = true ∨ (kind = 1 ∧ nth l 1 0 = 34) then .ok (litP acc ((l.take 2).drop 1) true) 2
 else .ok (litP acc [92] true) 1
def quotP (n : Nat) (W : Nat → List UInt8 → PR) (l : List UInt8) (acc : List PT) : SP :=
 match (if nth l 0 0 = 34 then (lv n).1 l else singleP l) with
 | .bad _ e => .bad e
 | .ok k =>
  if nth l 0 0 = 39 ∨ (l.take (k - 1)).drop 1 = [] then .ok (litP acc ((l.take (k - 1)).drop 1) true) k
  else match W 1 ((l.take (k - 1)).drop 1) with
   | .bad e => .bad e
   | .ok m => .ok (allP (if m = [] then litP acc [] true else acc) m) k
def stepP (n : Nat) (W : Nat → List UInt8 → PR) (kind : Nat) (l : List UInt8) (acc : List PT) : SP :=
 if nth l 0 0 = 92 then bslP kind l acc
 else if (nth l 0 0 = 39 ∨ nth l 0 0 = 34) ∧ kind = 0 then quotP n W l acc
 else if nth l 0 0 = 36 then dolP n W kind l acc
 else if nth l 0 0 = 96 then .bad 55
 else .ok (litP acc (l.take 1) (decide (kind ≠ 0))) 1
def readL (n : Nat) (W : Nat → List UInt8 → PR) (kind : Nat) : Nat → List UInt8 → List PT → PR
 | 0, _, acc => .ok acc
 | f + 1, l, acc => if l = [] then .ok acc else match stepP n W kind l acc with
  | .bad e => .bad e
  | .ok acc' k => readL n W kind f (l.drop k) acc'
def tildeB (kind : Nat) (s : List UInt8) : Bool := decide (kind = 0) && (decide (s = [126]) || stB s [126, 47])
def readP (n : Nat) (W : Nat → List UInt8 → PR) (kind : Nat) (s : List UInt8) : PR :=
 if tildeB kind s = true then readL n W kind s.length (s.drop 1) [.mk 5 [126] [] [] false] else readL n W kind s.length s []
/-- within a depth that leaves n levels -/
def wP : Nat → Nat → List UInt8 → PR
 | 0 => readP 0 (fun _ _ => .bad 52)
 | n + 1 => readP (n + 1) (wP n)
def partsP (s : List UInt8) (kind : Int) : PR := if 65536 < s.length then .bad 50 else if kind < 0 ∨ 2 < kind then .bad 73 else wP 24 kind.toNat s
end Go.Tri

/-
 Parts in memory: each with the value of its own parts; a list of parts reads as this.
-/
namespace Go.Tri
open Go.RowKit
/-- a part with the value that holds its parts -/
structure PE where
 kind : Nat
 text : List UInt8
 op : List UInt8
 wv : Value
 word : List PT
 q : Bool
def PE.pt (x : PE) : PT := .mk x.kind x.text x.op x.word x.q
def nilV : Value := .slice none 0 0
def pe0 : PE := ⟨0, [], [], nilV, [], false⟩
def partC (x : PE) : List Value := [.int .i64 (x.kind : Int), str x.text, str x.op, x.wv, .bool x.q]
/-- what a list of parts reads as -/
inductive PlR (I : Look) : Value → List PT → Prop
 | mk (v : Value) (L : List PE) (h : Sl I 5 v (L.map partC)) (hw : ∀ x ∈ L, PlR I x.wv x.word) : PlR I v (L.map PE.pt)
theorem PlR.mono {I J : Look} {v : Value} {l : List PT} (h : PlR I v l) (hle : Le I J) : PlR J v l := by
 induction h with
 | mk v L h hw ih => exact .mk v L (h.mono hle) ih
theorem PlR.un {I : Look} {v : Value} {l : List PT} (h : PlR I v l) : ∃ L : List PE, l = L.map PE.pt ∧ Sl I 5 v (L.map partC) ∧ ∀ x ∈ L, PlR I x.wv x.word := by
 cases h with
 | mk v L h hw => exact ⟨L, rfl, h, hw⟩
theorem plR_nil (I : Look) : PlR I nilV [] := .mk nilV [] (sl_nil (fun _ h => by cases h)) (fun _ h => by cases h)
theorem PlR.one {I : Look} {v : Value} {l : List PT} (h : PlR I v l) : One v := by
 obtain ⟨L, _, h1, _⟩ := h.un
 exact h1.one
/-- the words of all of them stand -/
def WordsR (I : Look) (L : List PE) : Prop := ∀ x ∈ L, PlR I x.wv x.word
theorem WordsR.mono {I J : Look} {L : List PE} (h : WordsR I L) (hle : Le I J) : WordsR J L := fun x hx => (h x hx).mono hle
theorem WordsR.app {I : Look} {L M : List PE} (h : WordsR I L) (k : WordsR I M) : WordsR I (L ++ M) := fun x hx => by
 rcases List.mem_append.1 hx with hx | hx
 ·exact h x hx
 ·exact k x hx
theorem wordsR_nil (I : Look) : WordsR I [] := fun _ h => by cases h
theorem wordsR_one {I : Look} {x : PE} (h : PlR I x.wv x.word) : WordsR I [x] := fun y hy => by
 rw [List.mem_singleton] at hy; subst hy; exact h
def litE (L : List PE) (t : List UInt8) (q : Bool) : List PE :=
 if L ≠ [] ∧ (nth L (L.length - 1) pe0).kind = 1 ∧ (nth L (L.length - 1) pe0).q = q then L.set (L.length - 1) { nth L (L.length - 1) pe0 with text := (nth L (L.length - 1) pe0).text ++ t }
 else L ++ [⟨1, t, [], nilV, [], q⟩]
theorem nth_pt {L : List PE} {i : Nat} (h : i < L.length) : nth (L.map PE.pt) i pt0 = (nth L i pe0).pt := by
 rw [nth_eq (by rw [List.length_map]; exact h), nth_eq h, List.getElem_map]
theorem litE_pt (L : List PE) (t : List UInt8) (q : Bool) : (litE L t q).map PE.pt = litP (L.map PE.pt) t q := by
 unfold litE litP
 cases L with
 | nil => simp [PE.pt]
 | cons a r =>
  have hlt : (a :: r).length - 1 < (a :: r).length := by simp
  have hn : nth ((a :: r).map PE.pt) (((a :: r).map PE.pt).length - 1) pt0 = (nth (a :: r) ((a :: r).length - 1) pe0).pt := by
   rw [List.length_map]; exact nth_pt hlt
  rw [hn]
  generalize nth (a :: r) ((a :: r).length - 1) pe0 = y
  have e1 : y.pt.kind = y.kind := rfl
  have e2 : y.pt.q = y.q := rfl
  rw [e1, e2]
  by_cases h1 : y.kind = 1 ∧ y.q = q
  ·rw [if_pos ⟨by simp, h1⟩, if_pos ⟨by simp, h1⟩, List.map_set, List.length_map]
   congr 1
   show PT.mk y.kind (y.text ++ t) y.op y.word y.q = PT.mk 1 (y.text ++ t) y.op y.word q
   rw [h1.1, h1.2]
  ·rw [if_neg (fun h => h1 h.2), if_neg (fun h => h1 h.2), List.map_append]
   rfl
theorem litE_len (L : List PE) (t : List UInt8) (q : Bool) : (litE L t q).length ≤ L.length + 1 := by
 unfold litE; split <;> simp
theorem litE_words {I : Look} {L : List PE} {t : List UInt8} {q : Bool} (h : WordsR I L) : WordsR I (litE L t q) := by
 unfold litE
 split
 ·rename_i h1
  intro x hx
  have hp := List.length_pos_iff.2 h1.1
  rcases List.mem_or_eq_of_mem_set hx with hx | rfl
  ·exact h x hx
  ·show PlR I (nth L (L.length - 1) pe0).wv (nth L (L.length - 1) pe0).word
   exact h _ (nth_mem (by omega))
 ·exact h.app (wordsR_one (plR_nil I))
def allE (L : List PE) : List PE → List PE
 | [] => L
 | p :: m => allE (if p.kind = 1 then litE L p.text p.q else L ++ [p]) m
theorem allE_pt : ∀ (m L : List PE), (allE L m).map PE.pt = allP (L.map PE.pt) (m.map PE.pt)
 | [], L => rfl
 | p :: m, L => by
  rw [allE, List.map_cons, allP, allE_pt m]
  congr 1
  have e1 : p.pt.kind = p.kind := rfl
  rw [e1]
  split
  ·exact litE_pt L p.text p.q
  ·rw [List.map_append]; rfl
theorem allE_words {I : Look} : ∀ (m L : List PE), WordsR I L → WordsR I m → WordsR I (allE L m)
 | [], L, h, _ => h
 | p :: m, L, h, k => by
  rw [allE]
  refine allE_words m _ ?_ (fun x hx => k x (List.mem_cons_of_mem _ hx))
  split
  ·exact litE_words h
  ·exact h.app (wordsR_one (k p (List.mem_cons_self)))
theorem allE_len : ∀ (m L : List PE), (allE L m).length ≤ L.length + m.length
 | [], L => Nat.le_refl _
 | p :: m, L => by
  rw [allE]
  refine Nat.le_trans (allE_len m _) ?_
  have := litE_len L p.text p.q
  split <;> simp <;> omega
theorem allE_snoc : ∀ (m L : List PE) (p : PE), allE L (m ++ [p]) = if p.kind = 1 then litE (allE L m) p.text p.q else allE L m ++ [p]
 | [], L, p => by simp only [List.nil_append, allE]
 | a :: m, L, p => by rw [List.cons_append, allE, allE_snoc m]; rfl
theorem partC_ones {I : Look} {x : PE} (h : PlR I x.wv x.word) : ∀ u ∈ partC x, u.oneCell' = true := fun u hu => by
 simp only [partC, List.mem_cons, List.not_mem_nil, or_false] at hu
 rcases hu with rfl | rfl | rfl | rfl | rfl
 ·rfl
 ·rfl
 ·rfl
 ·exact h.one.2
 ·rfl
end Go.Tri

/-
 Parts: how many there are, and how much text they hold.
-/
namespace Go.Tri
open Go.RowKit
def sumP (l : List PT) : Nat := (l.map (fun p => p.text.length)).sum
def sumT (L : List PE) : Nat := (L.map (fun x => x.text.length)).sum
theorem sumP_pt (L : List PE) : sumP (L.map PE.pt) = sumT L := by
 unfold sumP sumT; rw [List.map_map]; rfl
theorem sumT_app (L M : List PE) : sumT (L ++ M) = sumT L + sumT M := by
 unfold sumT; rw [List.map_append, List.sum_append]
theorem sumP_app (L M : List PT) : sumP (L ++ M) = sumP L + sumP M := by
 unfold sumP; rw [List.map_append, List.sum_append]
theorem sumT_mem {L : List PE} {x : PE} (h : x ∈ L) : x.text.length ≤ sumT L := by
 induction L with
 | nil => cases h
 | cons a L ih =>
  unfold sumT at ih ⊢
  rw [List.map_cons, List.sum_cons]
  rcases List.mem_cons.1 h with rfl | h
  ·omega
  ·have := ih h; omega
theorem sum_set {α : Type} {g : α → Nat} : ∀ {l : List α} {i : Nat} {d e : α}, i < l.length → ((l.set i e).map g).sum + g (nth l i d) = (l.map g).sum + g e
 | [], _, _, _, h => absurd h (Nat.not_lt_zero _)
 | a :: l, 0, d, e, _ => by
  show (g e + (l.map g).sum) + g a = g a + (l.map g).sum + g e
  omega
 | a :: l, i + 1, d, e, h => by
  have ih := sum_set (g := g) (l := l) (i := i) (d := d) (e := e) (by simpa using h)
  show (g a + ((l.set i e).map g).sum) + g (nth l i d) = g a + (l.map g).sum + g e
  omega
theorem litP_sum (l : List PT) (t : List UInt8) (q : Bool) : sumP (litP l t q) = sumP l + t.length := by
 unfold litP
 split
 ·rename_i h
  have hp := List.length_pos_iff.2 h.1
  have := sum_set (g := fun p : PT => p.text.length) (l := l) (i := l.length - 1) (d := pt0) (e := .mk 1 ((nth l (l.length - 1) pt0).text ++ t) (nth l (l.length - 1) pt0).op (nth l (l.length - 1) pt0).word q) (by omega)
  simp only [PT.text, List.length_append] at this
  unfold sumP
  have e1 : (nth l (l.length - 1) pt0).text.length = (match nth l (l.length - 1) pt0 with | .mk _ t _ _ _ => t).length := by cases nth l (l.length - 1) pt0; rfl
  simp only [PT.text] at e1 ⊢
  omega
 ·rw [sumP_app]; simp [sumP, PT.text]
theorem litP_len (l : List PT) (t : List UInt8) (q : Bool) : (litP l t q).length ≤ l.length + 1 := by
 unfold litP; split <;> simp
theorem allP_sum : ∀ (m l : List PT), sumP (allP l m) = sumP l + sumP m
 | [], l => by simp [allP, sumP]
 | p :: m, l => by
  rw [allP, allP_sum m]
  have e : sumP (p :: m) = p.text.length + sumP m := by simp [sumP]
  split
  ·rw [litP_sum, e]; omega
  ·rw [sumP_app, e]; simp [sumP]; omega
theorem allP_len : ∀ (m l : List PT), (allP l m).length ≤ l.length + m.length
 | [], l => Nat.le_refl _
 | p :: m, l => by
  rw [allP]
  refine Nat.le_trans (allP_len m _) ?_
  have := litP_len l p.text p.q
  split <;> simp <;> omega
theorem lv_ok1 {n : Nat} {l : List UInt8} {k : Nat} (h : (lv n).1 l = .ok k) : 2 ≤ k := by
 cases n with
 | zero => cases h
 | succ n =>
  change dblP (lv n).2 l = .ok k at h
  unfold dblP at h
  obtain ⟨m, hm, rfl⟩ := close_ok h
  have := dblL_fit (lv_fit n).2 l.length (l.drop 1)
  rw [hm] at this
  have h1 : 1 ≤ m := this.1
  omega
theorem lv_ok2 {n : Nat} {q : Bool} {l : List UInt8} {k : Nat} (h : (lv n).2 q l = .ok k) : 3 ≤ k := by
 cases n with
 | zero => cases h
 | succ n =>
  change dlrP (lv n).1 (lv n).2 q l = .ok k at h
  unfold dlrP at h
  obtain ⟨m, hm, rfl⟩ := close_ok h
  have := dlrL_fit (brace := braceB l) (q := q && braceB l) (lv_fit n).1 (lv_fit n).2 l.length 0 (l.drop 2)
  rw [hm] at this
  have h1 : 1 ≤ m := this.1
  omega
theorem single_ok {l : List UInt8} {k : Nat} (h : singleP l = .ok k) : 2 ≤ k := by
 unfold singleP at h
 split at h
 ·cases h
 ·injection h with h; omega
/-- of what is within: not more parts, not more text than bytes -/
def WB (W : Nat → List UInt8 → PR) : Prop := ∀ kind s l, W kind s = .ok l → l.length ≤ s.length ∧ sumP l ≤ s.length
theorem param_le (s : List UInt8) : paramN s ≤ s.length := by
 have hn : ∀ (f n : Nat), n ≤ s.length → nameN f n s ≤ s.length := by
  intro f
  induction f with
  | zero => intro n h; exact h
  | succ f ih =>
   intro n h
   rw [nameN]
   split
   ·rename_i h1; exact ih (n + 1) h1.1
   ·exact h
 unfold paramN
 have h1 := hn s.length 0 (Nat.zero_le _)
 simp only
 split
 ·exact h1
 ·split
  ·omega
  ·split
   ·rename_i h2
    have := List.length_pos_iff.2 h2.1
    omega
   ·exact Nat.zero_le _
theorem braced_sum {W : Nat → List UInt8 → PR} {kind : Nat} {s : List UInt8} {p : PT} (h : bracedP W kind s = .ok p) : p.text.length ≤ s.length := by
 unfold bracedP at h
 split at h
 ·cases h; show (s.drop 1).length ≤ _; rw [List.length_drop]; omega
 ·split at h
  ·cases h
  ·split at h
   ·cases h; show (s.take _).length ≤ _; rw [List.length_take]; omega
   ·split at h
    ·cases h
    ·split at h
     ·cases h
     ·cases h; show (s.take _).length ≤ _; rw [List.length_take]; omega
theorem sumP_one (p : PT) : sumP [p] = p.text.length := by simp [sumP]
theorem step_bound {n : Nat} {W : Nat → List UInt8 → PR} (hW : WB W) {kind : Nat} {l : List UInt8} {acc acc' : List PT} {k : Nat} (hl : l ≠ []) (h : stepP n W kind l acc = .ok acc' k) :
  1 ≤ k ∧ k ≤ l.length ∧ acc'.length ≤ acc.length + k ∧ sumP acc' ≤ sumP acc + k := by
 have hp := List.length_pos_iff.2 hl
 unfold stepP at h
 split at h
 ·unfold bslP at h
  split at h
  ·cases h
   have := litP_len acc [92] true
   rw [litP_sum]; exact ⟨by omega, by omega, by omega, by simp⟩
  ·split at h
   ·cases h
    exact ⟨by omega, by omega, by omega, by omega⟩
   ·split at h
    ·cases h
     have := litP_len acc ((l.take 2).drop 1) true
     rw [litP_sum]; exact ⟨by omega, by omega, by omega, by rw [List.length_drop, List.length_take]; omega⟩
    ·cases h
     have := litP_len acc [92] true
     rw [litP_sum]; exact ⟨by omega, by omega, by omega, by simp⟩
 ·split at h
  ·unfold quotP at h
   split at h
   ·cases h
   ·rename_i r j hr
    have hj : 2 ≤ j ∧ j ≤ l.length := by
     split at hr
     ·refine ⟨lv_ok1 hr, ?_⟩
      have := (lv_fit n).1 l hl
      rw [hr] at this; exact this.2
     ·refine ⟨single_ok hr, ?_⟩
      have := single_fit l hl
      rw [hr] at this; exact this.2
    have hin : ((l.take (j - 1)).drop 1).length = j - 2 := by rw [List.length_drop, List.length_take]; omega
    split at h
    ·cases h
     have := litP_len acc ((l.take (k - 1)).drop 1) true
     rw [litP_sum]
     exact ⟨by omega, by omega, by omega, by omega⟩
    ·split at h
     ·cases h
     ·rename_i m hm
      cases h
      obtain ⟨h1, h2⟩ := hW _ _ _ hm
      have h3 := allP_len m (if m = [] then litP acc [] true else acc)
      rw [allP_sum]
      refine ⟨by omega, by omega, ?_, ?_⟩
      ·refine Nat.le_trans h3 ?_
       have := litP_len acc [] true
       split
       ·rename_i hm0; subst hm0; simp; omega
       ·omega
      ·split
       ·rw [litP_sum]; simp; omega
       ·omega
  ·split at h
   ·unfold dolP at h
    split at h
    ·rename_i hb
     have h2l : 2 ≤ l.length := by
      unfold beginsB at hb
      rw [Bool.or_eq_true] at hb
      rcases hb with hb | hb <;> exact stB_len hb
     split at h
     ·cases h
     ·rename_i r j hr
      have hj : 3 ≤ j ∧ j ≤ l.length := by
       refine ⟨lv_ok2 hr, ?_⟩
       have := (lv_fit n).2 (decide (kind ≠ 0)) l h2l
       rw [hr] at this; exact this.2
      have hin : ((l.take (j - 1)).drop 2).length = j - 3 := by rw [List.length_drop, List.length_take]; omega
      split at h
      ·split at h
       ·cases h
       ·rename_i p hp
        cases h
        have := braced_sum hp
        rw [sumP_app, sumP_one, List.length_append]
        exact ⟨by omega, by omega, by simp; omega, by omega⟩
      ·split at h
       ·split at h
        ·cases h
        ·cases h
         rw [sumP_app, sumP_one, List.length_append]
         exact ⟨by omega, by omega, by simp; omega, by simp [PT.text]⟩
       ·cases h
        rw [sumP_app, sumP_one, List.length_append]
        exact ⟨by omega, by omega, by simp; omega, by show _ + ((l.take (k - 1)).drop 2).length ≤ _; omega⟩
    ·split at h
     ·cases h
      have := litP_len acc [36] (decide (kind ≠ 0))
      rw [litP_sum]; exact ⟨by omega, by omega, by omega, by simp⟩
     ·rename_i hpn
      have hle := param_le (l.drop 1)
      rw [List.length_drop] at hle
      have hpn1 : 1 ≤ paramN (l.drop 1) := by omega
      have hx : ∀ x : Nat, 1 ≤ x → x ≤ paramN (l.drop 1) → SP.ok (acc ++ [.mk 2 ((l.drop 1).take x) [] [] (decide (kind ≠ 0))]) (x + 1) = .ok acc' k → 1 ≤ k ∧ k ≤ l.length ∧ acc'.length ≤ acc.length + k ∧ sumP acc' ≤ sumP acc + k := fun x h1 h2 h => by
       cases h
       rw [sumP_app, sumP_one, List.length_append]
       refine ⟨by omega, by omega, by simp only [List.length_cons, List.length_nil]; omega, ?_⟩
       show _ + ((l.drop 1).take x).length ≤ _
       rw [List.length_take]; omega
      refine hx _ ?_ ?_ h
      ·split <;> omega
      ·split <;> omega
   ·split at h
    ·cases h
    ·cases h
     have := litP_len acc (l.take 1) (decide (kind ≠ 0))
     rw [litP_sum, List.length_take]
     exact ⟨by omega, by omega, by omega, by omega⟩
theorem read_bound {n : Nat} {W : Nat → List UInt8 → PR} (hW : WB W) {kind : Nat} : ∀ (f : Nat) (l : List UInt8) (acc r : List PT), readL n W kind f l acc = .ok r → r.length ≤ acc.length + l.length ∧ sumP r ≤ sumP acc + l.length
 | 0, l, acc, r, h => by cases h; omega
 | f + 1, l, acc, r, h => by
  rw [readL] at h
  split at h
  ·cases h; omega
  ·rename_i hl
   cases hs : stepP n W kind l acc with
   | bad e => simp only [hs] at h; cases h
   | ok acc' k =>
    simp only [hs] at h
    obtain ⟨h1, h2, h3, h4⟩ := step_bound hW hl hs
    have := read_bound hW f _ _ _ h
    rw [List.length_drop] at this
    omega
theorem readP_bound {n : Nat} {W : Nat → List UInt8 → PR} (hW : WB W) : WB (readP n W) := fun kind s l h => by
 unfold readP at h
 split at h
 ·rename_i ht
  have hs : 1 ≤ s.length := by
   unfold tildeB at ht
   rw [Bool.and_eq_true, Bool.or_eq_true] at ht
   rcases ht.2 with h | h
   ·rw [of_decide_eq_true h]; decide
   ·have := stB_len h; simp at this; omega
  have := read_bound hW _ _ _ _ h
  rw [List.length_drop, sumP_one] at this
  have e : (PT.mk 5 [126] [] [] false).text.length = 1 := rfl
  rw [e] at this
  simp only [List.length_cons, List.length_nil] at this
  omega
 ·have := read_bound hW _ _ _ _ h
  simpa [sumP] using this
theorem wP_bound : ∀ n, WB (wP n)
 | 0 => readP_bound (fun _ _ _ h => by cases h)
 | n + 1 => readP_bound (wP_bound n)
end Go.Tri

/-
 Words: what the walk needs of the plain words.
-/
namespace Go.Tri
open Go.RowKit
/-- what is within, of a reader that leaves n levels -/
def Wn : Nat → Nat → List UInt8 → PR
 | 0 => fun _ _ => .bad 52
 | m + 1 => wP m
theorem wP_read (n : Nat) : wP n = readP n (Wn n) := by cases n <;> rfl
theorem wn_bound (n : Nat) : WB (Wn n) := by
 cases n with
 | zero => exact fun _ _ _ h => by cases h
 | succ m => exact wP_bound m
theorem inner_one (s : List UInt8) (i k : Nat) : ((s.drop i).take (k - 1)).drop 1 = (s.drop (i + 1)).take (k - 2) := by
 rw [List.drop_take, List.drop_drop, show k - 1 - 1 = k - 2 by omega]
theorem inner_two (s : List UInt8) (i k : Nat) : ((s.drop i).take (k - 1)).drop 2 = (s.drop (i + 2)).take (k - 3) := by
 rw [List.drop_take, List.drop_drop, show k - 1 - 2 = k - 3 by omega]
theorem second_one (l : List UInt8) : (l.take 2).drop 1 = (l.drop 1).take 1 := by rw [List.drop_take]
/-- where single or double quotes end -/
def quotR (n : Nat) (l : List UInt8) : SR := if nth l 0 0 = 34 then (lv n).1 l else singleP l
theorem quotR_faulty (n : Nat) (l : List UInt8) : Faulty (quotR n l) := by
 unfold quotR; split
 ·exact (lv_faulty n).1 l
 ·exact single_faulty l
theorem quotR_ok {n : Nat} {l : List UInt8} {k : Nat} (hl : l ≠ []) (h : quotR n l = .ok k) : 2 ≤ k ∧ k ≤ l.length := by
 unfold quotR at h
 split at h
 ·refine ⟨lv_ok1 h, ?_⟩
  have := (lv_fit n).1 l hl
  rw [h] at this; exact this.2
 ·refine ⟨single_ok h, ?_⟩
  have := single_fit l hl
  rw [h] at this; exact this.2
theorem endT_quot {s : List UInt8} {i d : Nat} (hi : i < s.length) (hd : d ≤ 24) (hc : nth s i 0 = 39 ∨ nth s i 0 = 34) : endT s i d false = (scE i (quotR (24 - d) (s.drop i)), scP i (quotR (24 - d) (s.drop i)), scX (quotR (24 - d) (s.drop i))) := by
 unfold endT
 rw [if_neg (by omega), Int.toNat_natCast, Int.toNat_natCast]
 unfold quotR
 rw [nth_drop_h]
 rcases hc with h | h
 ·rw [endR_sgl h rfl, if_neg (by rw [h]; decide)]; rfl
 ·rw [endR_dbl h, if_pos h]; rfl
theorem endT_dol {s : List UInt8} {i d : Nat} {q : Bool} (hi : i < s.length) (hd : d ≤ 24) (hc : nth s i 0 = 36) :
  (begB s i = true → endT s i d q = (scE i ((lv (24 - d)).2 q (s.drop i)), scP i ((lv (24 - d)).2 q (s.drop i)), scX ((lv (24 - d)).2 q (s.drop i)))) ∧ (begB s i = false → endT s i d q = (0, 0, 0)) := by
 unfold endT
 rw [if_neg (by omega), Int.toNat_natCast, Int.toNat_natCast]
 have h1 : nth s i 0 ≠ 34 := by rw [hc]; decide
 have h2 : ¬ (nth s i 0 = 39 ∧ q = false) := fun h => by rw [hc] at h; exact absurd h.1 (by decide)
 exact ⟨fun hb => by rw [endR_dlr h1 h2 hb]; rfl, fun hb => by rw [endR_none h1 h2 hb]; rfl⟩
theorem expr_end {s : List UInt8} {q : Bool} (h : stB s [40] = true) : endT (36 :: s) 0 0 q = (scE 0 ((lv 24).2 q (36 :: s)), scP 0 ((lv 24).2 q (36 :: s)), scX ((lv 24).2 q (36 :: s))) := by
 refine (endT_dol (s := 36 :: s) (i := 0) (d := 0) (q := q) (by simp) (by omega) rfl).1 ?_
 unfold begB
 rw [Bool.or_eq_true]; left
 have h1 := of_decide_eq_true h
 unfold stB
 apply decide_eq_true
 cases s with
 | nil => simp at h1
 | cons c r => simp at h1; simp [h1]
theorem expr_val {s : List UInt8} {q : Bool} (h : stB s [40] = true) : (decide ((scX ((lv 24).2 q (36 :: s)) : Int) = 0) && decide ((scE 0 ((lv 24).2 q (36 :: s)) : Int) = (s.length : Int) + 1)) = exprB s q := by
 unfold exprB
 rw [h, Bool.true_and]
 have hf := (lv_faulty 24).2 q (36 :: s)
 cases hr : (lv 24).2 q (36 :: s) with
 | ok k =>
  have e1 : decide ((scX (SR.ok k) : Int) = 0) = true := decide_eq_true rfl
  have e0 : scE 0 (SR.ok k) = k := Nat.zero_add k
  have e2 : decide ((scE 0 (SR.ok k) : Int) = (s.length : Int) + 1) = decide (k = s.length + 1) := by
   by_cases h1 : k = s.length + 1
   ·rw [decide_eq_true h1]; exact decide_eq_true (by omega)
   ·rw [decide_eq_false h1]; exact decide_eq_false (by omega)
  rw [e1, e2]; rfl
 | bad a e =>
  rw [hr] at hf
  have he : e ≠ 0 := hf
  have e0 : scX (SR.bad a e) = e := rfl
  have e1 : decide ((scX (SR.bad a e) : Int) = 0) = false := decide_eq_false (by omega)
  rw [e1]; rfl
/-- no refusal bears the number 0 -/
theorem opsW_find {s : List UInt8} : ∀ (l : List (List UInt8)) (k : Nat) (op : List UInt8), k ≤ l.length → (op = ((l.take k).find? (fun o => stB s o)).getD []) → (∀ o ∈ l, o ≠ []) → k < l.length →
  ((l.take (k + 1)).find? (fun o => stB s o)).getD [] = if op = [] ∧ stB s (nth l k []) = true then nth l k [] else op := fun l k op hk ho hne hlt => by
 rw [take_nth [] hlt, List.find?_append]
 cases hf : (l.take k).find? (fun o => stB s o) with
 | some o =>
  rw [hf] at ho
  have h1 : op = o := ho
  have h2 := List.mem_of_find?_eq_some hf
  have h3 : o ≠ [] := hne o (List.mem_of_mem_take h2)
  rw [if_neg (by rw [h1]; exact fun h => h3 h.1), h1]; rfl
 | none =>
  rw [hf] at ho
  have h1 : op = [] := ho
  rw [Option.none_or, List.find?_singleton]
  by_cases h : stB s (nth l k []) = true
  ·rw [if_pos h, if_pos ⟨h1, h⟩]; rfl
  ·rw [if_neg h, if_neg (fun h' => h h'.2), h1]; rfl
theorem quotP_bad {n : Nat} {W : Nat → List UInt8 → PR} {l : List UInt8} {acc : List PT} {a e : Nat} (h : quotR n l = .bad a e) : quotP n W l acc = .bad e := by
 unfold quotP
 unfold quotR at h
 rw [h]
theorem quotP_lit {n : Nat} {W : Nat → List UInt8 → PR} {l inner : List UInt8} {acc : List PT} {k : Nat} (h : quotR n l = .ok k) (hi : inner = (l.take (k - 1)).drop 1) (hc : nth l 0 0 = 39 ∨ inner = []) : quotP n W l acc = .ok (litP acc inner true) k := by
 unfold quotP
 unfold quotR at h
 rw [h]
 subst hi
 show (if _ then _ else _ : SP) = _
 rw [if_pos hc]
theorem quotP_in {n : Nat} {W : Nat → List UInt8 → PR} {l inner : List UInt8} {acc : List PT} {k : Nat} (h : quotR n l = .ok k) (hi : inner = (l.take (k - 1)).drop 1) (hc : ¬ (nth l 0 0 = 39 ∨ inner = [])) :
  (∀ e, W 1 inner = .bad e → quotP n W l acc = .bad e) ∧ ∀ m, W 1 inner = .ok m → quotP n W l acc = .ok (allP (if m = [] then litP acc [] true else acc) m) k := by
 unfold quotP
 unfold quotR at h
 rw [h]
 subst hi
 refine ⟨fun e he => ?_, fun m hm => ?_⟩
 ·show (if _ then _ else _ : SP) = _
  rw [if_neg hc, he]
 ·show (if _ then _ else _ : SP) = _
  rw [if_neg hc, hm]
theorem sr_bad {r : SR} (h : scX r ≠ 0) : ∃ a, r = .bad a (scX r) := by
 cases r with
 | ok k => exact absurd rfl h
 | bad a e => exact ⟨a, rfl⟩
theorem sr_ok {r : SR} (hf : Faulty r) (h : scX r = 0) : ∃ k, r = .ok k := by
 cases r with
 | ok k => exact ⟨k, rfl⟩
 | bad a e => exact absurd h hf
theorem lv_some {n : Nat} {l : List UInt8} {k : Nat} (h : (lv n).1 l = .ok k) : ∃ m, n = m + 1 := by
 cases n with
 | zero => cases h
 | succ m => exact ⟨m, rfl⟩
theorem lv_some2 {n : Nat} {q : Bool} {l : List UInt8} {k : Nat} (h : (lv n).2 q l = .ok k) : ∃ m, n = m + 1 := by
 cases n with
 | zero => cases h
 | succ m => exact ⟨m, rfl⟩
theorem endT_dl {s : List UInt8} {i d : Nat} {q : Bool} (hi : i < s.length) (hd : d ≤ 24) (hc : nth s i 0 = 36) : endT s i d q = (dl (begB s i) (scE i ((lv (24 - d)).2 q (s.drop i))), dl (begB s i) (scP i ((lv (24 - d)).2 q (s.drop i))), dl (begB s i) (scX ((lv (24 - d)).2 q (s.drop i)))) := by
 have h := endT_dol (q := q) hi hd hc
 cases hb : begB s i with
 | true => rw [h.1 hb]; rfl
 | false => rw [h.2 hb]; rfl
theorem dolP_bad {n : Nat} {W : Nat → List UInt8 → PR} {kd : Nat} {l : List UInt8} {acc : List PT} {a e : Nat} (hb : beginsB l = true) (h : (lv n).2 (decide (kd ≠ 0)) l = .bad a e) : dolP n W kd l acc = .bad e := by
 unfold dolP
 rw [if_pos hb, h]
theorem dolP_par {n : Nat} {W : Nat → List UInt8 → PR} {kd : Nat} {l : List UInt8} {acc : List PT} (hb : beginsB l = false) :
  (paramN (l.drop 1) = 0 → dolP n W kd l acc = .ok (litP acc [36] (decide (kd ≠ 0))) 1) ∧
  (∀ x, ¬ paramN (l.drop 1) = 0 → x = (if 48 ≤ (nth l 1 0).toNat ∧ (nth l 1 0).toNat ≤ 57 then 1 else paramN (l.drop 1)) → dolP n W kd l acc = .ok (acc ++ [.mk 2 ((l.drop 1).take x) [] [] (decide (kd ≠ 0))]) (x + 1)) := by
 unfold dolP
 rw [if_neg (by rw [hb]; simp)]
 refine ⟨fun h => by rw [if_pos h], fun x h hx => by rw [if_neg h, ← hx]⟩
/-- what a substitution comes to: its part, or why it is refused -/
def dolR (W : Nat → List UInt8 → PR) (kd : Nat) (c : UInt8) (inner : List UInt8) : BR :=
 if c = 123 then bracedP W kd inner
 else if exprB inner (decide (kd ≠ 0)) = true then match W 2 ((inner.take (inner.length - 1)).drop 1) with
  | .bad e => .bad e
  | .ok w => .ok (.mk 4 [] [] w (decide (kd ≠ 0)))
 else .ok (.mk 3 inner [] [] (decide (kd ≠ 0)))
theorem dolP_sub {n : Nat} {W : Nat → List UInt8 → PR} {kd : Nat} {l inner : List UInt8} {acc : List PT} {k : Nat} (hb : beginsB l = true) (h : (lv n).2 (decide (kd ≠ 0)) l = .ok k) (hi : inner = (l.take (k - 1)).drop 2) :
  (∀ e, dolR W kd (nth l 1 0) inner = .bad e → dolP n W kd l acc = .bad e) ∧ ∀ p, dolR W kd (nth l 1 0) inner = .ok p → dolP n W kd l acc = .ok (acc ++ [p]) k := by
 unfold dolP dolR
 rw [if_pos hb, h]
 subst hi
 constructor
 ·intro e he
  show (if _ then _ else _ : SP) = _
  split at he
  ·rename_i h1; rw [if_pos h1, he]
  ·rename_i h1
   rw [if_neg h1]
   split at he
   ·rename_i h2
    rw [if_pos h2]
    cases hw : W 2 ((((l.take (k - 1)).drop 2).take (((l.take (k - 1)).drop 2).length - 1)).drop 1) with
    | bad e2 => rw [hw] at he; cases he; rfl
    | ok w => rw [hw] at he; cases he
   ·cases he
 ·intro p hp
  show (if _ then _ else _ : SP) = _
  split at hp
  ·rename_i h1; rw [if_pos h1, hp]
  ·rename_i h1
   rw [if_neg h1]
   split at hp
   ·rename_i h2
    rw [if_pos h2]
    cases hw : W 2 ((((l.take (k - 1)).drop 2).take (((l.take (k - 1)).drop 2).length - 1)).drop 1) with
    | bad e2 => rw [hw] at hp; cases hp
    | ok w => rw [hw] at hp; cases hp; rfl
   ·rename_i h2
    rw [if_neg h2]
    cases hp; rfl
theorem inner_three (s : List UInt8) : (s.take (s.length - 1)).drop 1 = (s.drop 1).take (s.length - 2) := by
 rw [List.drop_take, show s.length - 1 - 1 = s.length - 2 by omega]
theorem exprB_len {s : List UInt8} {q : Bool} (h : exprB s q = true) : 2 ≤ s.length := by
 unfold exprB at h
 rw [Bool.and_eq_true] at h
 cases hr : (lv 24).2 q (36 :: s) with
 | ok k =>
  rw [hr] at h
  have h1 := lv_ok2 hr
  have h2 : k = s.length + 1 := of_decide_eq_true h.2
  omega
 | bad a e => rw [hr] at h; cases h.2
theorem beginsB_len {l : List UInt8} (h : beginsB l = true) : 2 ≤ l.length := by
 unfold beginsB at h
 rw [Bool.or_eq_true] at h
 rcases h with h | h <;> exact stB_len h
theorem dl_zero {b : Bool} {r : SR} {i : Nat} (hx : dl b (scX r) = 0) (hf : Faulty r) (h3 : ∀ k, r = .ok k → 1 ≤ k) : (dl b (scE i r) = 0 → b = false) ∧ (dl b (scE i r) ≠ 0 → b = true ∧ ∃ k, r = .ok k) := by
 cases b with
 | false => exact ⟨fun _ => rfl, fun h => absurd rfl h⟩
 | true =>
  obtain ⟨k, hk⟩ := sr_ok hf hx
  refine ⟨fun h => ?_, fun _ => ⟨rfl, k, hk⟩⟩
  rw [hk] at h
  have := h3 k hk
  have h' : i + k = 0 := h
  omega
theorem dl_fault {b : Bool} {r : SR} (hx : dl b (scX r) ≠ 0) : b = true ∧ ∃ a, r = .bad a (dl b (scX r)) := by
 cases b with
 | false => exact absurd rfl hx
 | true => exact ⟨rfl, sr_bad hx⟩
theorem read_step {n : Nat} {W : Nat → List UInt8 → PR} {kd g : Nat} {l : List UInt8} {acc : List PT} {r : PR} (h : r = readL n W kd g l acc) (hl : l ≠ []) (hg : l.length ≤ g) :
  (∀ e, stepP n W kd l acc = .bad e → r = .bad e) ∧ ∀ acc' k, stepP n W kd l acc = .ok acc' k → r = readL n W kd (g - 1) (l.drop k) acc' := by
 have hp := List.length_pos_iff.2 hl
 obtain ⟨f, rfl⟩ : ∃ f, g = f + 1 := ⟨g - 1, by omega⟩
 refine ⟨fun e he => ?_, fun acc' k hk => ?_⟩
 ·rw [h, readL, if_neg hl, he]
 ·rw [h, readL, if_neg hl, hk]; rfl
theorem read_end {n : Nat} {W : Nat → List UInt8 → PR} {kd g : Nat} {acc : List PT} : readL n W kd g [] acc = .ok acc := by
 cases g with
 | zero => rfl
 | succ f => rw [readL, if_pos rfl]
end Go.Tri

/-
 What is quoted is a word of just that text.
-/
namespace Go.Tri
open Go.RowKit
theorem tilde_head {kd : Nat} {c : UInt8} {r : List UInt8} (h : c ≠ 126) : tildeB kd (c :: r) = false := by
 have h5 : stB (c :: r) [126, 47] = false := decide_eq_false (fun e => h (by simp at e; exact e.1))
 unfold tildeB
 rw [h5, decide_eq_false (show ¬ c :: r = [126] from fun e => h (by injection e))]
 simp
end Go.Tri

/-
 All parts, one behind the other: each before those within it.
-/
namespace Go.Tri
open Go.RowKit
mutual
def PT.cnt : PT → Nat
 | .mk _ _ _ w _ => 1 + cntL w
def cntL : List PT → Nat
 | [] => 0
 | p :: r => p.cnt + cntL r
end
theorem cntL_app : ∀ (a b : List PT), cntL (a ++ b) = cntL a + cntL b
 | [], b => by simp [cntL]
 | p :: a, b => by rw [List.cons_append, cntL, cntL, cntL_app a b]; omega
theorem cntL_set : ∀ (l : List PT) (i : Nat) (e : PT), i < l.length → (nth l i pt0).cnt = e.cnt → cntL (l.set i e) = cntL l
 | [], _, _, h, _ => absurd h (Nat.not_lt_zero _)
 | p :: l, 0, e, _, he => by
  have he' : p.cnt = e.cnt := he
  rw [List.set_cons_zero, cntL, cntL, he']
 | p :: l, i + 1, e, h, he => by
  rw [List.set_cons_succ, cntL, cntL, cntL_set l i e (by simpa using h) he]
theorem cntL_one (k : Nat) (t o : List UInt8) (w : List PT) (q : Bool) : cntL [.mk k t o w q] = 1 + cntL w := by
 rw [cntL, cntL, PT.cnt]; omega
theorem litP_cnt (l : List PT) (t : List UInt8) (q : Bool) : cntL (litP l t q) ≤ cntL l + 1 := by
 unfold litP
 split
 ·rename_i h
  have hp := List.length_pos_iff.2 h.1
  rw [cntL_set _ _ _ (by omega)]
  ·omega
  ·cases nth l (l.length - 1) pt0; rfl
 ·rw [cntL_app, cntL_one]; simp [cntL]
theorem cnt_pos : ∀ p : PT, 1 ≤ p.cnt
 | .mk _ _ _ _ _ => by rw [PT.cnt]; omega
theorem allP_cnt : ∀ (m l : List PT), cntL (allP l m) ≤ cntL l + cntL m
 | [], l => by simp [allP, cntL]
 | p :: m, l => by
  rw [allP]
  refine Nat.le_trans (allP_cnt m _) ?_
  rw [cntL]
  have h1 := litP_cnt l p.text p.q
  have h2 := cnt_pos p
  split
  ·omega
  ·rw [cntL_app]; simp [cntL]; omega
def WC (W : Nat → List UInt8 → PR) : Prop := ∀ kind s l, W kind s = .ok l → cntL l ≤ s.length
theorem braced_cnt {W : Nat → List UInt8 → PR} (hW : WC W) {kind : Nat} {s : List UInt8} {p : PT} (h : bracedP W kind s = .ok p) : p.cnt ≤ s.length + 1 := by
 unfold bracedP at h
 split at h
 ·cases h; rw [PT.cnt, cntL]; omega
 ·split at h
  ·cases h
  ·split at h
   ·cases h; rw [PT.cnt, cntL]; omega
   ·split at h
    ·cases h
    ·split at h
     ·cases h
     ·rename_i w hw
      cases h
      have := hW _ _ _ hw
      rw [List.length_drop, List.length_drop] at this
      rw [PT.cnt]; omega
theorem step_cnt {n : Nat} {W : Nat → List UInt8 → PR} (hB : WB W) (hW : WC W) {kind : Nat} {l : List UInt8} {acc acc' : List PT} {k : Nat} (hl : l ≠ []) (h : stepP n W kind l acc = .ok acc' k) : cntL acc' ≤ cntL acc + k := by
 have hk := (step_bound hB hl h).1
 unfold stepP at h
 split at h
 ·unfold bslP at h
  split at h
  ·cases h; exact litP_cnt _ _ _
  ·split at h
   ·cases h; omega
   ·split at h
    ·cases h; have := litP_cnt acc ((l.take 2).drop 1) true; omega
    ·cases h; exact litP_cnt _ _ _
 ·split at h
  ·unfold quotP at h
   split at h
   ·cases h
   ·rename_i r j hr
    have hj : 2 ≤ j ∧ j ≤ l.length := quotR_ok (n := n) hl (by unfold quotR; exact hr)
    have hin : ((l.take (j - 1)).drop 1).length = j - 2 := by rw [List.length_drop, List.length_take]; omega
    split at h
    ·cases h
     have := litP_cnt acc ((l.take (k - 1)).drop 1) true
     omega
    ·split at h
     ·cases h
     ·rename_i m hm
      cases h
      have h1 := hW _ _ _ hm
      have h3 := allP_cnt m (if m = [] then litP acc [] true else acc)
      have h4 := litP_cnt acc [] true
      refine Nat.le_trans h3 ?_
      split
      ·rename_i h0; rw [h0]; simp [cntL]; omega
      ·omega
  ·split at h
   ·unfold dolP at h
    split at h
    ·rename_i hb
     split at h
     ·cases h
     ·rename_i r j hr
      have hj : 3 ≤ j ∧ j ≤ l.length := by
       refine ⟨lv_ok2 hr, ?_⟩
       have := (lv_fit n).2 (decide (kind ≠ 0)) l (beginsB_len hb)
       rw [hr] at this; exact this.2
      have hin : ((l.take (j - 1)).drop 2).length = j - 3 := by rw [List.length_drop, List.length_take]; omega
      split at h
      ·split at h
       ·cases h
       ·rename_i p hp
        cases h
        have := braced_cnt hW hp
        rw [cntL_app, cntL, cntL]; omega
      ·split at h
       ·split at h
        ·cases h
        ·rename_i w hw
         cases h
         have := hW _ _ _ hw
         rw [List.length_drop, List.length_take] at this
         rw [cntL_app, cntL_one]; omega
       ·cases h
        rw [cntL_app, cntL_one, cntL]; omega
    ·split at h
     ·cases h; exact litP_cnt _ _ _
     ·cases h
      rw [cntL_app, cntL_one, cntL]; omega
   ·split at h
    ·cases h
    ·cases h; exact litP_cnt _ _ _
theorem read_cnt {n : Nat} {W : Nat → List UInt8 → PR} (hB : WB W) (hW : WC W) {kind : Nat} : ∀ (f : Nat) (l : List UInt8) (acc r : List PT), readL n W kind f l acc = .ok r → cntL r ≤ cntL acc + l.length
 | 0, l, acc, r, h => by cases h; omega
 | f + 1, l, acc, r, h => by
  rw [readL] at h
  split at h
  ·cases h; omega
  ·rename_i hl
   cases hs : stepP n W kind l acc with
   | bad e => simp only [hs] at h; cases h
   | ok acc' k =>
    simp only [hs] at h
    have h1 := step_bound hB hl hs
    have h2 := step_cnt hB hW hl hs
    have := read_cnt hB hW f _ _ _ h
    rw [List.length_drop] at this
    omega
theorem readP_cnt {n : Nat} {W : Nat → List UInt8 → PR} (hB : WB W) (hW : WC W) : WC (readP n W) := fun kind s l h => by
 unfold readP at h
 split at h
 ·rename_i ht
  have hs : 1 ≤ s.length := by
   unfold tildeB at ht
   rw [Bool.and_eq_true, Bool.or_eq_true] at ht
   rcases ht.2 with h | h
   ·have h2 := of_decide_eq_true h
    subst h2; decide
   ·have := stB_len h; simp at this; omega
  have := read_cnt hB hW _ _ _ _ h
  rw [List.length_drop, cntL_one, cntL] at this
  omega
 ·have := read_cnt hB hW _ _ _ _ h
  simpa [cntL] using this
theorem wP_cnt : ∀ n, WC (wP n)
 | 0 => readP_cnt (fun _ _ _ h => by cases h) (fun _ _ _ h => by cases h)
 | n + 1 => readP_cnt (wP_bound n) (wP_cnt n)
theorem parts_cnt {s : List UInt8} {k : Int} {l : List PT} (h : partsP s k = .ok l) : cntL l ≤ s.length := by
 unfold partsP at h
 split at h
 ·cases h
 ·split at h
  ·cases h
  ·exact wP_cnt 24 _ _ _ h
end Go.Tri

/-
 A parameter with an operator and a quoted text behind it.
-/
namespace Go.Tri
open Go.RowKit
end Go.Tri
