/-
  The parser's readers within braces: choices, compound commands, simple ones, and all of them by levels.
-/
import Derived.Test.YtomcodpgickmgaaGreatDoorPGrH
namespace Go.Tri
open Go.RowKit
section
variable {s : List UInt8}
def WC (x : List (List UInt8) × List Nd) : Nat := wl wWord x.1 + wl wb x.2
def VC (x : List (List UInt8) × List Nd) : Prop := ∀ y ∈ x.2, NdK y
theorem good_bndF {α β : Type} {i a o : Bool} {g g2 c c1 c2 B : Nat} {w1 : β → Nat} {V1 : β → Prop} {w : α → Nat} {V : α → Prop} {Q : Prop} {F F' : PS → PS → ReR β} {k k' : β → PS → ReR α} (h1 : Good s i a g c1 B w1 V1 Q (fun q => F q q) (fun q => F' q q)) (h2 : ∀ x, Good s (!a) o g2 c2 (w1 x) w V (Q ∧ V1 x) (k x) (k' x)) (hg : g ≤ g2 + c1) (hc : c ≤ c1 + c2) :
    Good s i o g c B w V Q (fun q => bnd (F q) k q) (fun q => bnd (F' q) k' q) := Good.bnd h1 h2 hg hc
theorem patN_good (T : Txt s) (ws : List (List UInt8)) {g B : Nat} {Q : Prop} : Good s true false g 0 (B + wl wWord ws) (fun l => B + wl wWord l) (fun _ => True) Q (fun q => patN s (muP s q + 1) ws q) (fun q => patN (grS s) (muP (grS s) q + 1) ws q) := by
  refine Good.fuel (L := fun f => patN s f ws) (L' := fun f => patN (grS s) f ws) fun f f' hf => ?_
  refine Good.loop (s := s) (ι := List (List UInt8)) (o := false) (c := 0) (w := fun l => B + wl wWord l) (V := fun _ => True) (fun f l => patN s f l) (fun f l => patN (grS s) f l) (fun _ => true) (fun l => B + wl wWord l) (fun _ => Q) (fun a p' hd => hd) (fun a p' x e h => by cases h) (fun a p x e h => by cases h) (fun f f' ih l => ?_) f' f hf ws
  show Good s true false (f + 1) 0 (B + wl wWord l) _ _ _ (bnd (nowP s) (fun t q => if opB [124] t = true then bnd (wordR s) (fun x q => patN s f (l ++ [x]) q) (stepS q) else .ok l q)) (bnd (nowP (grS s)) (fun t q => if opB [124] t = true then bnd (wordR (grS s)) (fun x q => patN (grS s) f' (l ++ [x]) q) (stepS q) else .ok l q))
  refine Good.now T.nl T.len (GoodK.ite (fun t => opB [124] t = true) (fun t => Iff.rfl) (fun _ => op_iff _) ?_ ?_)
  · refine GoodK.step (j := true) (c := 1) (fun _ => bnd (wordR s) (fun x => patN s f (l ++ [x]))) (fun _ => bnd (wordR (grS s)) (fun x => patN (grS s) f' (l ++ [x]))) (fun t ht => ?_) (fun _ => rfl) (by omega) (fun hp => absurd hp.2 no_op) (fun h => by cases h)
    refine Good.bnd (word_good T) (g2 := f) (c2 := 0) (fun x => ?_) (by omega) (by omega)
    refine (ih _).le (fun h => rfl) (fun h => h) (Nat.le_refl _) (Nat.le_refl _) (fun _ y _ => ?_) (fun x h => h) (fun h => h.1)
    rw [wl_snoc]; omega
  · exact GoodK.ok (fun _ => l) (fun _ => rfl) (fun _ => rfl) (fun hq t _ => ⟨Nat.le_refl _, trivial⟩) (fun h => by cases h)
theorem caseN_good (T : Txt s) {C C' : PS → ReR Nd} (hC : GB s C C') {B : Nat} {Q : Prop} : ∀ f' f, f ≤ f' → ∀ x : List (List UInt8) × List Nd, Good s true false f 0 (B + WC x) (fun x => B + WC x) VC (Q ∧ VC x) (caseN s C f x.1 x.2) (caseN (grS s) C' f' x.1 x.2) := by
  refine Good.loop (s := s) (ι := List (List UInt8) × List Nd) (o := false) (c := 0) (w := fun x => B + WC x) (V := VC) (fun f x => caseN s C f x.1 x.2) (fun f x => caseN (grS s) C' f x.1 x.2) (fun _ => true) (fun x => B + WC x) (fun x => Q ∧ VC x) (fun a p' hd => hd) (fun a p' x e h => by cases h) (fun a p x e h => by cases h) (fun f f' ih x => ?_)
  obtain ⟨ws, l⟩ := x
  -- what ends an item
  have hend : ∀ (B0 : Nat) (Q' : Prop) (y : List (List UInt8) × List Nd), B + WC y ≤ B0 → (Q' → Q ∧ VC y) → Good s true false f 0 B0 (fun x => B + WC x) VC Q' (caseEnd s (caseN s C f) y.1 y.2) (caseEnd (grS s) (caseN (grS s) C' f') y.1 y.2) := fun B0 Q' y hB hQ => by
    show Good s true false f 0 B0 _ _ _ (bnd (nowP s) (fun v q => if opB [59, 59] v = true then bnd (linesP s) (fun _ q => caseN s C f y.1 y.2 q) (stepS q) else .ok y q)) (bnd (nowP (grS s)) (fun v q => if opB [59, 59] v = true then bnd (linesP (grS s)) (fun _ q => caseN (grS s) C' f' y.1 y.2 q) (stepS q) else .ok y q))
    refine Good.now T.nl T.len (GoodK.ite (fun t => opB [59, 59] t = true) (fun t => Iff.rfl) (fun _ => op_iff _) ?_ ?_)
    · refine GoodK.step (j := true) (c := 0) (fun _ => bnd (linesP s) (fun _ => caseN s C f y.1 y.2)) (fun _ => bnd (linesP (grS s)) (fun _ => caseN (grS s) C' f' y.1 y.2)) (fun t ht => ?_) (fun _ => rfl) (by omega) (fun hp => absurd hp.2 no_op) (fun h => by cases h)
      refine Good.bnd (lines_good T) (g2 := f) (c2 := 0) (fun _ => ?_) (by omega) (by omega)
      exact (ih y).le (fun h => rfl) (fun h => h) (Nat.le_refl _) (Nat.le_refl _) (fun _ z _ => by omega) (fun x h => h) (fun h => hQ h.1)
    · exact GoodK.ok (fun _ => y) (fun _ => rfl) (fun _ => rfl) (fun hq t _ => ⟨hB, (hQ hq).2⟩) (fun h => by cases h)
  have htail : ∀ (B0 : Nat) (Q' : Prop) (ws : List (List UInt8)), B + WC (ws, l) ≤ B0 → (Q' → Q ∧ VC (ws, l)) → Good s true false f 0 B0 (fun x => B + WC x) VC Q' (caseTail s C (caseN s C f) l ws) (caseTail (grS s) C' (caseN (grS s) C' f') l ws) := fun B0 Q' ws hB hQ => by
    show Good s true false f 0 B0 _ _ _ (bnd (needP s (opB [41])) (fun _ => bnd (linesP s) (fun _ => bnd (nowP s) (fun u q => if beginB u = true then bnd C (fun b q => caseEnd s (caseN s C f) (ws ++ [[41]]) (l ++ [b]) q) q else caseEnd s (caseN s C f) (ws ++ [[41]]) (l ++ [ndK 5 []]) q))))
      (bnd (needP (grS s) (opB [41])) (fun _ => bnd (linesP (grS s)) (fun _ => bnd (nowP (grS s)) (fun u q => if beginB u = true then bnd C' (fun b q => caseEnd (grS s) (caseN (grS s) C' f') (ws ++ [[41]]) (l ++ [b]) q) q else caseEnd (grS s) (caseN (grS s) C' f') (ws ++ [[41]]) (l ++ [ndK 5 []]) q))))
    refine Good.bnd (need_good T _ (fun _ => rfl) (opE _)) (g2 := f) (c2 := 0) (fun _ => ?_) (by omega) (by omega)
    refine Good.bnd (lines_good T) (g2 := f) (c2 := 0) (fun _ => ?_) (by omega) (by omega)
    have hw : ∀ b, WC (ws ++ [[41]], l ++ [b]) = WC (ws, l) + 6 + wb b := fun b => by
      show wl wWord (ws ++ [[41]]) + wl wb (l ++ [b]) = wl wWord ws + wl wb l + 6 + wb b
      rw [wl_snoc, wl_snoc]
      show wl wWord ws + 6 + _ = _
      omega
    refine Good.now T.nl T.len (GoodK.ite (fun t => beginB t = true) (fun t => Iff.rfl) (fun _ => by rw [beginE, beginBr]) ?_ ?_)
    · refine GoodK.stay (j := true) (m := bnd C (fun b => caseEnd s (caseN s C f) (ws ++ [[41]]) (l ++ [b]))) (m' := bnd C' (fun b => caseEnd (grS s) (caseN (grS s) C' f') (ws ++ [[41]]) (l ++ [b]))) ?_ (fun h => by cases h)
      refine Good.bnd (hC _ _ _) (g2 := f) (c2 := 0) (fun b => ?_) (by omega) (by omega)
      exact hend _ _ (ws ++ [[41]], l ++ [b]) (by rw [hw]; omega) (fun h => ⟨(hQ h.1.1.1).1, mem_snoc (hQ h.1.1.1).2 h.2⟩)
    · refine GoodK.stay (j := true) (hend _ _ (ws ++ [[41]], l ++ [ndK 5 []]) ?_ (fun h => ⟨(hQ h.1.1).1, mem_snoc (hQ h.1.1).2 (vn_ndK (by decide) (fun x hx => by cases hx))⟩)) (fun h => by cases h)
      rw [hw]
      have : wb (ndK 5 []) ≤ 65 := by
        have := wn_ndK (k := 5) (by decide) []
        have e : (codesP []).length = 0 := by rw [codesP]; rfl
        unfold wb
        omega
      omega
  have hM : ∀ (g B0 : Nat), g ≤ f + 1 → B + WC (ws, l) ≤ B0 → Good s true false g 0 B0 (fun x => B + WC x) VC (Q ∧ VC (ws, l)) (bnd (wordR s) (fun x q => bnd (patN s (muP s q + 1) (ws ++ [x])) (caseTail s C (caseN s C f) l) q)) (bnd (wordR (grS s)) (fun x q => bnd (patN (grS s) (muP (grS s) q + 1) (ws ++ [x])) (caseTail (grS s) C' (caseN (grS s) C' f') l) q)) := fun g B0 hg hB => by
    refine Good.bnd (word_good T) (g2 := f) (c2 := 0) (fun x => ?_) (by omega) (by omega)
    show Good s (!true) false f 0 _ _ _ _ (bnd (fun q => patN s (muP s q + 1) (ws ++ [x]) q) (caseTail s C (caseN s C f) l)) (bnd (fun q => patN (grS s) (muP (grS s) q + 1) (ws ++ [x]) q) (caseTail (grS s) C' (caseN (grS s) C' f') l))
    have h0 := (patN_good T (ws ++ [x]) (g := f) (B := B + wl wb l) (Q := (Q ∧ VC (ws, l)) ∧ True)).le (i' := false) (o' := false) (g' := f) (c' := 0) (B' := B0 + 100 + wWord x) (w' := fun l' => B + WC (l', l)) (V' := fun _ => True) (Q' := (Q ∧ VC (ws, l)) ∧ True) (fun h => rfl) (fun h => h) (Nat.le_refl _) (Nat.le_refl _) (fun _ y _ => by
      change B + (wl wWord ws + wl wb l) ≤ B0 at hB
      show B + (wl wWord y + wl wb l) + (B + wl wb l + wl wWord (ws ++ [x])) ≤ B + wl wb l + wl wWord y + _
      rw [wl_snoc]; omega) (fun x h => h) (fun h => h)
    refine Good.bnd h0 (g2 := f) (c2 := 0) (fun y => ?_) (by omega) (by omega)
    exact htail _ _ y (Nat.le_refl _) (fun h => ⟨h.1.1.1, h.1.1.2⟩)
  have e1 : caseN s C (f + 1) ws l = bnd (nowP s) (fun t q => if keyB [101, 115, 97, 99] t = true then .ok (ws, l) q else (bnd (wordR s) (fun x q => bnd (patN s (muP s q + 1) (ws ++ [x])) (caseTail s C (caseN s C f) l) q)) (if opB [40] t = true then stepS q else q)) := rfl
  have e2 : caseN (grS s) C' (f' + 1) ws l = bnd (nowP (grS s)) (fun t q => if keyB [101, 115, 97, 99] t = true then .ok (ws, l) q else (bnd (wordR (grS s)) (fun x q => bnd (patN (grS s) (muP (grS s) q + 1) (ws ++ [x])) (caseTail (grS s) C' (caseN (grS s) C' f') l) q)) (if opB [40] t = true then stepS q else q)) := rfl
  show Good s true false (f + 1) 0 (B + WC (ws, l)) _ _ _ (caseN s C (f + 1) ws l) (caseN (grS s) C' (f' + 1) ws l)
  rw [e1, e2]
  clear e1 e2 hend htail
  generalize (bnd (wordR s) (fun x q => bnd (patN s (muP s q + 1) (ws ++ [x])) (caseTail s C (caseN s C f) l) q)) = M at hM ⊢
  generalize (bnd (wordR (grS s)) (fun x q => bnd (patN (grS s) (muP (grS s) q + 1) (ws ++ [x])) (caseTail (grS s) C' (caseN (grS s) C' f') l) q)) = M' at hM ⊢
  have e : ∀ (M : PS → ReR (List (List UInt8) × List Nd)), (fun (t : Tok) (q : PS) => if keyB [101, 115, 97, 99] t = true then ReR.ok (ws, l) q else M (if opB [40] t = true then stepS q else q)) = (fun t q => if keyB [101, 115, 97, 99] t = true then .ok (ws, l) q else if opB [40] t = true then M (stepS q) else M q) := fun M => by
    funext t q
    by_cases h : opB [40] t = true
    · rw [if_pos h, if_pos h]
    · rw [if_neg h, if_neg h]
  rw [e M, e M']
  refine Good.now T.nl T.len (GoodK.ite (fun t => keyB [101, 115, 97, 99] t = true) (fun t => Iff.rfl) (fun _ => key_iff (by decide)) ?_ (GoodK.ite (fun t => opB [40] t = true) (fun t => Iff.rfl) (fun _ => op_iff _) ?_ ?_))
  · exact GoodK.ok (fun _ => (ws, l)) (fun _ => rfl) (fun _ => rfl) (fun hq t _ => ⟨Nat.le_refl _, hq.2⟩) (fun h => by cases h)
  · exact GoodK.step (j := true) (c := 0) (fun _ => _) (fun _ => _) (fun t ht => hM _ _ (by omega) (by omega)) (fun _ => rfl) (by omega) (fun hp => absurd hp.2 no_op) (fun h => by cases h)
  · exact GoodK.stay (j := true) (hM _ _ (by omega) (by omega)) (fun h => by cases h)
theorem case_good (T : Txt s) {C C' : PS → ReR Nd} (hC : GB s C C') : GC s false 1 (caseP s C) (caseP (grS s) C') := by
  intro g B Q
  unfold caseP
  show Good s false false g 1 B _ _ Q (bnd (stepP s) (fun _ q => bnd (wordR s) _ q)) (bnd (stepP (grS s)) (fun _ q => bnd (wordR (grS s)) _ q))
  rw [bnd_stepP, bnd_stepP]
  refine Good.now T.nl T.len ?_
  refine GoodK.stepU (fun _ => _) (fun _ => _) (fun t => ?_) (fun _ => rfl)
  refine Good.bnd (word_good T) (g2 := g) (c2 := 0) (fun x => ?_) (by omega) (by omega)
  refine Good.bnd ((lines_good T).le (fun _ => rfl) (fun h => h) (Nat.le_refl g) (Nat.le_refl _) (fun _ x _ => Nat.le_refl _) (fun x h => h) (fun h => h)) (g2 := g) (c2 := 0) (fun _ => ?_) (by omega) (by omega)
  refine Good.bnd (need_good T _ (fun _ => rfl) (keyE _)) (g2 := g) (c2 := 0) (fun _ => ?_) (by omega) (by omega)
  refine Good.bnd (lines_good T) (g2 := g) (c2 := 0) (fun _ => ?_) (by omega) (by omega)
  have h1 : ∀ (B0 : Nat) (Q : Prop), Good s true false g 0 B0 (fun y => B0 + WC y) VC Q (fun q => caseN s C (muP s q + 1) [] [] q) (fun q => caseN (grS s) C' (muP (grS s) q + 1) [] [] q) := fun B0 Q => by
    refine Good.fuel (L := fun f => caseN s C f [] []) (L' := fun f => caseN (grS s) C' f [] []) fun f f' hf => ?_
    exact (caseN_good T hC (B := B0) (Q := Q) f' f hf ([], [])).le (fun h => h) (fun h => h) (Nat.le_refl _) (Nat.le_refl _) (fun _ y _ => by show B0 + WC y + (B0 + (0 + 0)) ≤ _; omega) (fun x h => h) (fun h => ⟨h, fun x hx => by cases hx⟩)
  refine good_bndF (h1 _ _) (g2 := g) (c2 := 0) (fun y => ?_) (by omega) (by omega)
  show Good s true false g 0 _ _ _ _ (bnd (needP s (keyB [101, 115, 97, 99])) (fun _ q => ReR.ok (Nd.mk 13 false false x y.1 [] y.2) q)) (bnd (needP (grS s) (keyB [101, 115, 97, 99])) (fun _ q => ReR.ok (Nd.mk 13 false false x y.1 [] y.2) q))
  refine Good.bnd (need_good T _ (fun _ => rfl) (keyE _)) (g2 := g) (c2 := 0) (fun _ => ?_) (by omega) (by omega)
  refine Good.ret _ (fun h => ⟨?_, kk (by decide) (by decide) h.1.2⟩)
  have h2 := code_mk 13 false false x y.1 [] y.2 (by decide)
  have h3 := codes_le y.2
  have h4 : WC y = wl wWord y.1 + wl wb y.2 := rfl
  have h5 : wWord x = 4 + 2 * x.length := rfl
  simp only [wl] at h2
  unfold wn
  omega
/-- a compound command -/
theorem core_good (T : Txt s) {C C' : PS → ReR Nd} (hC : GB s C C') : GC s true 1 (coreP s C) (coreP (grS s) C') := by
  intro g B Q
  have hk1 : ∀ (k : Nat) (b : Nd), k ≤ 14 → wn (ndK k [b]) ≤ wb b + 200 := fun k b hk => by
    have h1 := wn_ndK hk [b]
    rw [codes_one] at h1
    unfold wn wb
    omega
  have hk2 : ∀ (k : Nat) (a b : Nd), k ≤ 14 → wn (ndK k [a, b]) ≤ wb a + wb b + 200 := fun k a b hk => by
    have h1 := wn_ndK hk [a, b]
    rw [codes_two] at h1
    unfold wn wb
    omega
  have hone : ∀ (k : Nat) (b : Tok → Bool) (hb : ∀ t, b (shiftT 2 t) = b t) (hE : b (endT' s) = false) (hk : k ≤ 14) (h5 : k ≠ 5) (g B0 : Nat) (Q : Prop), B ≤ B0 → Good s true false g 0 B0 (fun n => B + wn n) VN Q (bnd C (fun x => bnd (needP s b) (fun _ q => ReR.ok (ndK k [x]) q))) (bnd C' (fun x => bnd (needP (grS s) b) (fun _ q => ReR.ok (ndK k [x]) q))) := fun k b hb hE hk h5 g B0 Q hB => by
    refine Good.bnd (hC _ _ _) (g2 := g) (c2 := 0) (fun x => ?_) (by omega) (by omega)
    refine Good.bnd (need_good T _ hb hE) (g2 := g) (c2 := 0) (fun _ => ?_) (by omega) (by omega)
    refine Good.ret _ (fun h => ⟨?_, kk hk h5 (fun y hy => by rw [List.mem_singleton.1 hy]; exact h.1.2)⟩)
    have := hk1 k x hk
    omega
  show Good s true false g 1 B _ _ Q (bnd (nowP s) (fun t q =>
    if opB [40] t = true then bnd C (fun b => bnd (needP s (opB [41])) (fun _ q => ReR.ok (ndK 7 [b]) q)) (stepS q)
    else if keyB [123] t = true then bnd C (fun b => bnd (needP s (keyB [125])) (fun _ q => ReR.ok (ndK 8 [b]) q)) (stepS q)
    else if keyB [105, 102] t = true then ifP s C q
    else if (keyB [119, 104, 105, 108, 101] t || keyB [117, 110, 116, 105, 108] t) = true then
      bnd C (fun a => bnd (needP s (keyB [100, 111])) (fun _ => bnd C (fun b => bnd (needP s (keyB [100, 111, 110, 101])) (fun _ q => ReR.ok (ndK (if t.text = [117, 110, 116, 105, 108] then 11 else 10) [a, b]) q)))) (stepS q)
    else if keyB [102, 111, 114] t = true then forP s C q
    else if keyB [99, 97, 115, 101] t = true then caseP s C q
    else .bad t.pos 56))
   (bnd (nowP (grS s)) (fun t q =>
    if opB [40] t = true then bnd C' (fun b => bnd (needP (grS s) (opB [41])) (fun _ q => ReR.ok (ndK 7 [b]) q)) (stepS q)
    else if keyB [123] t = true then bnd C' (fun b => bnd (needP (grS s) (keyB [125])) (fun _ q => ReR.ok (ndK 8 [b]) q)) (stepS q)
    else if keyB [105, 102] t = true then ifP (grS s) C' q
    else if (keyB [119, 104, 105, 108, 101] t || keyB [117, 110, 116, 105, 108] t) = true then
      bnd C' (fun a => bnd (needP (grS s) (keyB [100, 111])) (fun _ => bnd C' (fun b => bnd (needP (grS s) (keyB [100, 111, 110, 101])) (fun _ q => ReR.ok (ndK (if t.text = [117, 110, 116, 105, 108] then 11 else 10) [a, b]) q)))) (stepS q)
    else if keyB [102, 111, 114] t = true then forP (grS s) C' q
    else if keyB [99, 97, 115, 101] t = true then caseP (grS s) C' q
    else .bad t.pos 56))
  refine Good.now T.nl T.len (GoodK.ite (fun t => opB [40] t = true) (fun t => Iff.rfl) (fun _ => op_iff _) ?_ (GoodK.ite (fun t => keyB [123] t = true) (fun t => Iff.rfl) (fun _ => key_iff (by decide)) ?_ (GoodK.ite (fun t => keyB [105, 102] t = true) (fun t => Iff.rfl) (fun _ => key_iff (by decide)) ?_
    (GoodK.ite (fun t => (keyB [119, 104, 105, 108, 101] t || keyB [117, 110, 116, 105, 108] t) = true) (fun t => Iff.rfl) (fun _ => by rw [keyE, keyE, keyBr (by decide), keyBr (by decide)]) ?_ (GoodK.ite (fun t => keyB [102, 111, 114] t = true) (fun t => Iff.rfl) (fun _ => key_iff (by decide)) ?_ (GoodK.ite (fun t => keyB [99, 97, 115, 101] t = true) (fun t => Iff.rfl) (fun _ => key_iff (by decide)) ?_ (GoodK.bad _ _ _ _)))))))
  · exact GoodK.step (j := true) (c := 0) (fun _ => _) (fun _ => _) (fun t ht => hone 7 (opB [41]) (fun _ => rfl) (opE _) (by decide) (by decide) _ _ _ (by omega)) (fun _ => rfl) (by omega) (fun hp => absurd hp.2 no_op) (fun h => by cases h)
  · exact GoodK.step (j := true) (c := 0) (fun _ => _) (fun _ => _) (fun t ht => hone 8 (keyB [125]) (fun _ => rfl) (keyE _) (by decide) (by decide) _ _ _ (by omega)) (fun _ => rfl) (by omega) (fun hp => absurd hp.2 no_key) (fun h => by cases h)
  · exact GoodK.stay (j := false) ((if_good T hC g B Q).le (fun h => h) (fun h => h) (Nat.le_refl _) (by omega) (fun _ x _ => Nat.le_refl _) (fun x h => h) (fun h => h)) (fun _ _ hp => absurd hp.2 no_key)
  · have hEB : ¬ (keyB [119, 104, 105, 108, 101] (endT' s) || keyB [117, 110, 116, 105, 108] (endT' s)) = true := by rw [keyE, keyE]; decide
    refine GoodK.step (j := true) (c := 0) (fun t => bnd C (fun a => bnd (needP s (keyB [100, 111])) (fun _ => bnd C (fun b => bnd (needP s (keyB [100, 111, 110, 101])) (fun _ q => ReR.ok (ndK (if t.text = [117, 110, 116, 105, 108] then 11 else 10) [a, b]) q)))))
      (fun t => bnd C' (fun a => bnd (needP (grS s) (keyB [100, 111])) (fun _ => bnd C' (fun b => bnd (needP (grS s) (keyB [100, 111, 110, 101])) (fun _ q => ReR.ok (ndK (if t.text = [117, 110, 116, 105, 108] then 11 else 10) [a, b]) q)))))
      (fun t ht => ?_) (fun _ => rfl) (by omega) (fun hp => absurd hp.2 hEB) (fun h => by cases h)
    refine Good.bnd (hC _ _ _) (g2 := g) (c2 := 0) (fun a => ?_) (by omega) (by omega)
    refine Good.bnd (need_good T _ (fun _ => rfl) (keyE _)) (g2 := g) (c2 := 0) (fun _ => ?_) (by omega) (by omega)
    refine Good.bnd (hC _ _ _) (g2 := g) (c2 := 0) (fun b => ?_) (by omega) (by omega)
    refine Good.bnd (need_good T _ (fun _ => rfl) (keyE _)) (g2 := g) (c2 := 0) (fun _ => ?_) (by omega) (by omega)
    have hk : (if t.text = [117, 110, 116, 105, 108] then 11 else 10) ≤ 14 := by split <;> omega
    have hk5 : (if t.text = [117, 110, 116, 105, 108] then 11 else 10) ≠ 5 := by split <;> omega
    refine Good.ret _ (fun h => ⟨?_, kk hk hk5 (fun y hy => ?_)⟩)
    · have := hk2 _ a b hk
      omega
    · rcases List.mem_cons.1 hy with h9 | h9
      · rw [h9]; exact h.1.1.1.2
      · rw [List.mem_singleton.1 h9]; exact h.1.2
  · exact GoodK.stay (j := false) (for_good T hC g B Q) (fun _ _ hp => absurd hp.2 no_key)
  · exact GoodK.stay (j := false) (case_good T hC g B Q) (fun _ _ hp => absurd hp.2 no_key)
theorem comp_good (T : Txt s) {C C' : PS → ReR Nd} (hC : GB s C C') : GN s (compP s C) (compP (grS s) C') := by
  intro g B Q
  show Good s true false g 1 B _ _ Q (bnd (coreP s C) (fun n => bnd (redirsR s) (fun l q => .ok (withR n l) q))) (bnd (coreP (grS s) C') (fun n => bnd (redirsR (grS s)) (fun l q => .ok (withR n l) q)))
  refine Good.bnd (core_good T hC g B Q) (g2 := g) (c2 := 0) (fun n => ?_) (by omega) (by omega)
  refine Good.bnd (redirs_good T) (g2 := g) (c2 := 0) (fun l => ?_) (by omega) (by omega)
  refine Good.ret _ (fun h => ⟨?_, ?_⟩)
  · have := code_with n l
    show B + wn (withR n l) ≤ B + wn n + wl wRdr l
    unfold wn
    omega
  · have h1 := h.1.2
    obtain ⟨k, nt, isin, nm, ws, rs, ks⟩ := n
    have h2 := h1.1
    unfold NdK at h2
    refine ⟨?_, h1.2⟩
    show NdK (.mk k nt isin nm ws l ks)
    unfold NdK
    exact ⟨h2.1, h.2, h2.2.2⟩
end
end Go.Tri

/-
  The parser's readers within braces: simple commands, functions, and all of them by levels.
-/
namespace Go.Tri
open Go.RowKit
section
variable {s : List UInt8}
theorem simpN_end {F : List UInt8 → PS → ReR Nd} {f : Nat} {q r : PS} {x : Nd} (h1 : q.line = []) (h2 : q.next = s.length) : simpN s F (f + 1) [] [] q ≠ .ok x r := by
  intro h
  rw [simpN, bnd_ok (now_end h1 h2), if_neg (by rw [redirE]; exact Bool.false_ne_true), if_neg (no_kind (by decide)), if_pos ⟨rfl, rfl⟩] at h
  cases h
abbrev SIx : Type := List (List UInt8) × List Rdr
def WS (x : SIx) : Nat := wl wWord x.1 + wl wRdr x.2
def SQ (x : SIx) : Prop := ∀ r ∈ x.2, RdV r
def SE (x : SIx) : Prop := x.1 = [] ∧ x.2 = []
instance (x : SIx) : Decidable (SE x) := inferInstanceAs (Decidable (x.1 = [] ∧ x.2 = []))
theorem wn_simple (x : SIx) : wn (.mk 1 false false [] x.1 x.2 []) ≤ WS x + 105 := by
  have h1 := code_mk 1 false false [] x.1 x.2 [] (by decide)
  have e : (codesP []).length = 0 := by rw [codesP]; rfl
  unfold wn WS
  simp only [List.length_nil] at h1
  omega
theorem simp_good (T : Txt s) {F F' : List UInt8 → PS → ReR Nd} (hF : ∀ (nm : List UInt8) g B Q, Good s true false g 0 (B + 200 + 2 * nm.length) (fun n => B + wn n) VN Q (F nm) (F' nm)) : GN s (simpP s F) (simpP (grS s) F') := by
  intro g B Q
  refine Good.fuel (L := fun f => simpN s F f [] []) (L' := fun f => simpN (grS s) F' f [] []) fun f f' hf => ?_
  have key := Good.loopC (s := s) (ι := SIx) (o := false) (w := fun n => B + wn n) (V := VN) (fun f x => simpN s F f x.1 x.2) (fun f x => simpN (grS s) F' f x.1 x.2) (fun x => decide (SE x)) (fun x => if SE x then 1 else 0) (fun x => if SE x then B else B + 105 + WS x) (fun x => SQ x) (fun a p' hd => hd) (fun a p' x e h => by cases h) (fun a p x e h => by cases h) (fun f f' ih x => ?_) f' f hf ([], [])
  · exact key.le (fun h => h) (fun h => h) (Nat.le_refl _) (Nat.le_refl _) (fun _ x _ => Nat.le_refl _) (fun x h => h) (fun h r hr => by cases hr)
  obtain ⟨ws, rs⟩ := x
  show Good s (decide (SE (ws, rs))) false (f + 1) (if SE (ws, rs) then 1 else 0) (if SE (ws, rs) then B else B + 105 + WS (ws, rs)) _ _ _ (bnd (nowP s) (fun t q =>
      if redirB t = true then (bnd (redirR s) (fun r => simpN s F f ws (rs ++ [r]))) q
      else if t.kind = 1 then
        (if ws = [] ∧ amongB reservedS t.text = true then .bad t.pos 56
        else if ws = [] ∧ rs = [] ∧ nameB t.text = true then
          bnd (nowP s) (fun u q => if opB [40] u = true then bnd (needP s (opB [41])) (fun _ => bnd (linesP s) (fun _ => F t.text)) (stepS q) else simpN s F f [t.text] rs q) (stepS q)
        else simpN s F f (ws ++ [t.text]) rs (stepS q))
      else if ws = [] ∧ rs = [] then .bad t.pos 56 else .ok (.mk 1 false false [] ws rs []) q))
    (bnd (nowP (grS s)) (fun t q =>
      if redirB t = true then (bnd (redirR (grS s)) (fun r => simpN (grS s) F' f' ws (rs ++ [r]))) q
      else if t.kind = 1 then
        (if ws = [] ∧ amongB reservedS t.text = true then .bad t.pos 56
        else if ws = [] ∧ rs = [] ∧ nameB t.text = true then
          bnd (nowP (grS s)) (fun u q => if opB [40] u = true then bnd (needP (grS s) (opB [41])) (fun _ => bnd (linesP (grS s)) (fun _ => F' t.text)) (stepS q) else simpN (grS s) F' f' [t.text] rs q) (stepS q)
        else simpN (grS s) F' f' (ws ++ [t.text]) rs (stepS q))
      else if ws = [] ∧ rs = [] then .bad t.pos 56 else .ok (.mk 1 false false [] ws rs []) q))
  have hc1 : (if SE (ws, rs) then 1 else 0) ≤ 1 := by split <;> omega
  have hB0 : B ≤ (if SE (ws, rs) then B else B + 105 + WS (ws, rs)) := by split <;> omega
  have hBW : B + WS (ws, rs) ≤ (if SE (ws, rs) then B else B + 105 + WS (ws, rs)) := by
    split
    · rename_i h
      have e : WS (ws, rs) = 0 := by
        have h1 : ws = [] := h.1
        have h2 : rs = [] := h.2
        rw [h1, h2]; rfl
      omega
    · omega
  have ihn : ∀ (x : SIx) (B0 : Nat) (i : Bool) (Q : Prop), ¬ SE x → (i = true → False) → B + 105 + WS x ≤ B0 → (Q → SQ x) → Good s i false f 0 B0 (fun n => B + wn n) VN Q (simpN s F f x.1 x.2) (simpN (grS s) F' f' x.1 x.2) := fun x B0 i Q hx hi hB hQ =>
    (ih x).le (fun h => (hi h).elim) (fun h => h) (Nat.le_refl _) (Nat.zero_le _) (fun _ n _ => by rw [if_neg hx]; omega) (fun n h => h) hQ
  have hne : ∀ w, ¬ SE (ws ++ [w], rs) := fun w h => by have := h.1; simp at this
  have hww : ∀ w, WS (ws ++ [w], rs) = WS (ws, rs) + wWord w := fun w => by
    show wl wWord (ws ++ [w]) + _ = _
    rw [wl_snoc]
    show _ = wl wWord ws + wl wRdr rs + _
    show _ + wl wRdr rs = _
    omega
  refine Good.now T.nl T.len (GoodK.ite (fun t => redirB t = true) (fun t => Iff.rfl) (fun _ => by rw [redirE, redirBr]) ?_ (GoodK.iteW (fun t => t.kind = 1) (fun t => Iff.rfl) (no_kind (by decide)) rfl ?_ ?_ ?_ ?_))
  · refine GoodK.stay (j := true) ?_ (fun h => by cases h)
    refine Good.bnd (redirR_good T (B := (if SE (ws, rs) then B else B + 105 + WS (ws, rs)))) (g2 := f) (c2 := 0) (fun r => ?_) (by omega) (by omega)
    refine ihn (ws, rs ++ [r]) _ _ _ (fun h => by have := h.2; simp at this) (fun h => by cases h) ?_ (fun h => mem_snoc h.1 h.2)
    have e : WS (ws, rs ++ [r]) = WS (ws, rs) + wRdr r := by
      show _ + wl wRdr (rs ++ [r]) = wl wWord ws + wl wRdr rs + _
      rw [wl_snoc]
      show wl wWord ws + _ = _
      omega
    omega
  · refine GoodK.ite (fun t => ws = [] ∧ amongB reservedS t.text = true) (fun t => Iff.rfl) (fun hp => absurd hp.2 (no_kind (by decide))) (GoodK.bad _ _ _ _) (GoodK.ite (fun t => ws = [] ∧ rs = [] ∧ nameB t.text = true) (fun t => Iff.rfl) (fun hp => absurd hp.1.2 (no_kind (by decide))) ?_ ?_)
    · refine GoodK.step (j := false) (c := 0) (fun t => bnd (nowP s) (fun u q => if opB [40] u = true then bnd (needP s (opB [41])) (fun _ => bnd (linesP s) (fun _ => F t.text)) (stepS q) else simpN s F f [t.text] rs q)) (fun t => bnd (nowP (grS s)) (fun u q => if opB [40] u = true then bnd (needP (grS s) (opB [41])) (fun _ => bnd (linesP (grS s)) (fun _ => F' t.text)) (stepS q) else simpN (grS s) F' f' [t.text] rs q)) (fun t ht => ?_) (fun _ => rfl) (by omega) (fun hp => absurd hp.1.1.2 (no_kind (by decide))) (fun _ t ht => by rw [ht.1.1.2]; decide)
      have htw := tw_text t
      obtain ⟨hw, hr, hn⟩ := ht.2
      subst hw hr
      refine Good.now T.nl T.len (GoodK.ite (fun t => opB [40] t = true) (fun t => Iff.rfl) (fun _ => op_iff _) ?_ ?_)
      · refine GoodK.step (j := true) (c := 0) (fun _ => _) (fun _ => _) (fun u hu => ?_) (fun _ => rfl) (by omega) (fun hp => absurd hp.2 no_op) (fun h => by cases h)
        refine Good.bnd (need_good T _ (fun _ => rfl) (opE _)) (g2 := f) (c2 := 0) (fun _ => ?_) (by omega) (by omega)
        refine Good.bnd (lines_good T) (g2 := f) (c2 := 0) (fun _ => ?_) (by omega) (by omega)
        refine (hF t.text f B _).le (fun _ => rfl) (fun h => h) (Nat.le_refl _) (Nat.le_refl _) (fun _ x _ => ?_) (fun x h => h) (fun h => h)
        omega
      · refine GoodK.stay (j := false) ?_ (fun _ h => by cases h)
        refine ihn ([t.text], []) _ _ _ (fun h => by have := h.1; simp at this) (fun h => by cases h) ?_ (fun _ r hr => by cases hr)
        show B + 105 + (wl wWord [t.text] + 0) ≤ _
        show B + 105 + (4 + 2 * t.text.length + 0 + 0) ≤ _
        omega
    · refine GoodK.step (j := false) (c := 0) (fun t => simpN s F f (ws ++ [t.text]) rs) (fun t => simpN (grS s) F' f' (ws ++ [t.text]) rs) (fun t ht => ?_) (fun _ => rfl) (by omega) (fun hp => absurd hp.1.1.2 (no_kind (by decide))) (fun _ t ht => by rw [ht.1.1.2]; decide)
      have htw := tw_text t
      refine ihn (ws ++ [t.text], rs) _ _ _ (hne _) (fun h => by cases h) ?_ (fun h => h)
      rw [hww]
      show B + 105 + (WS (ws, rs) + (4 + 2 * t.text.length)) ≤ _
      omega
  · by_cases hx : ws = [] ∧ rs = []
    · refine GoodK.ite (fun _ => ws = [] ∧ rs = []) (fun t => Iff.rfl) (fun _ => Iff.rfl) (GoodK.bad _ _ _ _) (GoodK.void fun t h => h.2 hx)
    · refine GoodK.ite (fun _ => ws = [] ∧ rs = []) (fun t => Iff.rfl) (fun _ => Iff.rfl) (GoodK.bad _ _ _ _) ?_
      have hx' : ¬ SE (ws, rs) := hx
      rw [if_neg hx', if_neg hx', decide_eq_false hx']
      refine GoodK.ok (fun _ => Nd.mk 1 false false [] ws rs []) (fun _ => rfl) (fun _ => rfl) (fun hq t _ => ⟨?_, ndK_mk (by decide) hq (fun x hx => by cases hx), (show (1 : Nat) ≠ 5 by decide)⟩) (fun h => by cases h)
      have := wn_simple (ws, rs)
      show B + wn (Nd.mk 1 false false [] (ws, rs).1 (ws, rs).2 []) ≤ _
      omega
  · intro hi q x r h1 h2 h3
    have hx : ws = [] ∧ rs = [] := of_decide_eq_true hi
    rw [if_pos hx] at h3
    cases h3
  · intro hi hbs
    have hx : ¬ SE (ws, rs) := of_decide_eq_false hi
    show DoomR s (if ws = [] ∧ amongB reservedS [125] = true then .bad _ 56 else if ws = [] ∧ rs = [] ∧ nameB [125] = true then _ else simpN (grS s) F' f' (ws ++ [[125]]) rs (stepS (endE s)))
    by_cases hw : ws = []
    · rw [if_pos ⟨hw, by decide +kernel⟩]; trivial
    · rw [if_neg (fun h => hw h.1), if_neg (fun h => hw h.1)]
      exact (ih (ws ++ [[125]], rs)).doom hbs _ doom_end
theorem fn_good (T : Txt s) {C C' : PS → ReR Nd} (hC : GN s C C') (nm : List UInt8) (g B : Nat) (Q : Prop) : Good s true false g 0 (B + 200 + 2 * nm.length) (fun n => B + wn n) VN Q (fnP C nm) (fnP C' nm) := by
  show Good s true false g 0 _ _ _ Q (bnd C (fun n q => ReR.ok (Nd.mk 14 false false nm [] [] [n]) q)) (bnd C' (fun n q => ReR.ok (Nd.mk 14 false false nm [] [] [n]) q))
  refine Good.bnd (hC g _ Q) (g2 := g) (c2 := 0) (fun n => ?_) (by omega) (by omega)
  refine Good.ret _ (fun h => ⟨?_, kk (by decide) (by decide) (fun y hy => by rw [List.mem_singleton.1 hy]; exact h.2.1)⟩)
  have h1 := code_mk 14 false false nm [] [] [n] (by decide)
  rw [codes_one] at h1
  simp only [wl] at h1
  unfold wn
  omega
theorem cmd_good (T : Txt s) {C C' : PS → ReR Nd} (hC : GN s C C') {F F' : List UInt8 → PS → ReR Nd} (hF : GN s (simpP s F) (simpP (grS s) F')) : GN s (cmdP s C (simpP s F)) (cmdP (grS s) C' (simpP (grS s) F')) := by
  intro g B Q
  show Good s true false g 1 B _ _ Q (bnd (nowP s) (fun t q => if (opB [40] t || (decide (t.kind = 1) && amongB reservedS t.text)) = true then C q else simpP s F q)) (bnd (nowP (grS s)) (fun t q => if (opB [40] t || (decide (t.kind = 1) && amongB reservedS t.text)) = true then C' q else simpP (grS s) F' q))
  refine Good.now T.nl T.len (GoodK.iteW (fun t => (opB [40] t || (decide (t.kind = 1) && amongB reservedS t.text)) = true) (fun t => Iff.rfl) (by rw [opE]; exact Bool.false_ne_true) ?_ (GoodK.stay (j := true) (hC g B Q) (fun h => by cases h)) (GoodK.stay (j := true) (hF g B Q) (fun h => by cases h)) ?_ (fun h => by cases h))
  · rw [opBr, show (brT s).text = [125] from rfl, show amongB reservedS [125] = true by decide +kernel]; rfl
  · intro _ q x r h1 h2
    exact simpN_end h1 h2
theorem lv_step (T : Txt s) {c1 c1' c2 c2' : PS → ReR Nd} (h1 : GN s c1 c1') (h2 : GN s c2 c2') :
    GN s (cmdP s (compP s (bodyP s (andorP s (pipeP s c1)))) (simpP s (fnP c2))) (cmdP (grS s) (compP (grS s) (bodyP (grS s) (andorP (grS s) (pipeP (grS s) c1')))) (simpP (grS s) (fnP c2'))) ∧
    GN s (compP s (bodyP s (andorP s (pipeP s c1)))) (compP (grS s) (bodyP (grS s) (andorP (grS s) (pipeP (grS s) c1')))) := by
  have hc := comp_good T (body_good T (andor_good T (pipe_good T h1)))
  exact ⟨cmd_good T hc (simp_good T (fn_good T h2)), hc⟩
theorem lv_same (T : Txt s) : ∀ n, GN s (lvC s n).1 (lvC (grS s) n).1 ∧ GN s (lvC s n).2 (lvC (grS s) n).2
  | 0 => by
    have : GN s (nestP s) (nestP (grS s)) := fun g B Q => Good.now T.nl T.len (GoodK.bad (fun t _ => t.pos) (fun t _ => t.pos) 52 52)
    exact ⟨this, this⟩
  | n + 1 => by
    obtain ⟨h1, h2⟩ := lv_same T n
    exact lv_step T h1 h2
theorem nest_off (T : Txt s) {m m0 : PS → ReR Nd} (h : GN s m m0) (hn : ∀ p a e, nowP s p = .bad a e → m p = .bad a e) : GN s m (nestP (grS s)) := fun g B Q =>
  { use := (h g B Q).use
    mu := (h g B Q).mu
    sim := fun p p' x q hg hi hR hm => by
      cases hp : nowP s p with
      | bad a e => rw [hn _ _ _ hp] at hm; cases hm
      | ok t r =>
        unfold nestP
        rcases now_sim T.nl T.len hR hp with ⟨L, q', h1, h2, h3⟩ | ⟨h1, h2, h3, h4⟩ | ⟨h1, _, h2⟩
        · exact Or.inr (Or.inl ⟨_, by rw [bnd_ok h2]⟩)
        · exact Or.inr (Or.inl ⟨_, by rw [bnd_ok h4]⟩)
        · refine Or.inr (Or.inr ⟨h1, ?_⟩)
          rcases h2 with ⟨a, e, h2⟩ | ⟨t', q', h2, h3⟩
          · rw [bnd_bad h2]; trivial
          · rw [bnd_ok h2]; trivial
    doom := fun hb p' hd => by
      unfold nestP
      rw [bnd_ok (now_filled (doom_filled hd))]; trivial
    nz := fun p' a e hm => by
      unfold nestP at hm
      rw [bnd_v] at hm
      cases hp : nowP (grS s) p' with
      | bad a' e' => rw [hp] at hm; cases hm; exact now_nz hp
      | ok t q => rw [hp] at hm; cases hm; decide
    nzs := (h g B Q).nzs }
theorem lv_off (T : Txt s) : ∀ n, GN s (lvC s (n + 1)).1 (lvC (grS s) n).1 ∧ GN s (lvC s (n + 1)).2 (lvC (grS s) n).2
  | 0 => by
    obtain ⟨h1, h2⟩ := lv_same T 1
    refine ⟨nest_off T h1 fun p a e hp => ?_, nest_off T h2 fun p a e hp => ?_⟩
    · show bnd (nowP s) _ p = _
      rw [bnd_bad hp]
    · exact comp_bad hp
  | n + 1 => by
    obtain ⟨h1, h2⟩ := lv_off T n
    exact lv_step T h1 h2
end
end Go.Tri
