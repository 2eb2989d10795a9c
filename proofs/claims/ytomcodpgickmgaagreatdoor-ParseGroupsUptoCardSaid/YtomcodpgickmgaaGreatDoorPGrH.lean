/-
  The parser's readers within braces.
-/
import Derived.Test.YtomcodpgickmgaaGreatDoorPGrC
namespace Go.Tri
open Go.RowKit
structure Txt (s : List UInt8) : Prop where
  nl : EndNL s
  len : s.length + 4 ≤ 65536
/-- how long a tree's text is -/
theorem dec_le (u : Nat) : (Lib.decDigits u).length ≤ u + 1 := by
  induction u using Nat.strongRecOn with
  | ind u ih =>
    by_cases h : u < 10
    · rw [digits_lt h]; simp
    · rw [digits_ge h, List.length_append, List.length_singleton]
      have := ih (u / 10) (by omega)
      omega
theorem itoa_le (v : Int) : (Lib.itoa v).length ≤ v.natAbs + 2 := by
  have h1 := dec_le v.natAbs
  have h2 := dec_le v.toNat
  unfold Lib.itoa
  split
  · rw [List.length_cons]; omega
  · omega
theorem itoa_fd {v : Int} (h : -9223372036854775808 ≤ v ∧ v ≤ 10) : (Lib.itoa v).length ≤ 21 := by
  have key : ∀ (k u : Nat), u < 10 ^ (k + 1) → (Lib.decDigits u).length ≤ k + 1 := by
    intro k
    induction k with
    | zero => intro u h; rw [digits_lt (by simpa using h)]; simp
    | succ k ih =>
      intro u h
      by_cases h9 : u < 10
      · rw [digits_lt h9]; simp
      · rw [digits_ge h9, List.length_append, List.length_singleton]
        have := ih (u / 10) (by rw [Nat.pow_succ] at h; omega)
        omega
  have h1 := key 18 v.natAbs (by omega)
  have h2 := key 18 v.toNat (by omega)
  unfold Lib.itoa
  split
  · rw [List.length_cons]; omega
  · omega
theorem textC_le (t : List UInt8) : (textC t).length ≤ 2 * t.length + 3 := by
  have := itoa_le (t.length : Int)
  unfold textC
  simp only [List.length_append, List.length_cons, List.length_nil]
  omega
def wRdr (r : Rdr) : Nat := (rdrC r).length
def wWord (l : List UInt8) : Nat := 4 + 2 * l.length
def wn (n : Nd) : Nat := (codeP n).length + 80
def wb (n : Nd) : Nat := (codeP n).length + 40
def wl {α : Type} (w : α → Nat) : List α → Nat
  | [] => 0
  | x :: r => w x + wl w r
theorem wl_snoc {α : Type} (w : α → Nat) : ∀ (l : List α) (x : α), wl w (l ++ [x]) = wl w l + w x
  | [], x => by show w x + 0 = 0 + w x; omega
  | y :: r, x => by show w y + wl w (r ++ [x]) = _; rw [wl_snoc w r x]; show _ = w y + wl w r + w x; omega
def RdV (r : Rdr) : Prop := -9223372036854775808 ≤ r.fd ∧ r.fd ≤ 10
def VN (n : Nd) : Prop := NdK n ∧ n.kind ≠ 5
theorem rdrs_wl : ∀ l : List Rdr, (rdrsC l).length = wl wRdr l
  | [] => rfl
  | r :: l => by
    show (rdrC r ++ rdrsC l).length = _
    rw [List.length_append, rdrs_wl l]; rfl
theorem words_wl : ∀ l : List (List UInt8), (wordsC l).length ≤ wl wWord l
  | [] => Nat.le_refl _
  | w :: l => by
    show ([119] ++ textC w ++ wordsC l).length ≤ wWord w + wl wWord l
    have h1 := textC_le w
    have h2 := words_wl l
    have h3 : wWord w = 4 + 2 * w.length := rfl
    simp only [List.length_append, List.length_cons, List.length_nil]
    omega
theorem codes_wl (w : Nat) : ∀ l : List Nd, (codesP l).length + w * l.length = wl (fun n => (codeP n).length + w) l
  | [] => rfl
  | n :: l => by
    have ih := codes_wl w l
    rw [codesP, List.length_append, List.length_cons]
    show _ = (codeP n).length + w + wl _ l
    rw [← ih, Nat.mul_succ]
    omega
theorem code_mk (k : Nat) (nt isin : Bool) (nm : List UInt8) (ws : List (List UInt8)) (rs : List Rdr) (ks : List Nd) (hk : k ≤ 14) :
    (codeP (.mk k nt isin nm ws rs ks)).length ≤ 25 + 2 * nm.length + wl wWord ws + wl wRdr rs + (codesP ks).length := by
  have h1 := itoa_le (k : Int)
  have h2 := textC_le nm
  have h3 := words_wl ws
  have h4 := rdrs_wl rs
  have h5 : (if nt then [33] else [] : List UInt8).length ≤ 1 := by cases nt <;> simp
  have h6 : (if isin then [105, 110] else [] : List UInt8).length ≤ 2 := by cases isin <;> simp
  rw [codeP]
  simp only [List.length_append, List.length_cons, List.length_nil]
  omega
theorem code_with (n : Nd) (l : List Rdr) : (codeP (withR n l)).length ≤ (codeP n).length + wl wRdr l := by
  obtain ⟨k, nt, isin, nm, ws, rs, ks⟩ := n
  have h := rdrs_wl l
  unfold withR
  simp only [Nd.kind, Nd.not, Nd.isin, Nd.name, Nd.words, Nd.kids]
  rw [codeP, codeP]
  simp only [List.length_append, List.length_cons, List.length_nil]
  omega
theorem ndsK_iff : ∀ l : List Nd, NdsK l ↔ ∀ x ∈ l, NdK x
  | [] => by unfold NdsK; exact ⟨fun _ x hx => (by cases hx), fun _ => trivial⟩
  | k :: l => by
    unfold NdsK
    rw [ndsK_iff l]
    exact ⟨fun h x hx => (List.mem_cons.1 hx).elim (fun e => e ▸ h.1) (h.2 x), fun h => ⟨h k List.mem_cons_self, fun x hx => h x (List.mem_cons_of_mem _ hx)⟩⟩
theorem ndK_mk {k : Nat} {nt isin : Bool} {nm : List UInt8} {ws : List (List UInt8)} {rs : List Rdr} {ks : List Nd} (hk : k ≤ 14) (hr : ∀ r ∈ rs, RdV r) (hs : ∀ x ∈ ks, NdK x) : NdK (.mk k nt isin nm ws rs ks) := by
  unfold NdK
  exact ⟨by omega, hr, (ndsK_iff ks).2 hs⟩
section
variable {s : List UInt8}
theorem opE (x : List UInt8) : opB x (endT' s) = false := rfl
theorem opBr (x : List UInt8) : opB x (brT s) = false := rfl
theorem keyE (x : List UInt8) : keyB x (endT' s) = false := rfl
theorem keyBr {x : List UInt8} (h : x ≠ [125]) : keyB x (brT s) = false := by
  unfold keyB
  rw [show (brT s).text = [125] from rfl]
  have e : decide ([125] = x) = false := decide_eq_false (fun e => h e.symm)
  rw [e, Bool.and_false]
theorem op_iff (x : List UInt8) : (opB x (endT' s) = true ↔ opB x (brT s) = true) := by rw [opE, opBr]
theorem key_iff {x : List UInt8} (h : x ≠ [125]) : (keyB x (endT' s) = true ↔ keyB x (brT s) = true) := by rw [keyE, keyBr h]
theorem no_op {x : List UInt8} : ¬ opB x (endT' s) = true := by rw [opE]; exact Bool.false_ne_true
theorem no_key {x : List UInt8} : ¬ keyB x (endT' s) = true := by rw [keyE]; exact Bool.false_ne_true
theorem redirE : redirB (endT' s) = false := rfl
theorem redirBr : redirB (brT s) = false := rfl
theorem beginE : beginB (endT' s) = false := rfl
theorem beginBr : beginB (brT s) = false := by
  unfold beginB
  rw [show (brT s).text = [125] from rfl, show amongB closersS [125] = true by decide +kernel, opBr, redirBr]
  rfl
theorem kind_iff3 : ((endT' s).kind = 3 ↔ (brT s).kind = 3) := ⟨fun h => absurd h (show ¬ (0 : Nat) = 3 by decide), fun h => absurd h (show ¬ (1 : Nat) = 3 by decide)⟩
theorem no_kind {n : Nat} (h : n ≠ 0) : ¬ (endT' s).kind = n := fun e => h e.symm
theorem tw_pos (t : Tok) : 1 ≤ tw t := by unfold tw; omega
theorem tw_text (t : Tok) : 1 + t.text.length ≤ tw t := by unfold tw; omega
theorem bnd_stepP {u : List UInt8} {β : Type} (K : Tok → PS → ReR β) : bnd (stepP u) K = bnd (nowP u) (fun t q => K t (stepS q)) := by
  funext p
  rw [bnd_v, bnd_v]
  unfold stepP
  rw [bnd_v]
  cases nowP u p <;> rfl
/-- what reads no brace -/
theorem word_end : DoomR s (wordR (grS s) (endE s)) := by
  unfold wordR
  rw [bnd_ok (now_filled endE_filled)]
  show DoomR s (if (1 : Nat) = 1 then .ok [125] (stepS (endE s)) else .bad _ 56)
  rw [if_pos rfl]
  exact doom_end
theorem now_end {q : PS} (h1 : q.line = []) (h2 : q.next = s.length) : nowP s q = .ok (endT' s) q := by
  rw [now_filled (fun h => by omega), headT_nil h1]
theorem Good.ret {α : Type} {i : Bool} {g B : Nat} {w : α → Nat} {V : α → Prop} {Q : Prop} (x : α) (h : Q → w x ≤ B ∧ V x) : Good s i false g 0 B w V Q (fun q => .ok x q) (fun q => .ok x q) where
  use hq p y q hg hn hk := by
    cases hk
    obtain ⟨h1, h2⟩ := h hq
    exact ⟨by omega, h2⟩
  mu p y q hg hn hk := by cases hk; exact ⟨Nat.le_refl _, hn, fun h => by cases h⟩
  sim p p' y q hg hi hR hk := by cases hk; exact Or.inl ⟨p', rfl, hR⟩
  doom hb p' hd := hd
  nz p' a e h := by cases h
  nzs p a e h := by cases h
/-- newlines -/
theorem lines_good (T : Txt s) {g B : Nat} {Q : Prop} : Good s true false g 0 B (fun _ => B) (fun _ => True) Q (linesP s) (linesP (grS s)) := by
  refine Good.fuel (L := linesN s) (L' := linesN (grS s)) fun f f' hf => ?_
  refine Good.loop (ι := Unit) (fun f _ => linesN s f) (fun f _ => linesN (grS s) f) (fun _ => true) (fun _ => B) (fun _ => Q) (fun a p' hd => hd) (fun a p' x e h => by cases h) (fun a p x e h => by cases h) (fun f f' ih a => ?_) f' f hf ()
  show Good s true false (f + 1) 0 B _ _ Q (bnd (nowP s) (fun t q => if t.kind = 3 then linesN s f (stepS q) else .ok () q)) (bnd (nowP (grS s)) (fun t q => if t.kind = 3 then linesN (grS s) f' (stepS q) else .ok () q))
  refine Good.now T.nl T.len (GoodK.ite (fun t => t.kind = 3) (fun t => Iff.rfl) (fun _ => kind_iff3) ?_ ?_)
  · refine GoodK.step (j := true) (c := 0) (fun _ => linesN s f) (fun _ => linesN (grS s) f') (fun t ht => ?_) (fun _ => rfl) (by omega) (fun hP => absurd hP.2 (no_kind (by decide))) (fun h => by cases h)
    exact (ih ()).le (fun h => h) (fun h => h) (by omega) (Nat.le_refl _) (fun _ x _ => by omega) (fun x h => h) (fun h => h)
  · exact GoodK.ok (fun _ => ()) (fun _ => rfl) (fun _ => rfl) (fun _ t _ => ⟨Nat.le_refl _, trivial⟩) (fun h => by cases h)
theorem need_good (T : Txt s) (b : Tok → Bool) (hb : ∀ t, b (shiftT 2 t) = b t) (hE : b (endT' s) = false) {g B : Nat} {Q : Prop} : Good s true false g 1 B (fun _ => B + 200) (fun _ => True) Q (needP s b) (needP (grS s) b) := by
  show Good s true false g 1 B _ _ Q (bnd (nowP s) (fun t q => if b t then .ok () (stepS q) else .bad t.pos 56)) (bnd (nowP (grS s)) (fun t q => if b t then .ok () (stepS q) else .bad t.pos 56))
  have hs : GoodK s true (fun t => True ∧ b t = true) false g 1 B (fun _ => B + 200) (fun _ => True) Q (fun _ q => .ok () (stepS q)) (fun _ q => .ok () (stepS q)) :=
    GoodK.okS (fun _ => ()) (fun _ => rfl) (fun h => by rw [hE] at h; exact absurd h.2 Bool.false_ne_true) (fun _ t _ => ⟨by have := tw_pos t; omega, trivial⟩) (fun h => by cases h)
  cases hB : b (brT s) with
  | false => exact Good.now T.nl T.len (GoodK.ite (fun t => b t = true) (fun t => by rw [hb]) (fun _ => by rw [hE, hB]) hs (GoodK.bad _ _ _ _))
  | true => exact Good.now T.nl T.len (GoodK.iteW (fun t => b t = true) (fun t => by rw [hb]) (by rw [hE]; exact Bool.false_ne_true) hB hs (GoodK.bad _ _ _ _) (fun _ q x r _ _ h => by cases h) (fun h => by cases h))
theorem word_good (T : Txt s) {g B : Nat} {Q : Prop} : Good s true true g 1 B (fun l => B + 100 + wWord l) (fun _ => True) Q (wordR s) (wordR (grS s)) := by
  show Good s true true g 1 B _ _ Q (bnd (nowP s) (fun t q => if t.kind = 1 then .ok t.text (stepS q) else .bad t.pos 56)) (bnd (nowP (grS s)) (fun t q => if t.kind = 1 then .ok t.text (stepS q) else .bad t.pos 56))
  refine Good.now T.nl T.len (GoodK.iteW (fun t => t.kind = 1) (fun t => Iff.rfl) (no_kind (by decide)) rfl ?_ (GoodK.bad _ _ _ _) (fun _ q x r _ _ h => by cases h) (fun h => by cases h))
  exact GoodK.okS (fun t => t.text) (fun _ => rfl) (fun h => no_kind (by decide) h.2) (fun _ t _ => ⟨by have := tw_text t; unfold wWord; omega, trivial⟩) (fun _ t h => by rw [h.2]; decide)
/-- redirections -/
theorem redirT_end {fd : Int} {q r : PS} {x : Rdr} (h1 : q.line = []) (h2 : q.next = s.length) : redirT s fd q ≠ .ok x r := by
  intro h
  unfold redirT at h
  rw [bnd_stepP, bnd_ok (now_end h1 h2), bnd_ok (now_end (q := stepS q) (by unfold stepS; rw [h1]; rfl) h2), if_neg (no_kind (by decide))] at h
  cases h
theorem redirT_good (T : Txt s) (fd : Int) {g B : Nat} {Q : Prop} (hfd : Q → -9223372036854775808 ≤ fd ∧ fd ≤ 10) : Good s false true g 2 B (fun r => B + 150 + wRdr r) RdV Q (redirT s fd) (redirT (grS s) fd) := by
  show Good s false true g 2 B _ _ Q (bnd (stepP s) (fun o q => bnd (nowP s) (fun t r => if t.kind = 1 then .ok (if stB o.text [60, 60] then (⟨fd, [60, 60], [], t.doc, t.raw⟩ : Rdr) else ⟨fd, o.text, t.text, [], false⟩) (stepS r) else .bad t.pos 56) q)) (bnd (stepP (grS s)) (fun o q => bnd (nowP (grS s)) (fun t r => if t.kind = 1 then .ok (if stB o.text [60, 60] then (⟨fd, [60, 60], [], t.doc, t.raw⟩ : Rdr) else ⟨fd, o.text, t.text, [], false⟩) (stepS r) else .bad t.pos 56) q))
  rw [bnd_stepP, bnd_stepP]
  refine Good.now T.nl T.len ?_
  refine GoodK.step (j := true) (c := 1) (fun o => bnd (nowP s) (fun t r => if t.kind = 1 then .ok (if stB o.text [60, 60] then (⟨fd, [60, 60], [], t.doc, t.raw⟩ : Rdr) else ⟨fd, o.text, t.text, [], false⟩) (stepS r) else .bad t.pos 56)) (fun o => bnd (nowP (grS s)) (fun t r => if t.kind = 1 then .ok (if stB o.text [60, 60] then (⟨fd, [60, 60], [], t.doc, t.raw⟩ : Rdr) else ⟨fd, o.text, t.text, [], false⟩) (stepS r) else .bad t.pos 56)) (fun o _ => ?_) (fun _ => rfl) (by omega) (fun _ q x r h1 h2 h => ?_) (fun h => by cases h)
  · refine Good.now T.nl T.len (GoodK.iteW (fun t => t.kind = 1) (fun t => Iff.rfl) (no_kind (by decide)) rfl ?_ (GoodK.bad _ _ _ _) (fun _ q x r _ _ h => by cases h) (fun h => by cases h))
    refine GoodK.okS (fun t => if stB o.text [60, 60] then (⟨fd, [60, 60], [], t.doc, t.raw⟩ : Rdr) else ⟨fd, o.text, t.text, [], false⟩) (fun _ => rfl) (fun h => no_kind (by decide) h.2) (fun hq t _ => ?_) (fun _ t h => by rw [h.2]; decide)
    have h0 := hfd hq
    have hf := itoa_fd h0
    have ht : tw t = 1 + t.text.length + t.doc.length := rfl
    have ho := tw_text o
    have e0 : (textC []).length ≤ 3 := textC_le []
    split
    · refine ⟨?_, h0⟩
      have e1 : (textC [60, 60]).length ≤ 7 := textC_le [60, 60]
      have e2 := textC_le t.doc
      have e5 : (if t.raw then [114, 97, 119] else [] : List UInt8).length ≤ 3 := by cases t.raw <;> simp
      unfold wRdr rdrC
      simp only [List.length_append, List.length_cons, List.length_nil] at e5 ⊢
      omega
    · refine ⟨?_, h0⟩
      have e1 := textC_le o.text
      have e2 := textC_le t.text
      unfold wRdr rdrC
      simp only [List.length_append, List.length_cons, List.length_nil, Bool.false_eq_true, if_false]
      omega
  · rw [bnd_ok (now_end (q := stepS q) (by unfold stepS; rw [h1]; rfl) h2), if_neg (no_kind (by decide))] at h
    cases h
theorem numOk_range {t : List UInt8} (h : numOk t = true) : -9223372036854775808 ≤ numV t ∧ numV t ≤ 10 := by
  unfold numOk at h
  unfold numV
  cases hn : numB t with
  | none => rw [hn] at h; cases h
  | some v =>
    rw [hn] at h
    have h1 : v ≤ 9 := of_decide_eq_true h
    have h2 := numB_range hn
    show _ ≤ v ∧ v ≤ _
    omega
end
end Go.Tri

/-
  The parser's readers within braces: lists, pipelines, bodies, and the compound commands.
-/
namespace Go.Tri
open Go.RowKit
section
variable {s : List UInt8}
theorem redirR_good (T : Txt s) {g B : Nat} {Q : Prop} : Good s true true g 2 B (fun r => B + 150 + wRdr r) RdV Q (redirR s) (redirR (grS s)) := by
  show Good s true true g 2 B _ _ Q (bnd (nowP s) (fun t q => if t.kind = 4 then
    (if numOk t.text = true then bnd (nowP s) (fun u r => if u.kind = 2 ∧ redirB u = true then redirT s (numV t.text) r else .bad u.pos 56) (stepS q) else .bad t.pos 56)
      else redirT s (-1) q)) (bnd (nowP (grS s)) (fun t q => if t.kind = 4 then
    (if numOk t.text = true then bnd (nowP (grS s)) (fun u r => if u.kind = 2 ∧ redirB u = true then redirT (grS s) (numV t.text) r else .bad u.pos 56) (stepS q) else .bad t.pos 56)
      else redirT (grS s) (-1) q))
  refine Good.now T.nl T.len (GoodK.ite (fun t => t.kind = 4) (fun t => Iff.rfl) (fun _ => ⟨fun h => absurd h (no_kind (by decide)), fun h => absurd h (show ¬ (1 : Nat) = 4 by decide)⟩) ?_ ?_)
  · refine GoodK.ite (fun t => numOk t.text = true) (fun t => Iff.rfl) (fun h => absurd h.2 (no_kind (by decide))) ?_ (GoodK.bad _ _ _ _)
    refine GoodK.step (j := true) (c := 2) (fun t => bnd (nowP s) (fun u r => if u.kind = 2 ∧ redirB u = true then redirT s (numV t.text) r else .bad u.pos 56)) (fun t => bnd (nowP (grS s)) (fun u r => if u.kind = 2 ∧ redirB u = true then redirT (grS s) (numV t.text) r else .bad u.pos 56)) (fun t ht => ?_) (fun _ => rfl) (by omega) (fun hP => absurd hP.1.2 (no_kind (by decide))) (fun h => by cases h)
    refine Good.now T.nl T.len (GoodK.ite (fun u => u.kind = 2 ∧ redirB u = true) (fun u => Iff.rfl) (fun _ => ⟨fun h => absurd h.1 (no_kind (by decide)), fun h => absurd h.1 (show ¬ (1 : Nat) = 2 by decide)⟩) ?_ (GoodK.bad _ _ _ _))
    refine GoodK.stay ((redirT_good T (numV t.text) (g := g - 1) (B := B) (fun _ => numOk_range ht.2)).le (fun h => h) (fun h => h) (Nat.le_refl _) (Nat.le_refl _) (fun _ x _ => by omega) (fun x h => h) (fun h => h)) (fun _ _ hP => absurd hP.2.1 (no_kind (by decide)))
  · exact GoodK.stay (redirT_good T (-1) (fun _ => by decide)) (fun _ _ _ q x r h1 h2 => redirT_end h1 h2)
/-- a list of them -/
theorem many_good {α : Type} (T : Txt s) (i : Bool) (b : Tok → Bool) (hb : ∀ t, b (shiftT 2 t) = b t) (hE : b (endT' s) = false) {m m' : PS → ReR α} {wx : α → Nat} {Vx : α → Prop} (hB : b (brT s) = true → i = false ∧ DoomR s (m' (endE s)))
    (hm : ∀ g B Q, Good s false (!i) g 1 B (fun x => B + wx x) Vx Q m m') {g B : Nat} {Q : Prop} :
    Good s i false g 0 B (fun l => B + wl wx l) (fun l => ∀ x ∈ l, Vx x) Q (manyP s b m) (manyP (grS s) b m') := by
  refine Good.fuel (L := fun f => manyN s b m f []) (L' := fun f => manyN (grS s) b m' f []) fun f f' hf => ?_
  have key := Good.loop (s := s) (ι := List α) (o := false) (c := 0) (w := fun l => B + wl wx l) (V := fun l => ∀ x ∈ l, Vx x) (fun f l => manyN s b m f l) (fun f l => manyN (grS s) b m' f l) (fun _ => i) (fun l => B + wl wx l) (fun l => Q ∧ ∀ x ∈ l, Vx x) (fun a p' hd => hd) (fun a p' x e h => by cases h) (fun a p x e h => by cases h) (fun f f' ih l => ?_) f' f hf []
  · exact key.le (fun h => h) (fun h => h) (Nat.le_refl _) (Nat.le_refl _) (fun _ x _ => by show B + wl wx x + (B + 0) ≤ _; omega) (fun x h => h) (fun h => ⟨h, fun x hx => by cases hx⟩)
  show Good s i false (f + 1) 0 (B + wl wx l) _ _ _ (bnd (nowP s) (fun t q => if b t = true then bnd m (fun x r => manyN s b m f (l ++ [x]) r) q else .ok l q)) (bnd (nowP (grS s)) (fun t q => if b t = true then bnd m' (fun x r => manyN (grS s) b m' f' (l ++ [x]) r) q else .ok l q))
  have k1 : GoodK s i (fun t => True ∧ b t = true) false (f + 1) 0 (B + wl wx l) (fun l => B + wl wx l) (fun l => ∀ x ∈ l, Vx x) (Q ∧ ∀ x ∈ l, Vx x) (fun _ q => bnd m (fun x r => manyN s b m f (l ++ [x]) r) q) (fun _ q => bnd m' (fun x r => manyN (grS s) b m' f' (l ++ [x]) r) q) := by
    refine GoodK.stay (j := false) (m := bnd m (fun x r => manyN s b m f (l ++ [x]) r)) (m' := bnd m' (fun x r => manyN (grS s) b m' f' (l ++ [x]) r)) ?_ (fun _ _ hP => by rw [hE] at hP; exact absurd hP.2 Bool.false_ne_true)
    refine Good.bnd (hm (f + 1) (B + wl wx l) _) (g2 := f) (c2 := 0) (fun x => ?_) (by omega) (by omega)
    refine (ih (l ++ [x])).le (fun h => by cases i <;> simp_all) (fun h => h) (Nat.le_refl _) (Nat.le_refl _) (fun _ y _ => ?_) (fun y h => h) (fun h => ⟨h.1.1, fun y hy => ?_⟩)
    · show B + wl wx y + (B + wl wx (l ++ [x])) ≤ _
      rw [wl_snoc]; omega
    · rcases List.mem_append.1 hy with h9 | h9
      · exact h.1.2 y h9
      · rw [List.mem_singleton.1 h9]; exact h.2
  have k2 : GoodK s i (fun t => True ∧ ¬ b t = true) false (f + 1) 0 (B + wl wx l) (fun l => B + wl wx l) (fun l => ∀ x ∈ l, Vx x) (Q ∧ ∀ x ∈ l, Vx x) (fun _ q => .ok l q) (fun _ q => .ok l q) :=
    GoodK.ok (fun _ => l) (fun _ => rfl) (fun _ => rfl) (fun hq t _ => ⟨Nat.le_refl _, hq.2⟩) (fun h => by cases h)
  cases hbr : b (brT s) with
  | false => exact Good.now T.nl T.len (GoodK.ite (fun t => b t = true) (fun t => by rw [hb]) (fun _ => by rw [hE, hbr]) k1 k2)
  | true =>
    obtain ⟨hi, hd⟩ := hB hbr
    refine Good.now T.nl T.len (GoodK.iteW (fun t => b t = true) (fun t => by rw [hb]) (by rw [hE]; exact Bool.false_ne_true) hbr k1 k2 (fun h => by rw [hi] at h; cases h) (fun _ hbs => ?_))
    show DoomR s (bnd m' _ (endE s))
    cases hme : m' (endE s) with
    | bad a e => rw [bnd_bad hme]; trivial
    | ok x q =>
      rw [hme] at hd
      rw [bnd_ok hme]
      exact (ih (l ++ [x])).doom hbs q hd
theorem redirs_good (T : Txt s) {g B : Nat} {Q : Prop} : Good s true false g 0 B (fun l => B + wl wRdr l) (fun l => ∀ x ∈ l, RdV x) Q (redirsR s) (redirsR (grS s)) :=
  many_good T true redirB (fun _ => rfl) redirE (fun h => by rw [redirBr] at h; cases h) (fun g B Q => (redirR_good T (g := g) (B := B)).le (fun _ => rfl) (fun _ => rfl) (Nat.le_refl g) (by omega) (fun _ x _ => by omega) (fun x h => h) (fun h => h))
theorem words_good (T : Txt s) {g B : Nat} {Q : Prop} : Good s false false g 0 B (fun l => B + wl wWord l) (fun l => ∀ x ∈ l, True) Q (wordsR s) (wordsR (grS s)) :=
  many_good T false (fun t => decide (t.kind = 1)) (fun _ => rfl) rfl (fun _ => ⟨rfl, word_end⟩) (fun g B Q => (word_good T (g := g) (B := B)).le (fun _ => rfl) (fun _ => rfl) (Nat.le_refl g) (Nat.le_refl _) (fun _ x _ => by omega) (fun x h => h) (fun h => h))
/-- readers of trees -/
def GN (s : List UInt8) (m m' : PS → ReR Nd) : Prop := ∀ g B Q, Good s true false g 1 B (fun n => B + wn n) VN Q m m'
def GB (s : List UInt8) (m m' : PS → ReR Nd) : Prop := ∀ g B Q, Good s true false g 1 B (fun n => B + wb n) NdK Q m m'
theorem wn_ndK {k : Nat} (hk : k ≤ 14) (l : List Nd) : (codeP (ndK k l)).length ≤ 25 + (codesP l).length := by
  have := code_mk k false false [] [] [] l hk
  simp only [List.length_nil, wl] at this
  exact Nat.le_trans this (by omega)
theorem codes_two (n m : Nd) : (codesP [n, m]).length = (codeP n).length + (codeP m).length := by
  rw [codesP, codesP, codesP]; simp
theorem codes_one (n : Nd) : (codesP [n]).length = (codeP n).length := by rw [codesP_one]
theorem vn_ndK {k : Nat} (hk : k ≤ 14) {l : List Nd} (h : ∀ x ∈ l, NdK x) : NdK (ndK k l) := ndK_mk hk (fun r hr => by cases hr) h
theorem item_good (T : Txt s) {A A' : PS → ReR Nd} (hA : GN s A A') {g B : Nat} {Q : Prop} : Good s true false g 1 B (fun x => B + wn x.1) (fun x => VN x.1) Q (itemP s A) (itemP (grS s) A') := by
  show Good s true false g 1 B _ _ Q (bnd A (fun n => bnd (nowP s) (fun t r => if opB [38] t = true then .ok (ndK 6 [n], true) (stepS r) else if opB [59] t = true then .ok (n, true) (stepS r) else .ok (n, false) r))) (bnd A' (fun n => bnd (nowP (grS s)) (fun t r => if opB [38] t = true then .ok (ndK 6 [n], true) (stepS r) else if opB [59] t = true then .ok (n, true) (stepS r) else .ok (n, false) r)))
  refine Good.bnd (hA g B Q) (g2 := g) (c2 := 0) (fun n => ?_) (by omega) (by omega)
  refine Good.now T.nl T.len (GoodK.ite (fun t => opB [38] t = true) (fun t => Iff.rfl) (fun _ => op_iff _) ?_ (GoodK.ite (fun t => opB [59] t = true) (fun t => Iff.rfl) (fun _ => op_iff _) ?_ ?_))
  · refine (GoodK.okS (fun _ => (ndK 6 [n], true)) (fun _ => rfl) (fun h => no_op h.2) (fun hq t _ => ?_) (fun h => by cases h)).lc (by omega)
    have h1 := tw_pos t
    have h2 := wn_ndK (k := 6) (by decide) [n]
    rw [codes_one] at h2
    refine ⟨?_, vn_ndK (by decide) (fun x hx => by rw [List.mem_singleton.1 hx]; exact hq.2.1), (show (6 : Nat) ≠ 5 by decide)⟩
    show B + ((codeP (ndK 6 [n])).length + 80) ≤ B + ((codeP n).length + 80) + _
    omega
  · exact (GoodK.okS (fun _ => (n, true)) (fun _ => rfl) (fun h => no_op h.2) (fun hq t _ => ⟨by show B + wn n ≤ B + wn n + _; omega, hq.2⟩) (fun h => by cases h)).lc (by omega)
  · exact GoodK.ok (fun _ => (n, false)) (fun _ => rfl) (fun _ => rfl) (fun hq t _ => ⟨Nat.le_refl _, hq.2⟩) (fun h => by cases h)
theorem andor_good (T : Txt s) {P P' : PS → ReR Nd} (hP : GN s P P') : GN s (andorP s P) (andorP (grS s) P') := by
  intro g B Q
  show Good s true false g 1 B _ _ Q (bnd P (fun n => fun q => andorN s P (muP s q + 1) n q)) (bnd P' (fun n => fun q => andorN (grS s) P' (muP (grS s) q + 1) n q))
  refine Good.bnd (hP g B Q) (g2 := g) (c2 := 0) (fun n => ?_) (by omega) (by omega)
  refine Good.fuel (L := fun f => andorN s P f n) (L' := fun f => andorN (grS s) P' f n) fun f f' hf => ?_
  have key := Good.loop (s := s) (ι := Nd) (o := false) (c := 0) (w := fun n => B + wn n) (V := VN) (fun f n => andorN s P f n) (fun f n => andorN (grS s) P' f n) (fun _ => true) (fun n => B + wn n) (fun n => VN n) (fun a p' hd => hd) (fun a p' x e h => by cases h) (fun a p x e h => by cases h) (fun f f' ih n => ?_) f' f hf n
  · exact key.le (fun h => h) (fun h => h) (Nat.le_refl _) (Nat.le_refl _) (fun _ x _ => by omega) (fun x h => h) (fun h => h.2)
  show Good s true false (f + 1) 0 (B + wn n) _ _ _ (bnd (nowP s) (fun t q => if (opB [38, 38] t || opB [124, 124] t) = true then bnd (linesP s) (fun _ r => bnd P (fun m r => andorN s P f (ndK (if t.text = [124, 124] then 4 else 3) [n, m]) r) r) (stepS q) else .ok n q)) (bnd (nowP (grS s)) (fun t q => if (opB [38, 38] t || opB [124, 124] t) = true then bnd (linesP (grS s)) (fun _ r => bnd P' (fun m r => andorN (grS s) P' f' (ndK (if t.text = [124, 124] then 4 else 3) [n, m]) r) r) (stepS q) else .ok n q))
  have hEB : ¬ (opB [38, 38] (endT' s) || opB [124, 124] (endT' s)) = true := by rw [opE, opE]; decide
  refine Good.now T.nl T.len (GoodK.ite (fun t => (opB [38, 38] t || opB [124, 124] t) = true) (fun t => Iff.rfl) (fun _ => by rw [opE, opE, opBr, opBr]) ?_ ?_)
  · refine GoodK.step (j := true) (c := 1) (fun t => bnd (linesP s) (fun _ => bnd P (fun m => andorN s P f (ndK (if t.text = [124, 124] then 4 else 3) [n, m])))) (fun t => bnd (linesP (grS s)) (fun _ => bnd P' (fun m => andorN (grS s) P' f' (ndK (if t.text = [124, 124] then 4 else 3) [n, m])))) (fun t ht => ?_) (fun _ => rfl) (by omega) (fun hp => absurd hp.2 hEB) (fun h => by cases h)
    refine Good.bnd (lines_good T) (g2 := f) (c2 := 1) (fun _ => ?_) (by omega) (by omega)
    refine Good.bnd (hP f _ _) (g2 := f) (c2 := 0) (fun m => ?_) (by omega) (by omega)
    have hk : (if t.text = [124, 124] then 4 else 3) ≤ 14 := by split <;> omega
    have h2 := wn_ndK hk [n, m]
    rw [codes_two] at h2
    refine (ih _).le (fun h => rfl) (fun h => h) (Nat.le_refl _) (Nat.le_refl _) (fun _ x _ => ?_) (fun x h => h) (fun h => ⟨vn_ndK hk (fun x hx => ?_), ?_⟩)
    · show B + wn x + (B + ((codeP (ndK _ [n, m])).length + 80)) ≤ B + wn x + (B + ((codeP n).length + 80) + 200 * tw t + ((codeP m).length + 80))
      omega
    · rcases List.mem_cons.1 hx with h9 | h9
      · rw [h9]; exact h.1.1.1
      · rw [List.mem_singleton.1 h9]; exact h.2.1
    · show (if t.text = [124, 124] then 4 else 3) ≠ 5
      split <;> decide
  · exact GoodK.ok (fun _ => n) (fun _ => rfl) (fun _ => rfl) (fun hq t _ => ⟨Nat.le_refl _, hq⟩) (fun h => by cases h)
end
end Go.Tri

/-
  The parser's readers within braces: pipelines, bodies, conditions, loops.
-/
namespace Go.Tri
open Go.RowKit
section
variable {s : List UInt8}
theorem mem_snoc {α : Type} {V : α → Prop} {l : List α} {x : α} (h : ∀ y ∈ l, V y) (hx : V x) : ∀ y ∈ l ++ [x], V y := fun y hy => by
  rcases List.mem_append.1 hy with h9 | h9
  · exact h y h9
  · rw [List.mem_singleton.1 h9]; exact hx
theorem codes_wn (l : List Nd) : (codesP l).length + 80 * l.length = wl wn l := codes_wl 80 l
theorem codes_wb (l : List Nd) : (codesP l).length + 40 * l.length = wl wb l := codes_wl 40 l
/-- pipelines -/
theorem pipeN_good (T : Txt s) {C C' : PS → ReR Nd} (hC : GN s C C') (n : Nd) {g B : Nat} {Q : Prop} (hn : Q → VN n) : Good s true false g 0 (B + wn n) (fun l => B + wl wn l) (fun l => l ≠ [] ∧ ∀ x ∈ l, VN x) Q (fun q => pipeN s C (muP s q + 1) [n] q) (fun q => pipeN (grS s) C' (muP (grS s) q + 1) [n] q) := by
  refine Good.fuel (L := fun f => pipeN s C f [n]) (L' := fun f => pipeN (grS s) C' f [n]) fun f f' hf => ?_
  have key := Good.loop (s := s) (ι := List Nd) (o := false) (c := 0) (w := fun l => B + wl wn l) (V := fun l => l ≠ [] ∧ ∀ x ∈ l, VN x) (fun f l => pipeN s C f l) (fun f l => pipeN (grS s) C' f l) (fun _ => true) (fun l => B + wl wn l) (fun l => l ≠ [] ∧ ∀ x ∈ l, VN x) (fun a p' hd => hd) (fun a p' x e h => by cases h) (fun a p x e h => by cases h) (fun f f' ih l => ?_) f' f hf [n]
  · exact key.le (fun h => h) (fun h => h) (Nat.le_refl _) (Nat.le_refl _) (fun _ x _ => by show B + wl wn x + (B + (wn n + 0)) ≤ _; omega) (fun x h => h) (fun h => ⟨by simp, fun x hx => by rw [List.mem_singleton.1 hx]; exact hn h⟩)
  show Good s true false (f + 1) 0 (B + wl wn l) _ _ _ (bnd (nowP s) (fun t q => if opB [124] t = true then bnd (linesP s) (fun _ r => bnd C (fun m r => pipeN s C f (l ++ [m]) r) r) (stepS q) else .ok l q)) (bnd (nowP (grS s)) (fun t q => if opB [124] t = true then bnd (linesP (grS s)) (fun _ r => bnd C' (fun m r => pipeN (grS s) C' f' (l ++ [m]) r) r) (stepS q) else .ok l q))
  refine Good.now T.nl T.len (GoodK.ite (fun t => opB [124] t = true) (fun t => Iff.rfl) (fun _ => op_iff _) ?_ ?_)
  · refine GoodK.step (j := true) (c := 1) (fun _ => bnd (linesP s) (fun _ => bnd C (fun m => pipeN s C f (l ++ [m])))) (fun _ => bnd (linesP (grS s)) (fun _ => bnd C' (fun m => pipeN (grS s) C' f' (l ++ [m])))) (fun t ht => ?_) (fun _ => rfl) (by omega) (fun hp => absurd hp.2 no_op) (fun h => by cases h)
    refine Good.bnd (lines_good T) (g2 := f) (c2 := 1) (fun _ => ?_) (by omega) (by omega)
    refine Good.bnd (hC f _ _) (g2 := f) (c2 := 0) (fun m => ?_) (by omega) (by omega)
    refine (ih _).le (fun h => rfl) (fun h => h) (Nat.le_refl _) (Nat.le_refl _) (fun _ x _ => ?_) (fun x h => h) (fun h => ⟨by simp, mem_snoc h.1.1.2 h.2⟩)
    show B + wl wn x + (B + wl wn (l ++ [m])) ≤ B + wl wn x + (B + wl wn l + 200 * tw t + wn m)
    rw [wl_snoc]; omega
  · exact GoodK.ok (fun _ => l) (fun _ => rfl) (fun _ => rfl) (fun hq t _ => ⟨Nat.le_refl _, hq⟩) (fun h => by cases h)
theorem pipeR_w (b : Bool) (l : List Nd) (h : l ≠ []) (hl : ∀ x ∈ l, VN x) : wn (pipeR b l) ≤ wl wn l + (if b then 200 else 0) ∧ VN (pipeR b l) := by
  have hk : ∀ b, wn (.mk 2 b false [] [] [] l) ≤ (codesP l).length + 105 := fun b => by
    have := code_mk 2 b false [] [] [] l (by decide)
    simp only [List.length_nil, wl] at this
    unfold wn
    omega
  have hv : ∀ b, VN (.mk 2 b false [] [] [] l) := fun b => ⟨ndK_mk (by decide) (fun r hr => by cases hr) (fun x hx => (hl x hx).1), (show (2 : Nat) ≠ 5 by decide)⟩
  have hw := codes_wn l
  cases l with
  | nil => exact absurd rfl h
  | cons x r =>
    cases r with
    | nil =>
      cases b with
      | true =>
        have h1 := hk true
        simp only [List.length_cons, List.length_nil] at hw
        exact ⟨by show wn (.mk 2 true false [] [] [] [x]) ≤ _ + 200; omega, hv true⟩
      | false => exact ⟨by show wn x ≤ wn x + 0 + 0; omega, hl x List.mem_cons_self⟩
    | cons y r =>
      have h1 := hk b
      simp only [List.length_cons] at hw
      exact ⟨by show wn (.mk 2 b false [] [] [] (x :: y :: r)) ≤ _; omega, hv b⟩
theorem pipe_good (T : Txt s) {C C' : PS → ReR Nd} (hC : GN s C C') : GN s (pipeP s C) (pipeP (grS s) C') := by
  intro g B Q
  have hM : ∀ (b : Bool) (g B : Nat) (Q : Prop), Good s true false g 1 (B + (if b then 200 else 0)) (fun n => B + wn n) VN Q (bnd C (fun n => bnd (fun r => pipeN s C (muP s r + 1) [n] r) (fun l r => .ok (pipeR b l) r))) (bnd C' (fun n => bnd (fun r => pipeN (grS s) C' (muP (grS s) r + 1) [n] r) (fun l r => .ok (pipeR b l) r))) := by
    intro b g B Q
    refine Good.bnd (hC g _ Q) (g2 := g) (c2 := 0) (fun n => ?_) (by omega) (by omega)
    refine Good.bnd (pipeN_good T hC n (B := B + (if b then 200 else 0)) (fun h => h.2)) (g2 := g) (c2 := 0) (fun l => ?_) (by omega) (by omega)
    refine Good.ret _ (fun h => ?_)
    obtain ⟨h1, h2⟩ := pipeR_w b l h.2.1 h.2.2
    exact ⟨by omega, h2⟩
  have e : ∀ (u : List UInt8) (D : PS → ReR Nd), pipeP u D = bnd (nowP u) (fun t q => if keyB [33] t = true then bnd D (fun n => bnd (fun r => pipeN u D (muP u r + 1) [n] r) (fun l r => .ok (pipeR true l) r)) (stepS q) else bnd D (fun n => bnd (fun r => pipeN u D (muP u r + 1) [n] r) (fun l r => .ok (pipeR false l) r)) q) := by
    intro u D
    funext p
    unfold pipeP
    rw [bnd_v, bnd_v]
    cases nowP u p with
    | bad a e => rfl
    | ok t q =>
      show bnd D _ _ = ite _ _ _
      by_cases h : keyB [33] t = true
      · rw [if_pos h, if_pos h, h]; rfl
      · rw [if_neg h, if_neg h, Bool.eq_false_iff.2 h]; rfl
  rw [e, e]
  refine Good.now T.nl T.len (GoodK.ite (fun t => keyB [33] t = true) (fun t => Iff.rfl) (fun _ => key_iff (by decide)) ?_ ?_)
  · refine GoodK.step (j := true) (c := 1) (fun _ => _) (fun _ => _) (fun t ht => (hM true (g - 1) B Q).le (fun h => h) (fun h => h) (Nat.le_refl _) (Nat.le_refl _) (fun _ x _ => ?_) (fun x h => h) (fun h => h)) (fun _ => rfl) (by omega) (fun hp => absurd hp.2 no_key) (fun h => by cases h)
    have := tw_pos t
    show _ + (B + 200) ≤ _
    omega
  · exact GoodK.stay ((hM false g B Q).le (fun h => h) (fun h => h) (Nat.le_refl _) (Nat.le_refl _) (fun _ x _ => by show _ + (B + 0) ≤ _; omega) (fun x h => h) (fun h => h)) (fun h => by cases h)
/-- bodies -/
theorem several_w (l : List Nd) (h : l ≠ []) (hl : ∀ x ∈ l, VN x) : wb (severalP l) ≤ wl wn l ∧ NdK (severalP l) := by
  have h1 := wn_ndK (k := 5) (by decide) l
  have hw := codes_wn l
  have hv : NdK (ndK 5 l) := vn_ndK (by decide) (fun x hx => (hl x hx).1)
  have hp : 1 ≤ l.length := List.length_pos_iff.2 h
  have hb : wb (ndK 5 l) ≤ wl wn l := by
    unfold wb
    omega
  unfold severalP
  split
  · rename_i x
    split
    · exact ⟨hb, hv⟩
    · exact ⟨by show (codeP x).length + 40 ≤ (codeP x).length + 80 + 0; omega, (hl x List.mem_cons_self).1⟩
  · exact ⟨hb, hv⟩
end
end Go.Tri

/-
  The parser's readers within braces: bodies, conditions, loops, choices.
-/
namespace Go.Tri
open Go.RowKit
section
variable {s : List UInt8}
theorem Good.iteB {α : Type} {i o : Bool} {g c B : Nat} {w : α → Nat} {V : α → Prop} {Q : Prop} (b : Bool) {m1 m1' m2 m2' : PS → ReR α} (h1 : b = true → Good s i o g c B w V Q m1 m1') (h2 : b = false → Good s i o g c B w V Q m2 m2') : Good s i o g c B w V Q (fun q => if b = true then m1 q else m2 q) (fun q => if b = true then m1' q else m2' q) := by
  cases b with
  | true => exact h1 rfl
  | false => exact h2 rfl
theorem ask3_good (T : Txt s) {g B : Nat} {Q : Prop} : Good s true false g 0 B (fun _ => B) (fun _ => True) Q (askP s (fun t => decide (t.kind = 3))) (askP (grS s) (fun t => decide (t.kind = 3))) := by
  show Good s true false g 0 B _ _ Q (bnd (nowP s) (fun t q => .ok (decide (t.kind = 3)) q)) (bnd (nowP (grS s)) (fun t q => .ok (decide (t.kind = 3)) q))
  exact Good.now T.nl T.len (GoodK.ok (fun t => decide (t.kind = 3)) (fun _ => rfl) (fun _ => rfl) (fun _ t _ => ⟨Nat.le_refl _, trivial⟩) (fun h => by cases h))
theorem bodyN_good (T : Txt s) {A A' : PS → ReR Nd} (hA : GN s A A') {B : Nat} {Q : Prop} : ∀ f' f, f ≤ f' → ∀ l : List Nd, Good s true false f 1 (B + wl wn l) (fun n => B + wb n) NdK (Q ∧ ∀ x ∈ l, VN x) (bodyN s A f l) (bodyN (grS s) A' f' l) := by
  refine Good.loop (s := s) (ι := List Nd) (o := false) (c := 1) (w := fun n => B + wb n) (V := NdK) (fun f l => bodyN s A f l) (fun f l => bodyN (grS s) A' f l) (fun _ => true) (fun l => B + wl wn l) (fun l => Q ∧ ∀ x ∈ l, VN x) (fun a p' hd => hd) (fun a p' x e h => by cases h) (fun a p x e h => by cases h) (fun f f' ih l => ?_)
  show Good s true false (f + 1) 1 (B + wl wn l) _ _ _ (bnd (itemP s A) (fun x => bnd (if x.2 = true then (fun q => .ok true q) else askP s (fun t => decide (t.kind = 3))) (fun ended => bnd (linesP s) (fun _ => (fun q => if ended = true then (bnd (nowP s) (fun t q => if beginB t = true then bodyN s A f (l ++ [x.1]) q else .ok (severalP (l ++ [x.1])) q)) q else (fun q => .ok (severalP (l ++ [x.1])) q) q)))))
    (bnd (itemP (grS s) A') (fun x => bnd (if x.2 = true then (fun q => .ok true q) else askP (grS s) (fun t => decide (t.kind = 3))) (fun ended => bnd (linesP (grS s)) (fun _ => (fun q => if ended = true then (bnd (nowP (grS s)) (fun t q => if beginB t = true then bodyN (grS s) A' f' (l ++ [x.1]) q else .ok (severalP (l ++ [x.1])) q)) q else (fun q => .ok (severalP (l ++ [x.1])) q) q)))))
  refine Good.bnd (item_good T hA) (g2 := f) (c2 := 0) (fun x => ?_) (by omega) (by omega)
  have hq : ((Q ∧ ∀ x ∈ l, VN x) ∧ VN x.1) → ∀ y ∈ l ++ [x.1], VN y := fun h => mem_snoc h.1.2 h.2
  refine Good.bnd (c1 := 0) (B := B + wl wn l + wn x.1) (w1 := fun _ => B + wl wn l + wn x.1) (V1 := fun _ => True) (a := false) ?_ (g2 := f) (c2 := 0) (fun ended => ?_) (by omega) (by omega)
  · split
    · exact Good.ret true (fun _ => ⟨Nat.le_refl _, trivial⟩)
    · exact ask3_good T
  refine Good.bnd (lines_good T) (g2 := f) (c2 := 0) (fun _ => ?_) (by omega) (by omega)
  have hend : ∀ {Q' : Prop}, (Q' → ∀ y ∈ l ++ [x.1], VN y) → Q' → B + wb (severalP (l ++ [x.1])) ≤ B + wl wn l + wn x.1 ∧ NdK (severalP (l ++ [x.1])) := fun h1 h2 => by
    obtain ⟨e1, e2⟩ := several_w (l ++ [x.1]) (by simp) (h1 h2)
    rw [wl_snoc] at e1
    exact ⟨by omega, e2⟩
  refine Good.iteB ended (fun _ => ?_) (fun _ => ?_)
  · refine Good.now T.nl T.len (GoodK.ite (fun t => beginB t = true) (fun t => Iff.rfl) (fun _ => by rw [beginE, beginBr]) ?_ ?_)
    · refine GoodK.stay ((ih (l ++ [x.1])).le (fun h => h) (fun h => h) (Nat.le_refl _) (by omega) (fun _ y _ => ?_) (fun y h => h) (fun h => ⟨h.1.1.1.1, hq h.1.1⟩)) (fun h => by cases h)
      show B + wb y + (B + wl wn (l ++ [x.1])) ≤ _
      rw [wl_snoc]; omega
    · exact GoodK.ok (fun _ => severalP (l ++ [x.1])) (fun _ => rfl) (fun _ => rfl) (fun h t _ => hend (fun h => hq h.1.1) h) (fun h => by cases h)
  · exact Good.ret _ (fun h => hend (fun h => hq h.1.1) h)
theorem body_good (T : Txt s) {A A' : PS → ReR Nd} (hA : GN s A A') : GB s (bodyP s A) (bodyP (grS s) A') := by
  intro g B Q
  show Good s true false g 1 B _ _ Q (bnd (linesP s) (fun _ q => bodyN s A (muP s q + 1) [] q)) (bnd (linesP (grS s)) (fun _ q => bodyN (grS s) A' (muP (grS s) q + 1) [] q))
  refine Good.bnd (lines_good T) (g2 := g) (c2 := 1) (fun _ => ?_) (by omega) (by omega)
  refine Good.fuel (L := fun f => bodyN s A f []) (L' := fun f => bodyN (grS s) A' f []) fun f f' hf => ?_
  exact (bodyN_good T hA (B := B) (Q := Q) f' f hf []).le (fun h => h) (fun h => h) (Nat.le_refl _) (Nat.le_refl _) (fun _ x _ => by show B + wb x + (B + 0) ≤ _; omega) (fun x h => h) (fun h => ⟨h.1, fun x hx => by cases hx⟩)
/-- conditions -/
theorem ifN_good (T : Txt s) {C C' : PS → ReR Nd} (hC : GB s C C') {B : Nat} {Q : Prop} : ∀ f' f, f ≤ f' → ∀ l : List Nd, Good s false false f 2 (B + wl wb l) (fun l => B + wl wb l) (fun l => ∀ x ∈ l, NdK x) (Q ∧ ∀ x ∈ l, NdK x) (ifN s C f l) (ifN (grS s) C' f' l) := by
  refine Good.loop (s := s) (ι := List Nd) (o := false) (c := 2) (w := fun l => B + wl wb l) (V := fun l => ∀ x ∈ l, NdK x) (fun f l => ifN s C f l) (fun f l => ifN (grS s) C' f l) (fun _ => false) (fun l => B + wl wb l) (fun l => Q ∧ ∀ x ∈ l, NdK x) (fun a p' hd => hd) (fun a p' x e h => by cases h) (fun a p x e h => by cases h) (fun f f' ih l => ?_)
  show Good s false false (f + 1) 2 (B + wl wb l) _ _ _ (bnd (stepP s) (fun _ => bnd C (fun a => bnd (needP s (keyB [116, 104, 101, 110])) (fun _ => bnd C (fun b => bnd (nowP s) (fun t q => if keyB [101, 108, 105, 102] t = true then ifN s C f (l ++ [a, b]) q else .ok (l ++ [a, b]) q))))))
    (bnd (stepP (grS s)) (fun _ => bnd C' (fun a => bnd (needP (grS s) (keyB [116, 104, 101, 110])) (fun _ => bnd C' (fun b => bnd (nowP (grS s)) (fun t q => if keyB [101, 108, 105, 102] t = true then ifN (grS s) C' f' (l ++ [a, b]) q else .ok (l ++ [a, b]) q))))))
  rw [bnd_stepP, bnd_stepP]
  refine Good.now T.nl T.len ?_
  refine GoodK.stepU (fun _ => _) (fun _ => _) (fun t => ?_) (fun _ => rfl)
  refine Good.bnd (hC (f + 1) _ _) (g2 := f) (c2 := 1) (fun a => ?_) (by omega) (by omega)
  refine Good.bnd (need_good T _ (fun _ => rfl) (keyE _)) (g2 := f) (c2 := 0) (fun _ => ?_) (by omega) (by omega)
  refine Good.bnd (hC f _ _) (g2 := f) (c2 := 0) (fun b => ?_) (by omega) (by omega)
  have e2 : wl wb (l ++ [a, b]) = wl wb l + wb a + wb b := by rw [show l ++ [a, b] = (l ++ [a]) ++ [b] by simp, wl_snoc, wl_snoc]
  have hv : ((((Q ∧ ∀ x ∈ l, NdK x) ∧ NdK a) ∧ True) ∧ NdK b) → ∀ x ∈ l ++ [a, b], NdK x := fun h => by
    rw [show l ++ [a, b] = (l ++ [a]) ++ [b] by simp]
    exact mem_snoc (mem_snoc h.1.1.1.2 h.1.1.2) h.2
  refine Good.now T.nl T.len (GoodK.ite (fun t => keyB [101, 108, 105, 102] t = true) (fun t => Iff.rfl) (fun _ => key_iff (by decide)) ?_ ?_)
  · refine GoodK.stay ((ih (l ++ [a, b])).le (fun h => h) (fun h => h) (Nat.le_refl _) (by omega) (fun _ x _ => by rw [e2]; omega) (fun x h => h) (fun h => ⟨h.1.1.1.1, hv h⟩)) (fun _ _ hp => absurd hp.2 no_key)
  · exact GoodK.ok (fun _ => l ++ [a, b]) (fun _ => rfl) (fun _ => rfl) (fun hq t _ => ⟨by rw [e2]; omega, hv hq⟩) (fun h => by cases h)
/-- a compound command's core -/
def GC (s : List UInt8) (i : Bool) (c : Nat) (m m' : PS → ReR Nd) : Prop := ∀ g B Q, Good s i false g c B (fun n => B + wn n) VN Q m m'
theorem kk {k : Nat} {nt isin : Bool} {nm : List UInt8} {ws : List (List UInt8)} {l : List Nd} (hk : k ≤ 14) (h5 : k ≠ 5) (h : ∀ x ∈ l, NdK x) : VN (.mk k nt isin nm ws [] l) := ⟨ndK_mk hk (fun r hr => by cases hr) h, h5⟩
theorem codes_le (l : List Nd) : (codesP l).length ≤ wl wb l := by have := codes_wb l; omega
theorem if_good (T : Txt s) {C C' : PS → ReR Nd} (hC : GB s C C') : GC s false 2 (ifP s C) (ifP (grS s) C') := by
  intro g B Q
  show Good s false false g 2 B _ _ Q (bnd (fun p => ifN s C (muP s p + 1) [] p) (ifK s C)) (bnd (fun p => ifN (grS s) C' (muP (grS s) p + 1) [] p) (ifK (grS s) C'))
  have h1 : Good s false false g 2 B (fun l => B + wl wb l) (fun l => ∀ x ∈ l, NdK x) Q (fun p => ifN s C (muP s p + 1) [] p) (fun p => ifN (grS s) C' (muP (grS s) p + 1) [] p) := by
    refine Good.fuel (L := fun f => ifN s C f []) (L' := fun f => ifN (grS s) C' f []) fun f f' hf => ?_
    exact (ifN_good T hC (B := B) (Q := Q) f' f hf []).le (fun h => h) (fun h => h) (Nat.le_refl _) (Nat.le_refl _) (fun _ x _ => by show B + wl wb x + (B + 0) ≤ _; omega) (fun x h => h) (fun h => ⟨h, fun x hx => by cases hx⟩)
  refine Good.bnd h1 (g2 := g) (c2 := 0) (fun l => ?_) (by omega) (by omega)
  show Good s true false g 0 (B + wl wb l) _ _ _ (bnd (nowP s) (fun t q => if keyB [101, 108, 115, 101] t = true then bnd C (fun x => bnd (needP s (keyB [102, 105])) (fun _ q => .ok (ndK 9 (l ++ [x])) q)) (stepS q) else bnd (needP s (keyB [102, 105])) (fun _ q => .ok (ndK 9 l) q) q))
    (bnd (nowP (grS s)) (fun t q => if keyB [101, 108, 115, 101] t = true then bnd C' (fun x => bnd (needP (grS s) (keyB [102, 105])) (fun _ q => .ok (ndK 9 (l ++ [x])) q)) (stepS q) else bnd (needP (grS s) (keyB [102, 105])) (fun _ q => .ok (ndK 9 l) q) q))
  have hw : ∀ l : List Nd, wn (ndK 9 l) ≤ wl wb l + 105 := fun l => by
    have h1 := wn_ndK (k := 9) (by decide) l
    have h2 := codes_le l
    unfold wn
    omega
  refine Good.now T.nl T.len (GoodK.ite (fun t => keyB [101, 108, 115, 101] t = true) (fun t => Iff.rfl) (fun _ => key_iff (by decide)) ?_ ?_)
  · refine GoodK.step (j := true) (c := 0) (fun _ => _) (fun _ => _) (fun t ht => ?_) (fun _ => rfl) (by omega) (fun hp => absurd hp.2 no_key) (fun h => by cases h)
    refine Good.bnd (hC _ _ _) (g2 := g) (c2 := 0) (fun x => ?_) (by omega) (by omega)
    refine Good.bnd (need_good T _ (fun _ => rfl) (keyE _)) (g2 := g) (c2 := 0) (fun _ => ?_) (by omega) (by omega)
    refine Good.ret _ (fun h => ⟨?_, kk (by decide) (by decide) (mem_snoc h.1.1.2 h.1.2)⟩)
    have := hw (l ++ [x])
    rw [wl_snoc] at this
    omega
  · refine GoodK.stay (j := true) ?_ (fun h => by cases h)
    refine Good.bnd (need_good T _ (fun _ => rfl) (keyE _)) (g2 := g) (c2 := 0) (fun _ => ?_) (by omega) (by omega)
    refine Good.ret _ (fun h => ⟨?_, kk (by decide) (by decide) h.1.2⟩)
    have := hw l
    omega
/-- loops over words -/
theorem forK_good (T : Txt s) {C C' : PS → ReR Nd} (hC : GB s C C') (name : List UInt8) (x : Bool × List (List UInt8)) {g B : Nat} {Q : Prop} : Good s true false g 1 (B + 2 * name.length + wl wWord x.2) (fun n => B + wn n) VN Q (forK s C name x) (forK (grS s) C' name x) := by
  show Good s true false g 1 _ _ _ Q (bnd (needP s (keyB [100, 111])) (fun _ => bnd C (fun b => bnd (needP s (keyB [100, 111, 110, 101])) (fun _ q => ReR.ok (Nd.mk 12 false x.1 name x.2 [] [b]) q))))
    (bnd (needP (grS s) (keyB [100, 111])) (fun _ => bnd C' (fun b => bnd (needP (grS s) (keyB [100, 111, 110, 101])) (fun _ q => ReR.ok (Nd.mk 12 false x.1 name x.2 [] [b]) q))))
  refine Good.bnd (need_good T _ (fun _ => rfl) (keyE _)) (g2 := g) (c2 := 0) (fun _ => ?_) (by omega) (by omega)
  refine Good.bnd (hC _ _ _) (g2 := g) (c2 := 0) (fun b => ?_) (by omega) (by omega)
  refine Good.bnd (need_good T _ (fun _ => rfl) (keyE _)) (g2 := g) (c2 := 0) (fun _ => ?_) (by omega) (by omega)
  refine Good.ret _ (fun h => ⟨?_, kk (by decide) (by decide) (fun y hy => by rw [List.mem_singleton.1 hy]; exact h.1.2)⟩)
  have := code_mk 12 false x.1 name x.2 [] [b] (by decide)
  rw [codes_one] at this
  simp only [wl] at this
  unfold wn wb
  omega
theorem forIn_good (T : Txt s) {C C' : PS → ReR Nd} (hC : GB s C C') (name : List UInt8) {g B : Nat} {Q : Prop} : Good s false false g 1 (B + 2 * name.length) (fun n => B + wn n) VN Q (forIn s C name) (forIn (grS s) C' name) := by
  show Good s false false g 1 _ _ _ Q (bnd (wordsR s) (fun l => bnd (nowP s) (fun v q => if v.kind = 3 then bnd (linesP s) (fun _ => forK s C name (true, l)) q else bnd (needP s (opB [59])) (fun _ => bnd (linesP s) (fun _ => forK s C name (true, l))) q)))
    (bnd (wordsR (grS s)) (fun l => bnd (nowP (grS s)) (fun v q => if v.kind = 3 then bnd (linesP (grS s)) (fun _ => forK (grS s) C' name (true, l)) q else bnd (needP (grS s) (opB [59])) (fun _ => bnd (linesP (grS s)) (fun _ => forK (grS s) C' name (true, l))) q)))
  refine Good.bnd (words_good T) (g2 := g) (c2 := 1) (fun l => ?_) (by omega) (by omega)
  have hK : ∀ (B0 : Nat) (Q : Prop), B + 2 * name.length + wl wWord l ≤ B0 → Good s true false g 1 B0 (fun n => B + wn n) VN Q (bnd (linesP s) (fun _ => forK s C name (true, l))) (bnd (linesP (grS s)) (fun _ => forK (grS s) C' name (true, l))) := fun B0 Q hB0 => by
    refine Good.bnd (lines_good T) (g2 := g) (c2 := 1) (fun _ => ?_) (by omega) (by omega)
    exact (forK_good T hC name (true, l) (g := g) (B := B)).le (fun h => h) (fun h => h) (Nat.le_refl _) (Nat.le_refl _) (fun _ x _ => by show B + wn x + (B + 2 * name.length + wl wWord l) ≤ _; omega) (fun x h => h) (fun h => h)
  refine Good.now T.nl T.len (GoodK.ite (fun t => t.kind = 3) (fun t => Iff.rfl) (fun _ => kind_iff3) ?_ ?_)
  · exact GoodK.stay (hK _ _ (by omega)) (fun h => by cases h)
  · refine GoodK.stay (j := true) ?_ (fun h => by cases h)
    refine Good.bnd (need_good T _ (fun _ => rfl) (opE _)) (g2 := g) (c2 := 1) (fun _ => ?_) (by omega) (by omega)
    exact hK _ _ (by omega)
theorem for_good (T : Txt s) {C C' : PS → ReR Nd} (hC : GB s C C') : GC s false 1 (forP s C) (forP (grS s) C') := by
  intro g B Q
  show Good s false false g 1 B _ _ Q (bnd (stepP s) (fun _ => bnd (nowP s) (fun t q => if t.kind = 1 ∧ nameB t.text = true then
      bnd (linesP s) (fun _ => bnd (nowP s) (fun u q => if keyB [105, 110] u = true then forIn s C t.text (stepS q) else if opB [59] u = true then bnd (linesP s) (fun _ => forK s C t.text (false, [])) (stepS q) else forK s C t.text (false, []) q)) (stepS q)
    else .bad t.pos 56)))
    (bnd (stepP (grS s)) (fun _ => bnd (nowP (grS s)) (fun t q => if t.kind = 1 ∧ nameB t.text = true then
      bnd (linesP (grS s)) (fun _ => bnd (nowP (grS s)) (fun u q => if keyB [105, 110] u = true then forIn (grS s) C' t.text (stepS q) else if opB [59] u = true then bnd (linesP (grS s)) (fun _ => forK (grS s) C' t.text (false, [])) (stepS q) else forK (grS s) C' t.text (false, []) q)) (stepS q)
    else .bad t.pos 56)))
  rw [bnd_stepP, bnd_stepP]
  refine Good.now T.nl T.len ?_
  refine GoodK.stepU (fun _ => _) (fun _ => _) (fun t => ?_) (fun _ => rfl)
  have hbr : nameB (brT s).text = false := by rw [show (brT s).text = [125] from rfl]; decide +kernel
  refine Good.now T.nl T.len (GoodK.ite (fun t => t.kind = 1 ∧ nameB t.text = true) (fun t => Iff.rfl) (fun _ => ⟨fun h => absurd h.1 (no_kind (by decide)), fun h => by rw [hbr] at h; cases h.2⟩) ?_ (GoodK.bad _ _ _ _))
  refine GoodK.step (j := true) (c := 1) (fun t => bnd (linesP s) (fun _ => bnd (nowP s) (fun u q => if keyB [105, 110] u = true then forIn s C t.text (stepS q) else if opB [59] u = true then bnd (linesP s) (fun _ => forK s C t.text (false, [])) (stepS q) else forK s C t.text (false, []) q)))
    (fun t => bnd (linesP (grS s)) (fun _ => bnd (nowP (grS s)) (fun u q => if keyB [105, 110] u = true then forIn (grS s) C' t.text (stepS q) else if opB [59] u = true then bnd (linesP (grS s)) (fun _ => forK (grS s) C' t.text (false, [])) (stepS q) else forK (grS s) C' t.text (false, []) q)))
    (fun t ht => ?_) (fun _ => rfl) (by omega) (fun hp => absurd hp.2.1 (no_kind (by decide))) (fun h => by cases h)
  refine Good.bnd (lines_good T) (g2 := g - 1) (c2 := 1) (fun _ => ?_) (by omega) (by omega)
  have htw := tw_text t
  have hFK : ∀ (g B0 : Nat) (Q : Prop), B + 2 * t.text.length ≤ B0 → Good s true false g 1 B0 (fun n => B + wn n) VN Q (forK s C t.text (false, [])) (forK (grS s) C' t.text (false, [])) := fun g B0 Q hB0 =>
    (forK_good T hC t.text (false, []) (g := g) (B := B)).le (fun h => h) (fun h => h) (Nat.le_refl _) (Nat.le_refl _) (fun _ x _ => by show B + wn x + (B + 2 * t.text.length + 0) ≤ _; omega) (fun x h => h) (fun h => h)
  refine Good.now T.nl T.len (GoodK.ite (fun t => keyB [105, 110] t = true) (fun t => Iff.rfl) (fun _ => key_iff (by decide)) ?_ (GoodK.ite (fun t => opB [59] t = true) (fun t => Iff.rfl) (fun _ => op_iff _) ?_ ?_))
  · refine GoodK.step (j := false) (c := 1) (fun _ => _) (fun _ => _) (fun u hu => (forIn_good T hC t.text (g := g - 1 - 1) (B := B)).le (fun h => h) (fun h => h) (Nat.le_refl _) (Nat.le_refl _) (fun _ x _ => by omega) (fun x h => h) (fun h => h)) (fun _ => rfl) (by omega) (fun hp => absurd hp.2 no_key) (fun _ u hu => ?_)
    have h9 := hu.2
    unfold keyB at h9
    rw [Bool.and_eq_true, decide_eq_true_eq] at h9
    omega
  · refine GoodK.step (j := true) (c := 1) (fun _ => _) (fun _ => _) (fun u hu => ?_) (fun _ => rfl) (by omega) (fun hp => absurd hp.2 no_op) (fun h => by cases h)
    refine Good.bnd (lines_good T) (g2 := g) (c2 := 1) (fun _ => ?_) (by omega) (by omega)
    exact hFK _ _ _ (by omega)
  · exact GoodK.stay (hFK _ _ _ (by omega)) (fun h => by cases h)
end
end Go.Tri
