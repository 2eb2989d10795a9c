/-
  A range over a function: the iterator's word, the caller's rule; a function that holds such a loop.
-/
import Derived.Test.YtigfpkcaakkgaaaDoorTriQs
import Derived.RangeFuncLeaves
import Derived.RangeFuncRecord
import Derived.Laws.StructEq
import Derived.Laws.IdiomStrings
import Derived.Lib.Bytealg
import Derived.Lib.UnsafeStr
import Derived.Lib.Builder
import Derived.Laws.Pointers
import Derived.LaidEqlPtr
import Derived.Laws.Slices
import Derived.Deep.Upon
import Derived.Lib.ConvBytes
import Derived.Lib.AppendStr
namespace Go.Tri
open Go.RowKit

class PickObj (b : Nat) (x : outParam Obj) (F : outParam (List HA)) (H : List HA) : Prop where
  pick : Pick H (obj b x) F
instance pickObj_head {b : Nat} {x : Obj} {F : List HA} : PickObj b x F (obj b x :: F) := ⟨pick_head⟩
instance (priority := low) pickObj_tail {b : Nat} {x : Obj} {y : HA} {F H : List HA} [h : PickObj b x F H] : PickObj b x (y :: F) (y :: H) := ⟨pick_tail h.pick⟩

class Tl (T : List HA) (F : outParam (List HA)) (M : outParam (List HA → List HA)) (H : List HA) : Prop where
  eq : H = F ++ T
  app : ∀ T', F ++ T' = M T'
instance tl_nil {T : List HA} : Tl T [] (fun T' => T') T := ⟨rfl, fun _ => rfl⟩
instance tl_app {T F : List HA} : Tl T F (fun T' => F ++ T') (F ++ T) := ⟨rfl, fun _ => rfl⟩
instance (priority := low) tl_cons {T F H : List HA} {M : List HA → List HA} {x : HA} [h : Tl T F M H] : Tl T (x :: F) (fun T' => x :: M T') (x :: H) := ⟨by rw [h.eq]; rfl, fun T' => by rw [List.cons_append, h.app]⟩

section iter
variable {C : Cx} {E : Env} {I : Look} {H : List HA} {D : List Deferred} {Q : Exit → Act → World → Prop} {o : Oper}

end iter

section ret
variable {C : Cx} {E : Env} {I : Look} {H : List HA} {R : Ending → World → Prop} {fn : Func}
class PickDs (bs : List Nat) (F : outParam (List HA)) (H : List HA) : Prop where
  sub : SubH H (bs.map (fun b => obj b (.deferred (some []))) ++ F)
instance pickDs_nil {H : List HA} : PickDs [] H H := ⟨subH_refl H⟩
instance pickDs_cons {b : Nat} {bs : List Nat} {F F' H : List HA} [p : PickI (obj b (.deferred (some []))) F' H] [h : PickDs bs F F'] : PickDs (b :: bs) F H := ⟨subH_cons p.pick h.sub⟩

end ret
end Go.Tri

/-
  More operations: texts, structs by value, conversions; calls that turn memory; short circuits ahead of effects.
-/
namespace Go.Tri
open Go.RowKit

section ops
variable {C : Cx} {E : Env} {I : Look} {H : List HA} {D : List Deferred} {Q : Exit → Act → World → Prop} {o : Oper}

/-! texts -/
section strings
variable {x y i j : Operand} {t t' : TypeId} {s s' : List UInt8} {k kl kh : IntKind} {m n : Int}
theorem q_index_strN {j : Nat} (ho : o.op = .index t x i) (ht : C.P.underlying t = some .string) (hx : ev E x = some (str s)) (hi : ev E i = some (.int k (j : Int))) (h : j < s.length) :
    Quiet C E I H o (u8 (nth s j 0)) := q_index_str ho ht hx hi ⟨by omega, by omega⟩
theorem q_indexAddrN {e : TypeId} {v z : Value} {j n sz bytes : Nat} (ho : o.op = .indexAddr t x i) (ht : C.P.underlying t = some (.slice e)) (hi : TI C.P e sz bytes z)
    (hx : ev E x = some v) (hix : ev E i = some (.int k (j : Int))) (hv : ∃ A c, v = .slice A n c ∧ (0 < n → ∀ a, A = some a → a.spot = none) ∧ (0 < n → A ≠ none)) (h0 : j < n) :
    Quiet C E I H o (.pointer (some ⟨(adr v).block, (adr v).off + j * sz, none⟩)) := q_indexAddr ho ht hi hx hix hv ⟨by omega, by omega⟩
theorem q_indexAddrVN {e te : TypeId} {v z : Value} {j n sz sz' bytes : Nat} {xs : List Value} (ho : o.op = .indexAddr t x i) (ht : C.P.underlying t = some (.slice e)) (hi : TI C.P e sz bytes z)
    (hx : ev E x = some v) (hix : ev E i = some (.int k (j : Int))) [hm : InVec v te sz' n xs H] (h0 : j < n) :
    Quiet C E I H o (.pointer (some ⟨(adr v).block, (adr v).off + j * sz, none⟩)) := q_indexAddrV ho ht hi hx hix ⟨by omega, by omega⟩
theorem q_cat (ho : o.op = .binOp .add t x y t') (hx : ev E x = some (str s)) (hy : ev E y = some (str s')) (h : s.length + s'.length ≤ 9223372036854775807) : Quiet C E I H o (str (s ++ s')) :=
  quiet_bin ho hx hy fun w => by
    have e : (⟨s.toArray⟩ : ByteArray) ++ ⟨s'.toArray⟩ = ⟨(s ++ s').toArray⟩ := by apply ByteArray.ext; simp
    simp only [eqGuard, str, binOp]
    rw [Sem.run_bind]
    simp [run_string_add_sum (P := C.P) (w := w) ⟨s.toArray⟩ ⟨s'.toArray⟩ (by simpa [size_str] using h), e]
theorem q_neq_str (ho : o.op = .binOp .neq t x y t') (hx : ev E x = some (str s)) (hy : ev E y = some (str s')) : Quiet C E I H o (.bool (decide (s ≠ s'))) :=
  quiet_bin ho hx hy fun w => by
    simp [eqGuard, str, binOp, Op.stringOp, ByteArray.toList_eq]; rw [Bool.eq_iff_iff]; simp
theorem q_neq_bool {a b : Bool} (ho : o.op = .binOp .neq t x y t') (ht : C.P.underlying t = some .bool) (hx : ev E x = some (.bool a)) (hy : ev E y = some (.bool b)) : Quiet C E I H o (.bool (a != b)) :=
  quiet_bin ho hx hy fun w => by
    simp [eqGuard, binOp, Op.equal, Op.maxDepth, run_equalIn_bool' (P := C.P) w 9999 t a b ht]
    cases a <;> cases b <;> rfl
theorem q_conv_int {d : TypeDesc} {k' : IntKind} {r : Int} (ho : o.op = .convert t t' x) (hs : C.P.underlying t = some d) (hd : C.P.underlying t' = some (.int k')) (hx : ev E x = some (.int k n)) (hr : k'.wrap n = r) : Quiet C E I H o (.int k' r) :=
  quiet_run (by rw [ho]; rfl) fun a w hsat _ => by
    subst hr
    simp [execOp, ho, hsat.ev hx, convert, run_underlying hs, run_underlying hd, Conv.intToInt]
def byC (c : UInt8) : List Value := [u8 c]
theorem byC_flat (l : List UInt8) : (l.map byC).flatten = l.map u8 := by
  induction l with
  | nil => rfl
  | cons c l ih => simp [byC, ih]
end strings

section bytes
variable {x y : Operand} {t t' : TypeId} {c d : UInt8} {n : Int}
theorem u8_eq (c d : UInt8) : ((c.toNat : Int) = (d.toNat : Int)) ↔ c = d := by
  constructor
  · intro h; exact UInt8.toNat_inj.1 (by omega)
  · intro h; rw [h]
theorem u8_eqc {n : Int} (c : UInt8) (h : (decide (0 ≤ n) && decide (n < 256)) = true) : ((c.toNat : Int) = n) ↔ c = UInt8.ofNat n.toNat := by
  simp only [Bool.and_eq_true, decide_eq_true_eq] at h
  rw [← u8_eq]
  have : (UInt8.ofNat n.toNat).toNat = n.toNat := by rw [UInt8.toNat_ofNat']; omega
  rw [this]
  omega
theorem q_eql_u8c (ho : o.op = .binOp .eql t x y t') (hx : ev E x = some (u8 c)) (hy : ev E y = some (.int .u8 n)) (h : (decide (0 ≤ n) && decide (n < 256)) = true) : Quiet C E I H o (.bool (decide (c = UInt8.ofNat n.toNat))) := by
  have := q_eql (C := C) (I := I) (H := H) ho hx hy
  simpa only [u8_eqc c h] using this
end bytes

/-- a guarded operation that is wanted -/
theorem wanted_g {ops : Array Oper} {oj : Oper} {j dj : Nat} {b : Bool} (hg : o.guard = some (j, b)) (hj : ops[j]? = some oj) (hdj : oj.dst = some dj) (hb : get E dj = some (.bool b)) : ∀ a : Act, Sat E C.n a.tmps → Region.wanted o (yielded ops a.tmps) = true := fun a hs => by
  simp [Region.wanted, hg, yielded_of (C := C) hs hj hdj hb]
theorem wanted_n {ops : Array Oper} (hg : o.guard = none) : ∀ a : Act, Sat E C.n a.tmps → Region.wanted o (yielded ops a.tmps) = true := fun a _ => by simp [Region.wanted, hg]
theorem One.cells {v : Value} (h : One v) : v.cells = [v].toArray := h.1
/-- an owned slice of things of one kind -/
@[reducible] def tvec {α : Type} (T : TypeId) (sz : Nat) (f : α → List Value) (v : Value) (l : List α) : HA := vec v T sz l.length (l.map f).flatten
theorem ones1 {v : Value} (h : One v) : ∀ u ∈ [v], u.oneCell' = true := fun u hu => by
  rw [List.mem_singleton] at hu
  subst hu
  exact h.2
/-- what is owned may be told otherwise -/
theorem l_heap {ops : Array Oper} {l : List Oper} {I' : Look} {H' : List HA} (h : L C ops l E I' H' D Q) (hi : ∀ w, St C.w0 I H w → St C.w0 I' H' w) : L C ops l E I H D Q := fun a w s hd hw => h a w s hd (hi w hw)
theorem Sl.lenOf {sz n : Nat} {v : Value} {xss : List (List Value)} (h : Sl I sz v xss) (hn : xss.length = n) : ∃ A c, v = .slice A n c := by
  obtain ⟨⟨A, c, rfl, _⟩, _⟩ := h
  exact ⟨A, c, by rw [hn]⟩
theorem Sl.rd {w0 : World} {sz : Nat} {v u : Value} {xss : List (List Value)} (h : Sl I sz v xss) {i j : Nat} {cs : List Value} (hi : xss[i]? = some cs) (hj : cs[j]? = some u) : Rd w0 I H (adr v).block ((adr v).off + i * sz + j) u := rd_imm (h.2 i j cs u hi hj)
/-- several rows at once, and what is left -/
class Picks (Ms : List HA) (F : outParam (List HA)) (H : List HA) : Prop where
  perm : H.Perm (Ms ++ F)
instance picks_nil {H : List HA} : Picks [] H H := ⟨List.Perm.refl _⟩
instance picks_cons {x : HA} {Ms F F' H : List HA} [p : PickI x F' H] [h : Picks Ms F F'] : Picks (x :: Ms) F H := ⟨p.pick.trans (List.Perm.cons x h.perm)⟩
end ops
end Go.Tri

/-
  Pointers compared; a text built byte by byte (strings.Builder), and its bytes told as a text.
-/
namespace Go.Tri
open Go.RowKit
section
variable {C : Cx} {E : Env} {I : Look} {H : List HA} {D : List Deferred} {Q : Exit → Act → World → Prop} {o : Oper}
variable {x y : Operand} {t t' : TypeId}
end
end Go.Tri

/-
  Slices of several elements written out; remainders; two rows made in either order.
-/
namespace Go.Tri
open Go.RowKit
section
variable {C : Cx} {E : Env} {I : Look} {H : List HA} {D : List Deferred} {Q : Exit → Act → World → Prop} {o : Oper}
theorem q_rem {x y : Operand} {t t' : TypeId} {k : IntKind} {m n : Int} (ho : o.op = .binOp .rem t x y t') (hx : ev E x = some (.int k m)) (hy : ev E y = some (.int k n)) (h : n ≠ 0) : Quiet C E I H o (.int k (m.tmod n)) :=
  quiet_bin ho hx hy fun w => by simp [eqGuard_rem, binOp_rem, Op.intDiv, h]
end
end Go.Tri

/-
  Pieces of slices that do not turn any more.
-/
namespace Go.Tri
open Go.RowKit
/-- elements l to h of a slice -/
def cutV (sz l h : Nat) : Value → Value
  | .slice a _ c => .slice (if c = l then a else a.map (·.add (l * sz))) (h - l) (c - l)
  | v => v
theorem Sl.cut {I : Look} {sz l h : Nat} {v : Value} {xss : List (List Value)} (hs : Sl I sz v xss) (h1 : l ≤ h) (h2 : h ≤ xss.length) : Sl I sz (cutV sz l h v) ((xss.drop l).take (h - l)) := by
  obtain ⟨⟨A, c, rfl, hc, hA, hne⟩, hcell⟩ := hs
  have hlen : ((xss.drop l).take (h - l)).length = h - l := by simp; omega
  have hpos : (xss.drop l).take (h - l) ≠ [] → l < h := fun hn => by
    have := List.length_pos_iff.2 hn
    omega
  have hx : (xss.drop l).take (h - l) ≠ [] → xss ≠ [] := fun hn he => by subst he; simp at hn
  refine ⟨⟨_, _, by rw [hlen]; rfl, by omega, fun hn a ha => ?_, fun hn => ?_⟩, fun i j cs u hi hj => ?_⟩
  · have := hpos hn
    rw [if_neg (by omega)] at ha
    cases A with
    | none => cases ha
    | some a0 =>
      have h0 := hA (hx hn) a0 rfl
      obtain ⟨b, o, sp⟩ := a0
      cases h0
      simp only [Option.map_some, Option.some.injEq] at ha
      rw [Addr.add_lit] at ha
      subst ha; rfl
  · have := hpos hn
    rw [if_neg (by omega)]
    cases A with
    | none => exact absurd rfl (hne (hx hn))
    | some a0 => simp
  · have hi' : i < h - l := by
      have := (List.getElem?_eq_some_iff.1 hi).1
      rw [hlen] at this; exact this
    rw [List.getElem?_take, if_pos hi', List.getElem?_drop] at hi
    have hn : xss ≠ [] := by rintro rfl; simp at hi
    have hk := hcell (l + i) j cs u hi hj
    cases A with
    | none => exact absurd rfl (hne hn)
    | some a0 =>
      have h0 := hA hn a0 rfl
      obtain ⟨b, o, sp⟩ := a0
      cases h0
      simp only [cutV, adr]
      rw [if_neg (by omega)]
      simp only [Option.map_some, Addr.add_lit]
      have e : o + l * sz + i * sz + j = o + (l + i) * sz + j := by rw [Nat.add_mul]; omega
      rw [e]
      exact hk
theorem Sl.drop {I : Look} {sz l n : Nat} {v : Value} {xss : List (List Value)} (hs : Sl I sz v xss) (hn : xss.length = n) (h1 : l ≤ n) : Sl I sz (cutV sz l n v) (xss.drop l) := by
  have := hs.cut (l := l) (h := n) h1 (by omega)
  rwa [List.take_of_length_le (by simp; omega)] at this
section
variable {C : Cx} {E : Env} {I : Look} {H : List HA} {D : List Deferred} {Q : Exit → Act → World → Prop} {o : Oper}
variable {x i j : Operand} {t e : TypeId} {v z : Value} {kl kh : IntKind} {m k : Int} {n sz bytes : Nat}
end
end Go.Tri
namespace Go.Tri
open Go.RowKit
/-! short circuits within one another -/
/-- none of G is wanted: guarded by operation j the other way, or by one of G itself -/
def skipOk (ops : Array Oper) (j : Nat) (want : Bool) : List Oper → List Nat → Bool
  | [], _ => true
  | o :: G, dead => (match o.guard with
      | none => false
      | some (j', b') => (Nat.beq j' j && b' == want) || (match ops[j']? with
        | some oj => match oj.dst with | some d => dead.contains d | none => false
        | none => false)) && skipOk ops j want G (match o.dst with | some d => d :: dead | none => dead)
section
variable {C : Cx} {ops : Array Oper} {I : Look} {H : List HA} {E : Env} {D : List Deferred} {Q : Exit → Act → World → Prop} {K K' : Act → Prop}
def Dead (a : Act) (d : Nat) : Prop := a.tmps[d]? = some undef ∨ a.tmps[d]? = none
theorem dead_put {a : Act} {d : Nat} {dst : Option Nat} (h : Dead a d) : Dead (a.put dst undef) d := by
  cases dst with
  | none => exact h
  | some e =>
    unfold Dead at *
    by_cases he : e = d
    · subst he
      rcases Nat.lt_or_ge e a.tmps.size with hlt | hge
      · left; simp [Act.put, hlt]
      · right; simp [Act.put, hge]
    · simpa [Act.put, Array.getElem?_setIfInBounds_ne he] using h
theorem dead_put_self (a : Act) (d : Nat) : Dead (a.put (some d) undef) d := by
  unfold Dead
  rcases Nat.lt_or_ge d a.tmps.size with hlt | hge
  · left; simp [Act.put, hlt]
  · right; simp [Act.put, hge]
theorem qs_skips2 {j : Nat} {b b' : Bool} (hbb : b ≠ b') : ∀ (G : List Oper) (dead : List Nat) (a : Act), skipOk ops j b G dead = true → (∀ d ∈ dead, Dead a d) → yielded ops a.tmps j = some b' → (∀ oj dj, ops[j]? = some oj → oj.dst = some dj → dj ∉ dsts G) →
    (∀ a', a'.defers = a.defers → a'.tmps.size = a.tmps.size → (∀ t, t ∉ dsts G → a'.tmps[t]? = a.tmps[t]?) → K a') → qs C ops I H K G a
  | [], _, _, _, _, _, _, h => h _ rfl rfl fun _ _ => rfl
  | o :: G, dead, a, hG, hd0, hy, hn, h => by
    unfold skipOk at hG
    rw [Bool.and_eq_true] at hG
    refine .inr ⟨?_, qs_skips2 hbb G (match o.dst with | some d => d :: dead | none => dead) _ hG.2 ?_ ?_ (fun oj dj h1 h2 hm => hn oj dj h1 h2 ?_) (fun a' h1 h2 h3 => h a' (h1.trans (put_defers _ _ _)) (h2.trans (put_size _ _ _)) fun t ht => ?_)⟩
    · cases hg : o.guard with
      | none => simp [hg] at hG
      | some p =>
        obtain ⟨j', b1⟩ := p
        have h1 := hG.1
        simp only [hg, Bool.or_eq_true, Bool.and_eq_true] at h1
        rcases h1 with ⟨h1, h2⟩ | h1
        · have e1 := Nat.eq_of_beq_eq_true h1
          subst e1
          have e2 : b1 = b := by simpa using h2
          subst e2
          simp [Region.wanted, hg, hy, hbb.symm]
        · cases hj : ops[j']? with
          | none => simp [hj] at h1
          | some oj =>
            simp only [hj] at h1
            cases hdj : oj.dst with
            | none => simp [hdj] at h1
            | some dj =>
              simp only [hdj] at h1
              have := hd0 dj (by simpa using h1)
              have hyn : yielded ops a.tmps j' = none := by
                unfold yielded
                simp only [hj, hdj, Option.bind_some]
                rcases this with e | e <;> simp [e, undef]
              simp [Region.wanted, hg, hyn]
    · intro d hd
      cases ho : o.dst with
      | none => rw [ho] at hd; exact hd0 d hd
      | some e =>
        rw [ho] at hd
        rcases List.mem_cons.1 hd with rfl | hd
        · exact dead_put_self a _
        · exact dead_put (hd0 d hd)
    · cases hd : o.dst with
      | none => exact hy
      | some d =>
        unfold yielded at hy ⊢
        cases hj : ops[j]? with
        | none => simp [hj] at hy
        | some oj =>
          cases hdj : oj.dst with
          | none => simp [hj, hdj] at hy
          | some dj =>
            have hne : d ≠ dj := fun e => hn oj dj hj hdj (by subst e; unfold dsts; rw [List.filterMap_cons, hd]; exact List.mem_cons_self)
            simp only [hj, hdj, Option.bind_some] at hy ⊢
            simpa [Act.put, Array.getElem?_setIfInBounds_ne hne] using hy
    · unfold dsts at hm ⊢
      rw [List.filterMap_cons]
      split
      · exact hm
      · exact List.mem_cons_of_mem _ hm
    · unfold dsts at ht
      rw [List.filterMap_cons] at ht
      cases hd : o.dst with
      | none =>
        rw [hd] at ht
        have := h3 t ht
        rw [hd] at this
        exact this
      | some d =>
        rw [hd] at ht
        have := h3 t (fun hm => ht (List.mem_cons_of_mem _ hm))
        rw [hd] at this
        rw [this]
        have hne : d ≠ t := fun e => ht (by subst e; exact List.mem_cons_self)
        simp [Act.put, Array.getElem?_setIfInBounds_ne hne]
theorem s_short2 {l rest : List Oper} {p oj : Oper} (k j dj d y : Nat) (want b c : Bool) (hsplit : l.drop k = p :: rest) (hga : skipOk ops j want (l.take k) [] = true) (hj : ops[j]? = some oj) (hdj : oj.dst = some dj)
    (hb : get E dj = some (.bool b)) (hoff : (keysOff (dsts (l.take k)) E && !(dsts (l.take k)).contains dj) = true)
    (hy : b = want → QS C ops (l.take k) ((dj, .bool want) :: E) I H (fun a' => a'.tmps[y]? = some (.bool c)))
    (hpw : ∀ a : Act, Sat E C.n a.tmps → Region.wanted p (yielded ops a.tmps) = true) (hpd : p.dst = some d) (hn : Nat.blt d C.n = true) (hpp : (want = true ∧ p.op = .pick (.tmp dj) (.tmp y) (.const (.bool false))) ∨ (want = false ∧ p.op = .pick (.tmp dj) (.const (.bool true)) (.tmp y)))
    (kk : QS C ops rest ((d, .bool (if want then b && c else b || c)) :: E) I H K) : QS C ops l E I H K := by
  intro a hs
  rw [Bool.and_eq_true] at hoff
  rw [← List.take_append_drop k l, hsplit]
  refine qs_append _ _ _ ?_
  have hyl := yielded_of (C := C) hs hj hdj hb
  have after : ∀ a' : Act, a'.defers = a.defers → a'.tmps.size = a.tmps.size → (∀ t, t ∉ dsts (l.take k) → a'.tmps[t]? = a.tmps[t]?) → (b = want → a'.tmps[y]? = some (.bool c)) → qs C ops I H K (p :: rest) a' := by
    intro a' _ h2 h3 h4
    have hsE : Sat E C.n a'.tmps := ⟨by rw [h2]; exact hs.1, fun t v ht => by rw [h3 t (get_keysOff hoff.1 ht)]; exact hs.2 t v ht⟩
    have hc : a'.eval (.tmp dj) = .bool b := hsE.ev (x := .tmp dj) hb
    refine .inl ⟨hpw a' hsE, .bool (if want then b && c else b || c), fun w _ => ?_, by rw [hpd]; exact kk _ (hsE.put (by simpa using hn) _)⟩
    have e1 : ∀ u, a'.eval (.const u) = u := fun _ => rfl
    rcases hpp with ⟨rfl, hp⟩ | ⟨rfl, hp⟩
    · refine ⟨by rw [hp]; rfl, ?_⟩
      cases b with
      | false => simp [execOp, hp, hc, asBool, e1]
      | true =>
        have hy' : a'.eval (.tmp y) = .bool c := by simp [Act.eval, h4 rfl]
        simp [execOp, hp, hc, hy', asBool, e1]
    · refine ⟨by rw [hp]; rfl, ?_⟩
      cases b with
      | true => simp [execOp, hp, hc, asBool, e1]
      | false =>
        have hy' : a'.eval (.tmp y) = .bool c := by simp [Act.eval, h4 rfl]
        simp [execOp, hp, hc, hy', asBool, e1]
  by_cases e : b = want
  · subst e
    have h1 := hy rfl a (hs.sub (sub_cons hb (Sub.refl E)))
    exact qs_mono (fun a' h => after a' h.2.1 h.2.2.1 h.2.2.2 fun _ => h.1) _ _ (qs_keeps _ _ h1)
  · refine qs_skips2 (b := want) (b' := b) (Ne.symm e) _ [] a hga (fun d hd => by cases hd) hyl (fun oj' dj' h1 h2 => ?_) fun a' h1 h2 h3 => after a' h1 h2 h3 fun e' => absurd e' e
    have : oj' = oj := Option.some.inj (h1.symm.trans hj)
    subst this
    rw [hdj] at h2
    cases h2
    simpa using hoff.2
end
end Go.Tri

/-
  New rows out of texts and out of nothing; an owned row grown by what does not turn.
-/
namespace Go.Tri
open Go.RowKit
theorem St.newW {w0 w w' : World} {I : Look} {H : List HA} (h : St w0 I H w) (o : Obj) (os : w'.os = w.os) (tape : w'.tape = w.tape) (output : w'.output = w.output) (size : w.heap.size ≤ w'.heap.size)
    (old : ∀ k, k < w.heap.size → w'.heap[k]? = w.heap[k]?) (new : w'.heap[w.heap.size]? = some o) : St w0 I (obj w.heap.size o :: H) w' := by
  have h' := h.garb (w' := w') ⟨os, tape, output, size, old⟩
  have h0 := h.new o
  exact { h' with
    sat := fun x hx => by
      rcases List.mem_cons.1 hx with rfl | hx
      · exact new
      · exact h'.sat x hx
    sep := h0.sep
    dis := h0.dis }
theorem st_freezeObj {w0 w : World} {I : Look} {b : Nat} {o : Obj} {F : List HA} (h : St w0 I (obj b o :: F) w) : ∃ J, Le I J ∧ J b = some o ∧ St w0 J F w := by
  have hb : w.heap[b]? = some o := h.sat _ (List.mem_cons_self)
  have hIb : I b = none := h.dis _ (List.mem_cons_self) b rfl
  let J : Look := fun k => if k = b then some o else I k
  refine ⟨J, fun k o' hk => ?_, by show (if b = b then _ else _) = _; rw [if_pos rfl], ?_⟩
  · show (if k = b then _ else I k) = _
    split
    · rename_i e; subst e; rw [hIb] at hk; cases hk
    · exact hk
  · refine { h.tail with imm := fun k o' hk => ?_, dis := fun y hy k hk => ?_ }
    · have hk' : (if k = b then some o else I k) = some o' := hk
      by_cases e : k = b
      · subst e
        rw [if_pos rfl] at hk'
        cases hk'
        exact hb
      · rw [if_neg e] at hk'
        exact h.imm k o' hk'
    · show (if k = b then _ else I k) = none
      by_cases e : k = b
      · subst e
        exfalso
        have hsep := h.sep
        unfold owns at hsep
        rw [List.filterMap_cons] at hsep
        exact (List.nodup_cons.1 hsep).1 (List.mem_filterMap.2 ⟨y, hy, hk⟩)
      · rw [if_neg e]
        exact h.tail.dis y hy k hk
theorem flat_at {α : Type} {f : α → List Value} {sz : Nat} (hu : ∀ c, (f c).length = sz) : ∀ {l : List α} {i j : Nat} {cs : List Value} {u : Value}, (l.map f)[i]? = some cs → cs[j]? = some u → (l.map f).flatten[i * sz + j]? = some u
  | [], _, _, _, _, hi, _ => by cases hi
  | c :: l, 0, j, cs, u, hi, hj => by
    simp only [List.map_cons, List.getElem?_cons_zero, Option.some.injEq] at hi
    subst hi
    have hlt := (List.getElem?_eq_some_iff.1 hj).1
    simp only [List.map_cons, List.flatten_cons, Nat.zero_mul, Nat.zero_add]
    rw [List.getElem?_append_left hlt]
    exact hj
  | c :: l, i + 1, j, cs, u, hi, hj => by
    simp only [List.map_cons, List.getElem?_cons_succ] at hi
    simp only [List.map_cons, List.flatten_cons]
    rw [Nat.add_mul, Nat.one_mul, List.getElem?_append_right (by rw [hu]; omega), hu, show i * sz + sz + j - sz = i * sz + j by omega]
    exact flat_at hu hi hj
section
variable {C : Cx} {E : Env} {I : Look} {H : List HA} {D : List Deferred} {Q : Exit → Act → World → Prop} {o : Oper}
theorem e_strBytes {t t' e : TypeId} {x : Operand} {s : List UInt8} (ho : o.op = .convert t t' x) (hs : C.P.underlying t = some .string) (hd : C.P.underlying t' = some (.slice e)) (he : C.P.underlying e = some (.int .u8)) (hx : ev E x = some (str s)) :
    Eff C E I H o (fun v I' H' => Le I I' ∧ Sl I' 1 v (s.map byC) ∧ H = H') := by
  intro a w hsat hw K Q hk
  have hw1 := hw.newW (w' := Lib.bytesWorld w e ⟨s.toArray⟩) _ (by simp [Lib.bytesWorld, World.freeze]; rfl) (by simp [Lib.bytesWorld, World.freeze]) (by simp [Lib.bytesWorld, World.freeze]; rfl) (by rw [Lib.bytesWorld_size]; omega) (fun k hk => Lib.bytesWorld_at_old w e _ k hk) (Lib.bytesWorld_at_new w e ⟨s.toArray⟩)
  obtain ⟨J, h1, h2, h3⟩ := st_freezeObj hw1
  refine wpIn_of_run (w' := Lib.bytesWorld w e ⟨s.toArray⟩) (v := .slice (some ⟨w.heap.size, 0, none⟩) s.length (grownCap w s.length 0 e)) (by rw [ho]; rfl) ?_ (hk _ J H _ ⟨h1, ?_, rfl⟩ h3)
  · simp only [execOp, ho, hsat.ev hx]
    rw [Sem.run_bind]
    unfold str
    rw [Lib.run_convert_string_bytes w t t' e ⟨s.toArray⟩ hs hd he]
    simp [size_str]
  · refine ⟨⟨some ⟨w.heap.size, 0, none⟩, _, by rw [List.length_map], ?_, fun _ a ha => (by cases ha; rfl), fun _ h => (by cases h)⟩, fun i j cs u hi hj => ⟨_, _, _, h2, ?_⟩⟩
    · rw [List.length_map]; exact grownCap_ge w s.length 0 e
    · have := flat_at (sz := 1) (fun _ => rfl) hi hj
      rw [byC_flat] at this
      show (Lib.bytesCells w e ⟨s.toArray⟩)[0 + i * 1 + j]? = some u
      rw [Nat.zero_add]
      unfold Lib.bytesCells
      have hlt := (List.getElem?_eq_some_iff.1 this).1
      rw [List.length_map] at hlt
      rw [Array.getElem?_append_left (by simpa using hlt)]
      simpa [u8] using this
end
end Go.Tri

/-
  A function's results, in slots and in cells; a function value called; a range over a function that is left.
-/
namespace Go.Tri
open Go.RowKit
section
variable {C : Cx} {E : Env} {I : Look} {H F : List HA} {R : Ending → World → Prop} {fn : Func}
end
end Go.Tri
namespace Go.Tri
open Go.RowKit
end Go.Tri
namespace Go.Tri
open Go.RowKit
/-- a contract of a function that leaves old memory alone and hands back something of which R is said -/
def PureX (P : Program) (f : FuncId) (args : List Value) (w : World) (R : Value → Prop) : Prop :=
  Calls P f args.toArray w fun e w' => ∃ v, e = .returned v ∧ R v ∧ Below w.heap.size w w'
theorem eff_callX {C : Cx} {E : Env} {I : Look} {H : List HA} {o : Oper} {g : Operand} {f : FuncId} {args : Array Operand} {ts : Array TypeId} {vs : List Value} {fn : Func} {R : Value → Prop}
    (ho : o.op = .call { callee := .value g, args := args, argTypes := ts }) (hg : ev E g = some (.func (.func f) #[] #[])) (he : evs E args.toList = some vs)
    (hfn : C.P.funcs[f]? = some fn) (hnm : (fn.name == "runtime.NumGoroutine") = false) (hbd : fn.body.isNone = false)
    (hc : ∀ w, St C.w0 I H w → PureX C.P f vs w R) : Eff C E I H o (fun v I' H' => R v ∧ I = I' ∧ H = H') := by
  intro a w hs hw K Q hk
  have h1 : args.map a.eval = vs.toArray := by
    rw [← hs.evs he]; cases args; simp
  have hrun : (execOp a.eval o).run C.P w = .ok (.enter f vs.toArray) w := by
    simp only [execOp, ho, resolve, h1, hs.ev hg]
    simp [Deferred.ofValue, invoke, call_of hfn hnm hbd]
  refine wpIn_of_call (R := fun v w'' => R v ∧ Below w.heap.size w w'') (by rw [ho]; rfl) hrun ((hc w hw).mono fun e w' ⟨v, h1, h2, h3⟩ => ⟨v, h1, h2, h3⟩) fun v w'' ⟨hp, hb⟩ => hk v I H w'' ⟨hp, rfl, rfl⟩ (hw.garb hb)
end Go.Tri
namespace Go.Tri
open Go.RowKit
end Go.Tri
namespace Go.Tri
open Go.RowKit
section
variable {C : Cx} {E : Env} {I : Look} {H : List HA} {D : List Deferred} {Q : Exit → Act → World → Prop}
variable {ops : Array Oper} {K : Act → Prop}
theorem s_and2 {l rest : List Oper} {p oj : Oper} (k j dj d y : Nat) (b c : Bool) (hsplit : l.drop k = p :: rest) (hga : skipOk ops j true (l.take k) [] = true) (hj : ops[j]? = some oj) (hdj : oj.dst = some dj)
    (hb : get E dj = some (.bool b)) (hoff : (keysOff (dsts (l.take k)) E && !(dsts (l.take k)).contains dj) = true)
    (hy : b = true → QS C ops (l.take k) ((dj, .bool true) :: E) I H (fun a' => a'.tmps[y]? = some (.bool c)))
    (hpw : ∀ a : Act, Sat E C.n a.tmps → Region.wanted p (yielded ops a.tmps) = true) (hpd : p.dst = some d) (hn : Nat.blt d C.n = true) (hpp : p.op = .pick (.tmp dj) (.tmp y) (.const (.bool false)))
    (kk : QS C ops rest ((d, .bool (b && c)) :: E) I H K) : QS C ops l E I H K := s_short2 k j dj d y true b c hsplit hga hj hdj hb hoff hy hpw hpd hn (.inl ⟨rfl, hpp⟩) kk
theorem s_or2 {l rest : List Oper} {p oj : Oper} (k j dj d y : Nat) (b c : Bool) (hsplit : l.drop k = p :: rest) (hga : skipOk ops j false (l.take k) [] = true) (hj : ops[j]? = some oj) (hdj : oj.dst = some dj)
    (hb : get E dj = some (.bool b)) (hoff : (keysOff (dsts (l.take k)) E && !(dsts (l.take k)).contains dj) = true)
    (hy : b = false → QS C ops (l.take k) ((dj, .bool false) :: E) I H (fun a' => a'.tmps[y]? = some (.bool c)))
    (hpw : ∀ a : Act, Sat E C.n a.tmps → Region.wanted p (yielded ops a.tmps) = true) (hpd : p.dst = some d) (hn : Nat.blt d C.n = true) (hpp : p.op = .pick (.tmp dj) (.const (.bool true)) (.tmp y))
    (kk : QS C ops rest ((d, .bool (b || c)) :: E) I H K) : QS C ops l E I H K := s_short2 k j dj d y false b c hsplit hga hj hdj hb hoff hy hpw hpd hn (.inr ⟨rfl, hpp⟩) kk
end
end Go.Tri
namespace Go.Tri
open Go.RowKit
/-- the place of element i of an array -/
theorem q_indexAddr_arr {C : Cx} {E : Env} {I : Look} {H : List HA} {o : Oper} {x i : Operand} {t e : TypeId} {z : Value} {k : IntKind} {m : Int} {n sz bytes b off : Nat} (ho : o.op = .indexAddr t x i) (ht : C.P.underlying t = some (.array n e)) (hi : TI C.P e sz bytes z)
    (hx : ev E x = some (.pointer (some ⟨b, off, none⟩))) (hix : ev E i = some (.int k m)) (h0 : 0 ≤ m ∧ m < n) :
    Quiet C E I H o (.pointer (some ⟨b, off + m.toNat * sz, none⟩)) :=
  quiet_run (by rw [ho]; rfl) fun a w hs _ => by
    simp [execOp, ho, hs.ev hx, hs.ev hix, Instr.indexAt, run_underlying ht, hi.sizeOf, asIntOf, h0, Instr.sureAddr, Addr.add_lit]
end Go.Tri
