/-
  More operations: texts, structs by value, conversions; calls that turn memory; short circuits ahead of effects.
-/
import Derived.Test.YtfnmioggkmkmcaaDoorTriRange
import Derived.Laws.StructEq
import Derived.Laws.IdiomStrings
import Derived.Lib.Bytealg
import Derived.Lib.UnsafeStr
import Derived.Lib.Builder
namespace Go.Tri
open Go.RowKit

section ops
variable {C : Cx} {E : Env} {I : Look} {H : List HA} {D : List Deferred} {Q : Exit → Act → World → Prop} {o : Oper}

theorem q_pick_b {c : Operand} {b : Bool} (ho : o.op = .pick c (.const (.bool true)) (.const (.bool false))) (hc : ev E c = some (.bool b)) : Quiet C E I H o (.bool b) := by
  have h := q_pick (C := C) (I := I) (H := H) ho hc (u := .bool true) (v := .bool false) rfl rfl
  cases b <;> exact h
/-! texts -/
section strings
variable {x y i j : Operand} {t t' : TypeId} {s s' : List UInt8} {k kl kh : IntKind} {m n : Int}
theorem extract_str (s : List UInt8) (l h : Nat) : (⟨s.toArray⟩ : ByteArray).extract l h = ⟨((s.drop l).take (h - l)).toArray⟩ := by
  apply ByteArray.ext
  simp [ByteArray.data_extract]
theorem q_index_strN {j : Nat} (ho : o.op = .index t x i) (ht : C.P.underlying t = some .string) (hx : ev E x = some (str s)) (hi : ev E i = some (.int k (j : Int))) (h : j < s.length) :
    Quiet C E I H o (u8 (nth s j 0)) := q_index_str ho ht hx hi ⟨by omega, by omega⟩
theorem q_indexAddrN {e : TypeId} {v z : Value} {j n sz bytes : Nat} (ho : o.op = .indexAddr t x i) (ht : C.P.underlying t = some (.slice e)) (hi : TI C.P e sz bytes z)
    (hx : ev E x = some v) (hix : ev E i = some (.int k (j : Int))) (hv : ∃ A c, v = .slice A n c ∧ (0 < n → ∀ a, A = some a → a.spot = none) ∧ (0 < n → A ≠ none)) (h0 : j < n) :
    Quiet C E I H o (.pointer (some ⟨(adr v).block, (adr v).off + j * sz, none⟩)) := q_indexAddr ho ht hi hx hix hv ⟨by omega, by omega⟩
theorem q_indexAddrVN {e te : TypeId} {v z : Value} {j n sz sz' bytes : Nat} {xs : List Value} (ho : o.op = .indexAddr t x i) (ht : C.P.underlying t = some (.slice e)) (hi : TI C.P e sz bytes z)
    (hx : ev E x = some v) (hix : ev E i = some (.int k (j : Int))) [hm : InVec v te sz' n xs H] (h0 : j < n) :
    Quiet C E I H o (.pointer (some ⟨(adr v).block, (adr v).off + j * sz, none⟩)) := q_indexAddrV ho ht hi hx hix ⟨by omega, by omega⟩
theorem q_slice_str (ho : o.op = .slice t x (some i) (some j) none) (ht : C.P.underlying t = some .string) (hx : ev E x = some (str s)) (hi : ev E i = some (.int kl m)) (hj : ev E j = some (.int kh n)) (h : 0 ≤ m ∧ m ≤ n ∧ n ≤ s.length) :
    Quiet C E I H o (str ((s.drop m.toNat).take (n.toNat - m.toNat))) :=
  quiet_run (by rw [ho]; rfl) fun a w hs _ => by
    simp only [execOp, ho, hs.ev hx, Option.map_some, Option.map_none, hs.ev hi, hs.ev hj]
    rw [Sem.run_bind, run_sliceAt_string w t _ _ _ _ ht]
    unfold str
    rw [run_slice_string w t _ kl kh m n ht h.1 h.2.1 (by rw [size_str]; exact h.2.2), extract_str]
    rfl
theorem q_slice_str_from (ho : o.op = .slice t x (some i) none none) (ht : C.P.underlying t = some .string) (hx : ev E x = some (str s)) (hi : ev E i = some (.int kl m)) (h : 0 ≤ m ∧ m ≤ s.length) :
    Quiet C E I H o (str (s.drop m.toNat)) :=
  quiet_run (by rw [ho]; rfl) fun a w hs _ => by
    simp only [execOp, ho, hs.ev hx, Option.map_some, Option.map_none, hs.ev hi]
    rw [Sem.run_bind, run_sliceAt_string w t _ _ _ _ ht]
    unfold str
    have h1 := run_slice_string_l (P := C.P) (w := w) (t := t) ht (s := ⟨s.toArray⟩) kl m h.1 (by rw [size_str]; exact h.2)
    rw [h1, extract_str, size_str, List.take_of_length_le (by simp)]
    rfl
theorem q_slice_str_to (ho : o.op = .slice t x none (some j) none) (ht : C.P.underlying t = some .string) (hx : ev E x = some (str s)) (hj : ev E j = some (.int kh n)) (h : 0 ≤ n ∧ n ≤ s.length) :
    Quiet C E I H o (str (s.take n.toNat)) :=
  quiet_run (by rw [ho]; rfl) fun a w hs _ => by
    simp only [execOp, ho, hs.ev hx, Option.map_some, Option.map_none, hs.ev hj]
    rw [Sem.run_bind, run_sliceAt_string w t _ _ _ _ ht]
    unfold str
    have h1 := run_slice_string_h (P := C.P) (w := w) (t := t) ht (s := ⟨s.toArray⟩) kh n h.1 (by rw [size_str]; exact h.2)
    rw [h1, extract_str]
    simp
theorem q_cat (ho : o.op = .binOp .add t x y t') (hx : ev E x = some (str s)) (hy : ev E y = some (str s')) (h : s.length + s'.length ≤ 9223372036854775807) : Quiet C E I H o (str (s ++ s')) :=
  quiet_bin ho hx hy fun w => by
    have e : (⟨s.toArray⟩ : ByteArray) ++ ⟨s'.toArray⟩ = ⟨(s ++ s').toArray⟩ := by apply ByteArray.ext; simp
    simp only [eqGuard, str, binOp]
    rw [Sem.run_bind]
    simp [run_string_add_sum (P := C.P) (w := w) ⟨s.toArray⟩ ⟨s'.toArray⟩ (by simpa [size_str] using h), e]
theorem q_neq_str (ho : o.op = .binOp .neq t x y t') (hx : ev E x = some (str s)) (hy : ev E y = some (str s')) : Quiet C E I H o (.bool (decide (s ≠ s'))) :=
  quiet_bin ho hx hy fun w => by
    simp [eqGuard, str, binOp, Op.stringOp, ByteArray.toList_eq]; rw [Bool.eq_iff_iff]; simp
theorem q_eql_bool {a b : Bool} (ho : o.op = .binOp .eql t x y t') (ht : C.P.underlying t = some .bool) (hx : ev E x = some (.bool a)) (hy : ev E y = some (.bool b)) : Quiet C E I H o (.bool (a == b)) :=
  quiet_bin ho hx hy fun w => by
    simp [eqGuard, binOp, Op.equal, Op.maxDepth, run_equalIn_bool' (P := C.P) w 9999 t a b ht]
theorem q_neq_bool {a b : Bool} (ho : o.op = .binOp .neq t x y t') (ht : C.P.underlying t = some .bool) (hx : ev E x = some (.bool a)) (hy : ev E y = some (.bool b)) : Quiet C E I H o (.bool (a != b)) :=
  quiet_bin ho hx hy fun w => by
    simp [eqGuard, binOp, Op.equal, Op.maxDepth, run_equalIn_bool' (P := C.P) w 9999 t a b ht]
    cases a <;> cases b <;> rfl
theorem q_conv_int {d : TypeDesc} {k' : IntKind} {r : Int} (ho : o.op = .convert t t' x) (hs : C.P.underlying t = some d) (hd : C.P.underlying t' = some (.int k')) (hx : ev E x = some (.int k n)) (hr : k'.wrap n = r) : Quiet C E I H o (.int k' r) :=
  quiet_run (by rw [ho]; rfl) fun a w hsat _ => by
    subst hr
    simp [execOp, ho, hsat.ev hx, convert, run_underlying hs, run_underlying hd, Conv.intToInt]
theorem q_conv_str (ho : o.op = .convert t t' x) (hs : C.P.underlying t = some .string) (hd : C.P.underlying t' = some .string) (hx : ev E x = some (str s)) : Quiet C E I H o (str s) :=
  quiet_run (by rw [ho]; rfl) fun a w hsat _ => by
    simp [execOp, ho, hsat.ev hx, str, convert, run_underlying hs, run_underlying hd]
def byC (c : UInt8) : List Value := [u8 c]
theorem byC_ones (c : UInt8) : ∀ u ∈ byC c, u.oneCell' = true := fun u hu => by
  rw [byC, List.mem_singleton] at hu
  subst hu
  rfl
theorem byC_flat (l : List UInt8) : (l.map byC).flatten = l.map u8 := by
  induction l with
  | nil => rfl
  | cons c l ih => simp [byC, ih]
theorem q_bytes_str {e : TypeId} {v : Value} {T : TypeId} {l : List UInt8} (ho : o.op = .convert t t' x) (hs : C.P.underlying t = some (.slice e)) (hd : C.P.underlying t' = some .string) (he : C.P.underlying e = some (.int .u8)) (hx : ev E x = some v) [hm : InVec v T 1 l.length (l.map byC).flatten H] : Quiet C E I H o (str l) :=
  quiet_run (by rw [ho]; rfl) fun a w hsat hw => by
    obtain ⟨hl, hh⟩ := hw.sat _ hm.mem
    simp only [execOp, ho, hsat.ev hx]
    rw [byC_flat] at hh
    rcases hh with ⟨rfl, hz⟩ | ⟨g, cap, cur, rfl, hg, hn, hc, hsz, htk⟩
    · have : l = [] := List.eq_nil_of_length_eq_zero hz
      subst this
      simp [convert, run_underlying hs, run_underlying hd, run_underlying he, Conv.bytesToString, str]
      rfl
    · rw [Sem.run_bind, run_convert_bytes_back (P := C.P) w t t' e ⟨g, 0, none⟩ cap l hs he hd (fun j hj => by
        rw [Addr.add_lit]
        have hg' : w.heap[g]? = some (.cells cur T (0, 0)) := hg
        unfold World.cell?
        simp only [hg', Option.isSome_none, Bool.false_eq_true, if_false, Nat.zero_add]
        have h2 : (l.map u8)[j]? = some (u8 l[j]) := by simp [hj]
        rw [← htk, List.getElem?_take] at h2
        split at h2
        · simpa [u8] using h2
        · cases h2)]
      rfl
end strings

section bytes
variable {x y : Operand} {t t' : TypeId} {c d : UInt8} {n : Int}
theorem u8_eq (c d : UInt8) : ((c.toNat : Int) = (d.toNat : Int)) ↔ c = d := by
  constructor
  · intro h; exact UInt8.toNat_inj.1 (by omega)
  · intro h; rw [h]
theorem u8_eqc {n : Int} (c : UInt8) (h : (decide (0 ≤ n) && decide (n < 256)) = true) : ((c.toNat : Int) = n) ↔ c = UInt8.ofNat n.toNat := by
  simp only [Bool.and_eq_true, decide_eq_true_eq] at h
  rw [← u8_eq]
  have : (UInt8.ofNat n.toNat).toNat = n.toNat := by rw [UInt8.toNat_ofNat']; omega
  rw [this]
  omega
theorem q_eql_u8 (ho : o.op = .binOp .eql t x y t') (hx : ev E x = some (u8 c)) (hy : ev E y = some (u8 d)) : Quiet C E I H o (.bool (decide (c = d))) := by
  have := q_eql (C := C) (I := I) (H := H) ho hx hy
  simpa only [u8_eq] using this
theorem q_eql_u8c (ho : o.op = .binOp .eql t x y t') (hx : ev E x = some (u8 c)) (hy : ev E y = some (.int .u8 n)) (h : (decide (0 ≤ n) && decide (n < 256)) = true) : Quiet C E I H o (.bool (decide (c = UInt8.ofNat n.toNat))) := by
  have := q_eql (C := C) (I := I) (H := H) ho hx hy
  simpa only [u8_eqc c h] using this
theorem q_neq_u8 (ho : o.op = .binOp .neq t x y t') (hx : ev E x = some (u8 c)) (hy : ev E y = some (u8 d)) : Quiet C E I H o (.bool (decide (c ≠ d))) := by
  have := q_neq (C := C) (I := I) (H := H) ho hx hy
  simpa only [ne_eq, u8_eq] using this
theorem q_neq_u8c (ho : o.op = .binOp .neq t x y t') (hx : ev E x = some (u8 c)) (hy : ev E y = some (.int .u8 n)) (h : (decide (0 ≤ n) && decide (n < 256)) = true) : Quiet C E I H o (.bool (decide (c ≠ UInt8.ofNat n.toNat))) := by
  have := q_neq (C := C) (I := I) (H := H) ho hx hy
  simpa only [ne_eq, u8_eqc c h] using this
end bytes

/-! structs by value -/
def evP (E : Env) : List (Nat × Operand) → Option (List (Nat × Value))
  | [] => some []
  | (i, x) :: r => match ev E x, evP E r with
    | some v, some vs => some ((i, v) :: vs)
    | _, _ => none
theorem Sat.evP {n : Nat} {a : Act} (h : Sat E n a.tmps) : ∀ {xs : List (Nat × Operand)} {vs : List (Nat × Value)}, evP E xs = some vs → xs.map (fun p => (p.1, a.eval p.2)) = vs
  | [], _, hx => by cases hx; rfl
  | (i, x) :: r, vs, hx => by
    unfold Tri.evP at hx
    split at hx
    · rename_i v vs' h1 h2
      cases hx
      rw [List.map_cons, h.ev h1, h.evP h2]
    · cases hx
/-- each field's place and size -/
def Places (P : Program) : List Field → List (Nat × Nat) → Prop
  | [], [] => True
  | f :: fs, (o, s) :: pl => f.offset = o ∧ (∃ b z, TI P f.type s b z) ∧ Places P fs pl
  | _, _ => False
theorem run_places {P : Program} {w : World} : ∀ {fs : List Field} {pl : List (Nat × Nat)}, Places P fs pl → (fs.mapM (fun f => do pure (f.offset, ← sizeOf f.type) : Field → Sem (Nat × Nat))).run P w = .ok pl w
  | [], [], _ => by simp
  | f :: fs, (o, s) :: pl, h => by
    obtain ⟨h1, ⟨b, z, h2⟩, h3⟩ := h
    have ih := run_places (w := w) h3
    subst h1
    simp only [List.mapM_cons, Sem.run_bind, h2.sizeOf, Sem.run_pure, Result.andThen_ok, ih]
  | [], _ :: _, h => h.elim
  | _ :: _, [], h => h.elim
theorem q_build {t : TypeId} {parts : Array (Nat × Operand)} {fs : Array Field} {n bytes : Nat} {z : Value} {vs : List (Nat × Value)} {pl : List (Nat × Nat)} {cs : Array Value} (ho : o.op = .build t parts) (ht : C.P.underlying t = some (.struct fs)) (hi : TI C.P t n bytes z)
    (hpl : Places C.P fs.toList pl) (hv : evP E parts.toList = some vs) (hf : Instr.fill (fun i => pl[i]?) z.cells vs = some cs) : Quiet C E I H o (.agg cs) :=
  quiet_run (by rw [ho]; rfl) fun a w hs _ => by
    have h1 : (parts.map fun p => (p.1, a.eval p.2)).toList = vs := by rw [← hs.evP hv]; simp
    simp only [execOp, ho, Instr.build]
    have h2 := run_places (w := w) hpl
    have h3 : (fs.mapM (fun f => do pure (f.offset, ← sizeOf f.type) : Field → Sem (Nat × Nat))).run C.P w = .ok pl.toArray w := by
      obtain ⟨fl⟩ := fs
      simp only [List.mapM_toArray]
      rw [Sem.run_map]
      simp only at h2
      rw [h2]
      rfl
    simp only [Sem.run_bind, hi.zero, run_underlying ht, Result.andThen_ok, h3]
    have h4 : (fun (i : Nat) => pl.toArray[i]?) = (fun (i : Nat) => pl[i]?) := by funext i; simp
    rw [h4]
    have h5 : (parts.map fun x => match x with | (i, x) => (i, a.eval x)).toList = vs := h1
    rw [h5, hf]
    rfl
theorem q_field {x : Operand} {t : TypeId} {fs : Array Field} {k : Nat} {f : Field} {d : TypeDesc} {cs : Array Value} {v : Value} (ho : o.op = .field t x k) (ht : C.P.underlying t = some (.struct fs)) (hf : fs[k]? = some f) (htf : C.P.underlying f.type = some d) (hd : notAgg d = true)
    (hx : ev E x = some (.agg cs)) (hv : cs[f.offset]? = some v) : Quiet C E I H o v :=
  quiet_run (by rw [ho]; rfl) fun a w hs _ => by
    simp [execOp, ho, hs.ev hx, Instr.field, run_underlying ht, hf, asAgg, part, run_isAgg_false htf hd, hv]

theorem q_eql_st {x y : Operand} {t t' : TypeId} {xs ys : Array Value} {r : Bool} (ho : o.op = .binOp .eql t x y t') (hg : C.P.eqGuardType C.P.depth t = false) (hx : ev E x = some (.agg xs)) (hy : ev E y = some (.agg ys)) (hr : ∀ w, (Op.equalIn 10000 t (.agg xs) (.agg ys)).run C.P w = .ok r w) : Quiet C E I H o (.bool r) :=
  quiet_bin ho hx hy fun w => by
    rw [Sem.run_bind, run_eqGuard_agg w _ _ _ _ _ _ hg]
    simp only [Result.andThen_ok]
    rw [run_eql_struct, hr]
    rfl
theorem q_neq_st {x y : Operand} {t t' : TypeId} {xs ys : Array Value} {r : Bool} (ho : o.op = .binOp .neq t x y t') (hg : C.P.eqGuardType C.P.depth t = false) (hx : ev E x = some (.agg xs)) (hy : ev E y = some (.agg ys)) (hr : ∀ w, (Op.equalIn 10000 t (.agg xs) (.agg ys)).run C.P w = .ok r w) : Quiet C E I H o (.bool (!r)) :=
  quiet_bin ho hx hy fun w => by
    rw [Sem.run_bind, run_eqGuard_agg w _ _ _ _ _ _ hg]
    simp only [Result.andThen_ok]
    rw [run_neq_struct, hr]
    rfl

/-! calls that turn memory -/
theorem eff_call {g : Operand} {f : FuncId} {args : Array Operand} {ts : Array TypeId} {vs : List Value} {fn : Func} {Post : Value → Look → List HA → Prop}
    (ho : o.op = .call { callee := .value g, args := args, argTypes := ts }) (hg : ev E g = some (.func (.func f) #[] #[])) (he : evs E args.toList = some vs)
    (hfn : C.P.funcs[f]? = some fn) (hnm : (fn.name == "runtime.NumGoroutine") = false) (hbd : fn.body.isNone = false)
    (hc : ∀ w, St C.w0 I H w → Calls C.P f vs.toArray w (fun e w' => ∃ v, e = .returned v ∧ ∃ I' H', Post v I' H' ∧ St w I' H' w')) : Eff C E I H o Post := by
  intro a w hs hw K Q hk
  have h1 : args.map a.eval = vs.toArray := by
    rw [← hs.evs he]; cases args; simp
  have hrun : (execOp a.eval o).run C.P w = .ok (.enter f vs.toArray) w := by
    simp only [execOp, ho, resolve, h1, hs.ev hg]
    simp [Deferred.ofValue, invoke, call_of hfn hnm hbd]
  exact wpIn_of_call (by rw [ho]; rfl) hrun (hc w hw) fun v w'' ⟨I', H', hp, hw'⟩ => hk v I' H' w'' hp (St.rebase hw hw')

/-- a function of the table beneath the text -/
theorem quiet_extern {g : Operand} {f : FuncId} {args : Array Operand} {ts : Array TypeId} {vs : List Value} {fn : Func} {e : Array Value → Sem Value} {v : Value}
    (ho : o.op = .call { callee := .value g, args := args, argTypes := ts }) (hg : ev E g = some (.func (.func f) #[] #[])) (he : evs E args.toList = some vs)
    (hfn : C.P.funcs[f]? = some fn) (hnm : (fn.name == "runtime.NumGoroutine") = false) (hbd : fn.body = none) (h1 : Extern.findNext fn = none) (h2 : Extern.find fn = some e)
    (hr : ∀ w, (e vs.toArray).run C.P w = .ok v w) : Quiet C E I H o v :=
  quiet_run (by rw [ho]; rfl) fun a w hs _ => by
    have h3 : args.map a.eval = vs.toArray := by
      rw [← hs.evs he]; cases args; simp
    have hn' : ¬ fn.name = "runtime.NumGoroutine" := by simpa using hnm
    simp only [execOp, ho, resolve, h3, hs.ev hg]
    simp [Deferred.ofValue, invoke, callFunc, hfn, hn', hbd, h1, h2, hr]

/-- 'c && y', 'c || y' of operations that leave things alone, ahead of others -/
theorem l_quietHead {ops : Array Oper} {l : List Oper} (k : Nat) (hs : QS C ops (l.take k) E I H (fun a' => a'.defers = D → ∀ w', St C.w0 I H w' → wpListIn (WF C.r) 0 C.P ops Q (l.drop k) a' w')) : L C ops l E I H D Q := by
  intro a w hsat hd hw
  have h1 := qs_keeps _ a (hs a hsat)
  have := qs_list (Q := Q) (l.take k) (l.drop k) a w (qs_mono (fun a' h' w' hb => h'.1 (h'.2.1.trans hd) w' (hw.garb hb)) _ a h1) hw
  rwa [List.take_append_drop] at this
theorem s_list {ops : Array Oper} {l : List Oper} (h : L C ops l E I H D Q) : QS C ops [] E I H (fun a' => a'.defers = D → ∀ w', St C.w0 I H w' → wpListIn (WF C.r) 0 C.P ops Q l a' w') := fun a hs hd w' hw' => h a w' hs hd hw'
/-- both ways of a bool that is known by name alone -/
theorem l_split {ops : Array Oper} {l : List Oper} {t : Nat} {b : Bool} (hb : get E t = some (.bool b)) (ht : b = true → L C ops l ((t, .bool true) :: E) I H D Q) (hf : b = false → L C ops l ((t, .bool false) :: E) I H D Q) : L C ops l E I H D Q := by
  cases b
  · exact l_sub (sub_cons hb (Sub.refl E)) (hf rfl)
  · exact l_sub (sub_cons hb (Sub.refl E)) (ht rfl)
/-- a guarded operation that is not wanted -/
theorem l_skip {ops : Array Oper} {rest : List Oper} {oj : Oper} {d j dj : Nat} {b b' : Bool} (hg : o.guard = some (j, b)) (hj : ops[j]? = some oj) (hdj : oj.dst = some dj) (hb : get E dj = some (.bool b')) (hbb : (b == b') = false) (hd : o.dst = some d) (hn : Nat.blt d C.n = true)
    (k : L C ops rest ((d, undef) :: E) I H D Q) : L C ops (o :: rest) E I H D Q := by
  intro a w hs hda hw
  have hy := yielded_of (C := C) hs hj hdj hb
  refine wpListIn_step fun K hK => ?_
  rw [if_neg (by
    have : ¬ b' = b := fun e => by subst e; simp at hbb
    simp [Region.wanted, hg, hy, this])]
  refine ⟨fun _ _ => trivial, hK _ _ ?_⟩
  rw [hd]
  exact k _ _ (hs.put (by simpa using hn) undef) (by simpa [Act.put] using hda) hw
/-- a guarded operation that is wanted -/
theorem wanted_g {ops : Array Oper} {oj : Oper} {j dj : Nat} {b : Bool} (hg : o.guard = some (j, b)) (hj : ops[j]? = some oj) (hdj : oj.dst = some dj) (hb : get E dj = some (.bool b)) : ∀ a : Act, Sat E C.n a.tmps → Region.wanted o (yielded ops a.tmps) = true := fun a hs => by
  simp [Region.wanted, hg, yielded_of (C := C) hs hj hdj hb]
theorem wanted_n {ops : Array Oper} (hg : o.guard = none) : ∀ a : Act, Sat E C.n a.tmps → Region.wanted o (yielded ops a.tmps) = true := fun a _ => by simp [Region.wanted, hg]
theorem l_qg {ops : Array Oper} {rest : List Oper} {d : Nat} {v : Value} (hw : ∀ a : Act, Sat E C.n a.tmps → Region.wanted o (yielded ops a.tmps) = true) (hd : o.dst = some d) (hn : Nat.blt d C.n = true)
    (hq : Quiet C E I H o v) (k : L C ops rest ((d, v) :: E) I H D Q) : L C ops (o :: rest) E I H D Q := by
  intro a w hs hda hst
  refine wpListIn_step fun K hK => ?_
  rw [if_pos (hw a hs)]
  refine (hq a w hs hst).wpIn fun w' g => hK _ _ ?_
  rw [hd]
  exact k _ _ (hs.put (by simpa using hn) v) (by simpa [Act.put] using hda) (hst.garb g)
theorem l_eg {ops : Array Oper} {rest : List Oper} {d : Nat} {Post : Value → Look → List HA → Prop} (hw : ∀ a : Act, Sat E C.n a.tmps → Region.wanted o (yielded ops a.tmps) = true) (hd : o.dst = some d) (hn : Nat.blt d C.n = true)
    (he : Eff C E I H o Post) (k : ∀ v I' H', Post v I' H' → L C ops rest ((d, v) :: E) I' H' D Q) : L C ops (o :: rest) E I H D Q := by
  intro a w hs hda hst
  refine wpListIn_step fun K hK => ?_
  rw [if_pos (hw a hs)]
  refine he a w hs hst _ _ fun v I' H' w' hp hw' => hK _ _ ?_
  rw [hd]
  exact k v I' H' hp _ _ (hs.put (by simpa using hn) v) (by simpa [Act.put] using hda) hw'

theorem One.cells {v : Value} (h : One v) : v.cells = [v].toArray := h.1
/-- an owned slice of things of one kind -/
@[reducible] def tvec {α : Type} (T : TypeId) (sz : Nat) (f : α → List Value) (v : Value) (l : List α) : HA := vec v T sz l.length (l.map f).flatten
theorem ones1 {v : Value} (h : One v) : ∀ u ∈ [v], u.oneCell' = true := fun u hu => by
  rw [List.mem_singleton] at hu
  subst hu
  exact h.2
theorem e_appendRow {x y : Operand} {t e e' e2 : TypeId} {n m c sz bytes b : Nat} {v z : Value} {xs cs : List Value} {F : List HA} (ho : o.op = .call { callee := .builtin .append, args := #[x, y], argTypes := #[t, t] })
    (ht : C.P.underlying t = some (.slice e)) (hi : TI C.P e sz bytes z) (hz : z.cells.size = sz) (hsz : Nat.blt 0 sz = true)
    (hx : ev E x = some v) (hy : ev E y = some (.slice (some ⟨b, 0, none⟩) m c)) [hpk : PickVec v e' sz n xs F H] (hee : e = e') [hm : InRow b e2 cs H]
    (hl : cs.length = m * sz) (h1 : ∀ u ∈ cs, u.oneCell' = true) (h63 : n + m ≤ maxLen) (hby : (n + m) * bytes ≤ 140737488355328) :
    Eff C E I H o (fun v' I' H' => I = I' ∧ H' = vec v' e' sz (n + m) (xs ++ cs) :: F) :=
  e_append ho ht hi hz hsz hx hy hee (rds_row (n := cs.length) hm.mem (by simp)) hl h1 h63 hby
theorem e_appendT {α : Type} {f : α → List Value} {l : List α} {x y : Operand} {t e e' e2 : TypeId} {k sz bytes b : Nat} {v z : Value} {cs : List Value} {F : List HA} (c : α) (ho : o.op = .call { callee := .builtin .append, args := #[x, y], argTypes := #[t, t] })
    (ht : C.P.underlying t = some (.slice e)) (hi : TI C.P e sz bytes z) (hz : z.cells.size = sz) (hsz : Nat.blt 0 sz = true)
    (hx : ev E x = some v) (hy : ev E y = some (.slice (some ⟨b, 0, none⟩) 1 k)) [hpk : PickVec v e' sz l.length (l.map f).flatten F H] (hee : e = e') [hm : InRow b e2 cs H] (hc : cs = f c)
    (hl : (f c).length = sz) (h1 : ∀ u ∈ f c, u.oneCell' = true) (h63 : l.length + 1 ≤ maxLen) (hby : (l.length + 1) * bytes ≤ 140737488355328) :
    Eff C E I H o (fun v' I' H' => I = I' ∧ H' = tvec e' sz f v' (l ++ [c]) :: F) := by
  subst hc
  have := e_appendRow (C := C) (I := I) ho ht hi hz hsz hx hy hee (hm := hm) (by rw [hl, Nat.one_mul]) h1 h63 hby
  simpa [tvec] using this
theorem l_freezeT {α : Type} {f : α → List Value} {l : List α} {ops : Array Oper} {os : List Oper} {T : TypeId} {sz : Nat} {F : List HA} (v : Value) [hp : PickVec v T sz l.length (l.map f).flatten F H] (hu : ∀ c, (f c).length = sz)
    (k : ∀ J, Le I J → Sl J sz v (l.map f) → L C ops os E J F D Q) : L C ops os E I H D Q := by
  intro a w hs hd hw
  obtain ⟨J, h1, h2, h3⟩ := st_freeze (hw.perm hp.pick) (by simp) (fun cs hcs => by obtain ⟨c, _, rfl⟩ := List.mem_map.1 hcs; exact hu c)
  exact k J h1 h3 a w hs hd h2
theorem t_freezeT {α : Type} {f : α → List Value} {l : List α} {c : Code} {T : TypeId} {sz : Nat} {F : List HA} (v : Value) [hp : PickVec v T sz l.length (l.map f).flatten F H] (hu : ∀ c, (f c).length = sz)
    (k : ∀ J, Le I J → Sl J sz v (l.map f) → Tri.T C c E J F D Q) : Tri.T C c E I H D Q := by
  intro a w hs hd hw
  obtain ⟨J, h1, h2, h3⟩ := st_freeze (hw.perm hp.pick) (by simp) (fun cs hcs => by obtain ⟨c, _, rfl⟩ := List.mem_map.1 hcs; exact hu c)
  exact k J h1 h3 a w hs hd h2

/-- an owned slice becomes data, in the middle of a walk -/
theorem l_freeze {ops : Array Oper} {l : List Oper} {T : TypeId} {sz n : Nat} {xs : List Value} {F : List HA} (v : Value) (xss : List (List Value)) [hp : PickVec v T sz n xs F H] (hx : xs = xss.flatten) (hn : xss.length = n) (hu : ∀ cs ∈ xss, cs.length = sz)
    (k : ∀ J, Le I J → Sl J sz v xss → L C ops l E J F D Q) : L C ops l E I H D Q := by
  subst hx
  intro a w hs hd hw
  obtain ⟨J, h1, h2, h3⟩ := st_freeze (hw.perm hp.pick) hn hu
  exact k J h1 h3 a w hs hd h2
theorem t_freeze {c : Code} {T : TypeId} {sz n : Nat} {xs : List Value} {F : List HA} (v : Value) (xss : List (List Value)) [hp : PickVec v T sz n xs F H] (hx : xs = xss.flatten) (hn : xss.length = n) (hu : ∀ cs ∈ xss, cs.length = sz)
    (k : ∀ J, Le I J → Sl J sz v xss → Tri.T C c E J F D Q) : Tri.T C c E I H D Q := by
  subst hx
  intro a w hs hd hw
  obtain ⟨J, h1, h2, h3⟩ := st_freeze (hw.perm hp.pick) hn hu
  exact k J h1 h3 a w hs hd h2
/-- what is owned may be told otherwise -/
theorem l_heap {ops : Array Oper} {l : List Oper} {I' : Look} {H' : List HA} (h : L C ops l E I' H' D Q) (hi : ∀ w, St C.w0 I H w → St C.w0 I' H' w) : L C ops l E I H D Q := fun a w s hd hw => h a w s hd (hi w hw)
theorem vec_one {v : Value} {T : TypeId} {sz n : Nat} {xs : List Value} {w0 w : World} (hw : St w0 I H w) [hm : InVec v T sz n xs H] : One v := by
  obtain ⟨_, hh⟩ := hw.sat _ hm.mem
  rcases hh with ⟨rfl, _⟩ | ⟨g, cap, cur, rfl, _⟩ <;> exact ⟨rfl, rfl⟩
/-- an owned slice is one cell -/
theorem l_one {ops : Array Oper} {l : List Oper} {T : TypeId} {sz n : Nat} {xs : List Value} (v : Value) [hm : InVec v T sz n xs H] (k : One v → L C ops l E I H D Q) : L C ops l E I H D Q := fun a w hs hd hw => k (vec_one hw) a w hs hd hw
theorem t_one {c : Code} {T : TypeId} {sz n : Nat} {xs : List Value} (v : Value) [hm : InVec v T sz n xs H] (k : One v → Tri.T C c E I H D Q) : Tri.T C c E I H D Q := fun a w hs hd hw => k (vec_one hw) a w hs hd hw
theorem r_one {ops : Array Oper} {X Z : List Nat} {I0 : Look} {R0 : List HA} {fuel : Nat} {listed : Array Bool} {T : TypeId} {sz n : Nat} {xs : List Value} (v : Value) [hm : InVec v T sz n xs H] (k : One v → R C ops X Z I0 R0 fuel listed E I H D Q) : R C ops X Z I0 R0 fuel listed E I H D Q :=
  fun hpl hQ a w hs hd hw => k (vec_one hw) hpl hQ a w hs hd hw
theorem r_heap {ops : Array Oper} {X Z : List Nat} {I0 : Look} {R0 : List HA} {fuel : Nat} {listed : Array Bool} {I' : Look} {H' : List HA} (k : R C ops X Z I0 R0 fuel listed E I' H' D Q) (hi : ∀ w, St C.w0 I H w → St C.w0 I' H' w) : R C ops X Z I0 R0 fuel listed E I H D Q :=
  fun hpl hQ a w hs hd hw => k hpl hQ a w hs hd (hi w hw)
theorem Sl.lenOf {sz n : Nat} {v : Value} {xss : List (List Value)} (h : Sl I sz v xss) (hn : xss.length = n) : ∃ A c, v = .slice A n c := by
  obtain ⟨⟨A, c, rfl, _⟩, _⟩ := h
  exact ⟨A, c, by rw [hn]⟩
theorem Sl.rd {w0 : World} {sz : Nat} {v u : Value} {xss : List (List Value)} (h : Sl I sz v xss) {i j : Nat} {cs : List Value} (hi : xss[i]? = some cs) (hj : cs[j]? = some u) : Rd w0 I H (adr v).block ((adr v).off + i * sz + j) u := rd_imm (h.2 i j cs u hi hj)
theorem Sl.rds {w0 : World} {sz : Nat} {v : Value} {xss : List (List Value)} (h : Sl I sz v xss) {i : Nat} {cs : List Value} (hi : xss[i]? = some cs) : Rds w0 I H (adr v).block ((adr v).off + i * sz) cs := fun _ _ hj => h.rd hi hj
theorem Rds.rd0 {w0 : World} {b k : Nat} {u : Value} {us : List Value} (h : Rds w0 I H b k (u :: us)) : Rd w0 I H b k u := h 0 u rfl

/-- several rows at once, and what is left -/
class Picks (Ms : List HA) (F : outParam (List HA)) (H : List HA) : Prop where
  perm : H.Perm (Ms ++ F)
instance picks_nil {H : List HA} : Picks [] H H := ⟨List.Perm.refl _⟩
instance picks_cons {x : HA} {Ms F F' H : List HA} [p : PickI x F' H] [h : Picks Ms F F'] : Picks (x :: Ms) F H := ⟨p.pick.trans (List.Perm.cons x h.perm)⟩
theorem picks_st {w0 w : World} {Ms F : List HA} [h : Picks Ms F H] (hw : St w0 I H w) : St w0 I (Ms ++ F) w := hw.perm h.perm

theorem picks_st1 {w0 w : World} {F : List HA} (a : HA) [h : Picks [a] F H] (hw : St w0 I H w) : St w0 I (a :: F) w := hw.perm h.perm
theorem picks_st2 {w0 w : World} {F : List HA} (a b : HA) [h : Picks [a, b] F H] (hw : St w0 I H w) : St w0 I (a :: b :: F) w := hw.perm h.perm
theorem picks_st3 {w0 w : World} {F : List HA} (a b c : HA) [h : Picks [a, b, c] F H] (hw : St w0 I H w) : St w0 I (a :: b :: c :: F) w := hw.perm h.perm
theorem picks_st4 {w0 w : World} {F : List HA} (a b c d : HA) [h : Picks [a, b, c, d] F H] (hw : St w0 I H w) : St w0 I (a :: b :: c :: d :: F) w := hw.perm h.perm

/-- an owned row that will not turn any more becomes data -/
theorem st_freezeRow {w0 w : World} {b : Nat} {T : TypeId} {cs : List Value} {F : List HA} (h : St w0 I (row b T cs :: F) w) :
    ∃ J, Le I J ∧ St w0 J F w ∧ ∀ k u, cs[k]? = some u → CellI J b k u := by
  have hb : w.heap[b]? = some (.cells cs.toArray T (0, 0)) := h.sat _ (List.mem_cons_self)
  have hIb : I b = none := h.dis _ (List.mem_cons_self) b rfl
  let J : Look := fun k => if k = b then some (.cells cs.toArray T (0, 0)) else I k
  refine ⟨J, fun k o hk => ?_, ?_, fun k u hu => ⟨cs.toArray, T, (0, 0), by show (if b = b then _ else _) = _; rw [if_pos rfl], by simpa using hu⟩⟩
  · show (if k = b then _ else I k) = _
    split
    · rename_i e; subst e; rw [hIb] at hk; cases hk
    · exact hk
  · refine { h.tail with imm := fun k o hk => ?_, dis := fun y hy k hk => ?_ }
    · have hk' : (if k = b then some (Obj.cells cs.toArray T (0, 0)) else I k) = some o := hk
      by_cases e : k = b
      · subst e
        rw [if_pos rfl] at hk'
        cases hk'
        exact hb
      · rw [if_neg e] at hk'
        exact h.imm k o hk'
    · show (if k = b then _ else I k) = none
      by_cases e : k = b
      · subst e
        exfalso
        have hsep := h.sep
        unfold owns at hsep
        rw [List.filterMap_cons] at hsep
        exact (List.nodup_cons.1 hsep).1 (List.mem_filterMap.2 ⟨y, hy, hk⟩)
      · rw [if_neg e]
        exact h.tail.dis y hy k hk
theorem t_freezeRow {c : Code} {T : TypeId} {cs : List Value} {F : List HA} (b : Nat) [hp : PickRow b T cs F H] (k : ∀ J, Le I J → (∀ k u, cs[k]? = some u → CellI J b k u) → Tri.T C c E J F D Q) : Tri.T C c E I H D Q := by
  intro a w hs hd hw
  obtain ⟨J, h1, h2, h3⟩ := st_freezeRow (hw.perm hp.pick)
  exact k J h1 h3 a w hs hd h2
/-- a nil slice is an owned row of nothing -/
theorem st_nilVec {w0 w : World} {F : List HA} (T : TypeId) (sz : Nat) (h : St w0 I F w) : St w0 I (vec (.slice none 0 0) T sz 0 [] :: F) w :=
  { h with
    sat := fun x hx => by
      rcases List.mem_cons.1 hx with rfl | hx
      · exact ⟨by simp, .inl ⟨rfl, rfl⟩⟩
      · exact h.sat x hx
    sep := h.sep
    dis := fun x hx b hb => by
      rcases List.mem_cons.1 hx with rfl | hx
      · cases hb
      · exact h.dis x hx b hb }
theorem st_nilT {α : Type} {w0 w : World} {F : List HA} (T : TypeId) (sz : Nat) (f : α → List Value) (h : St w0 I F w) : St w0 I (tvec T sz f (.slice none 0 0) [] :: F) w := st_nilVec T sz h
/-- a row that is just a slice's -/
theorem st_rowVec {w0 w : World} {F : List HA} {b : Nat} {T : TypeId} {sz n : Nat} {cs : List Value} (h : St w0 I (row b T cs :: F) w) (hl : cs.length = n * sz) (hn : n ≤ maxLen) : St w0 I (vec (.slice (some ⟨b, 0, none⟩) n n) T sz n cs :: F) w := by
  have hb : w.heap[b]? = some (.cells cs.toArray T (0, 0)) := h.sat _ (List.mem_cons_self)
  exact { h with
    sat := fun x hx => by
      rcases List.mem_cons.1 hx with rfl | hx
      · exact ⟨hl, .inr ⟨b, n, cs.toArray, rfl, hb, Nat.le_refl _, hn, by simpa using hl, by simp [← hl]⟩⟩
      · exact h.sat x (List.mem_cons_of_mem _ hx)
    sep := h.sep
    dis := fun x hx b' hb' => by
      rcases List.mem_cons.1 hx with rfl | hx
      · cases hb'
        exact h.dis _ (List.mem_cons_self) b rfl
      · exact h.dis x (List.mem_cons_of_mem _ hx) b' hb' }
end ops
end Go.Tri
