/-
  Operations that turn memory: new rows, stores, append.
-/
import Derived.Test.YtfnmioggkmkmcaaDoorTriMem
namespace Go.Tri
open Go.RowKit

def Pick (H : List HA) (x : HA) (F : List HA) : Prop := H.Perm (x :: F)
theorem pick_head {x : HA} {F : List HA} : Pick (x :: F) x F := List.Perm.refl _
theorem pick_tail {x y : HA} {H F : List HA} (h : Pick H x F) : Pick (y :: H) x (y :: F) := (List.Perm.cons y h).trans (List.Perm.swap x y F)

def SubH (H H' : List HA) : Prop := ∃ G, H.Perm (G ++ H')
theorem subH_refl (H : List HA) : SubH H H := ⟨[], List.Perm.refl _⟩
theorem subH_nil (H : List HA) : SubH H [] := ⟨H, by simp⟩
theorem subH_drop {x : HA} {H H' : List HA} (h : SubH H H') : SubH (x :: H) H' := by
  obtain ⟨G, h⟩ := h
  exact ⟨x :: G, List.Perm.cons x h⟩
theorem subH_cons {x : HA} {H F H' : List HA} (p : Pick H x F) (h : SubH F H') : SubH H (x :: H') := by
  obtain ⟨G, h⟩ := h
  exact ⟨G, (p.trans (List.Perm.cons x h)).trans List.perm_middle.symm⟩
theorem St.drops {w0 w : World} {I : Look} : ∀ {G H : List HA}, St w0 I (G ++ H) w → St w0 I H w
  | [], _, h => h
  | _ :: G, _, h => St.drops (G := G) h.tail
theorem St.sub {w0 w : World} {I : Look} {H H' : List HA} (h : St w0 I H w) (s : SubH H H') : St w0 I H' w := by
  obtain ⟨G, p⟩ := s
  exact (h.perm p).drops

class InRow (b : Nat) (T : outParam TypeId) (cs : outParam (List Value)) (H : List HA) : Prop where
  mem : row b T cs ∈ H
instance inRow_head {b : Nat} {T : TypeId} {cs : List Value} {H : List HA} : InRow b T cs (row b T cs :: H) := ⟨List.mem_cons_self⟩
instance (priority := low) inRow_tail {b : Nat} {T : TypeId} {cs : List Value} {y : HA} {H : List HA} [h : InRow b T cs H] : InRow b T cs (y :: H) := ⟨List.mem_cons_of_mem _ h.mem⟩
class InVec (v : Value) (T : outParam TypeId) (sz n : outParam Nat) (xs : outParam (List Value)) (H : List HA) : Prop where
  mem : vec v T sz n xs ∈ H
instance inVec_head {v : Value} {T : TypeId} {sz n : Nat} {xs : List Value} {H : List HA} : InVec v T sz n xs (vec v T sz n xs :: H) := ⟨List.mem_cons_self⟩
instance (priority := low) inVec_tail {v : Value} {T : TypeId} {sz n : Nat} {xs : List Value} {y : HA} {H : List HA} [h : InVec v T sz n xs H] : InVec v T sz n xs (y :: H) := ⟨List.mem_cons_of_mem _ h.mem⟩
class PickRow (b : Nat) (T : outParam TypeId) (cs : outParam (List Value)) (F : outParam (List HA)) (H : List HA) : Prop where
  pick : Pick H (row b T cs) F
instance pickRow_head {b : Nat} {T : TypeId} {cs : List Value} {F : List HA} : PickRow b T cs F (row b T cs :: F) := ⟨pick_head⟩
instance (priority := low) pickRow_tail {b : Nat} {T : TypeId} {cs : List Value} {y : HA} {F H : List HA} [h : PickRow b T cs F H] : PickRow b T cs (y :: F) (y :: H) := ⟨pick_tail h.pick⟩
class PickVec (v : Value) (T : outParam TypeId) (sz n : outParam Nat) (xs : outParam (List Value)) (F : outParam (List HA)) (H : List HA) : Prop where
  pick : Pick H (vec v T sz n xs) F
instance pickVec_head {v : Value} {T : TypeId} {sz n : Nat} {xs : List Value} {F : List HA} : PickVec v T sz n xs F (vec v T sz n xs :: F) := ⟨pick_head⟩
instance (priority := low) pickVec_tail {v : Value} {T : TypeId} {sz n : Nat} {xs : List Value} {y : HA} {F H : List HA} [h : PickVec v T sz n xs F H] : PickVec v T sz n xs (y :: F) (y :: H) := ⟨pick_tail h.pick⟩
class PickI (x : HA) (F : outParam (List HA)) (H : List HA) : Prop where
  pick : Pick H x F
instance pickI_head {x : HA} {F : List HA} : PickI x F (x :: F) := ⟨pick_head⟩
instance (priority := low) pickI_tail {x y : HA} {F H : List HA} [h : PickI x F H] : PickI x (y :: F) (y :: H) := ⟨pick_tail h.pick⟩
class SubC (H H' : List HA) : Prop where
  sub : SubH H H'
instance subC_refl {H : List HA} : SubC H H := ⟨subH_refl H⟩
instance (priority := low) subC_cons {x : HA} {H F H' : List HA} [p : PickI x F H] [h : SubC F H'] : SubC H (x :: H') := ⟨subH_cons p.pick h.sub⟩
instance subC_nil {H : List HA} : SubC H [] := ⟨⟨H, by simp⟩⟩
instance (priority := low) subC_drop {x : HA} {H H' : List HA} [h : SubC H H'] : SubC (x :: H) H' := ⟨subH_drop h.sub⟩
theorem subC_st {w0 w : World} {I : Look} {H H' : List HA} [h : SubC H H'] (hw : St w0 I H w) : St w0 I H' w := hw.sub h.sub

section ops
variable {C : Cx} {E : Env} {I : Look} {H : List HA} {D : List Deferred} {Q : Exit → Act → World → Prop} {o : Oper}

def Eff (C : Cx) (E : Env) (I : Look) (H : List HA) (o : Oper) (Post : Value → Look → List HA → Prop) : Prop :=
  ∀ (a : Act) (w : World), Sat E C.n a.tmps → St C.w0 I H w → ∀ (K : Act → World → Prop) (Q : Exit → Act → World → Prop),
    (∀ v I' H' w', Post v I' H' → St C.w0 I' H' w' → K (a.put o.dst v) w') → o.wpIn (WF C.r) 0 C.P a w K Q

theorem l_e {ops : Array Oper} {rest : List Oper} {d : Nat} {Post : Value → Look → List HA → Prop} (hg : o.guard = none) (hd : o.dst = some d) (hn : Nat.blt d C.n = true)
    (he : Eff C E I H o Post) (k : ∀ v I' H', Post v I' H' → L C ops rest ((d, v) :: E) I' H' D Q) : L C ops (o :: rest) E I H D Q := by
  intro a w hs hda hw
  refine wpListIn_plain hg fun K hK => he a w hs hw K Q fun v I' H' w' hp hw' => hK _ _ ?_
  rw [hd]
  exact k v I' H' hp _ _ (hs.put (by simpa using hn) v) (by simpa [Act.put] using hda) hw'
theorem l_e0 {ops : Array Oper} {rest : List Oper} {Post : Value → Look → List HA → Prop} (hg : o.guard = none) (hd : o.dst = none)
    (he : Eff C E I H o Post) (k : ∀ v I' H', Post v I' H' → L C ops rest E I' H' D Q) : L C ops (o :: rest) E I H D Q := by
  intro a w hs hda hw
  refine wpListIn_plain hg fun K hK => he a w hs hw K Q fun v I' H' w' hp hw' => hK _ _ ?_
  rw [hd]
  exact k v I' H' hp _ _ hs hda hw'

theorem q_load_row {x : Operand} {t T : TypeId} {d : TypeDesc} {b off : Nat} {u : Value} {cs : List Value} (ho : o.op = .load t x) (ht : C.P.underlying t = some d) (hd : notAgg d = true)
    (hx : ev E x = some (.pointer (some ⟨b, off, none⟩))) [hm : InRow b T cs H] (hu : cs[off]? = some u) : Quiet C E I H o u := q_load ho ht hd hx (rd_row hm.mem hu)
theorem q_load_vec {x : Operand} {t T : TypeId} {d : TypeDesc} {sz n j : Nat} {v u : Value} {xs : List Value} (ho : o.op = .load t x) (ht : C.P.underlying t = some d) (hd : notAgg d = true)
    (hx : ev E x = some (.pointer (some ⟨(adr v).block, (adr v).off + j, none⟩))) [hm : InVec v T sz n xs H] (hu : xs[j]? = some u) : Quiet C E I H o u := q_load ho ht hd hx (rd_vec hm.mem hu)
theorem q_load_rowA {x : Operand} {t T : TypeId} {fs : Array Field} {b off n bytes : Nat} {z : Value} {cs us : List Value} (ho : o.op = .load t x) (ht : C.P.underlying t = some (.struct fs)) (hi : TI C.P t n bytes z)
    (hx : ev E x = some (.pointer (some ⟨b, off, none⟩))) [hm : InRow b T cs H] (hu : (cs.drop off).take n = us) (hn : us.length = n) : Quiet C E I H o (.agg us.toArray) := q_load_agg ho ht hi hn hx (rds_row hm.mem hu)
theorem q_lenV {x : Operand} {t e te : TypeId} {v : Value} {n sz : Nat} {xs : List Value} (ho : o.op = .call { callee := .builtin .len, args := #[x], argTypes := #[t] }) (ht : C.P.underlying t = some (.slice e)) (hx : ev E x = some v)
    [hm : InVec v te sz n xs H] : Quiet C E I H o (.int .i64 (n : Int)) := q_len_vec ho ht hx hm.mem
theorem q_indexAddrV {x i : Operand} {t e te : TypeId} {v z : Value} {k : IntKind} {m : Int} {n sz sz' bytes : Nat} {xs : List Value} (ho : o.op = .indexAddr t x i) (ht : C.P.underlying t = some (.slice e)) (hi : TI C.P e sz bytes z)
    (hx : ev E x = some v) (hix : ev E i = some (.int k m)) [hm : InVec v te sz' n xs H] (h0 : 0 ≤ m ∧ m < n) :
    Quiet C E I H o (.pointer (some ⟨(adr v).block, (adr v).off + m.toNat * sz, none⟩)) := q_indexAddr_vec ho ht hi hx hix hm.mem h0

/-- a quiet operation whose value is not wanted, or has no slot -/
theorem l_q0 {ops : Array Oper} {rest : List Oper} {v : Value} (hg : o.guard = none) (hd : o.dst = none)
    (hq : Quiet C E I H o v) (k : L C ops rest E I H D Q) : L C ops (o :: rest) E I H D Q := by
  intro a w hs hda hw
  refine wpListIn_plain hg fun K hK => (hq a w hs hw).wpIn fun w' g => hK _ _ ?_
  rw [hd]
  exact k _ _ hs hda (hw.garb g)

theorem run_newRow {P : Program} {w : World} {t : TypeId} {c : Array Value} : (newRow t c).run P w = .ok ⟨w.heap.size, 0, none⟩ (w.alloc (.cells c t)) := by
  unfold newRow
  rfl

theorem eff_new {x : Value → Value} {T : TypeId} {cs : List Value} (hp : plainOp o.op = true)
    (hr : ∀ (a : Act) (w : World), Sat E C.n a.tmps → St C.w0 I H w → (execOp a.eval o).run C.P w = .ok (.value (x (.pointer (some ⟨w.heap.size, 0, none⟩)))) (w.alloc (.cells cs.toArray T))) :
    Eff C E I H o (fun v I' H' => ∃ b, v = x (.pointer (some ⟨b, 0, none⟩)) ∧ I = I' ∧ H' = row b T cs :: H) :=
  fun a w hs hw K Q hk => wpIn_of_run hp (hr a w hs hw) (hk _ _ _ _ ⟨w.heap.size, rfl, rfl, rfl⟩ (hw.new _))

theorem e_box {x : Operand} {T : TypeId} {v : Value} {cs : List Value} (ho : o.op = .box T x) (hx : ev E x = some v) (hc : v.cells = cs.toArray) :
    Eff C E I H o (fun v I' H' => ∃ b, v = .pointer (some ⟨b, 0, none⟩) ∧ I = I' ∧ H' = row b T cs :: H) :=
  eff_new (x := id) (by rw [ho]; rfl) fun a w hs _ => by
    simp only [execOp, ho, hs.ev hx, Instr.box, newVar, hc]
    simp [run_newRow]
theorem e_alloc {T : TypeId} {n bytes : Nat} {z : Value} {cs : List Value} (ho : o.op = .alloc T) (hi : TI C.P T n bytes z) (hc : z.cells = cs.toArray) :
    Eff C E I H o (fun v I' H' => ∃ b, v = .pointer (some ⟨b, 0, none⟩) ∧ I = I' ∧ H' = row b T cs :: H) :=
  eff_new (x := id) (by rw [ho]; rfl) fun a w hs _ => by
    simp only [execOp, ho, Instr.alloc]
    simp [hi.zero, newVar, hc, run_newRow]

theorem fill_one {z c : Array Value} (h : c.size = z.size) : Instr.fill (fun i => some (i * c.size, c.size)) z [(0, .agg c)] = some c := by
  simp only [Instr.fill, Value.cells, Nat.zero_mul, Nat.zero_add, ne_eq, not_true_eq_false, h, Nat.lt_irrefl, false_or, if_false, gt_iff_lt, Option.some.injEq]
  have key : ∀ (l : List Value) (k : Nat) (A : Array Value), k + l.length = A.size → (l.zipIdx k).foldl (fun cs (x : Value × Nat) => cs.setIfInBounds x.2 x.1) A = (A.toList.take k ++ l).toArray := by
    intro l
    induction l with
    | nil =>
      intro k A hk
      simp only [List.length_nil, Nat.add_zero] at hk
      subst hk
      rw [← Array.length_toList, List.take_length]
      simp
    | cons v l ih =>
      intro k A hk
      simp only [List.length_cons] at hk
      rw [List.zipIdx_cons, List.foldl_cons, ih (k + 1) _ (by simp; omega)]
      congr 1
      simp only [Array.toList_setIfInBounds]
      rw [List.take_set, List.set_eq_take_append_cons_drop, if_pos (by simp; omega), List.take_take, Nat.min_eq_left (by omega)]
      simp
  have := key c.toList 0 z (by simp [h])
  rw [← Array.foldl_toList]
  simpa using this

theorem e_buildSlice1 {x : Operand} {t e : TypeId} {n bytes : Nat} {v z : Value} {cs : List Value} (ho : o.op = .buildSlice t 1 #[(0, x)]) (ht : C.P.underlying t = some (.slice e)) (hi : TI C.P e n bytes z) (hn : Nat.ble 1 n && Nat.ble n 1000 = true) (hz : z.cells.size = n)
    (hx : ev E x = some v) (hc : v.cells = cs.toArray) (hl : cs.length = n) :
    Eff C E I H o (fun v I' H' => ∃ b, v = .slice (some ⟨b, 0, none⟩) 1 1 ∧ I = I' ∧ H' = row b e cs :: H) := by
  refine eff_new (x := fun p => match p with | .pointer a => .slice a 1 1 | _ => p) (by rw [ho]; rfl) fun a w hs _ => ?_
  have hn : 1 ≤ n ∧ n ≤ 1000 := by simpa using hn
  have hf : Instr.fill (fun i => some (i * n, n)) ((Array.range (1 * n)).map (z.cells[· % z.cells.size]!)) [(0, v)] = some cs.toArray := by
    have h1 := fill_one (z := (Array.range (1 * n)).map (z.cells[· % z.cells.size]!)) (c := cs.toArray) (by simp [hl])
    have h2 : cs.toArray.size = n := by simpa using hl
    rw [h2] at h1
    rw [← h1]
    simp only [Instr.fill, hc]
    rfl
  simp only [execOp, ho, Instr.buildSlice]
  simp [run_underlying ht, hi.sizeOf, hi.zero, show ¬ (16777216 < n) from by omega, show ¬ n = 0 from by omega, hs.ev hx]
  simp only [Nat.one_mul] at hf
  rw [hf]
  simp [run_newRow]

/-- a store of one cell -/
theorem run_store1 {P : Program} {w : World} {b off : Nat} {T : TypeId} {cs : List Value} {v : Value} (h1 : v.oneCell' = true) (hw : w.heap[b]? = some (.cells cs.toArray T (0, 0))) (hlt : off < cs.length) :
    (store ⟨b, off, none⟩ v).run P w = .ok () (w.setCell ⟨b, off, none⟩ v) := by
  have hcell : w.cell? ⟨b, off, none⟩ = some cs[off] := by
    unfold World.cell?
    simp [hw, hlt]
  have hfz : w.frozen? ⟨b, off, none⟩ = false := by
    unfold World.frozen?
    simp [hw]
  rw [run_store P w _ v .plain h1]
  simp [stored, hcell, hfz]
theorem heap_setCell_row {w : World} {b off : Nat} {T : TypeId} {cs : List Value} {v : Value} (hw : w.heap[b]? = some (.cells cs.toArray T (0, 0))) :
    (w.setCell ⟨b, off, none⟩ v).heap[b]? = some (.cells (cs.set off v).toArray T (0, 0)) := by
  simp [World.setCell, Array.getElem?_modify, hw]
theorem st_set {w0 w : World} {F : List HA} {b off : Nat} {T : TypeId} {cs : List Value} (v : Value) (h : St w0 I (row b T cs :: F) w) : St w0 I (row b T (cs.set off v) :: F) (w.setCell ⟨b, off, none⟩ v) := by
  have hb : w.heap[b]? = some (.cells cs.toArray T (0, 0)) := h.sat _ (List.mem_cons_self)
  refine h.turn rfl rfl rfl (by simp) (fun k _ hk => Below.heap_setCell _ _ _ _ (fun e => hk (by rw [e]; rfl))) ?_ (.inl rfl)
  exact heap_setCell_row hb

theorem e_store {p x : Operand} {t T : TypeId} {b off bytes : Nat} {v z : Value} {cs : List Value} {F : List HA} (ho : o.op = .store t p x) (hi : TI C.P t 1 bytes z)
    (hp : ev E p = some (.pointer (some ⟨b, off, none⟩))) (hx : ev E x = some v) (h1 : One v) [hpk : PickRow b T cs F H] (hlt : Nat.blt off cs.length = true) :
    Eff C E I H o (fun _ I' H' => I = I' ∧ H' = row b T (cs.set off v) :: F) := by
  intro a w hs hw K Q hk
  have hw' := hw.perm hpk.pick
  have hb : w.heap[b]? = some (.cells cs.toArray T (0, 0)) := hw'.sat _ (List.mem_cons_self)
  refine wpIn_of_skip (by rw [ho]; rfl) ?_ (hk undef I _ _ ⟨rfl, rfl⟩ (st_set v hw'))
  simp only [execOp, ho, hs.ev hp, hs.ev hx, Instr.storeAt, Instr.sureAddr, storeVar, h1.1]
  simp [hi.sizeOf, storeCells, Addr.add_zero', run_store1 h1.2 hb (by simpa using hlt)]

theorem run_storeCells {P : Program} {T : TypeId} {b off : Nat} : ∀ (us : List Value) (i : Nat) (cs : List Value) (w : World), (∀ u ∈ us, u.oneCell' = true) → off + i + us.length ≤ cs.length → w.heap[b]? = some (.cells cs.toArray T (0, 0)) →
    ∃ w', (storeCells ⟨b, off, none⟩ us i).run P w = .ok () w' ∧ w'.heap[b]? = some (.cells (cs.take (off + i) ++ us ++ cs.drop (off + i + us.length)).toArray T (0, 0)) ∧ w'.os = w.os ∧ w'.tape = w.tape ∧ w'.output = w.output ∧ w'.heap.size = w.heap.size ∧ (∀ k, k ≠ b → w'.heap[k]? = w.heap[k]?)
  | [], i, cs, w, _, _, hw => ⟨w, by simp [storeCells], by simpa using hw, rfl, rfl, rfl, rfl, fun _ _ => rfl⟩
  | u :: us, i, cs, w, h1, hl, hw => by
    simp only [List.length_cons] at hl
    have hs := run_store1 (P := P) (off := off + i) (h1 u (List.mem_cons_self)) hw (by omega)
    obtain ⟨w', r1, r2, r3, r4, r5, r6, r7⟩ := run_storeCells (P := P) (T := T) (b := b) (off := off) us (i + 1) (cs.set (off + i) u) (w.setCell ⟨b, off + i, none⟩ u) (fun x hx => h1 x (List.mem_cons_of_mem _ hx)) (by rw [List.length_set]; omega) (heap_setCell_row hw)
    refine ⟨w', ?_, ?_, r3, r4, r5, by rw [r6]; simp, fun k hk => (r7 k hk).trans (Below.heap_setCell _ _ _ _ hk)⟩
    · unfold storeCells
      rw [Sem.run_bind, Addr.add_lit, hs]
      simpa using r1
    · rw [r2]
      congr 3
      rw [show off + (i + 1) = off + i + 1 by omega, List.take_set, List.take_succ_eq_append_getElem (by omega), List.set_append_right _ _ (by simp; omega)]
      simp only [List.length_take, List.length_cons]
      rw [show off + i - min (off + i) cs.length = 0 by omega]
      simp only [List.set_cons_zero, List.append_assoc, List.cons_append, List.nil_append]
      rw [List.drop_set_of_lt (by omega)]
      congr 4
      omega

theorem e_store_agg {p x : Operand} {t T : TypeId} {b off n bytes : Nat} {z : Value} {cs us : List Value} {F : List HA} (ho : o.op = .store t p x) (hi : TI C.P t n bytes z)
    (hp : ev E p = some (.pointer (some ⟨b, off, none⟩))) (hx : ev E x = some (.agg us.toArray)) (hn : us.length = n) (h1 : ∀ u ∈ us, u.oneCell' = true) [hpk : PickRow b T cs F H] (hlt : Nat.ble (off + n) cs.length = true) :
    Eff C E I H o (fun _ I' H' => I = I' ∧ H' = row b T (cs.take off ++ us ++ cs.drop (off + n)) :: F) := by
  intro a w hs hw K Q hk
  have hw' := hw.perm hpk.pick
  have hb : w.heap[b]? = some (.cells cs.toArray T (0, 0)) := hw'.sat _ (List.mem_cons_self)
  obtain ⟨w', r1, r2, r3, r4, r5, r6, r7⟩ := run_storeCells (P := C.P) (off := off) us 0 cs w h1 (by simp at hlt; omega) hb
  simp only [Nat.add_zero, hn] at r2
  refine wpIn_of_skip (w' := w') (by rw [ho]; rfl) ?_ (hk undef I _ _ ⟨rfl, rfl⟩ (hw'.turn r3 r4 r5 (by omega) (fun k _ hk => r7 k (fun e => hk (by rw [e]; rfl))) r2 (.inl rfl)))
  simp only [execOp, ho, hs.ev hp, hs.ev hx, Instr.storeAt, Instr.sureAddr, storeVar, Value.cells]
  subst hn
  simp [hi.sizeOf, r1]

theorem e_store_all {p x : Operand} {t T : TypeId} {b n bytes : Nat} {z : Value} {cs us : List Value} {F : List HA} (ho : o.op = .store t p x) (hi : TI C.P t n bytes z)
    (hp : ev E p = some (.pointer (some ⟨b, 0, none⟩))) (hx : ev E x = some (.agg us.toArray)) (hn : us.length = n) (h1 : ∀ u ∈ us, u.oneCell' = true) [hpk : PickRow b T cs F H] (hlt : cs.length = n) :
    Eff C E I H o (fun _ I' H' => I = I' ∧ H' = row b T us :: F) := by
  have := e_store_agg (C := C) (E := E) (I := I) (H := H) (off := 0) ho hi hp hx hn h1 (by simp [hlt])
  intro a w hs hw K Q hk
  refine this a w hs hw K Q fun v I' H' w' hp' hw' => hk v I' H' w' ⟨hp'.1, ?_⟩ hw'
  rw [hp'.2]
  simp [List.drop_of_length_le (Nat.le_of_eq hlt)]

theorem vec_owns {w : World} {v : Value} {T : TypeId} {sz n : Nat} {xs : List Value} : vecSat v T sz n xs (look w) ↔ w.ownsRow 0 T sz v n xs := by
  constructor
  · rintro ⟨h1, h2 | ⟨g, cap, cur, h2, h3, h4⟩⟩
    · exact ⟨h1, .inl h2⟩
    · exact ⟨h1, .inr ⟨g, cap, cur, h2, Nat.zero_le _, h3, h4⟩⟩
  · rintro ⟨h1, h2 | ⟨g, cap, cur, h2, _, h3, h4⟩⟩
    · exact ⟨h1, .inl h2⟩
    · exact ⟨h1, .inr ⟨g, cap, cur, h2, h3, h4⟩⟩

theorem e_append {x y : Operand} {t e e' : TypeId} {n m c sz bytes b off : Nat} {v z : Value} {xs news : List Value} {F : List HA} (ho : o.op = .call { callee := .builtin .append, args := #[x, y], argTypes := #[t, t] })
    (ht : C.P.underlying t = some (.slice e)) (hi : TI C.P e sz bytes z) (hz : z.cells.size = sz) (hsz : Nat.blt 0 sz = true)
    (hx : ev E x = some v) (hy : ev E y = some (.slice (some ⟨b, off, none⟩) m c)) [hpk : PickVec v e' sz n xs F H] (hee : e = e')
    (hr : Rds C.w0 I H b off news) (hl : news.length = m * sz) (h1 : ∀ u ∈ news, u.oneCell' = true) (h63 : n + m ≤ maxLen) (hby : (n + m) * bytes ≤ 140737488355328) :
    Eff C E I H o (fun v' I' H' => I = I' ∧ H' = vec v' e' sz (n + m) (xs ++ news) :: F) := by
  subst hee
  intro a w hs hw K Q hk
  have hw' := hw.perm hpk.pick
  have hv : vecSat v e sz n xs (look w) := hw'.sat _ (List.mem_cons_self)
  obtain ⟨i, hii, hi1, hi2, hi3⟩ := hi
  obtain ⟨v', w', hrun, ho', hg, _, hob⟩ := run_append_own_at (P := C.P) w 0 t o.type e i z sz bytes ht hii hi3 hi1 hi2 hz (by simpa using hsz) v n xs (vec_owns.1 hv) ⟨b, off, none⟩ m c news hl
    (fun j u hj => by rw [Addr.add_lit]; exact hr j u hj w hw) h1 h63 hby (Nat.zero_le _)
  refine wpIn_of_run (v := v') (w' := w') (by rw [ho]; rfl) ?_ (hk v' I _ w' ⟨rfl, rfl⟩ (hw'.turn (x := vec v e sz n xs) hg.os hg.tape hg.output hg.size (fun k hk hne => hg.block k hk hne) (vec_owns.2 ho') ?_))
  · simp only [execOp, ho, resolve]
    simp [hs.ev hx, hs.ev hy, invoke, builtin, hrun]
  · rcases hob with e | e
    · exact .inl e
    · exact .inr ⟨_, e, Nat.le_refl _⟩

/-- an owned slice that will not turn any more becomes data -/
theorem st_freeze {w0 w : World} {v : Value} {T : TypeId} {sz n : Nat} {xss : List (List Value)} {F : List HA} (h : St w0 I (vec v T sz n xss.flatten :: F) w) (hn : xss.length = n) (hu : ∀ cs ∈ xss, cs.length = sz) :
    ∃ J, Le I J ∧ St w0 J F w ∧ Sl J sz v xss := by
  have hv : vecSat v T sz n xss.flatten (look w) := h.sat _ (List.mem_cons_self)
  have hdis := h.dis _ (List.mem_cons_self)
  obtain ⟨hl, hs⟩ := hv
  rcases hs with ⟨rfl, rfl⟩ | ⟨g, cap, cur, rfl, hg, hc1, hc2, hc3, hc4⟩
  · have : xss = [] := List.eq_nil_of_length_eq_zero hn
    subst this
    exact ⟨I, Le.refl _, h.tail, sl_nil (fun _ h => by cases h)⟩
  · have hIg : I g = none := hdis g rfl
    let J : Look := fun b => if b = g then some (.cells cur T (0, 0)) else I b
    have hle : Le I J := fun b o hb => by
      show (if b = g then _ else I b) = _
      split
      · rename_i e; subst e; rw [hIg] at hb; cases hb
      · exact hb
    refine ⟨J, hle, ?_, ⟨some ⟨g, 0, none⟩, cap, by rw [hn], by omega, (fun _ a ha => by cases ha; rfl), (fun _ h => by cases h)⟩, ?_⟩
    · refine { h.tail with imm := fun b o hb => ?_, dis := fun y hy b hb => ?_ }
      · by_cases e : b = g
        · subst e
          have : o = .cells cur T (0, 0) := by
            have : (if b = b then some (Obj.cells cur T (0, 0)) else I b) = some o := hb
            simpa using this.symm
          subst this
          exact hg
        · exact h.imm b o (by have : (if b = g then some (Obj.cells cur T (0, 0)) else I b) = some o := hb; rwa [if_neg e] at this)
      · show (if b = g then _ else I b) = none
        by_cases e : b = g
        · subst e
          exfalso
          have hsep := h.sep
          unfold owns at hsep
          rw [List.filterMap_cons] at hsep
          exact (List.nodup_cons.1 hsep).1 (List.mem_filterMap.2 ⟨y, hy, hb⟩)
        · rw [if_neg e]
          exact h.tail.dis y hy b hb
    · intro i j cs u hi hj
      refine ⟨cur, T, (0, 0), by show (if g = g then _ else _) = _; rw [if_pos rfl], ?_⟩
      show cur[0 + i * sz + j]? = some u
      have hfl : ∀ (l : List (List Value)) (i : Nat) (cs : List Value), (∀ c ∈ l, c.length = sz) → l[i]? = some cs → cs[j]? = some u → l.flatten[i * sz + j]? = some u := by
        intro l
        induction l with
        | nil => intro i cs _ hi; cases hi
        | cons c l ih =>
          intro i cs hu hi hj
          have hc := hu c (List.mem_cons_self)
          cases i with
          | zero =>
            simp only [List.getElem?_cons_zero, Option.some.injEq] at hi
            subst hi
            have hlt := (List.getElem?_eq_some_iff.1 hj).1
            simp only [List.flatten_cons, Nat.zero_mul, Nat.zero_add]
            rw [List.getElem?_append_left hlt]
            exact hj
          | succ i =>
            simp only [List.getElem?_cons_succ] at hi
            simp only [List.flatten_cons]
            rw [Nat.add_mul, Nat.one_mul, List.getElem?_append_right (by omega)]
            rw [show i * sz + sz + j - c.length = i * sz + j by omega]
            exact ih i cs (fun x hx => hu x (List.mem_cons_of_mem _ hx)) hi hj
      have h2 := hfl xss i cs hu hi hj
      rw [← hc4, List.getElem?_take] at h2
      split at h2
      · simpa using h2
      · cases h2
end ops
end Go.Tri
