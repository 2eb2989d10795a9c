/-
  New rows out of texts and out of nothing; an owned row grown by what does not turn.
-/
import Derived.Test.YtfnmioggkmkmcaaDoorTriB3
import Derived.Deep.Upon
import Derived.Lib.ConvBytes
import Derived.Lib.AppendStr
namespace Go.Tri
open Go.RowKit
theorem St.newW {w0 w w' : World} {I : Look} {H : List HA} (h : St w0 I H w) (o : Obj) (os : w'.os = w.os) (tape : w'.tape = w.tape) (output : w'.output = w.output) (size : w.heap.size ≤ w'.heap.size)
    (old : ∀ k, k < w.heap.size → w'.heap[k]? = w.heap[k]?) (new : w'.heap[w.heap.size]? = some o) : St w0 I (obj w.heap.size o :: H) w' := by
  have h' := h.garb (w' := w') ⟨os, tape, output, size, old⟩
  have h0 := h.new o
  exact { h' with
    sat := fun x hx => by
      rcases List.mem_cons.1 hx with rfl | hx
      · exact new
      · exact h'.sat x hx
    sep := h0.sep
    dis := h0.dis }
theorem st_freezeObj {w0 w : World} {I : Look} {b : Nat} {o : Obj} {F : List HA} (h : St w0 I (obj b o :: F) w) : ∃ J, Le I J ∧ J b = some o ∧ St w0 J F w := by
  have hb : w.heap[b]? = some o := h.sat _ (List.mem_cons_self)
  have hIb : I b = none := h.dis _ (List.mem_cons_self) b rfl
  let J : Look := fun k => if k = b then some o else I k
  refine ⟨J, fun k o' hk => ?_, by show (if b = b then _ else _) = _; rw [if_pos rfl], ?_⟩
  · show (if k = b then _ else I k) = _
    split
    · rename_i e; subst e; rw [hIb] at hk; cases hk
    · exact hk
  · refine { h.tail with imm := fun k o' hk => ?_, dis := fun y hy k hk => ?_ }
    · have hk' : (if k = b then some o else I k) = some o' := hk
      by_cases e : k = b
      · subst e
        rw [if_pos rfl] at hk'
        cases hk'
        exact hb
      · rw [if_neg e] at hk'
        exact h.imm k o' hk'
    · show (if k = b then _ else I k) = none
      by_cases e : k = b
      · subst e
        exfalso
        have hsep := h.sep
        unfold owns at hsep
        rw [List.filterMap_cons] at hsep
        exact (List.nodup_cons.1 hsep).1 (List.mem_filterMap.2 ⟨y, hy, hk⟩)
      · rw [if_neg e]
        exact h.tail.dis y hy k hk
theorem flat_at {α : Type} {f : α → List Value} {sz : Nat} (hu : ∀ c, (f c).length = sz) : ∀ {l : List α} {i j : Nat} {cs : List Value} {u : Value}, (l.map f)[i]? = some cs → cs[j]? = some u → (l.map f).flatten[i * sz + j]? = some u
  | [], _, _, _, _, hi, _ => by cases hi
  | c :: l, 0, j, cs, u, hi, hj => by
    simp only [List.map_cons, List.getElem?_cons_zero, Option.some.injEq] at hi
    subst hi
    have hlt := (List.getElem?_eq_some_iff.1 hj).1
    simp only [List.map_cons, List.flatten_cons, Nat.zero_mul, Nat.zero_add]
    rw [List.getElem?_append_left hlt]
    exact hj
  | c :: l, i + 1, j, cs, u, hi, hj => by
    simp only [List.map_cons, List.getElem?_cons_succ] at hi
    simp only [List.map_cons, List.flatten_cons]
    rw [Nat.add_mul, Nat.one_mul, List.getElem?_append_right (by rw [hu]; omega), hu, show i * sz + sz + j - sz = i * sz + j by omega]
    exact flat_at hu hi hj
section
variable {C : Cx} {E : Env} {I : Look} {H : List HA} {D : List Deferred} {Q : Exit → Act → World → Prop} {o : Oper}
theorem e_strBytes {t t' e : TypeId} {x : Operand} {s : List UInt8} (ho : o.op = .convert t t' x) (hs : C.P.underlying t = some .string) (hd : C.P.underlying t' = some (.slice e)) (he : C.P.underlying e = some (.int .u8)) (hx : ev E x = some (str s)) :
    Eff C E I H o (fun v I' H' => Le I I' ∧ Sl I' 1 v (s.map byC) ∧ H = H') := by
  intro a w hsat hw K Q hk
  have hw1 := hw.newW (w' := Lib.bytesWorld w e ⟨s.toArray⟩) _ (by simp [Lib.bytesWorld, World.freeze]; rfl) (by simp [Lib.bytesWorld, World.freeze]) (by simp [Lib.bytesWorld, World.freeze]; rfl) (by rw [Lib.bytesWorld_size]; omega) (fun k hk => Lib.bytesWorld_at_old w e _ k hk) (Lib.bytesWorld_at_new w e ⟨s.toArray⟩)
  obtain ⟨J, h1, h2, h3⟩ := st_freezeObj hw1
  refine wpIn_of_run (w' := Lib.bytesWorld w e ⟨s.toArray⟩) (v := .slice (some ⟨w.heap.size, 0, none⟩) s.length (grownCap w s.length 0 e)) (by rw [ho]; rfl) ?_ (hk _ J H _ ⟨h1, ?_, rfl⟩ h3)
  · simp only [execOp, ho, hsat.ev hx]
    rw [Sem.run_bind]
    unfold str
    rw [Lib.run_convert_string_bytes w t t' e ⟨s.toArray⟩ hs hd he]
    simp [size_str]
  · refine ⟨⟨some ⟨w.heap.size, 0, none⟩, _, by rw [List.length_map], ?_, fun _ a ha => (by cases ha; rfl), fun _ h => (by cases h)⟩, fun i j cs u hi hj => ⟨_, _, _, h2, ?_⟩⟩
    · rw [List.length_map]; exact grownCap_ge w s.length 0 e
    · have := flat_at (sz := 1) (fun _ => rfl) hi hj
      rw [byC_flat] at this
      show (Lib.bytesCells w e ⟨s.toArray⟩)[0 + i * 1 + j]? = some u
      rw [Nat.zero_add]
      unfold Lib.bytesCells
      have hlt := (List.getElem?_eq_some_iff.1 this).1
      rw [List.length_map] at hlt
      rw [Array.getElem?_append_left (by simpa using hlt)]
      simpa [u8] using this
theorem e_buildSlice0 {t e : TypeId} {n bytes : Nat} {z : Value} (ho : o.op = .buildSlice t 0 #[]) (ht : C.P.underlying t = some (.slice e)) (hi : TI C.P e n bytes z) :
    Eff C E I H o (fun v I' H' => (∃ b, v = .slice (some ⟨b, 0, none⟩) 0 0) ∧ I = I' ∧ H' = vec v e n 0 [] :: H) := by
  intro a w hs hw K Q hk
  have hw1 := hw.new (.cells #[] e (0, 0))
  refine wpIn_of_run (w' := w.alloc (.cells #[] e)) (v := .slice (some ⟨w.heap.size, 0, none⟩) 0 0) (by rw [ho]; rfl) ?_ (hk _ I _ _ ⟨⟨_, rfl⟩, rfl, rfl⟩ ?_)
  · simp only [execOp, ho, Instr.buildSlice]
    simp [run_underlying ht, hi.sizeOf, Instr.fill, run_newRow]
    congr 2
    exact Array.eq_empty_of_size_eq_zero (by simp)
  · exact { hw1 with
      sat := fun x hx => by
        rcases List.mem_cons.1 hx with rfl | hx
        · exact ⟨by simp, .inr ⟨w.heap.size, 0, #[], rfl, heap_alloc_new w _, Nat.le_refl _, by simp [maxLen], by simp, by simp⟩⟩
        · exact hw1.sat x (List.mem_cons_of_mem _ hx)
      sep := hw1.sep
      dis := fun x hx b' hb' => by
        rcases List.mem_cons.1 hx with rfl | hx
        · cases hb'
          exact hw1.dis _ (List.mem_cons_self) _ rfl
        · exact hw1.dis x (List.mem_cons_of_mem _ hx) b' hb' }
/-- elements that do not turn, behind an owned slice -/
theorem e_appendSl {α : Type} {f : α → List Value} {l ls : List α} {x y : Operand} {t e e' : TypeId} {sz bytes : Nat} {v vy z : Value} {F : List HA} (ho : o.op = .call { callee := .builtin .append, args := #[x, y], argTypes := #[t, t] })
    (ht : C.P.underlying t = some (.slice e)) (hi : TI C.P e sz bytes z) (hz : z.cells.size = sz) (hsz : Nat.blt 0 sz = true)
    (hx : ev E x = some v) (hy : ev E y = some vy) (hsl : Sl I sz vy (ls.map f)) [hpk : PickVec v e' sz l.length (l.map f).flatten F H] (hee : e = e')
    (hu : ∀ c, (f c).length = sz) (h1 : ∀ c, ∀ u ∈ f c, u.oneCell' = true) (h63 : l.length + ls.length ≤ maxLen) (hby : (l.length + ls.length) * bytes ≤ 140737488355328) :
    Eff C E I H o (fun v' I' H' => I = I' ∧ H' = tvec e' sz f v' (l ++ ls) :: F) := by
  by_cases hn : ls = []
  · subst hn
    subst hee
    intro a w hs hw K Q hk
    have hw' := hw.perm hpk.pick
    obtain ⟨⟨A, c, rfl, hc, _⟩, _⟩ := hsl
    obtain ⟨i, hii, hi1, hi2, hi3⟩ := hi
    obtain ⟨hl, hv⟩ : vecSat v e sz l.length (l.map f).flatten (look w) := hw'.sat _ (List.mem_cons_self)
    have hle : ∃ base cap, v = .slice base l.length cap ∧ l.length ≤ cap := by
      rcases hv with ⟨rfl, h0⟩ | ⟨g, cap, cur, rfl, _, hle, _⟩
      · exact ⟨none, 0, by rw [h0], by omega⟩
      · exact ⟨_, _, rfl, hle⟩
    obtain ⟨base, cap, rfl, hle⟩ := hle
    have hsrc : ∀ w, Lib.bytesWorld w e ⟨#[]⟩ = Lib.bytesWorld w e ⟨#[]⟩ := fun _ => rfl
    have hrun : (Builtin.append_ #[t, t] o.type #[.slice base l.length cap, .slice A 0 c]).run C.P w = .ok (.slice base l.length cap) w := by
      refine run_append_nothing (P := C.P) w t t o.type e i ht hii base l.length cap hle (.slice A 0 c) ⟨.inl ⟨e, ht⟩, fun w' => rfl, ?_, ?_, by simp, fun _ h => by cases h⟩ <;> cases A <;> simp [Builtin.firstCells, loadCells, loadCellsFrom]
    refine wpIn_of_run (v := .slice base l.length cap) (w' := w) (by rw [ho]; rfl) ?_ (hk _ I _ w ⟨rfl, by rw [tvec, List.append_nil]⟩ hw')
    simp only [execOp, ho, resolve]
    simp only [List.map_nil, List.length_nil] at hy
    simp [hs.ev hx, hs.ev hy, invoke, builtin, hrun]
  · have hmn : ls.map f ≠ [] := by simpa using hn
    obtain ⟨⟨A, c, rfl, hc, hsp, hne⟩, hcell⟩ := id hsl
    cases A with
    | none => exact absurd rfl (hne hmn)
    | some ad =>
      have hspot := hsp hmn ad rfl
      obtain ⟨b, off, sp⟩ := ad
      cases hspot
      have hlen : ∀ m : List α, (m.map f).flatten.length = m.length * sz := fun m => by
        induction m with
        | nil => simp
        | cons d m ih => simp only [List.map_cons, List.flatten_cons, List.length_append, ih, hu, List.length_cons, Nat.add_mul, Nat.one_mul]; omega
      have key : ∀ (m : List α) (j : Nat) (u : Value), (m.map f).flatten[j]? = some u → ∃ i k cs, (m.map f)[i]? = some cs ∧ cs[k]? = some u ∧ j = i * sz + k := by
        intro m
        induction m with
        | nil => intro j u h; cases h
        | cons d m ih =>
          intro j u h
          simp only [List.map_cons, List.flatten_cons] at h
          rcases Nat.lt_or_ge j (f d).length with hlt | hge
          · rw [List.getElem?_append_left hlt] at h
            exact ⟨0, j, f d, rfl, h, by omega⟩
          · rw [List.getElem?_append_right hge] at h
            obtain ⟨i, k, cs, h1, h2, h3⟩ := ih _ _ h
            refine ⟨i + 1, k, cs, by simpa using h1, h2, ?_⟩
            rw [hu] at h3 hge
            rw [Nat.add_mul, Nat.one_mul]
            omega
      have hy' : ev E y = some (.slice (some ⟨b, off, none⟩) ls.length c) := by rw [hy, List.length_map]
      have := e_append (C := C) (E := E) (I := I) (H := H) (news := (ls.map f).flatten) ho ht hi hz hsz hx hy' hee (rds_imm fun j u hj => by
        obtain ⟨i, k, cs, h1, h2, rfl⟩ := key ls j u hj
        have := hcell i k cs u h1 h2
        rw [← Nat.add_assoc]
        exact this) (hlen ls) (fun u hu' => by
          obtain ⟨cs, h2, h3⟩ := List.mem_flatten.1 hu'
          obtain ⟨c', _, rfl⟩ := List.mem_map.1 h2
          exact h1 c' u h3) h63 hby
      simpa [tvec] using this
end
end Go.Tri
