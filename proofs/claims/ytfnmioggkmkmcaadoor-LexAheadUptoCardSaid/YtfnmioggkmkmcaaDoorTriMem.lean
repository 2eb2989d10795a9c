/-
  Memory: what reads as what; loads, stores, new rows, slices.
-/
import Derived.Test.YtfnmioggkmkmcaaDoorTriFn
namespace Go.Tri
open Go.RowKit

/-! ### facts on types -/
def notAgg : TypeDesc → Bool
  | .struct _ | .array _ _ => false
  | _ => true
theorem run_isAgg_false {P : Program} {t : TypeId} {d : TypeDesc} (h : P.underlying t = some d) (hd : notAgg d = true) (w : World) : (isAgg t).run P w = .ok false w := by
  unfold isAgg
  rw [Sem.run_bind, run_underlying h]
  cases d <;> first | rfl | cases hd
theorem run_isAgg_true {P : Program} {t : TypeId} {fs : Array Field} (h : P.underlying t = some (.struct fs)) (w : World) : (isAgg t).run P w = .ok true w := by
  unfold isAgg
  rw [Sem.run_bind, run_underlying h]
  rfl
/-- a type's row: cells, bytes, zero -/
def TI (P : Program) (t : TypeId) (size bytes : Nat) (z : Value) : Prop := ∃ i, P.info? t = some i ∧ i.size = size ∧ i.bytes = bytes ∧ i.zero = some z
theorem ti_of {P : Program} {t : TypeId} {size bytes : Nat} {z : Value} (h : (P.info? t).map (fun i => (i.size, i.bytes, i.zero)) = some (size, bytes, some z)) : TI P t size bytes z := by
  cases hi : P.info? t with
  | none => rw [hi] at h; cases h
  | some i =>
    rw [hi] at h
    simp only [Option.map_some, Option.some.injEq, Prod.mk.injEq] at h
    exact ⟨i, hi, h.1, h.2.1, h.2.2⟩
theorem TI.sizeOf {P : Program} {t : TypeId} {size bytes : Nat} {z : Value} (h : TI P t size bytes z) (w : World) : (Go.sizeOf t).run P w = .ok size w := by
  obtain ⟨i, hi, h1, _, _⟩ := h
  unfold Go.sizeOf
  simp [typeInfo, hi, h1]
theorem TI.zero {P : Program} {t : TypeId} {size bytes : Nat} {z : Value} (h : TI P t size bytes z) (w : World) : (zeroValue t).run P w = .ok z w := by
  obtain ⟨i, hi, _, _, h3⟩ := h
  unfold zeroValue
  simp [typeInfo, hi, h3]

/-! ### what a cell reads -/
/-- cell (b, o) reads u, whatever else there is -/
def Rd (w0 : World) (I : Look) (H : List HA) (b o : Nat) (u : Value) : Prop := ∀ w, St w0 I H w → w.cell? ⟨b, o, none⟩ = some u
def CellI (I : Look) (b o : Nat) (u : Value) : Prop := ∃ cur T fr, I b = some (.cells cur T fr) ∧ cur[o]? = some u
theorem CellI.mono {I J : Look} {b o : Nat} {u : Value} (h : CellI I b o u) (hle : Le I J) : CellI J b o u := by
  obtain ⟨cur, T, fr, h1, h2⟩ := h
  exact ⟨cur, T, fr, hle _ _ h1, h2⟩
section
variable {w0 : World} {I : Look} {H : List HA} {b o : Nat} {u : Value}
theorem rd_imm (h : CellI I b o u) : Rd w0 I H b o u := fun w hw => by
  obtain ⟨cur, T, fr, h1, h2⟩ := h
  unfold World.cell?
  simp only [hw.imm b _ h1]
  exact h2
theorem rd_row {T : TypeId} {cs : List Value} (hm : row b T cs ∈ H) (hu : cs[o]? = some u) : Rd w0 I H b o u := fun w hw => by
  have h1 : w.heap[b]? = some (.cells cs.toArray T (0, 0)) := hw.sat _ hm
  unfold World.cell?
  simp only [h1]
  simpa using hu
def adr (v : Value) : Addr := match v with | .slice (some a) _ _ => a | _ => ⟨0, 0, none⟩
theorem rd_vec {v : Value} {T : TypeId} {sz n j : Nat} {xs : List Value} (hm : vec v T sz n xs ∈ H) (hu : xs[j]? = some u) : Rd w0 I H (adr v).block ((adr v).off + j) u := fun w hw => by
  obtain ⟨hl, hs⟩ := hw.sat _ hm
  rcases hs with ⟨rfl, rfl⟩ | ⟨g, cap, cur, rfl, hg, hn, hc, hsz, rfl⟩
  · have := (List.getElem?_eq_some_iff.1 hu).1
    rw [hl] at this
    simp at this
  · unfold World.cell?
    have hg' : w.heap[g]? = some (.cells cur T (0, 0)) := hg
    simp only [adr, hg']
    rw [List.getElem?_take] at hu
    split at hu
    · simpa using hu
    · cases hu
end

/-- a slice that does not turn any more: its elements' cells -/
def Sl (I : Look) (sz : Nat) (v : Value) (xss : List (List Value)) : Prop :=
  (∃ A c, v = .slice A xss.length c ∧ xss.length ≤ c ∧ (xss ≠ [] → ∀ a, A = some a → a.spot = none) ∧ (xss ≠ [] → A ≠ none)) ∧
  ∀ i j cs u, xss[i]? = some cs → cs[j]? = some u → CellI I (adr v).block ((adr v).off + i * sz + j) u
theorem Sl.mono {I J : Look} {sz : Nat} {v : Value} {xss : List (List Value)} (h : Sl I sz v xss) (hle : Le I J) : Sl J sz v xss :=
  ⟨h.1, fun i j cs u h1 h2 => (h.2 i j cs u h1 h2).mono hle⟩
theorem sl_nil {I : Look} {sz c : Nat} {A : Option Addr} (hA : ∀ a, A = some a → a.spot = none) : Sl I sz (.slice A 0 c) [] :=
  ⟨⟨A, c, rfl, Nat.zero_le _, fun _ => hA, fun h => absurd rfl h⟩, fun _ _ _ _ h => by cases h⟩

/-- a value of one cell -/
def One (v : Value) : Prop := v.cells = #[v] ∧ v.oneCell' = true
theorem Sl.one {I : Look} {sz : Nat} {v : Value} {xss : List (List Value)} (h : Sl I sz v xss) : One v := by
  obtain ⟨⟨A, c, rfl, _⟩, _⟩ := h
  exact ⟨rfl, rfl⟩

theorem run_load {P : Program} {w : World} {a : Addr} {u : Value} (h : w.cell? a = some u) : (load a).run P w = .ok u w := by
  simp [load, Sem.run, h]

section ops
variable {C : Cx} {E : Env} {I : Look} {H : List HA} {D : List Deferred} {Q : Exit → Act → World → Prop} {o : Oper}

theorem q_load {x : Operand} {t : TypeId} {d : TypeDesc} {b off : Nat} {u : Value} (ho : o.op = .load t x) (ht : C.P.underlying t = some d) (hd : notAgg d = true)
    (hx : ev E x = some (.pointer (some ⟨b, off, none⟩))) (hr : Rd C.w0 I H b off u) : Quiet C E I H o u :=
  quiet_run (by rw [ho]; rfl) fun a w hs hw => by
    have h1 := hs.ev hx
    have h2 := hr w hw
    simp [execOp, ho, h1, Instr.loadAt, Instr.sureAddr, loadVar, run_isAgg_false ht hd, load, Sem.run, h2]

def Rds (w0 : World) (I : Look) (H : List HA) (b o : Nat) (us : List Value) : Prop := ∀ j u, us[j]? = some u → Rd w0 I H b (o + j) u
theorem rds_row {w0 : World} {b k n : Nat} {T : TypeId} {cs us : List Value} (hm : row b T cs ∈ H) (hu : (cs.drop k).take n = us) : Rds w0 I H b k us := fun j u hj => by
  refine rd_row hm ?_
  subst hu
  rw [List.getElem?_take] at hj
  split at hj
  · rw [← List.getElem?_drop]; exact hj
  · cases hj
theorem rds_imm {w0 : World} {b k : Nat} {us : List Value} (h : ∀ j u, us[j]? = some u → CellI I b (k + j) u) : Rds w0 I H b k us := fun j u hj => rd_imm (h j u hj)

theorem run_loadCells {P : Program} {w : World} {b k : Nat} {us : List Value} (h : ∀ j u, us[j]? = some u → w.cell? ⟨b, k + j, none⟩ = some u) :
    (loadCells ⟨b, k, none⟩ us.length).run P w = .ok us.toArray w := by
  unfold loadCells
  have key : ∀ (m i : Nat) (acc : Array Value), i + m = us.length → acc = (us.take i).toArray → (loadCellsFrom ⟨b, k, none⟩ i m acc).run P w = .ok us.toArray w := by
    intro m
    induction m with
    | zero =>
      intro i acc hi ha
      rw [show i = us.length by omega, List.take_length] at ha
      simp [loadCellsFrom, ha]
    | succ m ih =>
      intro i acc hi ha
      have hlt : i < us.length := by omega
      have hc := h i us[i] (List.getElem?_eq_getElem hlt)
      simp only [loadCellsFrom]
      rw [Sem.run_bind]
      rw [Addr.add_lit, run_load hc]
      simp only [Result.andThen_ok]
      refine ih (i + 1) _ (by omega) ?_
      subst ha
      rw [List.take_succ_eq_append_getElem hlt]
      simp
  exact key us.length 0 #[] (by omega) (by simp)

theorem q_load_agg {x : Operand} {t : TypeId} {fs : Array Field} {b off n bytes : Nat} {z : Value} {us : List Value} (ho : o.op = .load t x) (ht : C.P.underlying t = some (.struct fs)) (hi : TI C.P t n bytes z) (hn : us.length = n)
    (hx : ev E x = some (.pointer (some ⟨b, off, none⟩))) (hr : Rds C.w0 I H b off us) : Quiet C E I H o (.agg us.toArray) :=
  quiet_run (by rw [ho]; rfl) fun a w hs hw => by
    have h1 := hs.ev hx
    have h2 := run_loadCells (P := C.P) (w := w) (b := b) (k := off) (us := us) (fun j u hj => hr j u hj w hw)
    subst hn
    simp [execOp, ho, h1, Instr.loadAt, Instr.sureAddr, loadVar, run_isAgg_true ht, hi.sizeOf, h2]

theorem q_nilCheck {x : Operand} {a : Addr} (ho : o.op = .nilCheck x) (hx : ev E x = some (.pointer (some a))) : Quiet C E I H o (.pointer (some a)) :=
  quiet_run (by rw [ho]; rfl) fun ac w hs _ => by simp [execOp, ho, hs.ev hx]

theorem q_fieldAddr {x : Operand} {t tf : TypeId} {fs : Array Field} {k b off n bytes : Nat} {z : Value} {f : Field} (ho : o.op = .fieldAddr t x k) (ht : C.P.underlying t = some (.struct fs))
    (hf : fs[k]? = some f) (htf : f.type = tf) (hi : TI C.P tf n bytes z) (hn : Nat.ble 1 n = true) (hx : ev E x = some (.pointer (some ⟨b, off, none⟩))) : Quiet C E I H o (.pointer (some ⟨b, off + f.offset, none⟩)) :=
  quiet_run (by rw [ho]; rfl) fun a w hs _ => by
    have hn' : n ≠ 0 := by
      have : 1 ≤ n := by simpa using hn
      omega
    subst htf
    simp [execOp, ho, hs.ev hx, Instr.fieldAt, run_underlying ht, hf, Instr.sureAddr, fieldPlace, hi.sizeOf, hn', Addr.add_lit]

/-- the place of element i of a slice -/
theorem q_indexAddr {x i : Operand} {t e : TypeId} {v z : Value} {k : IntKind} {m : Int} {n sz bytes : Nat} (ho : o.op = .indexAddr t x i) (ht : C.P.underlying t = some (.slice e)) (hi : TI C.P e sz bytes z)
    (hx : ev E x = some v) (hix : ev E i = some (.int k m)) (hv : ∃ A c, v = .slice A n c ∧ (0 < n → ∀ a, A = some a → a.spot = none) ∧ (0 < n → A ≠ none)) (h0 : 0 ≤ m ∧ m < n) :
    Quiet C E I H o (.pointer (some ⟨(adr v).block, (adr v).off + m.toNat * sz, none⟩)) :=
  quiet_run (by rw [ho]; rfl) fun a w hs _ => by
    obtain ⟨A, c, rfl, hsp, hne⟩ := hv
    cases A with
    | none => exact absurd rfl (hne (by omega))
    | some ad =>
      have hspot := hsp (by omega) ad rfl
      have hadd : ad.add (m.toNat * sz) = ⟨ad.block, ad.off + m.toNat * sz, none⟩ := by
        obtain ⟨b, of, sp⟩ := ad
        cases hspot
        exact Addr.add_lit b of _
      simp [execOp, ho, hs.ev hx, hs.ev hix, Instr.indexAt, run_underlying ht, hi.sizeOf, asIntOf, h0, adr, hadd]
theorem Sl.shape {sz n : Nat} {v : Value} {xss : List (List Value)} (h : Sl I sz v xss) (hn : xss.length = n) : ∃ A c, v = .slice A n c ∧ (0 < n → ∀ a, A = some a → a.spot = none) ∧ (0 < n → A ≠ none) := by
  obtain ⟨⟨A, c, rfl, _, h1, h2⟩, _⟩ := h
  subst hn
  exact ⟨A, c, rfl, fun hp => h1 (List.ne_nil_of_length_pos hp), fun hp => h2 (List.ne_nil_of_length_pos hp)⟩

theorem q_len {x : Operand} {t e : TypeId} {v : Value} {n : Nat} (ho : o.op = .call { callee := .builtin .len, args := #[x], argTypes := #[t] }) (ht : C.P.underlying t = some (.slice e)) (hx : ev E x = some v)
    (hv : ∃ A c, v = .slice A n c) : Quiet C E I H o (.int .i64 (n : Int)) :=
  quiet_builtin ho (vs := [v]) (by simp [evs, hx]) fun cs w => by
    obtain ⟨A, c, rfl⟩ := hv
    simp [builtin, Builtin.len_, run_underlying ht, goInt]
theorem Sl.len {sz : Nat} {v : Value} {xss : List (List Value)} (h : Sl I sz v xss) : ∃ A c, v = .slice A xss.length c := by
  obtain ⟨⟨A, c, rfl, _⟩, _⟩ := h
  exact ⟨A, c, rfl⟩
/-- the same, off an owned row -/
theorem q_len_vec {x : Operand} {t e te : TypeId} {v : Value} {n sz : Nat} {xs : List Value} (ho : o.op = .call { callee := .builtin .len, args := #[x], argTypes := #[t] }) (ht : C.P.underlying t = some (.slice e)) (hx : ev E x = some v)
    (hm : vec v te sz n xs ∈ H) : Quiet C E I H o (.int .i64 (n : Int)) := by
  intro a w hs hw
  have hv : ∃ A c, v = .slice A n c := by
    obtain ⟨_, hh⟩ := hw.sat _ hm
    rcases hh with ⟨rfl, rfl⟩ | ⟨g, cap, cur, rfl, _⟩
    · exact ⟨_, _, rfl⟩
    · exact ⟨_, _, rfl⟩
  exact q_len (C := C) (I := I) (H := H) ho ht hx hv a w hs hw
theorem q_indexAddr_vec {x i : Operand} {t e te : TypeId} {v z : Value} {k : IntKind} {m : Int} {n sz sz' bytes : Nat} {xs : List Value} (ho : o.op = .indexAddr t x i) (ht : C.P.underlying t = some (.slice e)) (hi : TI C.P e sz bytes z)
    (hx : ev E x = some v) (hix : ev E i = some (.int k m)) (hm : vec v te sz' n xs ∈ H) (h0 : 0 ≤ m ∧ m < n) :
    Quiet C E I H o (.pointer (some ⟨(adr v).block, (adr v).off + m.toNat * sz, none⟩)) := by
  intro a w hs hw
  have hv : ∃ A c, v = .slice A n c ∧ (0 < n → ∀ a, A = some a → a.spot = none) ∧ (0 < n → A ≠ none) := by
    obtain ⟨_, hh⟩ := hw.sat _ hm
    rcases hh with ⟨rfl, rfl⟩ | ⟨g, cap, cur, rfl, _⟩
    · exact ⟨_, _, rfl, (fun _ a ha => by cases ha), (fun h => absurd h (by omega))⟩
    · exact ⟨_, _, rfl, (fun _ a ha => by cases ha; rfl), (fun _ h => by cases h)⟩
  exact q_indexAddr (C := C) (I := I) (H := H) ho ht hi hx hix hv h0 a w hs hw

theorem q_not {x : Operand} {t : TypeId} {b : Bool} (ho : o.op = .unOp .not t x) (hx : ev E x = some (.bool b)) : Quiet C E I H o (.bool (!b)) :=
  quiet_run (by rw [ho]; rfl) fun a w hs _ => by simp [execOp, ho, hs.ev hx, Op.unary]
theorem q_pick {c x y : Operand} {b : Bool} {u v : Value} (ho : o.op = .pick c x y) (hc : ev E c = some (.bool b)) (hx : ev E x = some u) (hy : ev E y = some v) : Quiet C E I H o (bif b then u else v) :=
  quiet_run (by rw [ho]; rfl) fun a w hs _ => by
    cases b <;> simp [execOp, ho, hs.ev hc, hs.ev hx, hs.ev hy, asBool]
theorem q_pick_t {c x y : Operand} {u : Value} (ho : o.op = .pick c x y) (hc : ev E c = some (.bool true)) (hx : ev E x = some u) : Quiet C E I H o u :=
  quiet_run (by rw [ho]; rfl) fun a w hs _ => by simp [execOp, ho, hs.ev hc, hs.ev hx, asBool]
theorem q_pick_f {c x y : Operand} {u : Value} (ho : o.op = .pick c x y) (hc : ev E c = some (.bool false)) (hy : ev E y = some u) : Quiet C E I H o u :=
  quiet_run (by rw [ho]; rfl) fun a w hs _ => by simp [execOp, ho, hs.ev hc, hs.ev hy, asBool]
theorem q_extract {x : Operand} {k : Nat} {vs : Array Value} {v : Value} (ho : o.op = .extract x k) (hx : ev E x = some (.tuple vs)) (hv : vs[k]? = some v) : Quiet C E I H o v :=
  quiet_run (by rw [ho]; rfl) fun a w hs _ => by simp [execOp, ho, hs.ev hx, Instr.extract, hv]
theorem q_makeFunc {fn : Fn} {xs ys : Array Operand} {us vs : List Value} (ho : o.op = .makeFunc fn xs ys) (hx : evs E xs.toList = some us) (hy : evs E ys.toList = some vs) : Quiet C E I H o (.func fn us.toArray vs.toArray) :=
  quiet_run (by rw [ho]; rfl) fun a w hs _ => by
    have h1 : xs.map a.eval = us.toArray := by rw [← hs.evs hx]; cases xs; simp
    have h2 : ys.map a.eval = vs.toArray := by rw [← hs.evs hy]; cases ys; simp
    simp [execOp, ho, h1, h2, Instr.makeFunc]
end ops
end Go.Tri
