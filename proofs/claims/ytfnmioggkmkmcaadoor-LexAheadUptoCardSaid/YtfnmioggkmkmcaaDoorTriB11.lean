/-
  A text put behind a row of bytes.
-/
import Derived.Test.YtfnmioggkmkmcaaDoorTriB10
import Derived.Lib.AppendStr
namespace Go.Tri
open Go.RowKit
theorem appendStr_at {P : Program} (w : World) (t u ty e : TypeId) (i : TypeInfo) (ht : P.underlying t = some (.slice e)) (hu : P.underlying u = some .string) (hi : P.info? e = some i) (hz : i.zero = some (.int .u8 0)) (hs1 : i.size = 1) (hby : i.bytes = 1)
    (v : Value) (n : Nat) (xs : List Value) (hv : vecSat v e 1 n xs (look w)) (s : ByteArray) (h63 : n + s.size ≤ maxLen) (hb : n + s.size ≤ 140737488355328) :
    ∃ v' w', (Builtin.append_ #[t, u] ty #[v, .string s]).run P w = .ok v' w' ∧ vecSat v' e 1 (n + s.size) (xs ++ Lib.strCells s) (look w') ∧ w.grownBy w' v.ownBlock ∧ (v'.ownBlock = v.ownBlock ∨ v'.ownBlock = some w.heap.size) := by
  obtain ⟨v', w', hrun, ho, hg, hnil⟩ := Lib.run_append_own_string (P := P) w 0 t u ty e i ht hu hi hz hs1 hby v n xs (vec_owns.1 hv) s h63 hb (Nat.zero_le _)
  refine ⟨v', w', hrun, vec_owns.2 ho, hg, ?_⟩
  have hxl : xs.length = n := by rw [hv.1, Nat.mul_one]
  have hm : maxLen ≤ 9223372036854775807 := by decide
  rcases hv.2 with ⟨rfl, rfl⟩ | ⟨g, cap, cur, rfl, hgg, hn, hc, hsz, htk⟩
  · by_cases h0 : s.size = 0
    · left; rw [hnil.2 ⟨rfl, h0⟩]
    · right
      have := run_append_nil_string (P := P) w t u ty e i (.int .u8 0) ht hu hi hz s (by omega) (by omega) (by rw [hby]; omega)
      rw [this] at hrun
      injection hrun with h1 h2
      rw [← h1]; rfl
  · by_cases hroom : n + s.size ≤ cap
    · left
      have := Lib.run_append_room_string (P := P) w t u ty e i ht hu hi hs1 g n cap cur hgg s hroom (by omega)
      rw [this] at hrun
      injection hrun with h1 h2
      rw [← h1]; rfl
    · right
      have := Lib.run_append_grow_string (P := P) w t u ty e i (.int .u8 0) ht hu hi hz ⟨g, 0, none⟩ n cap xs (by rw [hs1]; omega) ((vec_owns.1 hv).cells (g := g) rfl) s (by omega) (by omega) (by rw [hby]; exact growslice_fits (by omega) (by omega))
      rw [this] at hrun
      injection hrun with h1 h2
      rw [← h1]; rfl
theorem strCells_str (s : List UInt8) : Lib.strCells ⟨s.toArray⟩ = (s.map byC).flatten := by
  rw [byC_flat]
  unfold Lib.strCells
  simp [u8]
theorem e_appendStr {C : Cx} {E : Env} {I : Look} {H : List HA} {o : Oper} {x y : Operand} {t u e e' : TypeId} {v : Value} {l s : List UInt8} {F : List HA} (ho : o.op = .call { callee := .builtin .append, args := #[x, y], argTypes := #[t, u] })
    (ht : C.P.underlying t = some (.slice e)) (hu : C.P.underlying u = some .string) (hi : TI C.P e 1 1 (.int .u8 0))
    (hx : ev E x = some v) (hy : ev E y = some (str s)) [hpk : PickVec v e' 1 l.length (l.map byC).flatten F H] (hee : e = e')
    (h63 : l.length + s.length ≤ maxLen) (hby : l.length + s.length ≤ 140737488355328) :
    Eff C E I H o (fun v' I' H' => I = I' ∧ H' = tvec e' 1 byC v' (l ++ s) :: F) := by
  subst hee
  intro a w hs hw K Q hk
  have hw' := hw.perm hpk.pick
  have hv : vecSat v e 1 l.length (l.map byC).flatten (look w) := hw'.sat _ (List.mem_cons_self)
  have hsz := size_str s
  obtain ⟨i, hii, hi1, hi2, hi3⟩ := hi
  obtain ⟨v', w', hrun, ho', hg, hob⟩ := appendStr_at (P := C.P) w t u o.type e i ht hu hii hi3 hi1 hi2 v _ _ hv ⟨s.toArray⟩ (by omega) (by omega)
  rw [hsz, strCells_str, ← List.flatten_append, ← List.map_append, ← List.length_append] at ho'
  refine wpIn_of_run (v := v') (w' := w') (by rw [ho]; rfl) ?_ (hk v' I _ w' ⟨rfl, rfl⟩ (hw'.turn hg.os hg.tape hg.output hg.size (fun k hk hne => hg.block k hk hne) ho' ?_))
  · simp only [execOp, ho, resolve]
    simp [hs.ev hx, hs.ev hy, str, invoke, builtin, hrun]
  · rcases hob with e | e
    · exact .inl e
    · exact .inr ⟨_, e, Nat.le_refl _⟩
theorem q_load_vecF {C : Cx} {E : Env} {I : Look} {H : List HA} {o : Oper} {x : Operand} {t T : TypeId} {d : TypeDesc} {sz n j fo : Nat} {v u : Value} {xs : List Value} (ho : o.op = .load t x) (ht : C.P.underlying t = some d) (hd : notAgg d = true)
    (hx : ev E x = some (.pointer (some ⟨(adr v).block, (adr v).off + j * sz + fo, none⟩))) [hm : InVec v T sz n xs H] (hu : xs[j * sz + fo]? = some u) : Quiet C E I H o u := q_load_vec (j := j * sz + fo) ho ht hd (by rw [← Nat.add_assoc]; exact hx) hu
theorem vec_at {α : Type} {f : α → List Value} {sz fo : Nat} (hu : ∀ c, (f c).length = sz) {l : List α} {i : Nat} {d : α} {u : Value} (h : i < l.length) (hf : (f (nth l i d))[fo]? = some u) : ((l.map f).flatten)[i * sz + fo]? = some u :=
  flat_at hu (cs := f (nth l i d)) (by rw [List.getElem?_map, List.getElem?_eq_getElem h, nth_eq h]; rfl) hf
theorem e_storeT {α : Type} {f : α → List Value} {l : List α} {C : Cx} {E : Env} {I : Look} {H : List HA} {o : Oper} {p x : Operand} {t T : TypeId} {j fo sz bytes : Nat} {v u z : Value} {F : List HA} (d e1 : α) (ho : o.op = .store t p x) (hi : TI C.P t 1 bytes z)
    (hp : ev E p = some (.pointer (some ⟨(adr v).block, (adr v).off + j * sz + fo, none⟩))) (hx : ev E x = some u) (h1 : One u) [hpk : PickVec v T sz l.length (l.map f).flatten F H] (hu : ∀ c, (f c).length = sz) (hj : j < l.length) (hfo : Nat.blt fo sz = true)
    (he : (f (nth l j d)).set fo u = f e1) : Eff C E I H o (fun _ I' H' => I = I' ∧ H' = tvec T sz f v (l.set j e1) :: F) := by
  have hfo : fo < sz := by simpa using hfo
  have hlen : ((l.map f).flatten).length = l.length * sz := by
    rw [List.length_flatten, List.map_map]
    have : (List.length ∘ f) = fun _ => sz := by funext c; exact hu c
    rw [this, List.map_const', List.sum_replicate_nat]
  have h2 : j * sz + fo < l.length * sz := by
    have := Nat.mul_le_mul_right sz (show j + 1 ≤ l.length from hj)
    rw [Nat.add_mul, Nat.one_mul] at this
    omega
  have := e_storeV (C := C) (E := E) (I := I) (H := H) (o := o) (p := p) (x := x) (k := j * sz + fo) (v := v) ho hi (by rw [← Nat.add_assoc]; exact hp) hx h1 (hpk := hpk) (by rw [hlen]; exact h2)
  rw [flat_set hu (d := d) hj hfo he] at this
  have hl : (l.set j e1).length = l.length := List.length_set
  show Eff C E I H o (fun _ I' H' => I = I' ∧ H' = vec v T sz (l.set j e1).length _ :: F)
  rw [hl]
  exact this
end Go.Tri
