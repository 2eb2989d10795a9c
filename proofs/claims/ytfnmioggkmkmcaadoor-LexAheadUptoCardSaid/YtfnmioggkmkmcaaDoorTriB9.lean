/-
  A cell of an owned slice is written.
-/
import Derived.Test.YtfnmioggkmkmcaaDoorTriB8
namespace Go.Tri
open Go.RowKit
theorem e_storeV {C : Cx} {E : Env} {I : Look} {H : List HA} {o : Oper} {p x : Operand} {t T : TypeId} {k sz n bytes : Nat} {v u z : Value} {xs : List Value} {F : List HA} (ho : o.op = .store t p x) (hi : TI C.P t 1 bytes z)
    (hp : ev E p = some (.pointer (some ⟨(adr v).block, (adr v).off + k, none⟩))) (hx : ev E x = some u) (h1 : One u) [hpk : PickVec v T sz n xs F H] (hlt : k < xs.length) :
    Eff C E I H o (fun _ I' H' => I = I' ∧ H' = vec v T sz n (xs.set k u) :: F) := by
  intro a w hs hw K Q hk
  have hw' := hw.perm hpk.pick
  obtain ⟨hl, hv⟩ : vecSat v T sz n xs (look w) := hw'.sat _ (List.mem_cons_self)
  rcases hv with ⟨rfl, rfl⟩ | ⟨g, cap, cur, rfl, hg, hn, hc, hsz, htk⟩
  · rw [Nat.zero_mul] at hl; omega
  · have hb : w.heap[g]? = some (.cells cur T (0, 0)) := hg
    have hle : n * sz ≤ cap * sz := Nat.mul_le_mul_right _ hn
    have hcur : cur = cur.toList.toArray := by simp
    have hk1 : k < cur.toList.length := by
      have : cur.toList.length = cur.size := by simp
      omega
    rw [hcur] at hb
    have hset := heap_setCell_row (off := k) (v := u) hb
    refine wpIn_of_skip (by rw [ho]; rfl) ?_ (hk undef I _ _ ⟨rfl, rfl⟩ (hw'.turn (w' := w.setCell ⟨g, k, none⟩ u) rfl rfl rfl (by simp) (fun j _ hj => Below.heap_setCell _ _ _ _ (fun e => hj (by rw [e]; rfl))) ?_ (.inl rfl)))
    · simp only [execOp, ho, hs.ev hp, hs.ev hx, Instr.storeAt, Instr.sureAddr, storeVar, h1.1]
      simp [adr, hi.sizeOf, storeCells, Addr.add_zero', run_store1 h1.2 hb hk1]
    · refine ⟨by rw [List.length_set]; exact hl, .inr ⟨g, cap, (cur.toList.set k u).toArray, rfl, hset, hn, hc, by simpa using hsz, ?_⟩⟩
      rw [← htk]
      simp only [List.take_set]
/-- a field of one element -/
theorem flat_set {α : Type} {f : α → List Value} {sz : Nat} (hu : ∀ c, (f c).length = sz) : ∀ {l : List α} {i j : Nat} {d e : α} {u : Value}, i < l.length → j < sz → (f (nth l i d)).set j u = f e → ((l.map f).flatten).set (i * sz + j) u = ((l.set i e).map f).flatten
  | [], _, _, _, _, _, h, _, _ => by simp at h
  | c :: l, 0, j, d, e, u, h, hj, he => by
    have he' : (f c).set j u = f e := he
    rw [List.map_cons, List.flatten_cons, List.set_append_left _ _ (by rw [hu]; omega), List.set_cons_zero, List.map_cons, List.flatten_cons, Nat.zero_mul, Nat.zero_add, he']
  | c :: l, i + 1, j, d, e, u, h, hj, he => by
    rw [List.map_cons, List.flatten_cons, List.set_append_right _ _ (by rw [hu, Nat.add_mul]; omega), List.set_cons_succ, List.map_cons, List.flatten_cons]
    congr 1
    rw [hu, show (i + 1) * sz + j - sz = i * sz + j by rw [Nat.add_mul]; omega]
    exact flat_set hu (d := d) (by simpa using h) hj he
/-! results, in slots, in cells, in rows of cells -/
def RV (C : Cx) (E : Env) (F : List HA) (I : Look) (rv : ResultVar) (v : Value) : Prop := ∀ (τ : Array Value) (w : World), Sat E C.n τ → St C.w0 I F w → (resF τ rv).run C.P w = .ok v w
def ResG (C : Cx) (E : Env) (I : Look) (F : List HA) : List ResultVar → List Value → Prop
  | [], [] => True
  | r :: rs, v :: vs => RV C E F I r v ∧ ResG C E I F rs vs
  | _, _ => False
section
variable {C : Cx} {E : Env} {I : Look} {H F : List HA} {R : Ending → World → Prop} {fn : Func}
theorem rg_nil : ResG C E I F [] [] := trivial
theorem rg_tmp {t : Nat} {v : Value} {rs : List ResultVar} {vs : List Value} (h : get E t = some v) (k : ResG C E I F rs vs) : ResG C E I F (.tmp t :: rs) (v :: vs) := ⟨fun τ w hs _ => by simp [resF, hs.2 t v h], k⟩
theorem rg_cell {a b off : Nat} {t : TypeId} {d : TypeDesc} {v : Value} {rs : List ResultVar} {vs : List Value} (h : get E a = some (.pointer (some ⟨b, off, none⟩))) (ht : C.P.underlying t = some d) (hd : notAgg d = true) (hr : Rd C.w0 I F b off v) (k : ResG C E I F rs vs) :
    ResG C E I F (.cell a t :: rs) (v :: vs) := ⟨fun τ w hs hw => by
      have h6 := hs.2 a _ h
      have h7 := hr w hw
      simp [resF, h6, asAddr, loadVar, run_isAgg_false ht hd, h7], k⟩
theorem rg_row {a b off n bytes : Nat} {t T : TypeId} {fs : Array Field} {z : Value} {cs us : List Value} {rs : List ResultVar} {vs : List Value} (h : get E a = some (.pointer (some ⟨b, off, none⟩))) (ht : C.P.underlying t = some (.struct fs)) (hi : TI C.P t n bytes z)
    [hm : InRow b T cs F] (hu : (cs.drop off).take n = us) (hn : us.length = n) (k : ResG C E I F rs vs) : ResG C E I F (.cell a t :: rs) (.agg us.toArray :: vs) := ⟨fun τ w hs hw => by
      have h6 := hs.2 a _ h
      have hr : Rds C.w0 I F b off us := rds_row hm.mem hu
      have h2 := run_loadCells (P := C.P) (w := w) (b := b) (k := off) (us := us) (fun j u hj => hr j u hj w hw)
      subst hn
      simp [resF, h6, asAddr, loadVar, run_isAgg_true ht, hi.sizeOf, h2], k⟩
theorem run_resG {τ : Array Value} {w : World} (hs : Sat E C.n τ) (hw : St C.w0 I F w) : ∀ {rs : List ResultVar} {vs : List Value}, ResG C E I F rs vs → (rs.mapM (resF τ)).run C.P w = .ok vs w
  | [], [], _ => by simp
  | r :: rs, v :: vs, h => by
    have ih := run_resG hs hw h.2
    have h1 := h.1 τ w hs hw
    simp only [List.mapM_cons, Sem.run_bind, h1, Result.andThen_ok, ih]
    simp
  | [], _ :: _, h => h.elim
  | _ :: _, [], h => h.elim
theorem run_resultsG {τ : Array Value} {w : World} {rs : List ResultVar} {vs : List Value} (hr : fn.results = rs.toArray) (hs : Sat E C.n τ) (hw : St C.w0 I F w) (h : ResG C E I F rs vs) : (results fn τ).run C.P w = .ok (retV vs) w := by
  rw [results_eq, hr, List.mapM_toArray, Sem.run_bind, Sem.run_map]
  rw [run_resG hs hw h]
  simp only [Result.andThen_ok]
  match vs with
  | [] => simp [retV]
  | [v] => simp [retV]
  | _ :: _ :: _ => simp [retV]
theorem n_retGG {rs : List ResultVar} {vs : List Value} {e : Exit} (he : e = .ret ∨ e = .normal) (hr : fn.results = rs.toArray) (h : ResG C E I H rs vs) (k : ∀ w, St C.w0 I H w → R (.returned (retV vs)) w) : N C e E I H [] (bodyPost C.P fn R) := by
  intro a w hs hd hw
  rcases he with rfl | rfl
  · exact ⟨hd, _, run_resultsG hr hs hw h, k w hw⟩
  · exact ⟨hd, _, run_resultsG hr hs hw h, k w hw⟩
theorem n_retGGM {bs : List Nat} {rs : List ResultVar} {vs : List Value} {e : Exit} (he : e = .ret ∨ e = .normal) (hr : fn.results = rs.toArray) [hp : PickDs bs F H] (h : ResG C E I F rs vs) (k : ∀ w, St C.w0 I F w → R (.returned (retV vs)) w) :
    N C e E I H (marks bs) (bodyPostM (WF none) 0 C.P fn R) := by
  intro a w hs hd hw
  have := leaves_marksG (P := C.P) (tmps := a.tmps) (fn := fn) (R := R) (fun w hw => run_resultsG hr hs hw h) bs w (hw.sub hp.sub) k
  rcases he with rfl | rfl
  · show LeavesInM _ _ _ _ _ _ a.defers .returning w
    rw [hd]; exact this
  · show LeavesInM _ _ _ _ _ _ a.defers .returning w
    rw [hd]; exact this
end
end Go.Tri
