/-
  Pointers compared; a text built byte by byte (strings.Builder), and its bytes told as a text.
-/
import Derived.Test.YtfnmioggkmkmcaaDoorTriMore
import Derived.Laws.Pointers
import Derived.LaidEqlPtr
namespace Go.Tri
open Go.RowKit
section
variable {C : Cx} {E : Env} {I : Look} {H : List HA} {D : List Deferred} {Q : Exit → Act → World → Prop} {o : Oper}
variable {x y : Operand} {t t' : TypeId}
theorem q_eql_pnil {p : Option Addr} (ho : o.op = .binOp .eql t x y t') (ht : C.P.underlying t = some (.pointer (C.P.pointee t))) (hx : ev E x = some (.pointer p)) (hy : ev E y = some (.pointer none)) : Quiet C E I H o (.bool p.isNone) :=
  quiet_bin ho hx hy fun w => run_eql_pointer_nil w t p ht
theorem q_neq_psame {te : TypeId} {b : Addr} {n bytes : Nat} {z : Value} (ho : o.op = .binOp .neq t x y t') (ht : C.P.underlying t = some (.pointer te)) (hi : TI C.P te n bytes z) (hx : ev E x = some (.pointer (some b))) (hy : ev E y = some (.pointer (some b))) : Quiet C E I H o (.bool false) :=
  quiet_bin ho hx hy fun w => by
    obtain ⟨j, hj, _⟩ := hi
    exact Lib.run_neq_ptr_same w b ht hj
theorem shape_row {w : World} {b : Nat} {T : TypeId} {cs : List Value} {fr : Nat × Nat} (hb : w.heap[b]? = some (.cells cs.toArray T fr)) : w.shape? b = some (T, cs.length) := by
  unfold World.shape?
  rw [hb]
  simp
theorem q_toUnsafe {te T : TypeId} {b n bytes : Nat} {z : Value} {cs : List Value} (ho : o.op = .convert t t' x) (hs : C.P.underlying t = some (.pointer te)) (hd : C.P.underlying t' = some .unsafePointer) (hi : TI C.P te n bytes z) (hn : Nat.beq n 0 = false)
    (hx : ev E x = some (.pointer (some ⟨b, 0, none⟩))) [hm : InRow b T cs H] (hcs : Nat.blt 0 cs.length = true) : Quiet C E I H o (.pointer (some ⟨b, 0, none⟩)) :=
  quiet_run (by rw [ho]; rfl) fun a w hsat hw => by
    obtain ⟨j, hj, hj1, _⟩ := hi
    have hb : w.heap[b]? = some (.cells cs.toArray T (0, 0)) := hw.sat _ hm.mem
    simp only [execOp, ho, hsat.ev hx]
    rw [Sem.run_bind, Lib.run_to_unsafe (P := C.P) w ⟨b, 0, none⟩ hs hd hj (by rw [hj1]; intro h; subst h; simp at hn) (shape_row hb) (by simpa using hcs)]
    rfl
theorem q_fromUnsafe {te T : TypeId} {b n bytes : Nat} {z : Value} {cs : List Value} (ho : o.op = .convert t t' x) (hs : C.P.underlying t = some .unsafePointer) (hd : C.P.underlying t' = some (.pointer te)) (hi : TI C.P te n bytes z)
    (hx : ev E x = some (.pointer (some ⟨b, 0, none⟩))) [hm : InRow b T cs H] (hl : liesAt C.P C.P.depth T (cs.length / C.P.cellsOf T) 0 te 1 = true) : Quiet C E I H o (.pointer (some ⟨b, 0, none⟩)) :=
  quiet_run (by rw [ho]; rfl) fun a w hsat hw => by
    obtain ⟨j, hj, hj1, _⟩ := hi
    have hb : w.heap[b]? = some (.cells cs.toArray T (0, 0)) := hw.sat _ hm.mem
    simp only [execOp, ho, hsat.ev hx]
    rw [Sem.run_bind, Lib.run_from_unsafe (P := C.P) w ⟨b, 0, none⟩ hs hd hj (shape_row hb) hl]
    rfl

def sdp : Value → Option Addr
  | .slice A _ _ => A
  | _ => none
/-- a buffer: nil as long as nothing stands in it -/
def BufOk (v : Value) (l : List UInt8) : Prop := v = .slice none 0 0 ∨ l ≠ []
theorem q_sliceData {ty : TypeId} {T : TypeId} {v : Value} {l : List UInt8} (ho : o.op = .call { callee := .builtin .unsafeSliceData, args := #[x], argTypes := #[t] }) (hx : ev E x = some v) [hm : InVec v T 1 l.length (l.map byC).flatten H] (hok : BufOk v l) : Quiet C E I H o (.pointer (sdp v)) :=
  quiet_run (by rw [ho]; rfl) fun a w hsat hw => by
    obtain ⟨_, hh⟩ := hw.sat _ hm.mem
    simp only [execOp, ho, resolve]
    rcases hh with ⟨rfl, hz⟩ | ⟨g, cap, cur, rfl, hg, hn, hc, hsz, htk⟩
    · simp [hsat.ev hx, invoke, builtin, Lib.run_unsafeSliceData_nil, sdp]
    · have h0 : l ≠ [] := by rcases hok with h | h; cases h; exact h
      have hl : 0 < l.length := List.length_pos_iff.2 h0
      simp [hsat.ev hx, invoke, builtin, Lib.run_unsafeSliceData_row (P := C.P) w #[t] _ ⟨g, 0, none⟩ l.length cap (by omega), sdp]

theorem e_unsafeString {pt it e e' : TypeId} {v : Value} {l : List UInt8} {F : List HA} (ho : o.op = .call { callee := .builtin .unsafeString, args := #[x, y], argTypes := #[pt, it] }) (hp : C.P.underlying pt = some (.pointer e)) (hc : Nat.beq (C.P.cellsOf e) 1 = true)
    (hx : ev E x = some (.pointer (sdp v))) (hy : ev E y = some (.int .i64 (l.length : Int))) [hpk : PickVec v e' 1 l.length (l.map byC).flatten F H] (hee : e = e') (hok : BufOk v l) (h63 : l.length ≤ 9223372036854775807) :
    Eff C E I H o (fun u I' H' => u = str l ∧ I = I' ∧ H' = F) := by
  subst hee
  intro a w hs hw K Q hk
  have hw' := hw.perm hpk.pick
  obtain ⟨hl, hv⟩ : vecSat v e 1 l.length (l.map byC).flatten (look w) := hw'.sat _ (List.mem_cons_self)
  rcases hv with ⟨rfl, hz⟩ | ⟨g, cap, cur, rfl, hg, hn, hcap, hsz, htk⟩
  · have hnil : l = [] := List.eq_nil_of_length_eq_zero hz
    subst hnil
    refine wpIn_of_run (v := .string .empty) (w' := w) (by rw [ho]; rfl) ?_ (hk _ I F w ⟨rfl, rfl, rfl⟩ hw'.tail)
    simp only [execOp, ho, resolve]
    simp [hs.ev hx, hs.ev hy, invoke, builtin, sdp, Lib.run_unsafeString_none]
  · have h0 : l ≠ [] := by rcases hok with h | h; cases h; exact h
    have hg' : w.heap[g]? = some (.cells cur e (0, 0)) := hg
    rw [byC_flat] at htk
    have hsz' : cur.size = cap := by simpa using hsz
    have hrun := Lib.run_unsafeString_row (P := C.P) w pt it o.type e hp (by simpa using hc) g cap (by unfold World.shape?; rw [hg']; simp [hsz']) l h0 hn h63 (fun j c hj => by
      rw [Addr.add_lit]
      unfold World.cell?
      simp only [hg', Option.isSome_none, Bool.false_eq_true, if_false, Nat.zero_add]
      obtain ⟨hj1, hj2⟩ := List.getElem?_eq_some_iff.1 hj
      have h2 : (l.map u8)[j]? = some (u8 c) := by simp [hj]
      rw [← htk, List.getElem?_take] at h2
      split at h2
      · simpa [u8] using h2
      · cases h2)
    have hlt : g < w.heap.size := lt_of_some hg'
    have hlen : l.length ≠ 0 := by simpa using h0
    refine wpIn_of_run (v := str l) (w' := w.freeze ⟨g, 0, none⟩ l.length) (by rw [ho]; rfl) ?_ (hk _ I F _ ⟨rfl, rfl, rfl⟩ (St.tail (x := obj g (.cells cur e (0, l.length)))
      (hw'.turn (x := vec _ _ _ _ _) (y := obj g (.cells cur e (0, l.length))) ?_ ?_ ?_ ?_ ?_ ?_ (.inl rfl))))
    · simp only [execOp, ho, resolve]
      simp [hs.ev hx, hs.ev hy, invoke, builtin, sdp, hrun, str]
    · unfold World.freeze; rw [if_neg hlen]
    · unfold World.freeze; rw [if_neg hlen]
    · unfold World.freeze; rw [if_neg hlen]
    · unfold World.freeze; rw [if_neg hlen]; simp
    · intro k hk hne
      unfold World.freeze; rw [if_neg hlen]
      simp only [Array.getElem?_modify]
      rw [if_neg (fun h => hne (by subst h; rfl))]
    · show (w.freeze ⟨g, 0, none⟩ l.length).heap[g]? = _
      unfold World.freeze; rw [if_neg hlen]
      simp only [Array.getElem?_modify, if_true, hg']
      simp
end
end Go.Tri
