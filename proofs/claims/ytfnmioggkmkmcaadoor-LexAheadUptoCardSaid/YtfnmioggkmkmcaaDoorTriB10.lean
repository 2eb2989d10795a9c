/-
  A text's runes one by one; a rune as a text.
-/
import Derived.Test.YtfnmioggkmkmcaaDoorTriB9
import Derived.Lib.OthersKept
namespace Go.Tri
open Go.RowKit
def runeAt (s : List UInt8) (pos : Nat) : Nat × Nat := Utf8.decode ⟨s.toArray⟩ pos
def nextPos (s : List UInt8) (pos : Nat) : Nat := if pos < s.length then pos + (runeAt s pos).2 else pos
class PickIt (b : Nat) (s : outParam (List UInt8)) (pos : outParam Nat) (F : outParam (List HA)) (H : List HA) : Prop where
  pick : H.Perm (obj b (.stringIter ⟨s.toArray⟩ pos) :: F)
instance pickIt_head {b pos : Nat} {s : List UInt8} {F : List HA} : PickIt b s pos F (obj b (.stringIter ⟨s.toArray⟩ pos) :: F) := ⟨pick_head⟩
instance (priority := low) pickIt_tail {b pos : Nat} {s : List UInt8} {y : HA} {F H : List HA} [h : PickIt b s pos F H] : PickIt b s pos (y :: F) (y :: H) := ⟨pick_tail h.pick⟩
section
variable {C : Cx} {E : Env} {I : Look} {H F : List HA} {o : Oper} {x : Operand} {t t' : TypeId} {s : List UInt8}
theorem e_rangeStr (ho : o.op = .range t x) (ht : C.P.underlying t = some .string) (hx : ev E x = some (str s)) :
    Eff C E I H o (fun v I' H' => ∃ b, v = .pointer (some ⟨b, 0, none⟩) ∧ I = I' ∧ H' = obj b (.stringIter ⟨s.toArray⟩ 0) :: H) :=
  fun a w hs hw K Q hk => wpIn_of_run (by rw [ho]; rfl) (by
    simp only [execOp, ho, hs.ev hx, str]
    rw [Sem.run_bind, run_range_string (P := C.P) w t ⟨s.toArray⟩ ht]
    rfl) (hk _ _ _ _ ⟨w.heap.size, rfl, rfl, rfl⟩ (hw.new _))
theorem e_nextStr {b pos : Nat} (ho : o.op = .next x true) (hx : ev E x = some (.pointer (some ⟨b, 0, none⟩))) [hp : PickIt b s pos F H] :
    Eff C E I H o (fun v I' H' => ∃ vs : Array Value, v = .tuple vs ∧ vs[0]? = some (.bool (decide (pos < s.length))) ∧ (pos < s.length → vs[1]? = some (.int .i64 (pos : Int)) ∧ vs[2]? = some (.int .i32 ((runeAt s pos).1 : Int))) ∧ I = I' ∧ H' = obj b (.stringIter ⟨s.toArray⟩ (nextPos s pos)) :: F) := by
  intro a w hs hw K Q hk
  have hw' := hw.perm hp.pick
  have hb : w.heap[b]? = some (.stringIter ⟨s.toArray⟩ pos) := hw'.sat _ (List.mem_cons_self)
  have hsz := size_str s
  by_cases h : pos < s.length
  · refine wpIn_of_run (v := .tuple #[.bool true, .int .i64 (pos : Int), .int .i32 ((runeAt s pos).1 : Int)]) (by rw [ho]; rfl) (by
      simp only [execOp, ho, hs.ev hx]
      rw [Sem.run_bind, Lib.run_next_any_at (P := C.P) w b ⟨s.toArray⟩ pos o.type hb (by omega)]
      rfl) (hk _ I _ _ ⟨_, rfl, by rw [decide_eq_true h]; rfl, fun _ => ⟨rfl, rfl⟩, rfl, rfl⟩ ?_)
    refine hw'.turn (w' := w.iterAt b ⟨s.toArray⟩ (pos + (runeAt s pos).2)) rfl rfl rfl (by simp [World.iterAt]) (fun k _ hk => ?_) ?_ (.inl rfl)
    · simp only [World.iterAt, Array.getElem?_setIfInBounds]
      rw [if_neg (fun e => hk (by rw [← e]; rfl))]
    · rw [nextPos, if_pos h]
      exact Lib.iterAt_heap w b ⟨s.toArray⟩ pos _ hb
  · refine wpIn_of_run (v := .tuple #[.bool false]) (by rw [ho]; rfl) (by
      simp only [execOp, ho, hs.ev hx]
      rw [Sem.run_bind, Lib.run_next_end_at (P := C.P) w b ⟨s.toArray⟩ pos o.type hb (by omega)]
      rfl) (hk _ I _ _ ⟨_, rfl, by rw [decide_eq_false h]; rfl, fun h2 => absurd h2 h, rfl, by rw [nextPos, if_neg h]⟩ hw')
theorem q_rune_str {k : IntKind} {r : Int} (ho : o.op = .convert t t' x) (hs : C.P.underlying t = some (.int k)) (hd : C.P.underlying t' = some .string) (hx : ev E x = some (.int k r)) : Quiet C E I H o (str (Utf8.encode r).data.toList) :=
  quiet_run (by rw [ho]; rfl) fun a w hsat _ => by
    simp [execOp, ho, hsat.ev hx, str, convert, run_underlying hs, run_underlying hd, Conv.intToString]
end
end Go.Tri
