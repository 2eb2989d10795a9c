/-
 Maps of a call's own from texts to numbers: asked, and told anew.
-/
import Derived.Test.YthjgbalcngkjjaaGreatDoorTriZ
namespace Go.Tri
open Go.RowKit
def KQ (k : List UInt8) (p : List UInt8 × Int) : Bool := decide (p.1 = k)
def GD (T : List (List UInt8 × Int)) (k : List UInt8) : Int := match T.find? (KQ k) with
 | some p => p.2
 | none => 0
def I2 : List (List UInt8 × Int) → List UInt8 → Int → List (List UInt8 × Int)
 | [], k, n => [(k, n)]
 | p :: T, k, n => if p.1 = k then (k, n) :: T else p :: I2 T k n
theorem ND (a b : List UInt8) : Instr.sameNow .string (Bj a) (Bj b) = some (decide (b = a)) := by
 show some ((⟨a.toArray⟩ : ByteArray) == ⟨b.toArray⟩) = _
 congr 1
 rw [Bool.eq_iff_iff, MapKept.bytes_beq, decide_eq_true_eq]
 constructor
 ·intro h
  injection h with h
  injection h with h
  exact h.symm
 ·intro h; rw [h]
theorem Lr {k : List UInt8} : ∀ {T : List (List UInt8 × Int)} (i j : Nat), T.find? (KQ k) = none → Instr.findNow .string (Bj k) (Gq i T) j = some none
 | [], _, _, _ => rfl
 | p :: T, i, j, h => by
  rw [List.find?_cons] at h
  cases hp : KQ k p with
  | true => rw [hp] at h; cases h
  | false =>
   rw [hp] at h
   have hp' : decide (p.1 = k) = false := hp
   show (match Instr.sameNow .string (Bj k) (Bj p.1) with
    | some true => _
    | some false => Instr.findNow .string (Bj k) (Gq (i + 1) T) (j + 1)
    | none => none) = _
   rw [ND, hp']
   exact Lr (i + 1) (j + 1) h
theorem Lu {k : List UInt8} : ∀ {T : List (List UInt8 × Int)} (i j : Nat) {q : List UInt8 × Int}, T.find? (KQ k) = some q → ∃ m, m < T.length ∧ (Gq i T)[m]? = some (Ug q (i + m)) ∧ q.1 = k ∧ Instr.findNow .string (Bj k) (Gq i T) j = some (some (j + m, .int .i64 q.2)) ∧
  ∀ n, Gq i (I2 T k n) = (Gq i T).modify m fun e => { e with key := Bj k, val := .int .i64 n }
 | [], _, _, _, h => by cases h
 | p :: T, i, j, q, h => by
  rw [List.find?_cons] at h
  cases hp : KQ k p with
  | true =>
   rw [hp] at h
   cases h
   have hk : p.1 = k := of_decide_eq_true hp
   refine ⟨0, by simp, rfl, hk, ?_, fun n => ?_⟩
   ·show (match Instr.sameNow .string (Bj k) (Bj p.1) with
     | some true => some (some (j, Value.int .i64 p.2))
     | some false => Instr.findNow .string (Bj k) (Gq (i + 1) T) (j + 1)
     | none => none) = _
    rw [ND, decide_eq_true hk]; rfl
   ·rw [I2, if_pos hk]; rfl
  | false =>
   rw [hp] at h
   have hk : ¬ p.1 = k := of_decide_eq_false hp
   obtain ⟨m, h1, h2, h3, h4, h5⟩ := Lu (i + 1) (j + 1) h
   refine ⟨m + 1, by simp; omega, ?_, h3, ?_, fun n => ?_⟩
   ·show (Gq (i + 1) T)[m]? = _
    rw [h2]; congr 2; omega
   ·show (match Instr.sameNow .string (Bj k) (Bj p.1) with
     | some true => _
     | some false => Instr.findNow .string (Bj k) (Gq (i + 1) T) (j + 1)
     | none => none) = _
    rw [ND, decide_eq_false hk]
    show Instr.findNow .string (Bj k) (Gq (i + 1) T) (j + 1) = _
    rw [h4]; congr 3; omega
   ·rw [I2, if_neg hk]
    show Ug p i :: Gq (i + 1) (I2 T k n) = _
    rw [h5 n]; rfl
theorem Oy {k : List UInt8} {n : Int} : ∀ {T : List (List UInt8 × Int)}, T.find? (KQ k) = none → I2 T k n = T ++ [(k, n)]
 | [], _ => rfl
 | p :: T, h => by
  rw [List.find?_cons] at h
  cases hp : KQ k p with
  | true => rw [hp] at h; cases h
  | false => rw [hp] at h; rw [I2, if_neg (of_decide_eq_false hp), Oy h]; rfl
theorem RY {k : List UInt8} {n : Int} : ∀ {T : List (List UInt8 × Int)} {q : List UInt8 × Int}, T.find? (KQ k) = some q → (I2 T k n).length = T.length
 | [], _, h => by cases h
 | p :: T, q, h => by
  rw [List.find?_cons] at h
  cases hp : KQ k p with
  | true => rw [I2, if_pos (of_decide_eq_true hp)]; rfl
  | false => rw [hp] at h; rw [I2, if_neg (of_decide_eq_false hp), List.length_cons, RY h]; rfl
section
variable {C : Cx} {E : DJ} {I : AU} {H F : List HA} {o : Oper} {x y z : Operand} {t kt et : TypeId} {T : List (List UInt8 × Int)}
theorem O8 {b bytes : Nat} {k : List UInt8} (ho : o.op = .lookup t x y false) (ht : C.P.underlying t = some (.map kt et)) (hkt : C.P.underlying kt = some .string) (het : TI C.P et 1 bytes (.int .i64 0))
  (hx : ev E x = some (.map (some b))) (hy : ev E y = some (Bj k)) [hp : IE b (Oq T) F H] : BS C E I H o (.int .i64 (GD T k)) :=
 Bk (by rw [ho]; rfl) fun a w hs hw => by
  have hb : w.heap[b]? = some (.map (Gq 0 T).toArray T.length) := (hw.perm hp.pick).sat _ (List.mem_cons_self)
  have hc : ∀ e, (Instr.checkKey e 10000 kt (Bj k)).run C.P w = .ok () w := fun e => MapKept.run_checkKey (k := Bj k) hkt (by simp [MapKept.IsKey, Bj]) e 9999
  have DV : (Instr.lookup t (.map (some b)) (Bj k) false).run C.P w = .ok (.int .i64 (GD T k)) w := by
   unfold GD
   cases hf : T.find? (KQ k) with
   | none =>
    have h2 : Instr.findNow .string (Bj k) (Gq 0 T).toArray.toList 0 = some none := Lr 0 0 hf
    simp only [Instr.lookup, Sem.run_bind, run_underlying ht, Result.andThen, MapKept.run_getObj_map hb, hc, MapKept.run_findKey hkt h2, TI.zero het, Sem.run_pure]
    rfl
   | some q =>
    obtain ⟨m, _, _, _, h2, _⟩ := Lu 0 0 hf
    have h2 : Instr.findNow .string (Bj k) (Gq 0 T).toArray.toList 0 = some (some (0 + m, .int .i64 q.2)) := h2
    simp only [Instr.lookup, Sem.run_bind, run_underlying ht, Result.andThen, MapKept.run_getObj_map hb, hc, MapKept.run_findKey hkt h2, Sem.run_pure]
    rfl
  simp only [execOp, ho, hs.ev hx, hs.ev hy]
  rw [Sem.run_bind, DV]; rfl
theorem Zq {b : Nat} {k : List UInt8} {n : Int} (ho : o.op = .mapUpdate t x y z) (ht : C.P.underlying t = some (.map kt et)) (hkt : C.P.underlying kt = some .string)
  (hx : ev E x = some (.map (some b))) (hy : ev E y = some (Bj k)) (hz : ev E z = some (.int .i64 n)) [hp : IE b (Oq T) F H] :
  I9 C E I H o (fun _ I' H' => I = I' ∧ H' = Fq b (Oq (I2 T k n)) :: F) := by
 intro a w hs hw K Q hk
 have hw' := hw.perm hp.pick
 have hb : w.heap[b]? = some (.map (Gq 0 T).toArray T.length) := hw'.sat _ (List.mem_cons_self)
 have hc : (Instr.checkKey false 10000 kt (Bj k)).run C.P w = .ok () w := MapKept.run_checkKey (k := Bj k) hkt (by simp [MapKept.IsKey, Bj]) false 9999
 have DV : (Instr.mapUpdate t (.map (some b)) (Bj k) (.int .i64 n)).run C.P w = .ok () { w with heap := w.heap.setIfInBounds b (Oq (I2 T k n)) } := by
  cases hf : T.find? (KQ k) with
  | none =>
   have h2 : Instr.findNow .string (Bj k) (Gq 0 T).toArray.toList 0 = some none := Lr 0 0 hf
   simp only [Instr.mapUpdate, Sem.run_bind, run_underlying ht, Result.andThen, MapKept.run_getObj_map hb, hc, MapKept.run_findKey hkt h2, MapKept.run_setObj_map _ hb]
   unfold Oq
   rw [Oy hf, PO, List.length_append, Nat.zero_add]
   simp [Ug]
  | some q =>
   obtain ⟨m, hm, h3, h4, h2, h5⟩ := Lu 0 0 hf
   have h2 : Instr.findNow .string (Bj k) (Gq 0 T).toArray.toList 0 = some (some (0 + m, .int .i64 q.2)) := h2
   have h6 : (((Gq 0 T).toArray[0 + m]?).map (·.key)).getD (Bj k) = Bj k := by
    rw [Nat.zero_add, List.getElem?_toArray, h3]
    show Bj q.1 = Bj k
    rw [h4]
   simp only [Instr.mapUpdate, Sem.run_bind, run_underlying ht, Result.andThen, MapKept.run_getObj_map hb, hc, MapKept.run_findKey hkt h2, h6, MapKept.run_keyThatStays (k := Bj k) (d := .string) (by simp [MapKept.IsKey, Bj]), MapKept.run_setObj_map _ hb]
   unfold Oq
   rw [h5 n, RY hf, Nat.zero_add]
   simp
 exact Ff (by rw [ho]; rfl) (w' := { w with heap := w.heap.setIfInBounds b (Oq (I2 T k n)) }) (by
  simp only [execOp, ho, hs.ev hx, hs.ev hy, hs.ev hz]
  rw [Sem.run_bind, DV]; rfl) (hk undef _ _ _ ⟨rfl, rfl⟩ (We hw'))
end
end Go.Tri
