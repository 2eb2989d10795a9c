/-
  What a word is expanded to, in plain words.
-/
import Derived.Test.YtbogmbdfjgnfaaaGreatDoorPWord7
import Derived.Test.YtbogmbdfjgnfaaaGreatDoorPSplit
import Derived.Test.YtbogmbdfjgnfaaaGreatDoorPPat2
import Derived.Test.YtbogmbdfjgnfaaaGreatDoorPNum
import Derived.Test.YtbogmbdfjgnfaaaGreatDoorPAr2
import Derived.Lib.Join
namespace Go.Tri
open Go.RowKit
/-- a piece, or a break -/
structure Px where
  p : Pc
  st : Bool
def pxC (x : Px) : List Value := [str x.p.t, .bool x.p.q, .bool x.p.s, .bool x.st]
def px0 : Px := ⟨pc0, false⟩
def brk : Px := ⟨pc0, true⟩
/-! ### variables -/
def findN (l : List Vr) (n : List UInt8) : Option Nat := l.findIdx? fun v => decide (v.name = n)
def atN (l : List Vr) (n : List UInt8) : Vr := match findN l n with
  | some i => nth l i vr0
  | none => ⟨n, [], false, false, true⟩
def lowN (l : List Vr) (n : List UInt8) : Nat := (l.takeWhile fun v => Op.bytesLess v.name n).length
def putN (l : List Vr) (x : Vr) : List Vr := match findN l x.name with
  | some i => l.set i x
  | none => l.take (lowN l x.name) ++ [x] ++ l.drop (lowN l x.name)
def setN (l : List Vr) (n v : List UInt8) : Nat × List Vr :=
  if nameB n = false then (22, l) else if (atN l n).r = true then (63, l) else if 65536 < v.length then (66, l) else if findN l n = none ∧ 64 ≤ l.length then (64, l)
  else (0, putN l ⟨(atN l n).name, v, (atN l n).e, (atN l n).r, false⟩)
def markN (l : List Vr) (n : List UInt8) (e r : Bool) : List Vr :=
  if nameB n = false then l else if e = false ∧ r = false then l else if findN l n = none ∧ 64 ≤ l.length then l
  else putN l ⟨(atN l n).name, (atN l n).value, (atN l n).e || e, (atN l n).r || r, (atN l n).u⟩
/-! ### the host: variables, arguments; what commands say; what was asked -/
structure Hx where
  vars : List Vr
  args : List (List UInt8)
  outs : List (List UInt8)
  asked : List (List UInt8)
def shyS : List UInt8 := [115, 104, 121, 97, 114, 100]
def specL : List Vr := [⟨[63], [48], false, false, false⟩, ⟨[36], [50], false, false, false⟩, ⟨[48], shyS, false, false, false⟩]
/-- a parameter's value -/
def parX (h : Hx) (n : List UInt8) : List UInt8 × Bool := match findN specL n with
  | some i => ((nth specL i vr0).value, !(nth specL i vr0).u)
  | none =>
    if n ≠ [] ∧ digitB' (nth n 0 0) = true then (match numB n with
      | some k => if 1 ≤ k ∧ k ≤ (h.args.length : Int) then (nth h.args (k - 1).toNat [], true) else ([], false)
      | none => ([], false))
    else if n = [35] then (Lib.itoa (h.args.length : Int), true)
    else ((atN h.vars n).value, !(atN h.vars n).u)
def shownX (l : List Vr) : List Vr := l.filter fun v => !v.u
inductive XR where
  | ok (l : List Px) (h : Hx)
  | bad (e : Nat) (m : List UInt8) (h : Hx)
def wholeX (s : List UInt8) (q : Bool) : List Px := [⟨⟨s, q, true⟩, false⟩]
def stS (x : Px) : List UInt8 := if x.st then [32] else []
def textX (l : List Px) : List UInt8 := l.flatMap fun x => stS x ++ x.p.t
def charsX (l : List Px) : List Ch := l.flatMap fun x => (if x.st then [(⟨32, false⟩ : Ch)] else []) ++ x.p.t.map fun b => ⟨b, x.p.q⟩
def trimNl (s : List UInt8) : List UInt8 := Lib.trimRightS s [10]
def ifsN : List UInt8 := [73, 70, 83]
def homeN : List UInt8 := [72, 79, 77, 69]
def ifsS : List UInt8 := [32, 9, 10]
def cutOps : List (List UInt8) := [[37], [37, 37], [35], [35, 35]]
def manyB (t : List UInt8) : Bool := decide (t = [64]) || decide (t = [42])
def betX (h : Hx) : List UInt8 := if (parX h ifsN).2 = true then (parX h ifsN).1.take 1 else [32]
def argAt (q : Bool) (l : List (List UInt8)) (i : Nat) : List Px := (if 0 < i then [brk] else []) ++ wholeX (nth l i []) q
def argL (q : Bool) (l : List (List UInt8)) (i : Nat) : List Px := (List.range i).flatMap (argAt q l)
/-- @ and * without an operator -/
def argsX (h : Hx) (t : List UInt8) (q : Bool) : List Px :=
  if t = [42] ∧ q = true then wholeX (Lib.join h.args (betX h)) true else argL q h.args h.args.length
def valX (h : Hx) (t : List UInt8) : List UInt8 × Bool := if manyB t = true then (Lib.join h.args [32], decide (h.args ≠ [])) else parX h t
def lenX (h : Hx) (t : List UInt8) : Int := if manyB t = true then (h.args.length : Int) else ((valX h t).1.length : Int)
/-- a command is asked -/
def askX (h : Hx) (t : List UInt8) (q : Bool) : XR :=
  if (h.asked ++ [t]).length ≤ h.outs.length then .ok (wholeX (trimNl (nth h.outs h.asked.length [])) q) ⟨h.vars, h.args, h.outs, h.asked ++ [t]⟩ else .bad 5 [] ⟨h.vars, h.args, h.outs, h.asked ++ [t]⟩
def isX (h : Hx) (t op : List UInt8) : Bool := (valX h t).2 && (!stB op [58] || decide ((valX h t).1 ≠ []))
def opX (op : List UInt8) : List UInt8 := Lib.trimPrefix op [58]
@[reducible] def Hx.put (h : Hx) (l : List Vr) : Hx := ⟨l, h.args, h.outs, h.asked⟩
/-- what stands in the place of a parameter -/
def insX (t op : List UInt8) (q : Bool) : XR → XR
  | .bad e m h => .bad e m h
  | .ok l h =>
    if op = [61] then (if nameB t = false then .bad 22 [] h else if (setN h.vars t (textX l)).1 ≠ 0 then .bad (setN h.vars t (textX l)).1 [] h else .ok (wholeX (textX l) q) (h.put (setN h.vars t (textX l)).2))
    else if op = [63] then .bad 62 (textX l) h
    else if l = [] then .ok (wholeX [] q) h else .ok l h
def cutX (v op : List UInt8) (q : Bool) : XR → XR
  | .bad e m h => .bad e m h
  | .ok l h => .ok (wholeX (cutP (charsX l) v (decide (nth op 0 0 = 37)) (decide (op.length = 2))) q) h
/-- assignments of an expression -/
def setsX (L : List Px) : List Ass → Hx → XR
  | [], h => .ok L h
  | s :: r, h => if (setN h.vars s.1 (Lib.itoa s.2)).1 ≠ 0 then .bad (setN h.vars s.1 (Lib.itoa s.2)).1 [] h else setsX L r (h.put (setN h.vars s.1 (Lib.itoa s.2)).2)
def evX (l : List Px) (h : Hx) : Int × List Ass × Nat := evalP (textX l) ((shownX h.vars).map Vr.nv)
def ariX (q : Bool) : XR → XR
  | .bad e m h => .bad e m h
  | .ok l h => if (evX l h).2.2 ≠ 0 then .bad (evX l h).2.2 [] h else setsX (wholeX (Lib.itoa (evX l h).1) q) (evX l h).2.1 h
def litX (t : List UInt8) (q wi : Bool) : List Px := [⟨⟨t, q, wi && !q⟩, false⟩]
mutual
def partX (wi : Bool) (h : Hx) : PT → XR
  | .mk k t op w q =>
    if k = 2 then
      if manyB t = true ∧ op = [] then .ok (argsX h t q) h
      else if op = [] then .ok (wholeX (valX h t).1 q) h
      else if op = lenW then .ok (wholeX (Lib.itoa (lenX h t)) q) h
      else if op ∈ cutOps then (if 4096 < (valX h t).1.length then .bad 66 [] h else cutX (valX h t).1 op q (partsX false h [] w))
      else if opX op = [43] ∧ isX h t op = false then .ok (wholeX [] q) h
      else if opX op ≠ [43] ∧ isX h t op = true then .ok (wholeX (valX h t).1 q) h
      else insX t (opX op) q (partsX true h [] w)
    else if k = 4 then ariX q (partsX false h [] w)
    else if k = 3 then askX h t q
    else if k = 5 ∧ (parX h homeN).2 = true then .ok (wholeX (parX h homeN).1 true) h
    else .ok (litX t q wi) h
def partsX (wi : Bool) (h : Hx) (acc : List Px) : List PT → XR
  | [] => .ok acc h
  | p :: l => match partX wi h p with
    | .bad e m h => .bad e m h
    | .ok m h' => partsX wi h' (acc ++ m) l
end
/-- a text of a kind -/
def expX (h : Hx) (s : List UInt8) (kind : Int) : XR := match partsP s kind with
  | .bad e => .bad e [] h
  | .ok l => partsX false h [] l
/-- the text of a kind: the text, the message, the error -/
def oneX (h : Hx) (s : List UInt8) (kind : Int) : List UInt8 × List UInt8 × Nat × Hx := match expX h s kind with
  | .bad e m h => ([], m, e, h)
  | .ok l h => if 65536 < (textX l).length then ([], [], 66, h) else (textX l, [], 0, h)
/-! ### small laws -/
theorem findN_some {l : List Vr} {n : List UInt8} {i : Nat} (h : i < l.length) (hn : (nth l i vr0).name = n) (hno : ∀ k, k < i → (nth l k vr0).name ≠ n) : findN l n = some i := by
  unfold findN
  rw [List.findIdx?_eq_some_iff_getElem]
  refine ⟨h, by rw [nth_eq h] at hn; simp [hn], fun j hj => ?_⟩
  have := hno j hj
  rw [nth_eq (by omega)] at this
  simp [this]
theorem findN_none {l : List Vr} {n : List UInt8} (hno : ∀ k, k < l.length → (nth l k vr0).name ≠ n) : findN l n = none := by
  unfold findN
  rw [List.findIdx?_eq_none_iff]
  intro x hx
  obtain ⟨i, hi, rfl⟩ := List.getElem_of_mem hx
  have := hno i hi
  rw [nth_eq hi] at this
  simp [this]
theorem findN_lt {l : List Vr} {n : List UInt8} {i : Nat} (h : findN l n = some i) : i < l.length ∧ (nth l i vr0).name = n := by
  unfold findN at h
  rw [List.findIdx?_eq_some_iff_getElem] at h
  obtain ⟨h1, h2, _⟩ := h
  exact ⟨h1, by rw [nth_eq h1]; simpa using h2⟩
theorem atN_some {l : List Vr} {n : List UInt8} {i : Nat} (h : findN l n = some i) : atN l n = nth l i vr0 := by unfold atN; rw [h]
theorem atN_none {l : List Vr} {n : List UInt8} (h : findN l n = none) : atN l n = ⟨n, [], false, false, true⟩ := by unfold atN; rw [h]
theorem atN_name (l : List Vr) (n : List UInt8) : (atN l n).name = n := by
  cases h : findN l n with
  | none => rw [atN_none h]
  | some i => rw [atN_some h]; exact (findN_lt h).2
theorem lowN_le (l : List Vr) (n : List UInt8) : lowN l n ≤ l.length := (List.takeWhile_prefix _).length_le
theorem lowN_at {l : List Vr} {n : List UInt8} {i : Nat} (hi : i ≤ l.length) (hlt : ∀ k, k < i → Op.bytesLess (nth l k vr0).name n = true) (hst : i < l.length → Op.bytesLess (nth l i vr0).name n = false) : lowN l n = i := by
  unfold lowN
  have h1 : l.takeWhile (fun v => Op.bytesLess v.name n) = l.take i := by
    conv => lhs; rw [← List.take_append_drop i l]
    rw [List.takeWhile_append_of_pos]
    · rcases Nat.lt_or_ge i l.length with h | h
      · rw [drop_nth vr0 h, List.takeWhile_cons, hst h]; simp
      · rw [List.drop_of_length_le h]; simp
    · intro x hx
      obtain ⟨k, hk, rfl⟩ := List.getElem_of_mem hx
      rw [List.length_take] at hk
      have := hlt k (by omega)
      rw [nth_eq (by omega)] at this
      rw [List.getElem_take]; exact this
  rw [h1, List.length_take]; omega
theorem putN_some {l : List Vr} {x : Vr} {i : Nat} (h : findN l x.name = some i) : putN l x = l.set i x := by unfold putN; rw [h]
theorem putN_none {l : List Vr} {x : Vr} (h : findN l x.name = none) : putN l x = l.take (lowN l x.name) ++ [x] ++ l.drop (lowN l x.name) := by unfold putN; rw [h]
theorem putN_len (l : List Vr) (x : Vr) : (putN l x).length = if findN l x.name = none then l.length + 1 else l.length := by
  cases h : findN l x.name with
  | none =>
    rw [putN_none h, if_pos rfl]
    have := lowN_le l x.name
    simp only [List.length_append, List.length_take, List.length_drop, List.length_cons, List.length_nil]; omega
  | some i => rw [putN_some h, List.length_set, if_neg (by simp)]
theorem putN_mem {l : List Vr} {x y : Vr} (h : y ∈ putN l x) : y ∈ l ∨ y = x := by
  cases hf : findN l x.name with
  | none =>
    rw [putN_none hf] at h
    simp only [List.mem_append, List.mem_singleton] at h
    rcases h with (h | h) | h
    · exact .inl (List.mem_of_mem_take h)
    · exact .inr h
    · exact .inl (List.mem_of_mem_drop h)
  | some i =>
    rw [putN_some hf] at h
    exact List.mem_or_eq_of_mem_set h
theorem setN_len {l : List Vr} {n v : List UInt8} (h : l.length ≤ 64) : (setN l n v).2.length ≤ 64 := by
  unfold setN
  split
  · exact h
  · split
    · exact h
    · split
      · exact h
      · split
        · exact h
        · rename_i hx
          show (putN l _).length ≤ 64
          rw [putN_len]
          show (if findN l (atN l n).name = none then _ else _) ≤ 64
          rw [atN_name]
          split
          · rename_i hf
            have : ¬ 64 ≤ l.length := fun h64 => hx ⟨hf, h64⟩
            omega
          · exact h
theorem markN_len {l : List Vr} {n : List UInt8} {e r : Bool} (h : l.length ≤ 64) : (markN l n e r).length ≤ 64 := by
  unfold markN
  split
  · exact h
  · split
    · exact h
    · split
      · exact h
      · rename_i hx
        rw [putN_len]
        show (if findN l (atN l n).name = none then _ else _) ≤ 64
        rw [atN_name]
        split
        · rename_i hf
          have : ¬ 64 ≤ l.length := fun h64 => hx ⟨hf, h64⟩
          omega
        · exact h
def findR (l : List Vr) (n : List UInt8) : Int := match findN l n with
  | some i => (i : Int)
  | none => -1
theorem findR_some {l : List Vr} {n : List UInt8} {i : Nat} (h : i < l.length) (hn : (nth l i vr0).name = n) (hno : ∀ k, k < i → (nth l k vr0).name ≠ n) : findR l n = i := by unfold findR; rw [findN_some h hn hno]
theorem findR_none {l : List Vr} {n : List UInt8} (hno : ∀ k, k < l.length → (nth l k vr0).name ≠ n) : findR l n = -1 := by unfold findR; rw [findN_none hno]
theorem findN_pos {l : List Vr} {n : List UInt8} (h : 0 ≤ findR l n) : findN l n = some (findR l n).toNat := by
  unfold findR at *
  cases hf : findN l n with
  | none => rw [hf] at h; exact absurd h (by decide)
  | some i => simp
theorem findN_neg {l : List Vr} {n : List UInt8} (h : findR l n < 0) : findN l n = none := by
  unfold findR at h
  cases hf : findN l n with
  | none => rfl
  | some i => rw [hf] at h; simp only at h; omega
theorem findR_neg {l : List Vr} {n : List UInt8} (h : findN l n = none) : findR l n < 0 := by unfold findR; rw [h]; decide
theorem findR_at {l : List Vr} {n : List UInt8} (h : 0 ≤ findR l n) : (findR l n).toNat < l.length ∧ atN l n = nth l (findR l n).toNat vr0 := ⟨(findN_lt (findN_pos h)).1, atN_some (findN_pos h)⟩
theorem atN_neg {l : List Vr} {n : List UInt8} (h : findR l n < 0) : atN l n = ⟨n, [], false, false, true⟩ := atN_none (findN_neg h)
theorem putN_at {l : List Vr} {x : Vr} (h : 0 ≤ findR l x.name) : putN l x = l.set (findR l x.name).toNat x := putN_some (findN_pos h)
theorem setN_name {l : List Vr} {n v : List UInt8} (h1 : nameB n = false) : setN l n v = (22, l) := by unfold setN; rw [if_pos h1]
theorem setN_ro {l : List Vr} {n v : List UInt8} (h1 : nameB n = true) (h2 : (atN l n).r = true) : setN l n v = (63, l) := by unfold setN; rw [if_neg (by rw [h1]; simp), if_pos h2]
theorem setN_long {l : List Vr} {n v : List UInt8} (h1 : nameB n = true) (h2 : (atN l n).r = false) (h3 : 65536 < v.length) : setN l n v = (66, l) := by unfold setN; rw [if_neg (by rw [h1]; simp), if_neg (by rw [h2]; simp), if_pos h3]
theorem setN_full {l : List Vr} {n v : List UInt8} (h1 : nameB n = true) (h2 : (atN l n).r = false) (h3 : ¬ 65536 < v.length) (h4 : findN l n = none) (h5 : 64 ≤ l.length) : setN l n v = (64, l) := by unfold setN; rw [if_neg (by rw [h1]; simp), if_neg (by rw [h2]; simp), if_neg h3, if_pos ⟨h4, h5⟩]
theorem setN_ok {l : List Vr} {n v : List UInt8} (h1 : nameB n = true) (h2 : (atN l n).r = false) (h3 : ¬ 65536 < v.length) (h4 : ¬ (findN l n = none ∧ 64 ≤ l.length)) : setN l n v = (0, putN l ⟨(atN l n).name, v, (atN l n).e, (atN l n).r, false⟩) := by unfold setN; rw [if_neg (by rw [h1]; simp), if_neg (by rw [h2]; simp), if_neg h3, if_neg h4]
theorem markN_name {l : List Vr} {n : List UInt8} {e r : Bool} (h1 : nameB n = false) : markN l n e r = l := by unfold markN; rw [if_pos h1]
theorem markN_none {l : List Vr} {n : List UInt8} {e r : Bool} (h1 : nameB n = true) (h2 : e = false ∧ r = false) : markN l n e r = l := by unfold markN; rw [if_neg (by rw [h1]; simp), if_pos h2]
theorem markN_full {l : List Vr} {n : List UInt8} {e r : Bool} (h1 : nameB n = true) (h2 : ¬ (e = false ∧ r = false)) (h4 : findN l n = none) (h5 : 64 ≤ l.length) : markN l n e r = l := by unfold markN; rw [if_neg (by rw [h1]; simp), if_neg h2, if_pos ⟨h4, h5⟩]
theorem markN_ok {l : List Vr} {n : List UInt8} {e r : Bool} (h1 : nameB n = true) (h2 : ¬ (e = false ∧ r = false)) (h4 : ¬ (findN l n = none ∧ 64 ≤ l.length)) : markN l n e r = putN l ⟨(atN l n).name, (atN l n).value, (atN l n).e || e, (atN l n).r || r, (atN l n).u⟩ := by unfold markN; rw [if_neg (by rw [h1]; simp), if_neg h2, if_neg h4]
def argsN (l : List (List UInt8)) : List (List UInt8) := if l.length ≤ 200 then l else []
theorem parX_hit {h : Hx} {n : List UInt8} {i : Nat} (hf : findN specL n = some i) : parX h n = ((nth specL i vr0).value, !(nth specL i vr0).u) := by unfold parX; rw [hf]
theorem parX_dig {h : Hx} {n : List UInt8} (hf : findN specL n = none) (hd : (decide (n ≠ []) && digitB' (nth n 0 0)) = true) (hk : ((numB n).isSome && decide (1 ≤ (numB n).getD 0) && decide ((numB n).getD 0 ≤ (h.args.length : Int))) = true) : parX h n = (nth h.args ((numB n).getD 0 - 1).toNat [], true) := by
  rw [Bool.and_eq_true, decide_eq_true_eq] at hd
  rw [Bool.and_eq_true, Bool.and_eq_true, decide_eq_true_eq, decide_eq_true_eq] at hk
  unfold parX
  rw [hf]
  simp only
  rw [if_pos hd]
  cases hn : numB n with
  | none => rw [hn] at hk; exact absurd hk.1.1 (by simp)
  | some k =>
    rw [hn] at hk
    simp only [Option.getD_some] at hk ⊢
    rw [if_pos ⟨hk.1.2, hk.2⟩]
theorem parX_dig0 {h : Hx} {n : List UInt8} (hf : findN specL n = none) (hd : (decide (n ≠ []) && digitB' (nth n 0 0)) = true) (hk : ((numB n).isSome && decide (1 ≤ (numB n).getD 0) && decide ((numB n).getD 0 ≤ (h.args.length : Int))) = false) : parX h n = ([], false) := by
  rw [Bool.and_eq_true, decide_eq_true_eq] at hd
  unfold parX
  rw [hf]
  simp only
  rw [if_pos hd]
  cases hn : numB n with
  | none => rfl
  | some k =>
    rw [hn] at hk
    simp only [Option.getD_some, Option.isSome_some, Bool.true_and] at hk ⊢
    rw [if_neg]
    rintro ⟨h1, h2⟩
    rw [decide_eq_true h1, decide_eq_true h2] at hk
    cases hk
theorem parX_cnt {h : Hx} (hf : findN specL [35] = none) : parX h [35] = (Lib.itoa (h.args.length : Int), true) := by
  unfold parX
  rw [hf]
  simp only
  rw [if_neg (by decide), if_pos trivial]
theorem parX_get {h : Hx} {n : List UInt8} (hf : findN specL n = none) (hd : (decide (n ≠ []) && digitB' (nth n 0 0)) = false) (hn : n ≠ [35]) : parX h n = ((atN h.vars n).value, !(atN h.vars n).u) := by
  unfold parX
  rw [hf]
  simp only
  rw [if_neg (fun h9 => by rw [decide_eq_true h9.1, h9.2] at hd; cases hd), if_neg hn]
theorem argL_succ (q : Bool) (l : List (List UInt8)) (i : Nat) : argL q l (i + 1) = argL q l i ++ argAt q l i := by
  unfold argL; rw [List.range_succ, List.flatMap_append]; simp
theorem textX_app (a b : List Px) : textX (a ++ b) = textX a ++ textX b := by unfold textX; rw [List.flatMap_append]
theorem textX_take {l : List Px} {i : Nat} (h : i < l.length) : textX (l.take (i + 1)) = textX (l.take i) ++ stS (nth l i px0) ++ (nth l i px0).p.t := by
  rw [take_nth px0 h, textX_app]
  unfold textX; simp
theorem betX_len (h : Hx) : (betX h).length ≤ 1 := by
  unfold betX
  split
  · rw [List.length_take]; omega
  · simp
/-- how long what the host tells may be -/
structure HB (h : Hx) : Prop where
  vv : ∀ v ∈ h.vars, v.value.length ≤ 65536
  aa : ∀ a ∈ h.args, a.length ≤ 65536
  oo : ∀ o ∈ h.outs, o.length ≤ 65536
  aj : ∀ sep : List UInt8, sep.length ≤ 1 → (Lib.join h.args sep).length ≤ 65536
  an : h.args.length ≤ 200
  vn : h.vars.length ≤ 64
theorem setN_keep {l : List Vr} {n v : List UInt8} (h : (setN l n v).1 ≠ 0) : (setN l n v).2 = l := by
  unfold setN at *
  split
  · rfl
  · rename_i h1
    rw [if_neg h1] at h
    split
    · rfl
    · rename_i h2
      rw [if_neg h2] at h
      split
      · rfl
      · rename_i h3
        rw [if_neg h3] at h
        split
        · rfl
        · rename_i h4
          rw [if_neg h4] at h
          exact absurd rfl h
theorem Hx.put_keep {h : Hx} {n v : List UInt8} (he : (setN h.vars n v).1 ≠ 0) : h.put (setN h.vars n v).2 = h := by rw [setN_keep he]
section
variable {t op v : List UInt8} {q wi : Bool} {l : List Px} {h : Hx} {w : List PT}
theorem insX_name (ho : op = [61]) (hn : nameB t = false) : insX t op q (.ok l h) = .bad 22 [] h := by
  show (if _ then _ else _) = _
  rw [if_pos ho, if_pos hn]
theorem insX_err (ho : op = [61]) (hn : nameB t = true) (he : (setN h.vars t (textX l)).1 ≠ 0) : insX t op q (.ok l h) = .bad (setN h.vars t (textX l)).1 [] h := by
  show (if _ then _ else _) = _
  rw [if_pos ho, if_neg (by rw [hn]; simp), if_pos he]
theorem insX_set (ho : op = [61]) (hn : nameB t = true) (he : (setN h.vars t (textX l)).1 = 0) : insX t op q (.ok l h) = .ok (wholeX (textX l) q) (h.put (setN h.vars t (textX l)).2) := by
  show (if _ then _ else _) = _
  rw [if_pos ho, if_neg (by rw [hn]; simp), if_neg (by rw [he]; simp)]
theorem insX_msg (ho : op = [63]) : insX t op q (.ok l h) = .bad 62 (textX l) h := by
  show (if _ then _ else _) = _
  rw [if_neg (by rw [ho]; decide), if_pos ho]
theorem insX_nil (h1 : op ≠ [61]) (h2 : op ≠ [63]) (hl : l = []) : insX t op q (.ok l h) = .ok (wholeX [] q) h := by
  show (if _ then _ else _) = _
  rw [if_neg h1, if_neg h2, if_pos hl]
theorem insX_l (h1 : op ≠ [61]) (h2 : op ≠ [63]) (hl : l ≠ []) : insX t op q (.ok l h) = .ok l h := by
  show (if _ then _ else _) = _
  rw [if_neg h1, if_neg h2, if_neg hl]
theorem parA (h1 : manyB t = true) (h2 : op = []) : partX wi h (.mk 2 t op w q) = .ok (argsX h t q) h := by
  rw [partX, if_pos rfl, if_pos ⟨h1, h2⟩]
theorem parV (h1 : manyB t = false) (h2 : op = []) : partX wi h (.mk 2 t op w q) = .ok (wholeX (valX h t).1 q) h := by
  rw [partX, if_pos rfl, if_neg (by rw [h1]; simp), if_pos h2]
theorem parL (h2 : op = lenW) : partX wi h (.mk 2 t op w q) = .ok (wholeX (Lib.itoa (lenX h t)) q) h := by
  rw [partX, if_pos rfl, if_neg (by rw [h2]; simp [lenW]), if_neg (by rw [h2]; decide), if_pos h2]
theorem cut_ne (h3 : op ∈ cutOps) : op ≠ [] ∧ op ≠ lenW := by
  simp only [cutOps, List.mem_cons, List.not_mem_nil, or_false] at h3
  rcases h3 with rfl | rfl | rfl | rfl <;> decide
theorem parC66 (h3 : op ∈ cutOps) (h4 : 4096 < (valX h t).1.length) : partX wi h (.mk 2 t op w q) = .bad 66 [] h := by
  rw [partX, if_pos rfl, if_neg (fun h9 => (cut_ne h3).1 h9.2), if_neg (cut_ne h3).1, if_neg (cut_ne h3).2, if_pos h3, if_pos h4]
theorem parC (h3 : op ∈ cutOps) (h4 : ¬ 4096 < (valX h t).1.length) : partX wi h (.mk 2 t op w q) = cutX (valX h t).1 op q (partsX false h [] w) := by
  rw [partX, if_pos rfl, if_neg (fun h9 => (cut_ne h3).1 h9.2), if_neg (cut_ne h3).1, if_neg (cut_ne h3).2, if_pos h3, if_neg h4]
theorem parP (h1 : op ≠ []) (h2 : op ≠ lenW) (h3 : op ∉ cutOps) (h4 : opX op = [43]) (h5 : isX h t op = false) : partX wi h (.mk 2 t op w q) = .ok (wholeX [] q) h := by
  rw [partX, if_pos rfl, if_neg (fun h9 => h1 h9.2), if_neg h1, if_neg h2, if_neg h3, if_pos ⟨h4, h5⟩]
theorem parI (h1 : op ≠ []) (h2 : op ≠ lenW) (h3 : op ∉ cutOps) (h4 : opX op ≠ [43]) (h5 : isX h t op = true) : partX wi h (.mk 2 t op w q) = .ok (wholeX (valX h t).1 q) h := by
  rw [partX, if_pos rfl, if_neg (fun h9 => h1 h9.2), if_neg h1, if_neg h2, if_neg h3, if_neg (fun h9 => h4 h9.1), if_pos ⟨h4, h5⟩]
theorem parN (h1 : op ≠ []) (h2 : op ≠ lenW) (h3 : op ∉ cutOps) (h4 : ¬ (opX op = [43] ∧ isX h t op = false)) (h5 : ¬ (opX op ≠ [43] ∧ isX h t op = true)) : partX wi h (.mk 2 t op w q) = insX t (opX op) q (partsX true h [] w) := by
  rw [partX, if_pos rfl, if_neg (fun h9 => h1 h9.2), if_neg h1, if_neg h2, if_neg h3, if_neg h4, if_neg h5]
end
/-- a scene's variables, laid one by one -/
def layS (l : List Vr) (v : Vr) : List Vr := markN (if v.u = true then l else (setN l v.name v.value).2) v.name v.e v.r
def layV (vars : List Vr) : List Vr := vars.foldl layS []
theorem layV_snoc {vars : List Vr} {i : Nat} (h : i < vars.length) : layV (vars.take (i + 1)) = markN (if (nth vars i vr0).u = true then layV (vars.take i) else (setN (layV (vars.take i)) (nth vars i vr0).name (nth vars i vr0).value).2) (nth vars i vr0).name (nth vars i vr0).e (nth vars i vr0).r := by
  unfold layV
  rw [take_nth vr0 h, List.foldl_append]; rfl
theorem argsN_len (l : List (List UInt8)) : (argsN l).length ≤ 200 := by
  unfold argsN
  split
  · assumption
  · exact Nat.zero_le _
def awS16 : List UInt8 := [36, 120, 36, 120]
def xV (v : List UInt8) : Vr := ⟨[120], v, false, false, false⟩
def awH16 : Hx := ⟨[xV [97, 32, 98]], [], [], []⟩
end Go.Tri

/-
  How much a word is expanded to.
-/
namespace Go.Tri
open Go.RowKit
mutual
/-- texts of a size; no expressions -/
def okT : PT → Prop
  | .mk k t _ w _ => k ≠ 4 ∧ t.length ≤ 65536 ∧ oksT w
def oksT : List PT → Prop
  | [] => True
  | p :: l => okT p ∧ oksT l
end
theorem oksT_mem {l : List PT} (h : oksT l) {p : PT} (hp : p ∈ l) : okT p := by
  induction l with
  | nil => cases hp
  | cons q l ih =>
    rw [oksT] at h
    rcases List.mem_cons.1 hp with rfl | hp
    · exact h.1
    · exact ih h.2 hp
def Bnd (h : Hx) (k a b : Nat) : XR → Prop
  | .ok m h' => HB h' ∧ h'.asked.length ≤ h.asked.length + k ∧ m.length ≤ a + 401 * k ∧ (textX m).length ≤ b + 70000 * k
  | .bad _ _ h' => HB h' ∧ h'.asked.length ≤ h.asked.length + k
theorem Bnd.mono {h : Hx} {k k' a b : Nat} {r : XR} (hb : Bnd h k a b r) (hk : k ≤ k') : Bnd h k' a b r := by
  cases r with
  | ok m h' => obtain ⟨h1, h2, h3, h4⟩ := hb; exact ⟨h1, by omega, by omega, by omega⟩
  | bad e m h' => obtain ⟨h1, h2⟩ := hb; exact ⟨h1, by omega⟩
theorem whole_text (s : List UInt8) (q : Bool) : textX (wholeX s q) = s := by simp [textX, wholeX, stS]
theorem bnd_whole {h : Hx} (hB : HB h) {s : List UInt8} {q : Bool} {k : Nat} (hs : s.length ≤ 70000) (hk : 1 ≤ k) : Bnd h k 0 0 (.ok (wholeX s q) h) := ⟨hB, by omega, by simp [wholeX]; omega, by rw [whole_text]; omega⟩
theorem itoa_le (n : Int) (h : -9223372036854775808 ≤ n ∧ n ≤ 9223372036854775807) : (Lib.itoa n).length ≤ 20 := by
  have dd : ∀ k n : Nat, n < 10 ^ (k + 1) → (Lib.decDigits n).length ≤ k + 1 := by
    intro k
    induction k with
    | zero => intro n h; rw [digits_lt (by omega)]; simp
    | succ k ih =>
      intro n h
      by_cases h1 : n < 10
      · rw [digits_lt h1]; simp
      · rw [digits_ge h1, List.length_append]
        have := ih (n / 10) (by
          rw [Nat.div_lt_iff_lt_mul (by omega)]
          rw [Nat.pow_succ] at h; exact h)
        simp; omega
  have h2 := dd 18 n.natAbs (by omega)
  have h3 := dd 18 n.toNat (by omega)
  unfold Lib.itoa
  split <;> simp <;> omega
theorem parX_le {h : Hx} (hB : HB h) (n : List UInt8) : (parX h n).1.length ≤ 65536 := by
  unfold parX
  split
  · rename_i i hi
    have h3 : i < 3 := (findN_lt hi).1
    have h4 : i = 0 ∨ i = 1 ∨ i = 2 := by omega
    rcases h4 with rfl | rfl | rfl <;> decide
  · split
    · split
      · split
        · rename_i k _ hk
          have hl : (k - 1).toNat < h.args.length := by omega
          exact hB.aa _ (nth_mem hl)
        · exact Nat.zero_le _
      · exact Nat.zero_le _
    · split
      · have := hB.an
        exact Nat.le_trans (itoa_le (h.args.length : Int) (by omega)) (by decide)
      · show (atN h.vars n).value.length ≤ 65536
        cases hf : findN h.vars n with
        | none => rw [atN_none hf]; exact Nat.zero_le _
        | some i => rw [atN_some hf]; exact hB.vv _ (nth_mem (findN_lt hf).1)
theorem valX_le {h : Hx} (hB : HB h) (n : List UInt8) : (valX h n).1.length ≤ 65536 := by
  unfold valX
  split
  · exact hB.aj [32] (by decide)
  · exact parX_le hB n
theorem lenX_le {h : Hx} (hB : HB h) (n : List UInt8) : 0 ≤ lenX h n ∧ lenX h n ≤ 65536 := by
  have := valX_le hB n
  have := hB.an
  unfold lenX
  split <;> omega
theorem argL_count (q : Bool) (l : List (List UInt8)) (i : Nat) : (argL q l i).length ≤ 2 * i := by
  induction i with
  | zero => exact Nat.le_refl _
  | succ i ih =>
    rw [argL_succ, List.length_append]
    have : (argAt q l i).length ≤ 2 := by unfold argAt wholeX; split <;> simp
    omega
theorem argL_text (q : Bool) (l : List (List UInt8)) : ∀ i, i ≤ l.length → (textX (argL q l i)).length ≤ Lib.lens (l.take i) + i := by
  intro i
  induction i with
  | zero => intro _; exact Nat.zero_le _
  | succ i ih =>
    intro hi
    rw [argL_succ, textX_app, List.length_append]
    have h1 := ih (by omega)
    have h2 : (textX (argAt q l i)).length ≤ 1 + (nth l i []).length := by
      unfold argAt
      rw [textX_app, whole_text, List.length_append]
      have : (textX (if 0 < i then [brk] else [])).length ≤ 1 := by split <;> decide
      omega
    have h3 := Lib.lens_take_succ l i (nth l i []) (get_nth (by omega))
    omega
theorem lens_join (l : List (List UInt8)) (sep : List UInt8) : Lib.lens l ≤ (Lib.join l sep).length := by
  cases l with
  | nil => exact Nat.zero_le _
  | cons x r =>
    rw [Lib.join_cons, List.length_append, Lib.joinTail_length]
    show (x :: r).map (·.length) |>.sum |> (· ≤ _)
    have : Lib.lens r = (r.map (·.length)).sum := rfl
    rw [List.map_cons, List.sum_cons, this]
    omega
theorem args_text {h : Hx} (hB : HB h) (q : Bool) : (textX (argL q h.args h.args.length)).length ≤ 65736 := by
  have h1 := argL_text q h.args h.args.length (Nat.le_refl _)
  rw [List.take_length] at h1
  have h2 := lens_join h.args [32]
  have h3 := hB.aj [32] (by decide)
  have := hB.an
  omega
theorem setN_HB {h : Hx} (hB : HB h) {n v : List UInt8} (h0 : (setN h.vars n v).1 = 0) : HB (h.put (setN h.vars n v).2) where
  vv := by
    intro y hy
    have hy : y ∈ (setN h.vars n v).2 := hy
    unfold setN at hy h0
    split at hy
    · exact hB.vv y hy
    · rename_i h1
      rw [if_neg h1] at h0
      split at hy
      · exact hB.vv y hy
      · rename_i h2
        rw [if_neg h2] at h0
        split at hy
        · exact hB.vv y hy
        · rename_i h3
          rw [if_neg h3] at h0
          split at hy
          · exact hB.vv y hy
          · rcases putN_mem hy with hy | rfl
            · exact hB.vv y hy
            · show v.length ≤ 65536; omega
  aa := hB.aa
  oo := hB.oo
  aj := hB.aj
  an := hB.an
  vn := setN_len hB.vn
theorem trimNl_le (s : List UInt8) : (trimNl s).length ≤ s.length := by
  unfold trimNl Lib.trimRightS
  rw [List.length_reverse]
  have := (List.dropWhile_suffix (fun x => [10].contains x) (l := s.reverse)).length_le
  rwa [List.length_reverse] at this
theorem ask_bnd {h : Hx} (hB : HB h) (t : List UInt8) (q : Bool) {k : Nat} (hk : 1 ≤ k) : Bnd h k 0 0 (askX h t q) := by
  have hB' : HB ⟨h.vars, h.args, h.outs, h.asked ++ [t]⟩ := ⟨hB.vv, hB.aa, hB.oo, hB.aj, hB.an, hB.vn⟩
  unfold askX
  split
  · rename_i hl
    rw [List.length_append, List.length_singleton] at hl
    have h1 := hB.oo _ (nth_mem (d := []) (show h.asked.length < h.outs.length by omega))
    have h2 := trimNl_le (nth h.outs h.asked.length [])
    exact ⟨hB', by simp; omega, by simp [wholeX]; omega, by rw [whole_text]; omega⟩
  · exact ⟨hB', by simp; omega⟩
theorem ins_bnd {h : Hx} {t op : List UInt8} {q : Bool} {r : XR} {k : Nat} (hr : Bnd h k 0 0 r) : Bnd h (k + 1) 0 0 (insX t op q r) := by
  cases r with
  | bad e m h' => exact Bnd.mono (r := .bad e m h') hr (by omega)
  | ok l h' =>
    obtain ⟨h1, h2, h3, h4⟩ := hr
    show Bnd h (k + 1) 0 0 (if _ then _ else _)
    split
    · split
      · exact ⟨h1, by omega⟩
      · split
        · exact ⟨h1, by omega⟩
        · rename_i h0
          have h0 : (setN h'.vars t (textX l)).1 = 0 := by omega
          exact ⟨setN_HB h1 h0, by show h'.asked.length ≤ _; omega, by simp [wholeX]; omega, by rw [whole_text]; omega⟩
    · split
      · exact ⟨h1, by omega⟩
      · split
        · exact ⟨h1, by omega, by simp [wholeX]; omega, by rw [whole_text]; simp⟩
        · exact ⟨h1, by omega, by omega, by omega⟩
theorem cut_bnd {h : Hx} {v op : List UInt8} {q : Bool} {r : XR} {k : Nat} (hv : v.length ≤ 65536) (hr : Bnd h k 0 0 r) : Bnd h (k + 1) 0 0 (cutX v op q r) := by
  cases r with
  | bad e m h' => exact Bnd.mono (r := .bad e m h') hr (by omega)
  | ok l h' =>
    obtain ⟨h1, h2, h3, h4⟩ := hr
    have := (cut_law (charsX l) v (decide (nth op 0 0 = 37)) (decide (op.length = 2))).1
    exact ⟨h1, by omega, by simp [wholeX]; omega, by rw [whole_text]; omega⟩
theorem lit_text (t : List UInt8) (q wi : Bool) : textX (litX t q wi) = t := by simp [textX, litX, stS]
mutual
theorem partX_bnd : ∀ (p : PT) (wi : Bool) (h : Hx), okT p → HB h → Bnd h p.cnt 0 0 (partX wi h p)
  | .mk k t op w q, wi, h, ho, hB => by
    rw [okT] at ho
    obtain ⟨hk4, ht, hw⟩ := ho
    have ih := fun wi => partsX_bnd w wi h [] hw hB
    have hv := valX_le hB t
    show Bnd h (1 + cntL w) 0 0 _
    rw [partX]
    split
    · split
      · show Bnd _ _ 0 0 (.ok (argsX h t q) h)
        unfold argsX
        split
        · exact bnd_whole hB (by have := hB.aj (betX h) (betX_len h); omega) (by omega)
        · have h1 := argL_count q h.args h.args.length
          have h2 := args_text hB q
          have h3 := hB.an
          exact ⟨hB, by omega, by omega, by omega⟩
      · split
        · exact bnd_whole hB (by omega) (by omega)
        · split
          · have := lenX_le hB t
            exact bnd_whole hB (by have := itoa_le (lenX h t) (by omega); omega) (by omega)
          · split
            · split
              · exact ⟨hB, by omega⟩
              · rw [Nat.add_comm]; exact cut_bnd hv (ih false)
            · split
              · exact bnd_whole hB (by simp) (by omega)
              · split
                · exact bnd_whole hB (by omega) (by omega)
                · rw [Nat.add_comm]; exact ins_bnd (ih true)
    · split
      · exact ask_bnd hB t q (by omega)
      · split
        · exact bnd_whole hB (by have := parX_le hB homeN; omega) (by omega)
        · exact ⟨hB, by omega, by simp [litX]; omega, by rw [lit_text]; omega⟩
theorem partsX_bnd : ∀ (l : List PT) (wi : Bool) (h : Hx) (acc : List Px), oksT l → HB h → Bnd h (cntL l) acc.length (textX acc).length (partsX wi h acc l)
  | [], wi, h, acc, ho, hB => by
    rw [partsX]
    exact ⟨hB, by omega, by omega, by omega⟩
  | p :: l, wi, h, acc, ho, hB => by
    rw [oksT] at ho
    have h1 := partX_bnd p wi h ho.1 hB
    have hc : cntL (p :: l) = p.cnt + cntL l := by rw [cntL]
    rw [partsX, hc]
    cases hp : partX wi h p with
    | bad e m h' =>
      rw [hp] at h1
      obtain ⟨h2, h3⟩ := h1
      exact ⟨h2, by omega⟩
    | ok m h' =>
      rw [hp] at h1
      obtain ⟨h2, h3, h4, h5⟩ := h1
      have h6 := partsX_bnd l wi h' (acc ++ m) ho.2 h2
      show Bnd h _ _ _ (partsX wi h' (acc ++ m) l)
      rw [textX_app, List.length_append, List.length_append] at h6
      cases hq : partsX wi h' (acc ++ m) l with
      | bad e m2 h'' =>
        rw [hq] at h6
        obtain ⟨h7, h8⟩ := h6
        exact ⟨h7, by omega⟩
      | ok m2 h'' =>
        rw [hq] at h6
        obtain ⟨h7, h8, h9, h10⟩ := h6
        exact ⟨h7, by omega, by omega, by omega⟩
end
end Go.Tri

/-
  Texts with a parameter's operator, or with a command, read.
-/
namespace Go.Tri
open Go.RowKit
def clC (br : Bool) : UInt8 := if br = true then 125 else 41
def opC (br : Bool) : UInt8 := if br = true then 123 else 40
def bpC (c : UInt8) : Prop := brcB c ∧ c ≠ 40 ∧ c ≠ 41
/-- what is gone over up to its closing byte -/
def DoneT (br : Bool) (t : List UInt8) : Prop := ∀ (B : List UInt8 → SR) (D : Bool → List UInt8 → SR) (f : Nat) (r : List UInt8), t.length < f → dlrL B D br false f 0 (t ++ clC br :: r) = .ok (t.length + 1)
theorem doneT_nil (br : Bool) : DoneT br [] := fun B D f r hf => by
  obtain ⟨f, rfl⟩ : ∃ g, f = g + 1 := ⟨f - 1, by omega⟩
  rw [List.nil_append, dlrL, if_neg (by simp)]
  cases br
  · rw [if_neg (by show ¬ (41 : UInt8) = 34; decide), if_pos (by rfl)]; rfl
  · rw [if_neg (by show ¬ (125 : UInt8) = 34; decide), if_pos (by rfl)]; rfl
theorem doneT_step {br : Bool} {l t : List UInt8} {k : Nat} (ht : DoneT br t) (hne : nth l 0 0 ≠ 34) (hcl : nth l 0 0 ≠ 125 ∧ nth l 0 0 ≠ 40 ∧ nth l 0 0 ≠ 41) (hl : l = l.take k ++ t) (hk : 1 ≤ k) (hkl : k ≤ l.length) (hi : ∀ (D : Bool → List UInt8 → SR) (r : List UInt8), insideP D false true (l ++ clC br :: r) = .ok k) : DoneT br l := fun B D f r hf => by
  obtain ⟨f, rfl⟩ : ∃ g, f = g + 1 := ⟨f - 1, by omega⟩
  have hlp : l ≠ [] := List.ne_nil_of_length_pos (by omega)
  have hn : nth (l ++ clC br :: r) 0 0 = nth l 0 0 := nth_app (by omega)
  have hlen : l.length = k + t.length := by
    have := congrArg List.length hl
    rw [List.length_append, List.length_take] at this; omega
  have hd : (l ++ clC br :: r).drop k = t ++ clC br :: r := by
    rw [List.drop_append_of_le_length hkl]
    congr 1
    exact List.append_cancel_left ((List.take_append_drop k l).trans hl)
  rw [dlrL, if_neg (by simp), hn, if_neg hne, if_neg (by simp [hcl.1, hcl.2.2])]
  have hin := hi D r
  simp only [Bool.not_false]
  rw [hin]
  show (dlrL B D br false f _ ((l ++ clC br :: r).drop k)).on k = _
  have ho : opens br 0 (nth l 0 0) = 0 := by unfold opens; simp [hcl.2.1]
  rw [hd, ho, ht B D f r (by omega)]
  show LR.ok _ = _
  congr 1; omega
theorem doneT_self {br : Bool} {c : UInt8} {t : List UInt8} (h : bpC c) (ht : DoneT br t) : DoneT br (c :: t) := by
  obtain ⟨⟨h1, h2, h3, h4, h5, h6⟩, h7, h8⟩ := h
  refine doneT_step (k := 1) ht h1 ⟨h2, h7, h8⟩ rfl (Nat.le_refl _) (by simp) (fun D r => ?_)
  unfold insideP
  rw [List.cons_append, stB_one, stB_one, stB_one, decide_eq_false h3, decide_eq_false h4, decide_eq_false h5]
  have h7 : ∀ d, stB (c :: (t ++ clC br :: r)) [36, d] = false := fun d => decide_eq_false (fun e => h6 (by simp at e; exact e.1))
  rw [h7, h7]
  simp
theorem doneT_all {br : Bool} {l t : List UInt8} (h : ∀ c ∈ l, bpC c) (ht : DoneT br t) : DoneT br (l ++ t) := by
  induction l with
  | nil => exact ht
  | cons c l ih => exact doneT_self (h c (List.mem_cons_self)) (ih (fun d hd => h d (List.mem_cons_of_mem _ hd)))
theorem doneT_single {br : Bool} {m t : List UInt8} (h : 39 ∉ m) (ht : DoneT br t) : DoneT br (39 :: (m ++ 39 :: t)) := by
  refine doneT_step (k := m.length + 2) ht (by decide : (39 : UInt8) ≠ 34) (by decide : (39 : UInt8) ≠ 125 ∧ (39 : UInt8) ≠ 40 ∧ (39 : UInt8) ≠ 41) ?_ (by omega) (by simp only [List.length_cons, List.length_append]; omega) (fun D r => ?_)
  · rw [show m.length + 2 = (m.length + 1) + 1 by omega, List.take_succ_cons, List.take_append, List.take_of_length_le (by omega), show m.length + 1 - m.length = 1 by omega]
    simp
  · unfold insideP
    rw [List.cons_append, stB_one, stB_one, if_neg (by decide), if_pos (by decide)]
    unfold singleP
    rw [List.drop_succ_cons, List.drop_zero, List.append_assoc, List.cons_append, index_first h, if_neg (by omega)]
    exact congrArg SR.ok (by omega)
theorem doneT_esc {br : Bool} {c : UInt8} {t : List UInt8} (ht : DoneT br t) : DoneT br (92 :: c :: t) := by
  refine doneT_step (k := 2) ht (by decide : (92 : UInt8) ≠ 34) (by decide : (92 : UInt8) ≠ 125 ∧ (92 : UInt8) ≠ 40 ∧ (92 : UInt8) ≠ 41) rfl (by omega) (by simp) (fun D r => ?_)
  unfold insideP
  rw [List.cons_append, stB_one, if_pos (by decide)]
  exact congrArg SR.ok (by simp only [List.length_cons, List.length_append]; omega)
theorem doneT_escq {br : Bool} : ∀ (n : Nat) (s t : List UInt8), s.length ≤ n → DoneT br t → DoneT br (39 :: (escB s ++ 39 :: t)) := by
  intro n
  induction n with
  | zero =>
    intro s t h ht
    have : s = [] := List.eq_nil_of_length_eq_zero (by omega)
    subst this
    exact doneT_single (m := []) (by simp) ht
  | succ n ih =>
    intro s t h ht
    by_cases hm : Lib.indexByte s 39 = -1
    · have hno := indexByte_none hm
      rw [escB_plain hno]
      exact doneT_single hno ht
    · have hge := Lib.indexByte_ge s 39
      obtain ⟨i, hi⟩ : ∃ i : Nat, Lib.indexByte s 39 = i := ⟨(Lib.indexByte s 39).toNat, by omega⟩
      obtain ⟨h1, h2, h3⟩ := indexByte_some hi
      have e : s = s.take i ++ 39 :: s.drop (i + 1) := by
        conv => lhs; rw [← List.take_append_drop i s, drop_nth 0 h1, h2]
      have e2 : escB s = s.take i ++ ([39, 92, 39, 39] ++ escB (s.drop (i + 1))) := by
        conv => lhs; rw [e]
        unfold escB
        rw [List.flatMap_append, List.flatMap_cons]
        have e4 : (s.take i).flatMap escC = s.take i := escB_plain h3
        rw [e4]; rfl
      rw [e2]
      have e3 : 39 :: ((s.take i ++ ([39, 92, 39, 39] ++ escB (s.drop (i + 1)))) ++ 39 :: t) = 39 :: (s.take i ++ 39 :: (92 :: 39 :: (39 :: (escB (s.drop (i + 1)) ++ 39 :: t)))) := by simp
      rw [e3]
      exact doneT_single h3 (doneT_esc (ih (s.drop (i + 1)) t (by rw [List.length_drop]; omega) ht))
theorem plain_bp (c : UInt8) (h : plainC c = true) : bpC c := by
  have key : ∀ c : UInt8, plainC c = true → ((c ≠ 34 ∧ c ≠ 125 ∧ c ≠ 92 ∧ c ≠ 39 ∧ c ≠ 96 ∧ c ≠ 36) ∧ c ≠ 40 ∧ c ≠ 41) := by
    intro c; revert c; exact u8_all (by decide +kernel)
  exact key c h
theorem doneT_quote (br : Bool) (s : List UInt8) : DoneT br (quoteB s) := by
  unfold quoteB
  split
  · rename_i h
    rw [Bool.and_eq_true, List.all_eq_true] at h
    have := doneT_all (br := br) (l := s) (t := []) (fun c hc => plain_bp c (h.2 c hc)) (doneT_nil br)
    rwa [List.append_nil] at this
  · have e : [39] ++ escB s ++ [39] = 39 :: (escB s ++ 39 :: []) := by simp
    rw [e]
    exact doneT_escq s.length s [] (Nat.le_refl _) (doneT_nil br)
/-- one step over what is in braces or parentheses -/
theorem sub_step {br : Bool} {t r : List UInt8} {p : PT} {acc : List PT} (hD : DoneT br t) (hb : dolR (Wn 24) 0 (opC br) t = .ok p) : stepP 24 (Wn 24) 0 (36 :: opC br :: (t ++ clC br :: r)) acc = .ok (acc ++ [p]) (t.length + 3) := by
  obtain ⟨l, hl0⟩ : ∃ l, l = 36 :: opC br :: (t ++ clC br :: r) := ⟨_, rfl⟩
  have hlen : l.length = t.length + 3 + r.length := by rw [hl0]; simp; omega
  rw [← hl0]
  have e0 : nth l 0 0 = 36 := by rw [hl0]; rfl
  have e1 : nth l 1 0 = opC br := by rw [hl0]; rfl
  have hbg : beginsB l = true := by
    unfold beginsB
    rw [hl0]
    cases br
    · rw [Bool.or_eq_true]; left; exact decide_eq_true (by simp [opC])
    · rw [Bool.or_eq_true]; right; exact decide_eq_true (by simp [opC])
  have hlv : (lv 24).2 false l = .ok (t.length + 3) := by
    show dlrP (lv 23).1 (lv 23).2 false l = _
    unfold dlrP braceB
    rw [e1]
    have hd : l.drop 2 = t ++ clC br :: r := by rw [hl0]; simp
    have hbr : decide (opC br = 123) = br := by cases br <;> rfl
    rw [hd, hlen, hbr]
    show (dlrL _ _ br false _ 0 _).close 2 53 = _
    rw [hD _ _ _ _ (by omega)]
    show SR.ok _ = _
    congr 1; omega
  have hin : t = (l.take (t.length + 3 - 1)).drop 2 := by
    rw [hl0, show t.length + 3 - 1 = t.length + 1 + 1 by omega, List.take_succ_cons, List.take_succ_cons]
    simp
  unfold stepP
  rw [e0, if_neg (by decide), if_neg (by decide), if_pos rfl]
  exact (dolP_sub (n := 24) (W := Wn 24) (kd := 0) (acc := acc) hbg hlv hin).2 p (by rw [e1]; exact hb)
theorem partsP_read {s : List UInt8} (h : s.length ≤ 65536) (ht : tildeB 0 s = false) : partsP s 0 = readL 24 (Wn 24) 0 s.length s [] := by
  unfold partsP
  rw [if_neg (by omega), if_neg (by omega)]
  show wP 24 0 s = _
  rw [wP_read]
  unfold readP
  rw [if_neg (by rw [ht]; simp)]
theorem readL_step {f k : Nat} {l : List UInt8} {acc acc' : List PT} (hl : l ≠ []) (hf : l.length ≤ f) (h : stepP 24 (Wn 24) 0 l acc = .ok acc' k) : readL 24 (Wn 24) 0 f l acc = readL 24 (Wn 24) 0 (f - 1) (l.drop k) acc' := (read_step rfl hl hf).2 acc' k h
theorem sub_read {br : Bool} {t r : List UInt8} {p : PT} {acc : List PT} {f : Nat} (hD : DoneT br t) (hb : dolR (Wn 24) 0 (opC br) t = .ok p) (hf : t.length + 3 + r.length ≤ f) : readL 24 (Wn 24) 0 f (36 :: opC br :: (t ++ clC br :: r)) acc = readL 24 (Wn 24) 0 (f - 1) r (acc ++ [p]) := by
  have hl : (36 :: opC br :: (t ++ clC br :: r)).length = t.length + 3 + r.length := by simp; omega
  rw [readL_step (by simp) (by omega) (sub_step hD hb)]
  congr 1
  rw [show t.length + 3 = t.length + 1 + 1 + 1 by omega, List.drop_succ_cons, List.drop_succ_cons, List.drop_append]
  simp
/-! ### a command between -/
def cmdT (s : List UInt8) : List UInt8 := [101, 99, 104, 111, 32] ++ quoteB s
theorem cmd_done (s : List UInt8) : DoneT false (cmdT s) :=
  doneT_all (fun c hc => by
    have h5 : c = 101 ∨ c = 99 ∨ c = 104 ∨ c = 111 ∨ c = 32 := by simpa using hc
    rcases h5 with rfl | rfl | rfl | rfl | rfl <;> (unfold bpC brcB; decide)) (doneT_quote false s)
theorem cmd_parts {s : List UInt8} (hl : s.length ≤ 500) : partsP ([60, 36, 40] ++ cmdT s ++ [41, 62]) 0 = .ok [.mk 1 [60] [] [] false, .mk 3 (cmdT s) [] [] false, .mk 1 [62] [] [] false] := by
  have hql := quoteB_le s
  have hcl : (cmdT s).length = 5 + (quoteB s).length := by simp [cmdT]; omega
  have e : [60, 36, 40] ++ cmdT s ++ [41, 62] = 60 :: (36 :: opC false :: (cmdT s ++ clC false :: [62])) := by simp [opC, clC]
  have hall : (60 :: (36 :: opC false :: (cmdT s ++ clC false :: [62]))).length = (cmdT s).length + 5 := by simp
  have hd : dolR (Wn 24) 0 (opC false) (cmdT s) = .ok (.mk 3 (cmdT s) [] [] false) := by
    unfold dolR
    rw [if_neg (by decide), if_neg]
    · rfl
    · unfold exprB
      rw [show stB (cmdT s) [40] = false from by rw [cmdT, List.cons_append, stB_one]; decide]
      simp
  rw [e, partsP_read (by omega) (tilde_head (by decide)), readL_step (by simp) (Nat.le_refl _) (step_self (kd := 0) ⟨by decide, by decide, by decide, fun _ => ⟨by decide, by decide⟩⟩)]
  show readL 24 (Wn 24) 0 _ (36 :: opC false :: (cmdT s ++ clC false :: [62])) [.mk 1 [60] [] [] false] = _
  rw [sub_read (cmd_done s) hd (by simp only [List.length_singleton]; omega)]
  rw [readL_step (by simp) (by simp only [List.length_singleton]; omega) (step_self (kd := 0) ⟨by decide, by decide, by decide, fun _ => ⟨by decide, by decide⟩⟩)]
  exact read_end
end Go.Tri

/-
  What a parameter's operators make of a value; what stands in a command's place.
-/
namespace Go.Tri
open Go.RowKit
def hxX (x : Option (List UInt8)) : Hx := ⟨(match x with | none => [] | some v => [xV v]), [], [], []⟩
theorem parX_x (x : Option (List UInt8)) : parX (hxX x) [120] = (x.getD [], x.isSome) := by cases x <;> rfl
theorem valX_x (x : Option (List UInt8)) : valX (hxX x) [120] = (x.getD [], x.isSome) := by
  unfold valX
  rw [if_neg (by decide), parX_x]
theorem textX_whole (s : List UInt8) (q : Bool) : textX (wholeX s q) = s := by simp [textX, wholeX, stS]
theorem textX_lit (s : List UInt8) (q wi : Bool) : textX (litX s q wi) = s := by simp [textX, litX, stS]
theorem part_lit (wi : Bool) (h : Hx) (t : List UInt8) (op : List UInt8) (w : List PT) (q : Bool) : partX wi h (.mk 1 t op w q) = .ok (litX t q wi) h := by
  rw [partX, if_neg (by decide), if_neg (by decide), if_neg (by decide), if_neg (by simp)]
theorem parts_one {wi : Bool} {h : Hx} {acc : List Px} {p : PT} : partsX wi h acc [p] = match partX wi h p with | .bad e m h => .bad e m h | .ok m h' => .ok (acc ++ m) h' := by
  rw [partsX]
  cases partX wi h p with
  | ok m h' => show partsX wi h' _ [] = _; rw [partsX]
  | bad e m h' => rfl
theorem oneX_of {h h' : Hx} {s : List UInt8} {k : Int} {l : List PT} {L : List Px} (hp : partsP s k = .ok l) (hx : partsX false h [] l = .ok L h') (hl : (textX L).length ≤ 65536) : oneX h s k = (textX L, [], 0, h') := by
  unfold oneX expX
  rw [hp]
  show (match partsX false h [] l with | .bad e m h => _ | .ok l h => _) = _
  rw [hx]
  show (if _ then _ else _) = _
  rw [if_neg (by omega)]
theorem part_pln (wi : Bool) (x : Option (List UInt8)) (w : List PT) (q : Bool) : partX wi (hxX x) (.mk 2 [120] [] w q) = .ok (wholeX (x.getD []) q) (hxX x) := by
  rw [partX, if_pos rfl, if_neg (by simp [manyB]), if_pos rfl, valX_x]
theorem nameX : nameB [120] = true := rfl
theorem set_none {v : List UInt8} (hv : v.length ≤ 65536) : setN [] [120] v = (0, [xV v]) := by
  unfold setN
  rw [if_neg (by rw [nameX]; simp), if_neg (by rw [atN_none (show findN [] [120] = none from rfl)]; simp), if_neg (by omega), if_neg (by simp)]
  rfl
/-! a command's text is asked as it stands -/
theorem one_cmd {t says : List UInt8} (ht : t.length ≤ 500) (hs : says.length ≤ 500) : oneX ⟨[], [], [says], []⟩ ([60, 36, 40] ++ cmdT t ++ [41, 62]) 0 = ([60] ++ trimNl says ++ [62], [], 0, ⟨[], [], [says], [cmdT t]⟩) := by
  have h3 : partX false ⟨[], [], [says], []⟩ (.mk 3 (cmdT t) [] [] false) = .ok (wholeX (trimNl says) false) ⟨[], [], [says], [cmdT t]⟩ := by
    rw [partX, if_neg (by decide), if_neg (by decide), if_pos rfl]
    unfold askX
    rw [if_pos (by simp)]
    rfl
  have htl : (trimNl says).length ≤ says.length := by
    unfold trimNl Lib.trimRightS
    rw [List.length_reverse]
    have := (List.dropWhile_suffix (fun x => [10].contains x) (l := says.reverse)).length_le
    rwa [List.length_reverse] at this
  have hr : partsX false ⟨[], [], [says], []⟩ [] [.mk 1 [60] [] [] false, .mk 3 (cmdT t) [] [] false, .mk 1 [62] [] [] false] = .ok (litX [60] false false ++ wholeX (trimNl says) false ++ litX [62] false false) ⟨[], [], [says], [cmdT t]⟩ := by
    rw [partsX, part_lit]
    show partsX _ _ ([] ++ litX [60] false false) _ = _
    rw [partsX, h3]
    show partsX _ _ ([] ++ litX [60] false false ++ wholeX (trimNl says) false) _ = _
    rw [parts_one, part_lit]; rfl
  have htx : textX (litX [60] false false ++ wholeX (trimNl says) false ++ litX [62] false false) = [60] ++ trimNl says ++ [62] := by
    rw [textX_app, textX_app, textX_lit, textX_whole, textX_lit]
  rw [oneX_of (cmd_parts ht) hr (by rw [htx]; simp only [List.length_append, List.length_cons, List.length_nil]; omega), htx]
end Go.Tri

/-
  What each text of the statement on parameters is worth.
-/
namespace Go.Tri
open Go.RowKit
def varsOf (x : Option (List UInt8)) : List Vr := (hxX x).vars
theorem lay_x {x : Option (List UInt8)} (hx : (x.getD []).length ≤ 65536) : (⟨layV (varsOf x), argsN [], [], []⟩ : Hx) = hxX x := by
  cases x with
  | none => rfl
  | some v =>
    have h1 : layV (varsOf (some v)) = [xV v] := by
      show layS [] (xV v) = _
      unfold layS
      rw [if_neg (by simp [xV])]
      show markN (setN [] [120] v).2 [120] false false = _
      rw [set_none (v := v) hx, markN_none nameX ⟨rfl, rfl⟩]
    show (⟨layV (varsOf (some v)), [], [], []⟩ : Hx) = _
    rw [h1]; rfl
theorem hb_x {x : Option (List UInt8)} (hx : (x.getD []).length ≤ 65536) : HB (hxX x) where
  vv := by
    intro v hv
    cases x with
    | none => cases hv
    | some u => rw [show (hxX (some u)).vars = [xV u] from rfl, List.mem_singleton] at hv; subst hv; exact hx
  aa := by intro a ha; cases x <;> cases ha
  oo := by intro a ha; cases x <;> cases ha
  aj := by intro sep _; cases x <;> exact Nat.zero_le _
  an := by cases x <;> exact Nat.zero_le _
  vn := by cases x <;> simp [hxX]
end Go.Tri
