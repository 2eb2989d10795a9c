/-
  What a word is expanded to, in plain words.
-/
import Derived.Test.YtbogmbdfjgnfaaaGreatDoorPWord7
import Derived.Test.YtbogmbdfjgnfaaaGreatDoorPSplit
import Derived.Test.YtbogmbdfjgnfaaaGreatDoorPPat2
import Derived.Test.YtbogmbdfjgnfaaaGreatDoorPNum
import Derived.Test.YtbogmbdfjgnfaaaGreatDoorPAr2
import Derived.Lib.Join
namespace Go.Tri
open Go.RowKit
/-- a piece, or a break -/
structure Px where
  p : Pc
  st : Bool
def pxC (x : Px) : List Value := [str x.p.t, .bool x.p.q, .bool x.p.s, .bool x.st]
def px0 : Px := ⟨pc0, false⟩
def brk : Px := ⟨pc0, true⟩
/-! ### variables -/
def findN (l : List Vr) (n : List UInt8) : Option Nat := l.findIdx? fun v => decide (v.name = n)
def atN (l : List Vr) (n : List UInt8) : Vr := match findN l n with
  | some i => nth l i vr0
  | none => ⟨n, [], false, false, true⟩
def lowN (l : List Vr) (n : List UInt8) : Nat := (l.takeWhile fun v => Op.bytesLess v.name n).length
def putN (l : List Vr) (x : Vr) : List Vr := match findN l x.name with
  | some i => l.set i x
  | none => l.take (lowN l x.name) ++ [x] ++ l.drop (lowN l x.name)
def setN (l : List Vr) (n v : List UInt8) : Nat × List Vr :=
  if nameB n = false then (22, l) else if (atN l n).r = true then (63, l) else if 65536 < v.length then (66, l) else if findN l n = none ∧ 64 ≤ l.length then (64, l)
  else (0, putN l ⟨(atN l n).name, v, (atN l n).e, (atN l n).r, false⟩)
def markN (l : List Vr) (n : List UInt8) (e r : Bool) : List Vr :=
  if nameB n = false then l else if e = false ∧ r = false then l else if findN l n = none ∧ 64 ≤ l.length then l
  else putN l ⟨(atN l n).name, (atN l n).value, (atN l n).e || e, (atN l n).r || r, (atN l n).u⟩
/-! ### the host: variables, arguments; what commands say; what was asked -/
structure Hx where
  vars : List Vr
  args : List (List UInt8)
  outs : List (List UInt8)
  asked : List (List UInt8)
def shyS : List UInt8 := [115, 104, 121, 97, 114, 100]
def specL : List Vr := [⟨[63], [48], false, false, false⟩, ⟨[36], [50], false, false, false⟩, ⟨[48], shyS, false, false, false⟩]
/-- a parameter's value -/
def parX (h : Hx) (n : List UInt8) : List UInt8 × Bool := match findN specL n with
  | some i => ((nth specL i vr0).value, !(nth specL i vr0).u)
  | none =>
    if n ≠ [] ∧ digitB' (nth n 0 0) = true then (match numB n with
      | some k => if 1 ≤ k ∧ k ≤ (h.args.length : Int) then (nth h.args (k - 1).toNat [], true) else ([], false)
      | none => ([], false))
    else if n = [35] then (Lib.itoa (h.args.length : Int), true)
    else ((atN h.vars n).value, !(atN h.vars n).u)
def shownX (l : List Vr) : List Vr := l.filter fun v => !v.u
inductive XR where
  | ok (l : List Px) (h : Hx)
  | bad (e : Nat) (m : List UInt8) (h : Hx)
def wholeX (s : List UInt8) (q : Bool) : List Px := [⟨⟨s, q, true⟩, false⟩]
def stS (x : Px) : List UInt8 := if x.st then [32] else []
def textX (l : List Px) : List UInt8 := l.flatMap fun x => stS x ++ x.p.t
def charsX (l : List Px) : List Ch := l.flatMap fun x => (if x.st then [(⟨32, false⟩ : Ch)] else []) ++ x.p.t.map fun b => ⟨b, x.p.q⟩
def trimNl (s : List UInt8) : List UInt8 := Lib.trimRightS s [10]
def ifsN : List UInt8 := [73, 70, 83]
def homeN : List UInt8 := [72, 79, 77, 69]
def ifsS : List UInt8 := [32, 9, 10]
def cutOps : List (List UInt8) := [[37], [37, 37], [35], [35, 35]]
def manyB (t : List UInt8) : Bool := decide (t = [64]) || decide (t = [42])
def betX (h : Hx) : List UInt8 := if (parX h ifsN).2 = true then (parX h ifsN).1.take 1 else [32]
def argAt (q : Bool) (l : List (List UInt8)) (i : Nat) : List Px := (if 0 < i then [brk] else []) ++ wholeX (nth l i []) q
def argL (q : Bool) (l : List (List UInt8)) (i : Nat) : List Px := (List.range i).flatMap (argAt q l)
/-- @ and * without an operator -/
def argsX (h : Hx) (t : List UInt8) (q : Bool) : List Px :=
  if t = [42] ∧ q = true then wholeX (Lib.join h.args (betX h)) true else argL q h.args h.args.length
def valX (h : Hx) (t : List UInt8) : List UInt8 × Bool := if manyB t = true then (Lib.join h.args [32], decide (h.args ≠ [])) else parX h t
def lenX (h : Hx) (t : List UInt8) : Int := if manyB t = true then (h.args.length : Int) else ((valX h t).1.length : Int)
/-- a command is asked -/
def askX (h : Hx) (t : List UInt8) (q : Bool) : XR :=
  if (h.asked ++ [t]).length ≤ h.outs.length then .ok (wholeX (trimNl (nth h.outs h.asked.length [])) q) ⟨h.vars, h.args, h.outs, h.asked ++ [t]⟩ else .bad 5 [] ⟨h.vars, h.args, h.outs, h.asked ++ [t]⟩
def isX (h : Hx) (t op : List UInt8) : Bool := (valX h t).2 && (!stB op [58] || decide ((valX h t).1 ≠ []))
def opX (op : List UInt8) : List UInt8 := Lib.trimPrefix op [58]
@[reducible] def Hx.put (h : Hx) (l : List Vr) : Hx := ⟨l, h.args, h.outs, h.asked⟩
/-- what stands in the place of a parameter -/
def insX (t op : List UInt8) (q : Bool) : XR → XR
  | .bad e m h => .bad e m h
  | .ok l h =>
    if op = [61] then (if nameB t = false then .bad 22 [] h else if (setN h.vars t (textX l)).1 ≠ 0 then .bad (setN h.vars t (textX l)).1 [] h else .ok (wholeX (textX l) q) (h.put (setN h.vars t (textX l)).2))
    else if op = [63] then .bad 62 (textX l) h
    else if l = [] then .ok (wholeX [] q) h else .ok l h
def cutX (v op : List UInt8) (q : Bool) : XR → XR
  | .bad e m h => .bad e m h
  | .ok l h => .ok (wholeX (cutP (charsX l) v (decide (nth op 0 0 = 37)) (decide (op.length = 2))) q) h
/-- assignments of an expression -/
def setsX (L : List Px) : List Ass → Hx → XR
  | [], h => .ok L h
  | s :: r, h => if (setN h.vars s.1 (Lib.itoa s.2)).1 ≠ 0 then .bad (setN h.vars s.1 (Lib.itoa s.2)).1 [] h else setsX L r (h.put (setN h.vars s.1 (Lib.itoa s.2)).2)
def evX (l : List Px) (h : Hx) : Int × List Ass × Nat := evalP (textX l) ((shownX h.vars).map Vr.nv)
def ariX (q : Bool) : XR → XR
  | .bad e m h => .bad e m h
  | .ok l h => if (evX l h).2.2 ≠ 0 then .bad (evX l h).2.2 [] h else setsX (wholeX (Lib.itoa (evX l h).1) q) (evX l h).2.1 h
def litX (t : List UInt8) (q wi : Bool) : List Px := [⟨⟨t, q, wi && !q⟩, false⟩]
mutual
def partX (wi : Bool) (h : Hx) : PT → XR
  | .mk k t op w q =>
    if k = 2 then
      if manyB t = true ∧ op = [] then .ok (argsX h t q) h
      else if op = [] then .ok (wholeX (valX h t).1 q) h
      else if op = lenW then .ok (wholeX (Lib.itoa (lenX h t)) q) h
      else if op ∈ cutOps then (if 4096 < (valX h t).1.length then .bad 66 [] h else cutX (valX h t).1 op q (partsX false h [] w))
      else if opX op = [43] ∧ isX h t op = false then .ok (wholeX [] q) h
      else if opX op ≠ [43] ∧ isX h t op = true then .ok (wholeX (valX h t).1 q) h
      else insX t (opX op) q (partsX true h [] w)
    else if k = 4 then ariX q (partsX false h [] w)
    else if k = 3 then askX h t q
    else if k = 5 ∧ (parX h homeN).2 = true then .ok (wholeX (parX h homeN).1 true) h
    else .ok (litX t q wi) h
def partsX (wi : Bool) (h : Hx) (acc : List Px) : List PT → XR
  | [] => .ok acc h
  | p :: l => match partX wi h p with
    | .bad e m h => .bad e m h
    | .ok m h' => partsX wi h' (acc ++ m) l
end
/-- a text of a kind -/
def expX (h : Hx) (s : List UInt8) (kind : Int) : XR := match partsP s kind with
  | .bad e => .bad e [] h
  | .ok l => partsX false h [] l
/-- the text of a kind: the text, the message, the error -/
def oneX (h : Hx) (s : List UInt8) (kind : Int) : List UInt8 × List UInt8 × Nat × Hx := match expX h s kind with
  | .bad e m h => ([], m, e, h)
  | .ok l h => if 65536 < (textX l).length then ([], [], 66, h) else (textX l, [], 0, h)
/-! ### small laws -/
theorem findN_some {l : List Vr} {n : List UInt8} {i : Nat} (h : i < l.length) (hn : (nth l i vr0).name = n) (hno : ∀ k, k < i → (nth l k vr0).name ≠ n) : findN l n = some i := by
  unfold findN
  rw [List.findIdx?_eq_some_iff_getElem]
  refine ⟨h, by rw [nth_eq h] at hn; simp [hn], fun j hj => ?_⟩
  have := hno j hj
  rw [nth_eq (by omega)] at this
  simp [this]
theorem findN_none {l : List Vr} {n : List UInt8} (hno : ∀ k, k < l.length → (nth l k vr0).name ≠ n) : findN l n = none := by
  unfold findN
  rw [List.findIdx?_eq_none_iff]
  intro x hx
  obtain ⟨i, hi, rfl⟩ := List.getElem_of_mem hx
  have := hno i hi
  rw [nth_eq hi] at this
  simp [this]
theorem findN_lt {l : List Vr} {n : List UInt8} {i : Nat} (h : findN l n = some i) : i < l.length ∧ (nth l i vr0).name = n := by
  unfold findN at h
  rw [List.findIdx?_eq_some_iff_getElem] at h
  obtain ⟨h1, h2, _⟩ := h
  exact ⟨h1, by rw [nth_eq h1]; simpa using h2⟩
theorem atN_some {l : List Vr} {n : List UInt8} {i : Nat} (h : findN l n = some i) : atN l n = nth l i vr0 := by unfold atN; rw [h]
theorem atN_none {l : List Vr} {n : List UInt8} (h : findN l n = none) : atN l n = ⟨n, [], false, false, true⟩ := by unfold atN; rw [h]
theorem atN_name (l : List Vr) (n : List UInt8) : (atN l n).name = n := by
  cases h : findN l n with
  | none => rw [atN_none h]
  | some i => rw [atN_some h]; exact (findN_lt h).2
theorem lowN_le (l : List Vr) (n : List UInt8) : lowN l n ≤ l.length := (List.takeWhile_prefix _).length_le
theorem lowN_at {l : List Vr} {n : List UInt8} {i : Nat} (hi : i ≤ l.length) (hlt : ∀ k, k < i → Op.bytesLess (nth l k vr0).name n = true) (hst : i < l.length → Op.bytesLess (nth l i vr0).name n = false) : lowN l n = i := by
  unfold lowN
  have h1 : l.takeWhile (fun v => Op.bytesLess v.name n) = l.take i := by
    conv => lhs; rw [← List.take_append_drop i l]
    rw [List.takeWhile_append_of_pos]
    · rcases Nat.lt_or_ge i l.length with h | h
      · rw [drop_nth vr0 h, List.takeWhile_cons, hst h]; simp
      · rw [List.drop_of_length_le h]; simp
    · intro x hx
      obtain ⟨k, hk, rfl⟩ := List.getElem_of_mem hx
      rw [List.length_take] at hk
      have := hlt k (by omega)
      rw [nth_eq (by omega)] at this
      rw [List.getElem_take]; exact this
  rw [h1, List.length_take]; omega
theorem putN_some {l : List Vr} {x : Vr} {i : Nat} (h : findN l x.name = some i) : putN l x = l.set i x := by unfold putN; rw [h]
theorem putN_none {l : List Vr} {x : Vr} (h : findN l x.name = none) : putN l x = l.take (lowN l x.name) ++ [x] ++ l.drop (lowN l x.name) := by unfold putN; rw [h]
theorem putN_len (l : List Vr) (x : Vr) : (putN l x).length = if findN l x.name = none then l.length + 1 else l.length := by
  cases h : findN l x.name with
  | none =>
    rw [putN_none h, if_pos rfl]
    have := lowN_le l x.name
    simp only [List.length_append, List.length_take, List.length_drop, List.length_cons, List.length_nil]; omega
  | some i => rw [putN_some h, List.length_set, if_neg (by simp)]
theorem putN_mem {l : List Vr} {x y : Vr} (h : y ∈ putN l x) : y ∈ l ∨ y = x := by
  cases hf : findN l x.name with
  | none =>
    rw [putN_none hf] at h
    simp only [List.mem_append, List.mem_singleton] at h
    rcases h with (h | h) | h
    · exact .inl (List.mem_of_mem_take h)
    · exact .inr h
    · exact .inl (List.mem_of_mem_drop h)
  | some i =>
    rw [putN_some hf] at h
    exact List.mem_or_eq_of_mem_set h
theorem setN_len {l : List Vr} {n v : List UInt8} (h : l.length ≤ 64) : (setN l n v).2.length ≤ 64 := by
  unfold setN
  split
  · exact h
  · split
    · exact h
    · split
      · exact h
      · split
        · exact h
        · rename_i hx
          show (putN l _).length ≤ 64
          rw [putN_len]
          show (if findN l (atN l n).name = none then _ else _) ≤ 64
          rw [atN_name]
          split
          · rename_i hf
            have : ¬ 64 ≤ l.length := fun h64 => hx ⟨hf, h64⟩
            omega
          · exact h
theorem markN_len {l : List Vr} {n : List UInt8} {e r : Bool} (h : l.length ≤ 64) : (markN l n e r).length ≤ 64 := by
  unfold markN
  split
  · exact h
  · split
    · exact h
    · split
      · exact h
      · rename_i hx
        rw [putN_len]
        show (if findN l (atN l n).name = none then _ else _) ≤ 64
        rw [atN_name]
        split
        · rename_i hf
          have : ¬ 64 ≤ l.length := fun h64 => hx ⟨hf, h64⟩
          omega
        · exact h
def findR (l : List Vr) (n : List UInt8) : Int := match findN l n with
  | some i => (i : Int)
  | none => -1
theorem findR_some {l : List Vr} {n : List UInt8} {i : Nat} (h : i < l.length) (hn : (nth l i vr0).name = n) (hno : ∀ k, k < i → (nth l k vr0).name ≠ n) : findR l n = i := by unfold findR; rw [findN_some h hn hno]
theorem findR_none {l : List Vr} {n : List UInt8} (hno : ∀ k, k < l.length → (nth l k vr0).name ≠ n) : findR l n = -1 := by unfold findR; rw [findN_none hno]
theorem findN_pos {l : List Vr} {n : List UInt8} (h : 0 ≤ findR l n) : findN l n = some (findR l n).toNat := by
  unfold findR at *
  cases hf : findN l n with
  | none => rw [hf] at h; exact absurd h (by decide)
  | some i => simp
theorem findN_neg {l : List Vr} {n : List UInt8} (h : findR l n < 0) : findN l n = none := by
  unfold findR at h
  cases hf : findN l n with
  | none => rfl
  | some i => rw [hf] at h; simp only at h; omega
theorem findR_neg {l : List Vr} {n : List UInt8} (h : findN l n = none) : findR l n < 0 := by unfold findR; rw [h]; decide
theorem findR_at {l : List Vr} {n : List UInt8} (h : 0 ≤ findR l n) : (findR l n).toNat < l.length ∧ atN l n = nth l (findR l n).toNat vr0 := ⟨(findN_lt (findN_pos h)).1, atN_some (findN_pos h)⟩
theorem atN_neg {l : List Vr} {n : List UInt8} (h : findR l n < 0) : atN l n = ⟨n, [], false, false, true⟩ := atN_none (findN_neg h)
theorem putN_at {l : List Vr} {x : Vr} (h : 0 ≤ findR l x.name) : putN l x = l.set (findR l x.name).toNat x := putN_some (findN_pos h)
theorem setN_name {l : List Vr} {n v : List UInt8} (h1 : nameB n = false) : setN l n v = (22, l) := by unfold setN; rw [if_pos h1]
theorem setN_ro {l : List Vr} {n v : List UInt8} (h1 : nameB n = true) (h2 : (atN l n).r = true) : setN l n v = (63, l) := by unfold setN; rw [if_neg (by rw [h1]; simp), if_pos h2]
theorem setN_long {l : List Vr} {n v : List UInt8} (h1 : nameB n = true) (h2 : (atN l n).r = false) (h3 : 65536 < v.length) : setN l n v = (66, l) := by unfold setN; rw [if_neg (by rw [h1]; simp), if_neg (by rw [h2]; simp), if_pos h3]
theorem setN_full {l : List Vr} {n v : List UInt8} (h1 : nameB n = true) (h2 : (atN l n).r = false) (h3 : ¬ 65536 < v.length) (h4 : findN l n = none) (h5 : 64 ≤ l.length) : setN l n v = (64, l) := by unfold setN; rw [if_neg (by rw [h1]; simp), if_neg (by rw [h2]; simp), if_neg h3, if_pos ⟨h4, h5⟩]
theorem setN_ok {l : List Vr} {n v : List UInt8} (h1 : nameB n = true) (h2 : (atN l n).r = false) (h3 : ¬ 65536 < v.length) (h4 : ¬ (findN l n = none ∧ 64 ≤ l.length)) : setN l n v = (0, putN l ⟨(atN l n).name, v, (atN l n).e, (atN l n).r, false⟩) := by unfold setN; rw [if_neg (by rw [h1]; simp), if_neg (by rw [h2]; simp), if_neg h3, if_neg h4]
theorem markN_name {l : List Vr} {n : List UInt8} {e r : Bool} (h1 : nameB n = false) : markN l n e r = l := by unfold markN; rw [if_pos h1]
theorem markN_none {l : List Vr} {n : List UInt8} {e r : Bool} (h1 : nameB n = true) (h2 : e = false ∧ r = false) : markN l n e r = l := by unfold markN; rw [if_neg (by rw [h1]; simp), if_pos h2]
theorem markN_full {l : List Vr} {n : List UInt8} {e r : Bool} (h1 : nameB n = true) (h2 : ¬ (e = false ∧ r = false)) (h4 : findN l n = none) (h5 : 64 ≤ l.length) : markN l n e r = l := by unfold markN; rw [if_neg (by rw [h1]; simp), if_neg h2, if_pos ⟨h4, h5⟩]
theorem markN_ok {l : List Vr} {n : List UInt8} {e r : Bool} (h1 : nameB n = true) (h2 : ¬ (e = false ∧ r = false)) (h4 : ¬ (findN l n = none ∧ 64 ≤ l.length)) : markN l n e r = putN l ⟨(atN l n).name, (atN l n).value, (atN l n).e || e, (atN l n).r || r, (atN l n).u⟩ := by unfold markN; rw [if_neg (by rw [h1]; simp), if_neg h2, if_neg h4]
def argsN (l : List (List UInt8)) : List (List UInt8) := if l.length ≤ 200 then l else []
theorem parX_hit {h : Hx} {n : List UInt8} {i : Nat} (hf : findN specL n = some i) : parX h n = ((nth specL i vr0).value, !(nth specL i vr0).u) := by unfold parX; rw [hf]
theorem parX_dig {h : Hx} {n : List UInt8} (hf : findN specL n = none) (hd : (decide (n ≠ []) && digitB' (nth n 0 0)) = true) (hk : ((numB n).isSome && decide (1 ≤ (numB n).getD 0) && decide ((numB n).getD 0 ≤ (h.args.length : Int))) = true) : parX h n = (nth h.args ((numB n).getD 0 - 1).toNat [], true) := by
  rw [Bool.and_eq_true, decide_eq_true_eq] at hd
  rw [Bool.and_eq_true, Bool.and_eq_true, decide_eq_true_eq, decide_eq_true_eq] at hk
  unfold parX
  rw [hf]
  simp only
  rw [if_pos hd]
  cases hn : numB n with
  | none => rw [hn] at hk; exact absurd hk.1.1 (by simp)
  | some k =>
    rw [hn] at hk
    simp only [Option.getD_some] at hk ⊢
    rw [if_pos ⟨hk.1.2, hk.2⟩]
theorem parX_dig0 {h : Hx} {n : List UInt8} (hf : findN specL n = none) (hd : (decide (n ≠ []) && digitB' (nth n 0 0)) = true) (hk : ((numB n).isSome && decide (1 ≤ (numB n).getD 0) && decide ((numB n).getD 0 ≤ (h.args.length : Int))) = false) : parX h n = ([], false) := by
  rw [Bool.and_eq_true, decide_eq_true_eq] at hd
  unfold parX
  rw [hf]
  simp only
  rw [if_pos hd]
  cases hn : numB n with
  | none => rfl
  | some k =>
    rw [hn] at hk
    simp only [Option.getD_some, Option.isSome_some, Bool.true_and] at hk ⊢
    rw [if_neg]
    rintro ⟨h1, h2⟩
    rw [decide_eq_true h1, decide_eq_true h2] at hk
    cases hk
theorem parX_cnt {h : Hx} (hf : findN specL [35] = none) : parX h [35] = (Lib.itoa (h.args.length : Int), true) := by
  unfold parX
  rw [hf]
  simp only
  rw [if_neg (by decide), if_pos trivial]
theorem parX_get {h : Hx} {n : List UInt8} (hf : findN specL n = none) (hd : (decide (n ≠ []) && digitB' (nth n 0 0)) = false) (hn : n ≠ [35]) : parX h n = ((atN h.vars n).value, !(atN h.vars n).u) := by
  unfold parX
  rw [hf]
  simp only
  rw [if_neg (fun h9 => by rw [decide_eq_true h9.1, h9.2] at hd; cases hd), if_neg hn]
theorem argL_succ (q : Bool) (l : List (List UInt8)) (i : Nat) : argL q l (i + 1) = argL q l i ++ argAt q l i := by
  unfold argL; rw [List.range_succ, List.flatMap_append]; simp
theorem textX_app (a b : List Px) : textX (a ++ b) = textX a ++ textX b := by unfold textX; rw [List.flatMap_append]
theorem textX_take {l : List Px} {i : Nat} (h : i < l.length) : textX (l.take (i + 1)) = textX (l.take i) ++ stS (nth l i px0) ++ (nth l i px0).p.t := by
  rw [take_nth px0 h, textX_app]
  unfold textX; simp
theorem betX_len (h : Hx) : (betX h).length ≤ 1 := by
  unfold betX
  split
  · rw [List.length_take]; omega
  · simp
/-- how long what the host tells may be -/
structure HB (h : Hx) : Prop where
  vv : ∀ v ∈ h.vars, v.value.length ≤ 65536
  aa : ∀ a ∈ h.args, a.length ≤ 65536
  oo : ∀ o ∈ h.outs, o.length ≤ 65536
  aj : ∀ sep : List UInt8, sep.length ≤ 1 → (Lib.join h.args sep).length ≤ 65536
  an : h.args.length ≤ 200
  vn : h.vars.length ≤ 64
theorem setN_keep {l : List Vr} {n v : List UInt8} (h : (setN l n v).1 ≠ 0) : (setN l n v).2 = l := by
  unfold setN at *
  split
  · rfl
  · rename_i h1
    rw [if_neg h1] at h
    split
    · rfl
    · rename_i h2
      rw [if_neg h2] at h
      split
      · rfl
      · rename_i h3
        rw [if_neg h3] at h
        split
        · rfl
        · rename_i h4
          rw [if_neg h4] at h
          exact absurd rfl h
theorem Hx.put_keep {h : Hx} {n v : List UInt8} (he : (setN h.vars n v).1 ≠ 0) : h.put (setN h.vars n v).2 = h := by rw [setN_keep he]
section
variable {t op v : List UInt8} {q wi : Bool} {l : List Px} {h : Hx} {w : List PT}
theorem insX_name (ho : op = [61]) (hn : nameB t = false) : insX t op q (.ok l h) = .bad 22 [] h := by
  show (if _ then _ else _) = _
  rw [if_pos ho, if_pos hn]
theorem insX_err (ho : op = [61]) (hn : nameB t = true) (he : (setN h.vars t (textX l)).1 ≠ 0) : insX t op q (.ok l h) = .bad (setN h.vars t (textX l)).1 [] h := by
  show (if _ then _ else _) = _
  rw [if_pos ho, if_neg (by rw [hn]; simp), if_pos he]
theorem insX_set (ho : op = [61]) (hn : nameB t = true) (he : (setN h.vars t (textX l)).1 = 0) : insX t op q (.ok l h) = .ok (wholeX (textX l) q) (h.put (setN h.vars t (textX l)).2) := by
  show (if _ then _ else _) = _
  rw [if_pos ho, if_neg (by rw [hn]; simp), if_neg (by rw [he]; simp)]
theorem insX_msg (ho : op = [63]) : insX t op q (.ok l h) = .bad 62 (textX l) h := by
  show (if _ then _ else _) = _
  rw [if_neg (by rw [ho]; decide), if_pos ho]
theorem insX_nil (h1 : op ≠ [61]) (h2 : op ≠ [63]) (hl : l = []) : insX t op q (.ok l h) = .ok (wholeX [] q) h := by
  show (if _ then _ else _) = _
  rw [if_neg h1, if_neg h2, if_pos hl]
theorem insX_l (h1 : op ≠ [61]) (h2 : op ≠ [63]) (hl : l ≠ []) : insX t op q (.ok l h) = .ok l h := by
  show (if _ then _ else _) = _
  rw [if_neg h1, if_neg h2, if_neg hl]
theorem parA (h1 : manyB t = true) (h2 : op = []) : partX wi h (.mk 2 t op w q) = .ok (argsX h t q) h := by
  rw [partX, if_pos rfl, if_pos ⟨h1, h2⟩]
theorem parV (h1 : manyB t = false) (h2 : op = []) : partX wi h (.mk 2 t op w q) = .ok (wholeX (valX h t).1 q) h := by
  rw [partX, if_pos rfl, if_neg (by rw [h1]; simp), if_pos h2]
theorem parL (h2 : op = lenW) : partX wi h (.mk 2 t op w q) = .ok (wholeX (Lib.itoa (lenX h t)) q) h := by
  rw [partX, if_pos rfl, if_neg (by rw [h2]; simp [lenW]), if_neg (by rw [h2]; decide), if_pos h2]
theorem cut_ne (h3 : op ∈ cutOps) : op ≠ [] ∧ op ≠ lenW := by
  simp only [cutOps, List.mem_cons, List.not_mem_nil, or_false] at h3
  rcases h3 with rfl | rfl | rfl | rfl <;> decide
theorem parC66 (h3 : op ∈ cutOps) (h4 : 4096 < (valX h t).1.length) : partX wi h (.mk 2 t op w q) = .bad 66 [] h := by
  rw [partX, if_pos rfl, if_neg (fun h9 => (cut_ne h3).1 h9.2), if_neg (cut_ne h3).1, if_neg (cut_ne h3).2, if_pos h3, if_pos h4]
theorem parC (h3 : op ∈ cutOps) (h4 : ¬ 4096 < (valX h t).1.length) : partX wi h (.mk 2 t op w q) = cutX (valX h t).1 op q (partsX false h [] w) := by
  rw [partX, if_pos rfl, if_neg (fun h9 => (cut_ne h3).1 h9.2), if_neg (cut_ne h3).1, if_neg (cut_ne h3).2, if_pos h3, if_neg h4]
theorem parP (h1 : op ≠ []) (h2 : op ≠ lenW) (h3 : op ∉ cutOps) (h4 : opX op = [43]) (h5 : isX h t op = false) : partX wi h (.mk 2 t op w q) = .ok (wholeX [] q) h := by
  rw [partX, if_pos rfl, if_neg (fun h9 => h1 h9.2), if_neg h1, if_neg h2, if_neg h3, if_pos ⟨h4, h5⟩]
theorem parI (h1 : op ≠ []) (h2 : op ≠ lenW) (h3 : op ∉ cutOps) (h4 : opX op ≠ [43]) (h5 : isX h t op = true) : partX wi h (.mk 2 t op w q) = .ok (wholeX (valX h t).1 q) h := by
  rw [partX, if_pos rfl, if_neg (fun h9 => h1 h9.2), if_neg h1, if_neg h2, if_neg h3, if_neg (fun h9 => h4 h9.1), if_pos ⟨h4, h5⟩]
theorem parN (h1 : op ≠ []) (h2 : op ≠ lenW) (h3 : op ∉ cutOps) (h4 : ¬ (opX op = [43] ∧ isX h t op = false)) (h5 : ¬ (opX op ≠ [43] ∧ isX h t op = true)) : partX wi h (.mk 2 t op w q) = insX t (opX op) q (partsX true h [] w) := by
  rw [partX, if_pos rfl, if_neg (fun h9 => h1 h9.2), if_neg h1, if_neg h2, if_neg h3, if_neg h4, if_neg h5]
end
/-- a scene's variables, laid one by one -/
def layS (l : List Vr) (v : Vr) : List Vr := markN (if v.u = true then l else (setN l v.name v.value).2) v.name v.e v.r
def layV (vars : List Vr) : List Vr := vars.foldl layS []
theorem layV_snoc {vars : List Vr} {i : Nat} (h : i < vars.length) : layV (vars.take (i + 1)) = markN (if (nth vars i vr0).u = true then layV (vars.take i) else (setN (layV (vars.take i)) (nth vars i vr0).name (nth vars i vr0).value).2) (nth vars i vr0).name (nth vars i vr0).e (nth vars i vr0).r := by
  unfold layV
  rw [take_nth vr0 h, List.foldl_append]; rfl
theorem argsN_len (l : List (List UInt8)) : (argsN l).length ≤ 200 := by
  unfold argsN
  split
  · assumption
  · exact Nat.zero_le _
def awS16 : List UInt8 := [36, 120, 36, 120]
def xV (v : List UInt8) : Vr := ⟨[120], v, false, false, false⟩
def awH16 : Hx := ⟨[xV [97, 32, 98]], [], [], []⟩
end Go.Tri

/-
  How much a word is expanded to.
-/
namespace Go.Tri
open Go.RowKit
mutual
/-- texts of a size; no expressions -/
def okT : PT → Prop
  | .mk k t _ w _ => k ≠ 4 ∧ t.length ≤ 65536 ∧ oksT w
def oksT : List PT → Prop
  | [] => True
  | p :: l => okT p ∧ oksT l
end
theorem oksT_mem {l : List PT} (h : oksT l) {p : PT} (hp : p ∈ l) : okT p := by
  induction l with
  | nil => cases hp
  | cons q l ih =>
    rw [oksT] at h
    rcases List.mem_cons.1 hp with rfl | hp
    · exact h.1
    · exact ih h.2 hp
def Bnd (h : Hx) (k a b : Nat) : XR → Prop
  | .ok m h' => HB h' ∧ h'.asked.length ≤ h.asked.length + k ∧ m.length ≤ a + 401 * k ∧ (textX m).length ≤ b + 70000 * k
  | .bad _ _ h' => HB h' ∧ h'.asked.length ≤ h.asked.length + k
theorem Bnd.mono {h : Hx} {k k' a b : Nat} {r : XR} (hb : Bnd h k a b r) (hk : k ≤ k') : Bnd h k' a b r := by
  cases r with
  | ok m h' => obtain ⟨h1, h2, h3, h4⟩ := hb; exact ⟨h1, by omega, by omega, by omega⟩
  | bad e m h' => obtain ⟨h1, h2⟩ := hb; exact ⟨h1, by omega⟩
theorem whole_text (s : List UInt8) (q : Bool) : textX (wholeX s q) = s := by simp [textX, wholeX, stS]
theorem bnd_whole {h : Hx} (hB : HB h) {s : List UInt8} {q : Bool} {k : Nat} (hs : s.length ≤ 70000) (hk : 1 ≤ k) : Bnd h k 0 0 (.ok (wholeX s q) h) := ⟨hB, by omega, by simp [wholeX]; omega, by rw [whole_text]; omega⟩
theorem itoa_le (n : Int) (h : -9223372036854775808 ≤ n ∧ n ≤ 9223372036854775807) : (Lib.itoa n).length ≤ 20 := by
  have dd : ∀ k n : Nat, n < 10 ^ (k + 1) → (Lib.decDigits n).length ≤ k + 1 := by
    intro k
    induction k with
    | zero => intro n h; rw [digits_lt (by omega)]; simp
    | succ k ih =>
      intro n h
      by_cases h1 : n < 10
      · rw [digits_lt h1]; simp
      · rw [digits_ge h1, List.length_append]
        have := ih (n / 10) (by
          rw [Nat.div_lt_iff_lt_mul (by omega)]
          rw [Nat.pow_succ] at h; exact h)
        simp; omega
  have h2 := dd 18 n.natAbs (by omega)
  have h3 := dd 18 n.toNat (by omega)
  unfold Lib.itoa
  split <;> simp <;> omega
theorem parX_le {h : Hx} (hB : HB h) (n : List UInt8) : (parX h n).1.length ≤ 65536 := by
  unfold parX
  split
  · rename_i i hi
    have h3 : i < 3 := (findN_lt hi).1
    have h4 : i = 0 ∨ i = 1 ∨ i = 2 := by omega
    rcases h4 with rfl | rfl | rfl <;> decide
  · split
    · split
      · split
        · rename_i k _ hk
          have hl : (k - 1).toNat < h.args.length := by omega
          exact hB.aa _ (nth_mem hl)
        · exact Nat.zero_le _
      · exact Nat.zero_le _
    · split
      · have := hB.an
        exact Nat.le_trans (itoa_le (h.args.length : Int) (by omega)) (by decide)
      · show (atN h.vars n).value.length ≤ 65536
        cases hf : findN h.vars n with
        | none => rw [atN_none hf]; exact Nat.zero_le _
        | some i => rw [atN_some hf]; exact hB.vv _ (nth_mem (findN_lt hf).1)
theorem valX_le {h : Hx} (hB : HB h) (n : List UInt8) : (valX h n).1.length ≤ 65536 := by
  unfold valX
  split
  · exact hB.aj [32] (by decide)
  · exact parX_le hB n
theorem lenX_le {h : Hx} (hB : HB h) (n : List UInt8) : 0 ≤ lenX h n ∧ lenX h n ≤ 65536 := by
  have := valX_le hB n
  have := hB.an
  unfold lenX
  split <;> omega
theorem argL_count (q : Bool) (l : List (List UInt8)) (i : Nat) : (argL q l i).length ≤ 2 * i := by
  induction i with
  | zero => exact Nat.le_refl _
  | succ i ih =>
    rw [argL_succ, List.length_append]
    have : (argAt q l i).length ≤ 2 := by unfold argAt wholeX; split <;> simp
    omega
theorem argL_text (q : Bool) (l : List (List UInt8)) : ∀ i, i ≤ l.length → (textX (argL q l i)).length ≤ Lib.lens (l.take i) + i := by
  intro i
  induction i with
  | zero => intro _; exact Nat.zero_le _
  | succ i ih =>
    intro hi
    rw [argL_succ, textX_app, List.length_append]
    have h1 := ih (by omega)
    have h2 : (textX (argAt q l i)).length ≤ 1 + (nth l i []).length := by
      unfold argAt
      rw [textX_app, whole_text, List.length_append]
      have : (textX (if 0 < i then [brk] else [])).length ≤ 1 := by split <;> decide
      omega
    have h3 := Lib.lens_take_succ l i (nth l i []) (get_nth (by omega))
    omega
theorem lens_join (l : List (List UInt8)) (sep : List UInt8) : Lib.lens l ≤ (Lib.join l sep).length := by
  cases l with
  | nil => exact Nat.zero_le _
  | cons x r =>
    rw [Lib.join_cons, List.length_append, Lib.joinTail_length]
    show (x :: r).map (·.length) |>.sum |> (· ≤ _)
    have : Lib.lens r = (r.map (·.length)).sum := rfl
    rw [List.map_cons, List.sum_cons, this]
    omega
theorem args_text {h : Hx} (hB : HB h) (q : Bool) : (textX (argL q h.args h.args.length)).length ≤ 65736 := by
  have h1 := argL_text q h.args h.args.length (Nat.le_refl _)
  rw [List.take_length] at h1
  have h2 := lens_join h.args [32]
  have h3 := hB.aj [32] (by decide)
  have := hB.an
  omega
theorem setN_HB {h : Hx} (hB : HB h) {n v : List UInt8} (h0 : (setN h.vars n v).1 = 0) : HB (h.put (setN h.vars n v).2) where
  vv := by
    intro y hy
    have hy : y ∈ (setN h.vars n v).2 := hy
    unfold setN at hy h0
    split at hy
    · exact hB.vv y hy
    · rename_i h1
      rw [if_neg h1] at h0
      split at hy
      · exact hB.vv y hy
      · rename_i h2
        rw [if_neg h2] at h0
        split at hy
        · exact hB.vv y hy
        · rename_i h3
          rw [if_neg h3] at h0
          split at hy
          · exact hB.vv y hy
          · rcases putN_mem hy with hy | rfl
            · exact hB.vv y hy
            · show v.length ≤ 65536; omega
  aa := hB.aa
  oo := hB.oo
  aj := hB.aj
  an := hB.an
  vn := setN_len hB.vn
theorem trimNl_le (s : List UInt8) : (trimNl s).length ≤ s.length := by
  unfold trimNl Lib.trimRightS
  rw [List.length_reverse]
  have := (List.dropWhile_suffix (fun x => [10].contains x) (l := s.reverse)).length_le
  rwa [List.length_reverse] at this
theorem ask_bnd {h : Hx} (hB : HB h) (t : List UInt8) (q : Bool) {k : Nat} (hk : 1 ≤ k) : Bnd h k 0 0 (askX h t q) := by
  have hB' : HB ⟨h.vars, h.args, h.outs, h.asked ++ [t]⟩ := ⟨hB.vv, hB.aa, hB.oo, hB.aj, hB.an, hB.vn⟩
  unfold askX
  split
  · rename_i hl
    rw [List.length_append, List.length_singleton] at hl
    have h1 := hB.oo _ (nth_mem (d := []) (show h.asked.length < h.outs.length by omega))
    have h2 := trimNl_le (nth h.outs h.asked.length [])
    exact ⟨hB', by simp; omega, by simp [wholeX]; omega, by rw [whole_text]; omega⟩
  · exact ⟨hB', by simp; omega⟩
theorem ins_bnd {h : Hx} {t op : List UInt8} {q : Bool} {r : XR} {k : Nat} (hr : Bnd h k 0 0 r) : Bnd h (k + 1) 0 0 (insX t op q r) := by
  cases r with
  | bad e m h' => exact Bnd.mono (r := .bad e m h') hr (by omega)
  | ok l h' =>
    obtain ⟨h1, h2, h3, h4⟩ := hr
    show Bnd h (k + 1) 0 0 (if _ then _ else _)
    split
    · split
      · exact ⟨h1, by omega⟩
      · split
        · exact ⟨h1, by omega⟩
        · rename_i h0
          have h0 : (setN h'.vars t (textX l)).1 = 0 := by omega
          exact ⟨setN_HB h1 h0, by show h'.asked.length ≤ _; omega, by simp [wholeX]; omega, by rw [whole_text]; omega⟩
    · split
      · exact ⟨h1, by omega⟩
      · split
        · exact ⟨h1, by omega, by simp [wholeX]; omega, by rw [whole_text]; simp⟩
        · exact ⟨h1, by omega, by omega, by omega⟩
theorem cut_bnd {h : Hx} {v op : List UInt8} {q : Bool} {r : XR} {k : Nat} (hv : v.length ≤ 65536) (hr : Bnd h k 0 0 r) : Bnd h (k + 1) 0 0 (cutX v op q r) := by
  cases r with
  | bad e m h' => exact Bnd.mono (r := .bad e m h') hr (by omega)
  | ok l h' =>
    obtain ⟨h1, h2, h3, h4⟩ := hr
    have := (cut_law (charsX l) v (decide (nth op 0 0 = 37)) (decide (op.length = 2))).1
    exact ⟨h1, by omega, by simp [wholeX]; omega, by rw [whole_text]; omega⟩
theorem lit_text (t : List UInt8) (q wi : Bool) : textX (litX t q wi) = t := by simp [textX, litX, stS]
mutual
theorem partX_bnd : ∀ (p : PT) (wi : Bool) (h : Hx), okT p → HB h → Bnd h p.cnt 0 0 (partX wi h p)
  | .mk k t op w q, wi, h, ho, hB => by
    rw [okT] at ho
    obtain ⟨hk4, ht, hw⟩ := ho
    have ih := fun wi => partsX_bnd w wi h [] hw hB
    have hv := valX_le hB t
    show Bnd h (1 + cntL w) 0 0 _
    rw [partX]
    split
    · split
      · show Bnd _ _ 0 0 (.ok (argsX h t q) h)
        unfold argsX
        split
        · exact bnd_whole hB (by have := hB.aj (betX h) (betX_len h); omega) (by omega)
        · have h1 := argL_count q h.args h.args.length
          have h2 := args_text hB q
          have h3 := hB.an
          exact ⟨hB, by omega, by omega, by omega⟩
      · split
        · exact bnd_whole hB (by omega) (by omega)
        · split
          · have := lenX_le hB t
            exact bnd_whole hB (by have := itoa_le (lenX h t) (by omega); omega) (by omega)
          · split
            · split
              · exact ⟨hB, by omega⟩
              · rw [Nat.add_comm]; exact cut_bnd hv (ih false)
            · split
              · exact bnd_whole hB (by simp) (by omega)
              · split
                · exact bnd_whole hB (by omega) (by omega)
                · rw [Nat.add_comm]; exact ins_bnd (ih true)
    · split
      · exact ask_bnd hB t q (by omega)
      · split
        · exact bnd_whole hB (by have := parX_le hB homeN; omega) (by omega)
        · exact ⟨hB, by omega, by simp [litX]; omega, by rw [lit_text]; omega⟩
theorem partsX_bnd : ∀ (l : List PT) (wi : Bool) (h : Hx) (acc : List Px), oksT l → HB h → Bnd h (cntL l) acc.length (textX acc).length (partsX wi h acc l)
  | [], wi, h, acc, ho, hB => by
    rw [partsX]
    exact ⟨hB, by omega, by omega, by omega⟩
  | p :: l, wi, h, acc, ho, hB => by
    rw [oksT] at ho
    have h1 := partX_bnd p wi h ho.1 hB
    have hc : cntL (p :: l) = p.cnt + cntL l := by rw [cntL]
    rw [partsX, hc]
    cases hp : partX wi h p with
    | bad e m h' =>
      rw [hp] at h1
      obtain ⟨h2, h3⟩ := h1
      exact ⟨h2, by omega⟩
    | ok m h' =>
      rw [hp] at h1
      obtain ⟨h2, h3, h4, h5⟩ := h1
      have h6 := partsX_bnd l wi h' (acc ++ m) ho.2 h2
      show Bnd h _ _ _ (partsX wi h' (acc ++ m) l)
      rw [textX_app, List.length_append, List.length_append] at h6
      cases hq : partsX wi h' (acc ++ m) l with
      | bad e m2 h'' =>
        rw [hq] at h6
        obtain ⟨h7, h8⟩ := h6
        exact ⟨h7, by omega⟩
      | ok m2 h'' =>
        rw [hq] at h6
        obtain ⟨h7, h8, h9, h10⟩ := h6
        exact ⟨h7, by omega, by omega, by omega⟩
end
end Go.Tri

/-
  Texts with a parameter's operator, or with a command, read.
-/
namespace Go.Tri
open Go.RowKit
def clC (br : Bool) : UInt8 := if br = true then 125 else 41
def opC (br : Bool) : UInt8 := if br = true then 123 else 40
def bpC (c : UInt8) : Prop := brcB c ∧ c ≠ 40 ∧ c ≠ 41
/-- what is gone over up to its closing byte -/
def DoneT (br : Bool) (t : List UInt8) : Prop := ∀ (B : List UInt8 → SR) (D : Bool → List UInt8 → SR) (f : Nat) (r : List UInt8), t.length < f → dlrL B D br false f 0 (t ++ clC br :: r) = .ok (t.length + 1)
theorem doneT_nil (br : Bool) : DoneT br [] := fun B D f r hf => by
  obtain ⟨f, rfl⟩ : ∃ g, f = g + 1 := ⟨f - 1, by omega⟩
  rw [List.nil_append, dlrL, if_neg (by simp)]
  cases br
  · rw [if_neg (by show ¬ (41 : UInt8) = 34; decide), if_pos (by rfl)]; rfl
  · rw [if_neg (by show ¬ (125 : UInt8) = 34; decide), if_pos (by rfl)]; rfl
theorem doneT_step {br : Bool} {l t : List UInt8} {k : Nat} (ht : DoneT br t) (hne : nth l 0 0 ≠ 34) (hcl : nth l 0 0 ≠ 125 ∧ nth l 0 0 ≠ 40 ∧ nth l 0 0 ≠ 41) (hl : l = l.take k ++ t) (hk : 1 ≤ k) (hkl : k ≤ l.length) (hi : ∀ (D : Bool → List UInt8 → SR) (r : List UInt8), insideP D false true (l ++ clC br :: r) = .ok k) : DoneT br l := fun B D f r hf => by
  obtain ⟨f, rfl⟩ : ∃ g, f = g + 1 := ⟨f - 1, by omega⟩
  have hlp : l ≠ [] := List.ne_nil_of_length_pos (by omega)
  have hn : nth (l ++ clC br :: r) 0 0 = nth l 0 0 := nth_app (by omega)
  have hlen : l.length = k + t.length := by
    have := congrArg List.length hl
    rw [List.length_append, List.length_take] at this; omega
  have hd : (l ++ clC br :: r).drop k = t ++ clC br :: r := by
    rw [List.drop_append_of_le_length hkl]
    congr 1
    exact List.append_cancel_left ((List.take_append_drop k l).trans hl)
  rw [dlrL, if_neg (by simp), hn, if_neg hne, if_neg (by simp [hcl.1, hcl.2.2])]
  have hin := hi D r
  simp only [Bool.not_false]
  rw [hin]
  show (dlrL B D br false f _ ((l ++ clC br :: r).drop k)).on k = _
  have ho : opens br 0 (nth l 0 0) = 0 := by unfold opens; simp [hcl.2.1]
  rw [hd, ho, ht B D f r (by omega)]
  show LR.ok _ = _
  congr 1; omega
theorem doneT_self {br : Bool} {c : UInt8} {t : List UInt8} (h : bpC c) (ht : DoneT br t) : DoneT br (c :: t) := by
  obtain ⟨⟨h1, h2, h3, h4, h5, h6⟩, h7, h8⟩ := h
  refine doneT_step (k := 1) ht h1 ⟨h2, h7, h8⟩ rfl (Nat.le_refl _) (by simp) (fun D r => ?_)
  unfold insideP
  rw [List.cons_append, stB_one, stB_one, stB_one, decide_eq_false h3, decide_eq_false h4, decide_eq_false h5]
  have h7 : ∀ d, stB (c :: (t ++ clC br :: r)) [36, d] = false := fun d => decide_eq_false (fun e => h6 (by simp at e; exact e.1))
  rw [h7, h7]
  simp
theorem doneT_all {br : Bool} {l t : List UInt8} (h : ∀ c ∈ l, bpC c) (ht : DoneT br t) : DoneT br (l ++ t) := by
  induction l with
  | nil => exact ht
  | cons c l ih => exact doneT_self (h c (List.mem_cons_self)) (ih (fun d hd => h d (List.mem_cons_of_mem _ hd)))
theorem doneT_single {br : Bool} {m t : List UInt8} (h : 39 ∉ m) (ht : DoneT br t) : DoneT br (39 :: (m ++ 39 :: t)) := by
  refine doneT_step (k := m.length + 2) ht (by decide : (39 : UInt8) ≠ 34) (by decide : (39 : UInt8) ≠ 125 ∧ (39 : UInt8) ≠ 40 ∧ (39 : UInt8) ≠ 41) ?_ (by omega) (by simp only [List.length_cons, List.length_append]; omega) (fun D r => ?_)
  · rw [show m.length + 2 = (m.length + 1) + 1 by omega, List.take_succ_cons, List.take_append, List.take_of_length_le (by omega), show m.length + 1 - m.length = 1 by omega]
    simp
  · unfold insideP
    rw [List.cons_append, stB_one, stB_one, if_neg (by decide), if_pos (by decide)]
    unfold singleP
    rw [List.drop_succ_cons, List.drop_zero, List.append_assoc, List.cons_append, index_first h, if_neg (by omega)]
    exact congrArg SR.ok (by omega)
theorem doneT_esc {br : Bool} {c : UInt8} {t : List UInt8} (ht : DoneT br t) : DoneT br (92 :: c :: t) := by
  refine doneT_step (k := 2) ht (by decide : (92 : UInt8) ≠ 34) (by decide : (92 : UInt8) ≠ 125 ∧ (92 : UInt8) ≠ 40 ∧ (92 : UInt8) ≠ 41) rfl (by omega) (by simp) (fun D r => ?_)
  unfold insideP
  rw [List.cons_append, stB_one, if_pos (by decide)]
  exact congrArg SR.ok (by simp only [List.length_cons, List.length_append]; omega)
theorem doneT_escq {br : Bool} : ∀ (n : Nat) (s t : List UInt8), s.length ≤ n → DoneT br t → DoneT br (39 :: (escB s ++ 39 :: t)) := by
  intro n
  induction n with
  | zero =>
    intro s t h ht
    have : s = [] := List.eq_nil_of_length_eq_zero (by omega)
    subst this
    exact doneT_single (m := []) (by simp) ht
  | succ n ih =>
    intro s t h ht
    by_cases hm : Lib.indexByte s 39 = -1
    · have hno := indexByte_none hm
      rw [escB_plain hno]
      exact doneT_single hno ht
    · have hge := Lib.indexByte_ge s 39
      obtain ⟨i, hi⟩ : ∃ i : Nat, Lib.indexByte s 39 = i := ⟨(Lib.indexByte s 39).toNat, by omega⟩
      obtain ⟨h1, h2, h3⟩ := indexByte_some hi
      have e : s = s.take i ++ 39 :: s.drop (i + 1) := by
        conv => lhs; rw [← List.take_append_drop i s, drop_nth 0 h1, h2]
      have e2 : escB s = s.take i ++ ([39, 92, 39, 39] ++ escB (s.drop (i + 1))) := by
        conv => lhs; rw [e]
        unfold escB
        rw [List.flatMap_append, List.flatMap_cons]
        have e4 : (s.take i).flatMap escC = s.take i := escB_plain h3
        rw [e4]; rfl
      rw [e2]
      have e3 : 39 :: ((s.take i ++ ([39, 92, 39, 39] ++ escB (s.drop (i + 1)))) ++ 39 :: t) = 39 :: (s.take i ++ 39 :: (92 :: 39 :: (39 :: (escB (s.drop (i + 1)) ++ 39 :: t)))) := by simp
      rw [e3]
      exact doneT_single h3 (doneT_esc (ih (s.drop (i + 1)) t (by rw [List.length_drop]; omega) ht))
theorem plain_bp (c : UInt8) (h : plainC c = true) : bpC c := by
  have key : ∀ c : UInt8, plainC c = true → ((c ≠ 34 ∧ c ≠ 125 ∧ c ≠ 92 ∧ c ≠ 39 ∧ c ≠ 96 ∧ c ≠ 36) ∧ c ≠ 40 ∧ c ≠ 41) := by
    intro c; revert c; exact u8_all (by decide +kernel)
  exact key c h
theorem doneT_quote (br : Bool) (s : List UInt8) : DoneT br (quoteB s) := by
  unfold quoteB
  split
  · rename_i h
    rw [Bool.and_eq_true, List.all_eq_true] at h
    have := doneT_all (br := br) (l := s) (t := []) (fun c hc => plain_bp c (h.2 c hc)) (doneT_nil br)
    rwa [List.append_nil] at this
  · have e : [39] ++ escB s ++ [39] = 39 :: (escB s ++ 39 :: []) := by simp
    rw [e]
    exact doneT_escq s.length s [] (Nat.le_refl _) (doneT_nil br)
/-- one step over what is in braces or parentheses -/
theorem sub_step {br : Bool} {t r : List UInt8} {p : PT} {acc : List PT} (hD : DoneT br t) (hb : dolR (Wn 24) 0 (opC br) t = .ok p) : stepP 24 (Wn 24) 0 (36 :: opC br :: (t ++ clC br :: r)) acc = .ok (acc ++ [p]) (t.length + 3) := by
  obtain ⟨l, hl0⟩ : ∃ l, l = 36 :: opC br :: (t ++ clC br :: r) := ⟨_, rfl⟩
  have hlen : l.length = t.length + 3 + r.length := by rw [hl0]; simp; omega
  rw [← hl0]
  have e0 : nth l 0 0 = 36 := by rw [hl0]; rfl
  have e1 : nth l 1 0 = opC br := by rw [hl0]; rfl
  have hbg : beginsB l = true := by
    unfold beginsB
    rw [hl0]
    cases br
    · rw [Bool.or_eq_true]; left; exact decide_eq_true (by simp [opC])
    · rw [Bool.or_eq_true]; right; exact decide_eq_true (by simp [opC])
  have hlv : (lv 24).2 false l = .ok (t.length + 3) := by
    show dlrP (lv 23).1 (lv 23).2 false l = _
    unfold dlrP braceB
    rw [e1]
    have hd : l.drop 2 = t ++ clC br :: r := by rw [hl0]; simp
    have hbr : decide (opC br = 123) = br := by cases br <;> rfl
    rw [hd, hlen, hbr]
    show (dlrL _ _ br false _ 0 _).close 2 53 = _
    rw [hD _ _ _ _ (by omega)]
    show SR.ok _ = _
    congr 1; omega
  have hin : t = (l.take (t.length + 3 - 1)).drop 2 := by
    rw [hl0, show t.length + 3 - 1 = t.length + 1 + 1 by omega, List.take_succ_cons, List.take_succ_cons]
    simp
  unfold stepP
  rw [e0, if_neg (by decide), if_neg (by decide), if_pos rfl]
  exact (dolP_sub (n := 24) (W := Wn 24) (kd := 0) (acc := acc) hbg hlv hin).2 p (by rw [e1]; exact hb)
theorem partsP_read {s : List UInt8} (h : s.length ≤ 65536) (ht : tildeB 0 s = false) : partsP s 0 = readL 24 (Wn 24) 0 s.length s [] := by
  unfold partsP
  rw [if_neg (by omega), if_neg (by omega)]
  show wP 24 0 s = _
  rw [wP_read]
  unfold readP
  rw [if_neg (by rw [ht]; simp)]
theorem readL_step {f k : Nat} {l : List UInt8} {acc acc' : List PT} (hl : l ≠ []) (hf : l.length ≤ f) (h : stepP 24 (Wn 24) 0 l acc = .ok acc' k) : readL 24 (Wn 24) 0 f l acc = readL 24 (Wn 24) 0 (f - 1) (l.drop k) acc' := (read_step rfl hl hf).2 acc' k h
theorem sub_read {br : Bool} {t r : List UInt8} {p : PT} {acc : List PT} {f : Nat} (hD : DoneT br t) (hb : dolR (Wn 24) 0 (opC br) t = .ok p) (hf : t.length + 3 + r.length ≤ f) : readL 24 (Wn 24) 0 f (36 :: opC br :: (t ++ clC br :: r)) acc = readL 24 (Wn 24) 0 (f - 1) r (acc ++ [p]) := by
  have hl : (36 :: opC br :: (t ++ clC br :: r)).length = t.length + 3 + r.length := by simp; omega
  rw [readL_step (by simp) (by omega) (sub_step hD hb)]
  congr 1
  rw [show t.length + 3 = t.length + 1 + 1 + 1 by omega, List.drop_succ_cons, List.drop_succ_cons, List.drop_append]
  simp
/-- an operator, found -/
theorem findOp_at' {k : Nat} (hk : k < 12) {c : UInt8} {r : List UInt8} (h1 : k = 8 → c ≠ 37) (h2 : c ≠ 35) : findOp (nth opsT k [] ++ c :: r) = nth opsT k [] := by
  have st : ∀ (a b d : UInt8) (x : List UInt8), stB (a :: b :: x) [d] = decide (a = d) := fun a b d x => stB_one a _ d
  have st2 : ∀ (a b d e : UInt8) (x : List UInt8), stB (a :: b :: x) [d, e] = (decide (a = d) && decide (b = e)) := fun a b d e x => by
    unfold stB
    simp
  have : k = 0 ∨ k = 1 ∨ k = 2 ∨ k = 3 ∨ k = 4 ∨ k = 5 ∨ k = 6 ∨ k = 7 ∨ k = 8 ∨ k = 9 ∨ k = 10 ∨ k = 11 := by omega
  rcases this with rfl | rfl | rfl | rfl | rfl | rfl | rfl | rfl | rfl | rfl | rfl | rfl <;>
    (unfold findOp opsW opsT nth; simp [List.find?, st, st2, h1, h2])
theorem quote_first' (s : List UInt8) : ∃ c r, quoteB s = c :: r ∧ ((s ≠ [] → nth s 0 0 ≠ 37) → c ≠ 37) ∧ c ≠ 35 := by
  unfold quoteB
  split
  · rename_i hq
    rw [Bool.and_eq_true, decide_eq_true_eq, List.all_eq_true] at hq
    cases s with
    | nil => exact absurd rfl hq.1
    | cons c r =>
      refine ⟨c, r, rfl, fun h => h (by simp), fun e => ?_⟩
      have := hq.2 c (List.mem_cons_self)
      rw [e] at this
      exact absurd this (by decide)
  · exact ⟨39, _, rfl, fun _ => by decide, by decide⟩
theorem opsT_bp : ∀ k, k < 12 → ∀ c ∈ nth opsT k [], bpC c := by
  intro k hk
  have : k = 0 ∨ k = 1 ∨ k = 2 ∨ k = 3 ∨ k = 4 ∨ k = 5 ∨ k = 6 ∨ k = 7 ∨ k = 8 ∨ k = 9 ∨ k = 10 ∨ k = 11 := by omega
  rcases this with rfl | rfl | rfl | rfl | rfl | rfl | rfl | rfl | rfl | rfl | rfl | rfl <;> (unfold bpC brcB; decide)
/-- a quoted text, read: it is quoted, or means just itself -/
theorem quote_read' (n : Nat) (s : List UInt8) : ∃ q, wP n 0 (quoteB s) = .ok [.mk 1 s [] [] q] ∧ (q = true ∨ ∀ c ∈ s, plainC c = true) := by
  rw [wP_read]
  unfold readP quoteB
  split
  · rename_i h
    rw [Bool.and_eq_true, decide_eq_true_eq, List.all_eq_true] at h
    obtain ⟨hne, hall⟩ := h
    cases s with
    | nil => exact absurd rfl hne
    | cons c r =>
      rw [if_neg (by rw [tilde_head (plain_not126 c (hall c (List.mem_cons_self)))]; simp)]
      have := read_self (n := n) (W := Wn n) (kd := 0) (c :: r) (c :: r).length none (Nat.le_refl _) (fun d hd => plain_self d (hall d hd))
      rw [if_neg (by simp)] at this
      exact ⟨false, this, .inr hall⟩
  · have e : [39] ++ escB s ++ [39] = 39 :: (escB s ++ [39]) := by simp
    rw [e, if_neg (by rw [tilde_head (by decide)]; simp)]
    have := read_esc (k := n) (W := Wn n) s.length s _ none (Nat.le_refl _) (Nat.le_refl _)
    exact ⟨true, this, .inl rfl⟩
/-- x with an operator and a quoted text -/
theorem op_dolR {s : List UInt8} {k : Nat} (hk : k < 12) (hs : k = 8 → s ≠ [] → nth s 0 0 ≠ 37) : ∃ q, dolR (Wn 24) 0 123 ([120] ++ (nth opsT k [] ++ quoteB s)) = .ok (.mk 2 [120] (nth opsT k []) [.mk 1 s [] [] q] false) ∧ (q = true ∨ ∀ c ∈ s, plainC c = true) := by
  obtain ⟨q, hq, hqp⟩ := quote_read' 23 s
  obtain ⟨hb, oc, orr, ho, ho1, ho2⟩ := opsT_facts k hk
  obtain ⟨c, r, hqs, hc1, hc2⟩ := quote_first' s
  refine ⟨q, ?_, hqp⟩
  have hnm : nameB [120] = true := rfl
  have hpn : paramN ([120] ++ (nth opsT k [] ++ quoteB s)) = 1 := by
    refine param_name hnm (.inr ?_)
    rw [ho]
    exact name_snoc [120] oc ho1 ho2 (by simp)
  have hdr : ([120] ++ (nth opsT k [] ++ quoteB s)).drop 1 = nth opsT k [] ++ quoteB s := rfl
  have htk : ([120] ++ (nth opsT k [] ++ quoteB s)).take 1 = [120] := rfl
  have hf : findOp (nth opsT k [] ++ quoteB s) = nth opsT k [] := by rw [hqs]; exact findOp_at' hk (fun h => hc1 (hs h)) hc2
  have hd2 : (nth opsT k [] ++ quoteB s).drop (nth opsT k []).length = quoteB s := List.drop_left
  unfold dolR
  rw [if_pos rfl]
  unfold bracedP
  rw [if_neg, hpn, if_neg (by omega), hdr, if_neg (by rw [ho]; simp), hf, if_neg (by rw [ho]; simp), hd2, htk]
  · have hz : (if Lib.contains [37, 37, 35, 35] (nth opsT k []) = true then 0 else 0) = 0 := by split <;> rfl
    rw [hz]
    show (match wP 23 0 (quoteB s) with | .bad e => BR.bad e | .ok w => _) = _
    rw [hq]
    rfl
  · rw [List.cons_append, stB_one]; simp
theorem op_done {s : List UInt8} {k : Nat} (hk : k < 12) : DoneT true ([120] ++ (nth opsT k [] ++ quoteB s)) :=
  doneT_all (fun c hc => by rw [List.mem_singleton] at hc; subst hc; unfold bpC brcB; decide) (doneT_all (opsT_bp k hk) (doneT_quote true s))
def opText (k : Nat) (s : List UInt8) : List UInt8 := [36, 123, 120] ++ nth opsT k [] ++ quoteB s ++ [125]
theorem opsT_len {k : Nat} (hk : k < 12) : (nth opsT k []).length ≤ 2 := by
  have : k = 0 ∨ k = 1 ∨ k = 2 ∨ k = 3 ∨ k = 4 ∨ k = 5 ∨ k = 6 ∨ k = 7 ∨ k = 8 ∨ k = 9 ∨ k = 10 ∨ k = 11 := by omega
  rcases this with rfl | rfl | rfl | rfl | rfl | rfl | rfl | rfl | rfl | rfl | rfl | rfl <;> decide
theorem opText_eq (k : Nat) (s r : List UInt8) : opText k s ++ r = 36 :: opC true :: (([120] ++ (nth opsT k [] ++ quoteB s)) ++ clC true :: r) := by
  simp [opText, opC, clC]
theorem op_parts {s r : List UInt8} {k : Nat} (hk : k < 12) (hl : s.length ≤ 300) (hr : r.length ≤ 100) (hs : k = 8 → s ≠ [] → nth s 0 0 ≠ 37) : ∃ q, (q = true ∨ ∀ c ∈ s, plainC c = true) ∧ ∃ f, r.length ≤ f ∧ partsP (opText k s ++ r) 0 = readL 24 (Wn 24) 0 f r [.mk 2 [120] (nth opsT k []) [.mk 1 s [] [] q] false] := by
  obtain ⟨q, h1, h2⟩ := op_dolR (s := s) hk hs
  have hql := quoteB_le s
  have hol := opsT_len hk
  refine ⟨q, h2, ?_⟩
  rw [opText_eq]
  have hlen : ([120] ++ (nth opsT k [] ++ quoteB s)).length = 1 + ((nth opsT k []).length + (quoteB s).length) := by simp; omega
  have hall : (36 :: opC true :: (([120] ++ (nth opsT k [] ++ quoteB s)) ++ clC true :: r)).length = ([120] ++ (nth opsT k [] ++ quoteB s)).length + 3 + r.length := by
    simp only [List.length_cons, List.length_append]; omega
  rw [partsP_read (by omega) (tilde_head (by decide)), sub_read (op_done hk) h1 (by omega)]
  exact ⟨_, by omega, rfl⟩
theorem op_parts0 {s : List UInt8} {k : Nat} (hk : k < 12) (hl : s.length ≤ 300) (hs : k = 8 → s ≠ [] → nth s 0 0 ≠ 37) : ∃ q, (q = true ∨ ∀ c ∈ s, plainC c = true) ∧ partsP (opText k s) 0 = .ok [.mk 2 [120] (nth opsT k []) [.mk 1 s [] [] q] false] := by
  obtain ⟨q, h1, f, h2, h3⟩ := op_parts (r := []) hk hl (by simp) hs
  rw [List.append_nil, read_end] at h3
  exact ⟨q, h1, h3⟩
/-- the same with $x behind -/
theorem op_partsX {s : List UInt8} {k : Nat} (hk : k < 12) (hl : s.length ≤ 300) (hs : k = 8 → s ≠ [] → nth s 0 0 ≠ 37) : ∃ q, partsP (opText k s ++ [36, 120]) 0 = .ok [.mk 2 [120] (nth opsT k []) [.mk 1 s [] [] q] false, .mk 2 [120] [] [] false] := by
  obtain ⟨q, h1, f, h2, h3⟩ := op_parts (r := [36, 120]) hk hl (by simp) hs
  refine ⟨q, h3.trans ?_⟩
  rw [readL_step (by simp) h2 (show stepP 24 (Wn 24) 0 [36, 120] _ = .ok _ 2 from rfl)]
  exact read_end
/-! ### what is cut off by a text that means itself -/
theorem Mt_lit : ∀ (p : List Ch) (t : List UInt8), (∀ c ∈ p, wildC c = false) → Mt p t = decide (p.map Ch.b = t)
  | [], t, _ => by
    rw [Mt_nil]
    cases t <;> simp
  | c :: p, t, h => by
    have hc := h c List.mem_cons_self
    have hn : noBr (c :: p) := fun d hd e => by
      have := h d hd
      subst e
      exact absurd this (by decide)
    have h42 : c ≠ uq 42 := fun e => by subst e; exact absurd hc (by decide)
    have h63 : c ≠ uq 63 := fun e => by subst e; exact absurd hc (by decide)
    rw [Mt_cons hn h42]
    cases t with
    | nil => simp
    | cons b t =>
      simp only [Mt_lit p t (fun d hd => h d (List.mem_cons_of_mem _ hd)), decide_eq_false h63, Bool.false_or, List.map_cons, List.cons.injEq]
      by_cases h1 : c.b = b <;> by_cases h2 : p.map Ch.b = t <;> simp [h1, h2]
theorem plain_noWild (c : UInt8) (h : plainC c = true) : hasB [42, 63, 91] c = false := by
  revert c; exact u8_all (by decide +kernel)
theorem lit_noWild {s : List UInt8} {q : Bool} (h : q = true ∨ ∀ c ∈ s, plainC c = true) : ∀ c ∈ s.map (fun b => (⟨b, q⟩ : Ch)), wildC c = false := by
  intro c hc
  obtain ⟨b, hb, rfl⟩ := List.mem_map.1 hc
  unfold wildC
  rcases h with h | h
  · rw [h]; rfl
  · rw [plain_noWild b (h b hb), Bool.and_false]
theorem lit_bytes (s : List UInt8) (q : Bool) : (s.map fun b => (⟨b, q⟩ : Ch)).map Ch.b = s := by rw [List.map_map]; exact (List.map_congr_left fun _ _ => rfl).trans (List.map_id s)
theorem cut_front {w v : List UInt8} {q : Bool} (h : q = true ∨ ∀ c ∈ w, plainC c = true) : cutP (w.map fun b => ⟨b, q⟩) v false false = if v.take w.length = w then v.drop w.length else v := by
  have hok : ∀ i, cutOk (w.map fun b => (⟨b, q⟩ : Ch)) v false false i = decide (w = v.take i) := fun i => by
    unfold cutOk cutLen
    simp only [Bool.false_eq_true, if_false]
    rw [Mt_lit _ _ (lit_noWild h), lit_bytes]
  have hlen : ∀ i, i ≤ v.length → w = v.take i → i = w.length := fun i hi e => by
    have := congrArg List.length e
    rw [List.length_take] at this; omega
  by_cases hw : v.take w.length = w
  · have hle : w.length ≤ v.length := by
      have := congrArg List.length hw
      rw [List.length_take] at this; omega
    rw [if_pos hw, cutP_hit (i := w.length) hle (fun j hj => ?_) (by rw [hok]; exact decide_eq_true hw.symm)]
    · rfl
    · rw [hok]
      exact decide_eq_false (fun e => by have := hlen j (by omega) e; omega)
  · rw [if_neg hw, cutP_none]
    intro j hj
    rw [hok]
    refine decide_eq_false (fun e => ?_)
    have := hlen j (by omega) e
    subst this
    exact hw e.symm
theorem cut_back_all {v : List UInt8} {q : Bool} (h : q = true ∨ ∀ c ∈ v, plainC c = true) : cutP (v.map fun b => ⟨b, q⟩) v true false = [] := by
  have hok : ∀ i, i ≤ v.length → cutOk (v.map fun b => (⟨b, q⟩ : Ch)) v true false i = decide (v = v.drop (v.length - i)) := fun i _ => by
    unfold cutOk cutLen
    simp only [if_true, Bool.false_eq_true, if_false]
    rw [Mt_lit _ _ (lit_noWild h), lit_bytes]
  rw [cutP_hit (i := v.length) (Nat.le_refl _) (fun j hj => ?_) ?_]
  · unfold cutRes cutLen; simp
  · rw [hok _ (Nat.le_refl _), Nat.sub_self]; simp
  · rw [hok j (by omega)]
    refine decide_eq_false (fun e => ?_)
    have := congrArg List.length e
    rw [List.length_drop] at this; omega
theorem cut_star_back (v : List UInt8) : cutP [uq 42] v true true = [] := by
  rw [cutP_hit (i := 0) (Nat.zero_le _) (fun j hj => absurd hj (Nat.not_lt_zero _)) ?_]
  · unfold cutRes cutLen; simp
  · unfold cutOk; exact Mt_starAll _
theorem cut_star_front (v : List UInt8) : cutP [uq 42] v false true = [] := by
  rw [cutP_hit (i := 0) (Nat.zero_le _) (fun j hj => absurd hj (Nat.not_lt_zero _)) ?_]
  · unfold cutRes cutLen; simp
  · unfold cutOk; exact Mt_starAll _
end Go.Tri

/-
  What a parameter's operators make of a value; what stands in a command's place.
-/
namespace Go.Tri
open Go.RowKit
def hxX (x : Option (List UInt8)) : Hx := ⟨(match x with | none => [] | some v => [xV v]), [], [], []⟩
theorem parX_x (x : Option (List UInt8)) : parX (hxX x) [120] = (x.getD [], x.isSome) := by cases x <;> rfl
theorem valX_x (x : Option (List UInt8)) : valX (hxX x) [120] = (x.getD [], x.isSome) := by
  unfold valX
  rw [if_neg (by decide), parX_x]
theorem textX_whole (s : List UInt8) (q : Bool) : textX (wholeX s q) = s := by simp [textX, wholeX, stS]
theorem textX_lit (s : List UInt8) (q wi : Bool) : textX (litX s q wi) = s := by simp [textX, litX, stS]
theorem charsX_lit (s : List UInt8) (q wi : Bool) : charsX (litX s q wi) = s.map fun b => ⟨b, q⟩ := by simp [charsX, litX]
theorem part_lit (wi : Bool) (h : Hx) (t : List UInt8) (op : List UInt8) (w : List PT) (q : Bool) : partX wi h (.mk 1 t op w q) = .ok (litX t q wi) h := by
  rw [partX, if_neg (by decide), if_neg (by decide), if_neg (by decide), if_neg (by simp)]
theorem parts_one {wi : Bool} {h : Hx} {acc : List Px} {p : PT} : partsX wi h acc [p] = match partX wi h p with | .bad e m h => .bad e m h | .ok m h' => .ok (acc ++ m) h' := by
  rw [partsX]
  cases partX wi h p with
  | ok m h' => show partsX wi h' _ [] = _; rw [partsX]
  | bad e m h' => rfl
theorem parts_lit (wi : Bool) (h : Hx) (t : List UInt8) (op : List UInt8) (w : List PT) (q : Bool) : partsX wi h [] [.mk 1 t op w q] = .ok (litX t q wi) h := by
  rw [parts_one, part_lit]; rfl
/-- the text told, or that there was an error -/
def errT : List UInt8 := [97, 110, 32, 101, 114, 114, 111, 114]
def oneT (h : Hx) (s : List UInt8) : List UInt8 := if (oneX h s 0).2.2.1 ≠ 0 then errT else (oneX h s 0).1
theorem oneX_of {h h' : Hx} {s : List UInt8} {k : Int} {l : List PT} {L : List Px} (hp : partsP s k = .ok l) (hx : partsX false h [] l = .ok L h') (hl : (textX L).length ≤ 65536) : oneX h s k = (textX L, [], 0, h') := by
  unfold oneX expX
  rw [hp]
  show (match partsX false h [] l with | .bad e m h => _ | .ok l h => _) = _
  rw [hx]
  show (if _ then _ else _) = _
  rw [if_neg (by omega)]
theorem oneT_of {h h' : Hx} {s : List UInt8} {l : List PT} {L : List Px} (hp : partsP s 0 = .ok l) (hx : partsX false h [] l = .ok L h') (hl : (textX L).length ≤ 65536) : oneT h s = textX L := by
  unfold oneT
  rw [oneX_of hp hx hl]; rfl
theorem part_op {wi : Bool} {x : Option (List UInt8)} {op w : List UInt8} {wq q : Bool} (h1 : op ≠ []) (h2 : op ≠ lenW) (h3 : op ∉ cutOps) (h4 : opX op ≠ [63]) (h5 : opX op ≠ [61]) :
    partX wi (hxX x) (.mk 2 [120] op [.mk 1 w [] [] wq] q) = .ok (if opX op = [43] ∧ isX (hxX x) [120] op = false then wholeX [] q else if opX op ≠ [43] ∧ isX (hxX x) [120] op = true then wholeX (x.getD []) q else litX w wq true) (hxX x) := by
  rw [partX, if_pos rfl, if_neg (by simp [manyB]), if_neg h1, if_neg h2, if_neg h3, valX_x]
  by_cases ha : opX op = [43] ∧ isX (hxX x) [120] op = false
  · rw [if_pos ha, if_pos ha]
  · rw [if_neg ha, if_neg ha]
    by_cases hb : opX op ≠ [43] ∧ isX (hxX x) [120] op = true
    · rw [if_pos hb, if_pos hb]
    · rw [if_neg hb, if_neg hb, parts_lit]
      show (if _ then _ else _) = _
      rw [if_neg h5, if_neg h4, if_neg (by simp [litX])]
theorem isX_x (x : Option (List UInt8)) (op : List UInt8) : isX (hxX x) [120] op = (x.isSome && (!stB op [58] || decide (x.getD [] ≠ []))) := by
  unfold isX; rw [valX_x]
theorem op_one {x : Option (List UInt8)} {w : List UInt8} {k : Nat} (hk : k = 0 ∨ k = 3 ∨ k = 4 ∨ k = 7) (hw : w.length ≤ 300) (hx : (x.getD []).length ≤ 300) :
    oneT (hxX x) (opText k w) = if opX (nth opsT k []) = [43] ∧ isX (hxX x) [120] (nth opsT k []) = false then [] else if opX (nth opsT k []) ≠ [43] ∧ isX (hxX x) [120] (nth opsT k []) = true then x.getD [] else w := by
  obtain ⟨q, _, hp⟩ := op_parts0 (s := w) (k := k) (by omega) hw (fun h => by omega)
  have h1 : nth opsT k [] ≠ [] ∧ nth opsT k [] ≠ lenW ∧ nth opsT k [] ∉ cutOps ∧ opX (nth opsT k []) ≠ [63] ∧ opX (nth opsT k []) ≠ [61] := by
    rcases hk with rfl | rfl | rfl | rfl <;> decide
  have hr := parts_one (wi := false) (h := hxX x) (acc := []) (p := .mk 2 [120] (nth opsT k []) [.mk 1 w [] [] q] false)
  rw [part_op h1.1 h1.2.1 h1.2.2.1 h1.2.2.2.1 h1.2.2.2.2] at hr
  have hl : textX (if opX (nth opsT k []) = [43] ∧ isX (hxX x) [120] (nth opsT k []) = false then wholeX [] false else if opX (nth opsT k []) ≠ [43] ∧ isX (hxX x) [120] (nth opsT k []) = true then wholeX (x.getD []) false else litX w q true) = if opX (nth opsT k []) = [43] ∧ isX (hxX x) [120] (nth opsT k []) = false then [] else if opX (nth opsT k []) ≠ [43] ∧ isX (hxX x) [120] (nth opsT k []) = true then x.getD [] else w := by
    split
    · exact textX_whole _ _
    · split
      · exact textX_whole _ _
      · exact textX_lit _ _ _
  rw [oneT_of hp hr (by
    show (textX ([] ++ _)).length ≤ _
    rw [List.nil_append, hl]; split
    · simp
    · split <;> omega)]
  exact hl
/-! the texts, one by one -/
theorem one_dash0 {w : List UInt8} (hw : w.length ≤ 300) : oneT (hxX none) (opText 4 w) = w := by
  rw [op_one (by omega) hw (by simp), isX_x]; rfl
theorem one_cdash0 {w : List UInt8} (hw : w.length ≤ 300) : oneT (hxX none) (opText 0 w) = w := by
  rw [op_one (by omega) hw (by simp), isX_x]; rfl
theorem one_plus0 {w : List UInt8} (hw : w.length ≤ 300) : oneT (hxX none) (opText 7 w) = [] := by
  rw [op_one (by omega) hw (by simp), isX_x]; rfl
theorem one_cplus0 {w : List UInt8} (hw : w.length ≤ 300) : oneT (hxX none) (opText 3 w) = [] := by
  rw [op_one (by omega) hw (by simp), isX_x]; rfl
theorem one_dash1 {v w : List UInt8} (hw : w.length ≤ 300) (hv : v.length ≤ 300) : oneT (hxX (some v)) (opText 4 w) = v := by
  rw [op_one (x := some v) (by omega) hw hv, isX_x]; rfl
theorem one_plus1 {v w : List UInt8} (hw : w.length ≤ 300) (hv : v.length ≤ 300) : oneT (hxX (some v)) (opText 7 w) = w := by
  rw [op_one (x := some v) (by omega) hw hv, isX_x]; rfl
theorem one_cdash1 {v w : List UInt8} (hw : w.length ≤ 300) (hv : v.length ≤ 300) : oneT (hxX (some v)) (opText 0 w) = if v = [] then w else v := by
  rw [op_one (x := some v) (by omega) hw hv, isX_x]
  have h0 : opX (nth opsT 0 []) = [45] := rfl
  have h1 : stB (nth opsT 0 []) [58] = true := rfl
  rw [h0, h1]
  by_cases h : v = []
  · subst h; rfl
  · rw [if_neg (by simp), if_neg h, if_pos (by simp [h])]; rfl
theorem one_cplus1 {v w : List UInt8} (hw : w.length ≤ 300) (hv : v.length ≤ 300) : oneT (hxX (some v)) (opText 3 w) = if v = [] then [] else w := by
  rw [op_one (x := some v) (by omega) hw hv, isX_x]
  have h0 : opX (nth opsT 3 []) = [43] := rfl
  have h1 : stB (nth opsT 3 []) [58] = true := rfl
  rw [h0, h1]
  by_cases h : v = []
  · subst h; rfl
  · rw [if_neg (by simp [h]), if_neg (by simp), if_neg h]
def lenT : List UInt8 := [36, 123, 35, 120, 125]
def plnT : List UInt8 := [36, 120]
def dblT : List UInt8 := [34, 36, 123, 120, 125, 34]
def pctT : List UInt8 := [36, 123, 120, 37, 37, 42, 125]
def shpT : List UInt8 := [36, 123, 120, 35, 35, 42, 125]
theorem lenT_parts : partsP lenT 0 = .ok [.mk 2 [120] lenW [] false] := by kernel_rfl
theorem plnT_parts : partsP plnT 0 = .ok [.mk 2 [120] [] [] false] := by kernel_rfl
theorem dblT_parts : partsP dblT 0 = .ok [.mk 2 [120] [] [] true] := by kernel_rfl
theorem pctT_parts : partsP pctT 0 = .ok [.mk 2 [120] [37, 37] [.mk 1 [42] [] [] false] false] := by kernel_rfl
theorem shpT_parts : partsP shpT 0 = .ok [.mk 2 [120] [35, 35] [.mk 1 [42] [] [] false] false] := by kernel_rfl
theorem itoa_small {n : Nat} (h : n ≤ 300) : (Lib.itoa (n : Int)).length ≤ 65536 := by
  have key : ∀ n : Fin 301, (Lib.itoa ((n.val : Nat) : Int)).length ≤ 65536 := by decide +kernel
  exact key ⟨n, by omega⟩
theorem part_len (wi : Bool) (x : Option (List UInt8)) (w : List PT) (q : Bool) : partX wi (hxX x) (.mk 2 [120] lenW w q) = .ok (wholeX (Lib.itoa ((x.getD []).length : Int)) q) (hxX x) := by
  rw [partX, if_pos rfl, if_neg (by simp [manyB]), if_neg (by decide), if_pos rfl]
  unfold lenX
  rw [if_neg (by decide), valX_x]
theorem part_pln (wi : Bool) (x : Option (List UInt8)) (w : List PT) (q : Bool) : partX wi (hxX x) (.mk 2 [120] [] w q) = .ok (wholeX (x.getD []) q) (hxX x) := by
  rw [partX, if_pos rfl, if_neg (by simp [manyB]), if_pos rfl, valX_x]
theorem one_len {x : Option (List UInt8)} (hx : (x.getD []).length ≤ 300) : oneT (hxX x) lenT = Lib.itoa ((x.getD []).length : Int) := by
  have hr := parts_one (wi := false) (h := hxX x) (acc := []) (p := .mk 2 [120] lenW [] false)
  rw [part_len] at hr
  rw [oneT_of lenT_parts hr (by show (textX (wholeX _ _)).length ≤ _; rw [textX_whole]; exact itoa_small hx)]
  exact textX_whole _ _
theorem one_pln {x : Option (List UInt8)} (hx : (x.getD []).length ≤ 300) : oneT (hxX x) plnT = x.getD [] := by
  have hr := parts_one (wi := false) (h := hxX x) (acc := []) (p := .mk 2 [120] [] [] false)
  rw [part_pln] at hr
  rw [oneT_of plnT_parts hr (by show (textX (wholeX _ _)).length ≤ _; rw [textX_whole]; omega)]
  exact textX_whole _ _
theorem one_dbl {x : Option (List UInt8)} (hx : (x.getD []).length ≤ 300) : oneT (hxX x) dblT = x.getD [] := by
  have hr := parts_one (wi := false) (h := hxX x) (acc := []) (p := .mk 2 [120] [] [] true)
  rw [part_pln] at hr
  rw [oneT_of dblT_parts hr (by show (textX (wholeX _ _)).length ≤ _; rw [textX_whole]; omega)]
  exact textX_whole _ _
theorem nameX : nameB [120] = true := rfl
theorem set_none {v : List UInt8} (hv : v.length ≤ 65536) : setN [] [120] v = (0, [xV v]) := by
  unfold setN
  rw [if_neg (by rw [nameX]; simp), if_neg (by rw [atN_none (show findN [] [120] = none from rfl)]; simp), if_neg (by omega), if_neg (by simp)]
  rfl
/-- x takes a text, then is told -/
theorem one_set {w : List UInt8} (hw : w.length ≤ 300) : oneT (hxX none) (opText 5 w ++ [36, 120]) = w ++ w := by
  obtain ⟨q, hp⟩ := op_partsX (s := w) (k := 5) (by omega) hw (fun h => by omega)
  have h1 : partX false (hxX none) (.mk 2 [120] [61] [.mk 1 w [] [] q] false) = .ok (wholeX w false) (hxX (some w)) := by
    rw [partX, if_pos rfl, if_neg (by simp [manyB]), if_neg (by decide), if_neg (by decide), if_neg (by decide), if_neg (by intro h; exact absurd h.1 (by decide)), if_neg (by intro h; rw [isX_x] at h; exact absurd h.2 (by decide)), parts_lit]
    show (if _ then _ else _) = _
    rw [textX_lit]
    show (if (setN [] [120] w).1 ≠ 0 then _ else XR.ok _ (Hx.put _ (setN [] [120] w).2)) = _
    rw [set_none (by omega)]
    rfl
  have hr : partsX false (hxX none) [] [.mk 2 [120] (nth opsT 5 []) [.mk 1 w [] [] q] false, .mk 2 [120] [] [] false] = .ok (wholeX w false ++ wholeX w false) (hxX (some w)) := by
    rw [partsX]
    show (match partX false (hxX none) (.mk 2 [120] [61] [.mk 1 w [] [] q] false) with | .bad e m h => _ | .ok m h' => _) = _
    rw [h1]
    show partsX false (hxX (some w)) ([] ++ wholeX w false) _ = _
    rw [parts_one, part_pln]; rfl
  rw [oneT_of hp hr (by rw [textX_app, textX_whole, List.length_append]; omega), textX_app, textX_whole]
theorem part_cut {x : Option (List UInt8)} {op w : List UInt8} {wq q wi : Bool} (h3 : op ∈ cutOps) (h1 : op ≠ []) (h2 : op ≠ lenW) (hx : (x.getD []).length ≤ 300) :
    partX wi (hxX x) (.mk 2 [120] op [.mk 1 w [] [] wq] q) = .ok (wholeX (cutP (w.map fun b => ⟨b, wq⟩) (x.getD []) (decide (nth op 0 0 = 37)) (decide (op.length = 2))) q) (hxX x) := by
  rw [partX, if_pos rfl, if_neg (by simp [manyB]), if_neg h1, if_neg h2, if_pos h3, valX_x]
  show (if 4096 < (x.getD []).length then _ else _) = _
  rw [if_neg (by omega), parts_lit]
  show XR.ok _ _ = _
  rw [charsX_lit]
theorem cutP_le (p : List Ch) (s : List UInt8) (e g : Bool) : (cutP p s e g).length ≤ s.length := (cut_law p s e g).1
theorem cut_one {x : Option (List UInt8)} {s op w : List UInt8} {wq : Bool} (hp : partsP s 0 = .ok [.mk 2 [120] op [.mk 1 w [] [] wq] false]) (h3 : op ∈ cutOps) (h1 : op ≠ []) (h2 : op ≠ lenW) (hx : (x.getD []).length ≤ 300) :
    oneT (hxX x) s = cutP (w.map fun b => ⟨b, wq⟩) (x.getD []) (decide (nth op 0 0 = 37)) (decide (op.length = 2)) := by
  have hr := parts_one (wi := false) (h := hxX x) (acc := []) (p := .mk 2 [120] op [.mk 1 w [] [] wq] false)
  rw [part_cut h3 h1 h2 hx] at hr
  have hle := cutP_le (w.map fun b => ⟨b, wq⟩) (x.getD []) (decide (nth op 0 0 = 37)) (decide (op.length = 2))
  rw [oneT_of hp hr (by show (textX (wholeX _ _)).length ≤ _; rw [textX_whole]; omega)]
  exact textX_whole _ _
theorem one_pct {v : List UInt8} (hv : v.length ≤ 300) : oneT (hxX (some v)) pctT = [] := by
  rw [cut_one pctT_parts (by decide) (by decide) (by decide) (x := some v) hv]
  exact cut_star_back v
theorem one_shp {v : List UInt8} (hv : v.length ≤ 300) : oneT (hxX (some v)) shpT = [] := by
  rw [cut_one shpT_parts (by decide) (by decide) (by decide) (x := some v) hv]
  exact cut_star_front v
theorem one_front {v w : List UInt8} (hv : v.length ≤ 300) (hw : w.length ≤ 300) : oneT (hxX (some v)) (opText 10 w) = if v.take w.length = w then v.drop w.length else v := by
  obtain ⟨q, hq, hp⟩ := op_parts0 (s := w) (k := 10) (by omega) hw (fun h => by omega)
  rw [cut_one hp (by decide) (by decide) (by decide) (x := some v) hv]
  exact cut_front hq
theorem one_back {v : List UInt8} (hv : v.length ≤ 300) (h : v ≠ [] → nth v 0 0 ≠ 37) : oneT (hxX (some v)) (opText 8 v) = [] := by
  obtain ⟨q, hq, hp⟩ := op_parts0 (s := v) (k := 8) (by omega) hv (fun _ => h)
  rw [cut_one hp (by decide) (by decide) (by decide) (x := some v) hv]
  exact cut_back_all hq
end Go.Tri

/-
  What each text of the statement on parameters is worth.
-/
namespace Go.Tri
open Go.RowKit
/-- a text that is read, and what it is worth -/
def OneOk (x : Option (List UInt8)) (s r : List UInt8) : Prop := (∃ l, partsP s 0 = .ok l ∧ cntL l ≤ 2000 ∧ oksT l) ∧ oneT (hxX x) s = r
theorem oks_op {op w : List UInt8} {q : Bool} (hw : w.length ≤ 300) : cntL [.mk 2 [120] op [.mk 1 w [] [] q] false] ≤ 2000 ∧ oksT [.mk 2 [120] op [.mk 1 w [] [] q] false] := by
  refine ⟨by simp [cntL, PT.cnt], ?_⟩
  simp only [oksT, okT]
  exact ⟨⟨by decide, by decide, ⟨by decide, by omega, trivial⟩, trivial⟩, trivial⟩
theorem ok_op {x : Option (List UInt8)} {w r : List UInt8} {k : Nat} (hk : k < 12) (hw : w.length ≤ 300) (hs : k = 8 → w ≠ [] → nth w 0 0 ≠ 37) (hr : oneT (hxX x) (opText k w) = r) : OneOk x (opText k w) r := by
  obtain ⟨q, _, hp⟩ := op_parts0 (s := w) hk hw hs
  exact ⟨⟨_, hp, (oks_op hw).1, (oks_op hw).2⟩, hr⟩
theorem ok_pln {x : Option (List UInt8)} (hx : (x.getD []).length ≤ 300) : OneOk x [36, 120] (x.getD []) := ⟨⟨_, plnT_parts, by decide, by simp [oksT, okT]⟩, one_pln hx⟩
theorem ok_len {x : Option (List UInt8)} (hx : (x.getD []).length ≤ 300) : OneOk x [36, 123, 35, 120, 125] (Lib.itoa ((x.getD []).length : Int)) := ⟨⟨_, lenT_parts, by decide, by simp [oksT, okT]⟩, one_len hx⟩
theorem ok_dbl {x : Option (List UInt8)} (hx : (x.getD []).length ≤ 300) : OneOk x [34, 36, 123, 120, 125, 34] (x.getD []) := ⟨⟨_, dblT_parts, by decide, by simp [oksT, okT]⟩, one_dbl hx⟩
theorem ok_pct {v : List UInt8} (hv : v.length ≤ 300) : OneOk (some v) [36, 123, 120, 37, 37, 42, 125] [] := ⟨⟨_, pctT_parts, by decide, by simp [oksT, okT]⟩, one_pct hv⟩
theorem ok_shp {v : List UInt8} (hv : v.length ≤ 300) : OneOk (some v) [36, 123, 120, 35, 35, 42, 125] [] := ⟨⟨_, shpT_parts, by decide, by simp [oksT, okT]⟩, one_shp hv⟩
theorem ok_dash0 {w : List UInt8} (hw : w.length ≤ 300) : OneOk none ([36, 123, 120, 45] ++ quoteB w ++ [125]) w := ok_op (k := 4) (by decide) hw (fun h => by cases h) (one_dash0 hw)
theorem ok_cdash0 {w : List UInt8} (hw : w.length ≤ 300) : OneOk none ([36, 123, 120, 58, 45] ++ quoteB w ++ [125]) w := ok_op (k := 0) (by decide) hw (fun h => by cases h) (one_cdash0 hw)
theorem ok_plus0 {w : List UInt8} (hw : w.length ≤ 300) : OneOk none ([36, 123, 120, 43] ++ quoteB w ++ [125]) [] := ok_op (k := 7) (by decide) hw (fun h => by cases h) (one_plus0 hw)
theorem ok_cplus0 {w : List UInt8} (hw : w.length ≤ 300) : OneOk none ([36, 123, 120, 58, 43] ++ quoteB w ++ [125]) [] := ok_op (k := 3) (by decide) hw (fun h => by cases h) (one_cplus0 hw)
theorem ok_set {w : List UInt8} (hw : w.length ≤ 300) : OneOk none ([36, 123, 120, 61] ++ quoteB w ++ [125, 36, 120]) (w ++ w) := by
  have e : [36, 123, 120, 61] ++ quoteB w ++ [125, 36, 120] = opText 5 w ++ [36, 120] := by
    show _ = ([36, 123, 120, 61] ++ quoteB w ++ [125]) ++ [36, 120]
    simp
  rw [e]
  obtain ⟨q, hp⟩ := op_partsX (s := w) (k := 5) (by decide) hw (fun h => by cases h)
  refine ⟨⟨_, hp, by simp [cntL, PT.cnt], ?_⟩, one_set hw⟩
  simp only [oksT, okT]
  exact ⟨⟨by decide, by decide, ⟨by decide, by omega, trivial⟩, trivial⟩, ⟨by decide, by decide, trivial⟩, trivial⟩
theorem ok_dash1 {v w : List UInt8} (hw : w.length ≤ 300) (hv : v.length ≤ 300) : OneOk (some v) ([36, 123, 120, 45] ++ quoteB w ++ [125]) v := ok_op (k := 4) (by decide) hw (fun h => by cases h) (one_dash1 hw hv)
theorem ok_plus1 {v w : List UInt8} (hw : w.length ≤ 300) (hv : v.length ≤ 300) : OneOk (some v) ([36, 123, 120, 43] ++ quoteB w ++ [125]) w := ok_op (k := 7) (by decide) hw (fun h => by cases h) (one_plus1 hw hv)
theorem ok_cdash1 {v w : List UInt8} (hw : w.length ≤ 300) (hv : v.length ≤ 300) : OneOk (some v) ([36, 123, 120, 58, 45] ++ quoteB w ++ [125]) (if v = [] then w else v) := ok_op (k := 0) (by decide) hw (fun h => by cases h) (one_cdash1 hw hv)
theorem ok_cplus1 {v w : List UInt8} (hw : w.length ≤ 300) (hv : v.length ≤ 300) : OneOk (some v) ([36, 123, 120, 58, 43] ++ quoteB w ++ [125]) (if v = [] then [] else w) := ok_op (k := 3) (by decide) hw (fun h => by cases h) (one_cplus1 hw hv)
theorem ok_front {v w : List UInt8} (hw : w.length ≤ 300) (hv : v.length ≤ 300) : OneOk (some v) ([36, 123, 120, 35] ++ quoteB w ++ [125]) (if v.take w.length = w then v.drop w.length else v) := ok_op (k := 10) (by decide) hw (fun h => by cases h) (one_front hv hw)
theorem ok_back {v : List UInt8} (hv : v.length ≤ 300) (h : v ≠ [] → nth v 0 0 ≠ 37) : OneOk (some v) ([36, 123, 120, 37] ++ quoteB v ++ [125]) [] := ok_op (k := 8) (by decide) hv (fun _ => h) (one_back hv h)
def varsOf (x : Option (List UInt8)) : List Vr := (hxX x).vars
theorem varsOf_le (x : Option (List UInt8)) : (varsOf x).length ≤ 1 := by cases x <;> simp [varsOf, hxX]
theorem lay_x {x : Option (List UInt8)} (hx : (x.getD []).length ≤ 65536) : (⟨layV (varsOf x), argsN [], [], []⟩ : Hx) = hxX x := by
  cases x with
  | none => rfl
  | some v =>
    have h1 : layV (varsOf (some v)) = [xV v] := by
      show layS [] (xV v) = _
      unfold layS
      rw [if_neg (by simp [xV])]
      show markN (setN [] [120] v).2 [120] false false = _
      rw [set_none (v := v) hx, markN_none nameX ⟨rfl, rfl⟩]
    show (⟨layV (varsOf (some v)), [], [], []⟩ : Hx) = _
    rw [h1]; rfl
theorem hb_x {x : Option (List UInt8)} (hx : (x.getD []).length ≤ 65536) : HB (hxX x) where
  vv := by
    intro v hv
    cases x with
    | none => cases hv
    | some u => rw [show (hxX (some u)).vars = [xV u] from rfl, List.mem_singleton] at hv; subst hv; exact hx
  aa := by intro a ha; cases x <;> cases ha
  oo := by intro a ha; cases x <;> cases ha
  aj := by intro sep _; cases x <;> exact Nat.zero_le _
  an := by cases x <;> exact Nat.zero_le _
  vn := by cases x <;> simp [hxX]
theorem oneT_parts {x : Option (List UInt8)} {s r : List UInt8} (h : OneOk x s r) : s.length ≤ 65536 ∧ ∀ l, partsP s 0 = .ok l → cntL l ≤ 2000 ∧ oksT l := by
  obtain ⟨⟨l, hl, h1, h2⟩, _⟩ := h
  refine ⟨?_, fun l' h' => by rw [hl] at h'; cases h'; exact ⟨h1, h2⟩⟩
  rcases Nat.lt_or_ge 65536 s.length with h9 | h9
  · unfold partsP at hl; rw [if_pos h9] at hl; cases hl
  · exact h9
end Go.Tri
