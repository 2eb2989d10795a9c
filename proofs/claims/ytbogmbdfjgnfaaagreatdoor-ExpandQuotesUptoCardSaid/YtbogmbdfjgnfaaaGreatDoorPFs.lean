/-
 What a word is expanded to, in plain words.
-/
import Derived.Test.YtbogmbdfjgnfaaaGreatDoorPWord7
import Derived.Test.YtbogmbdfjgnfaaaGreatDoorPSplit
import Derived.Test.YtbogmbdfjgnfaaaGreatDoorPPat2
import Derived.Test.YtbogmbdfjgnfaaaGreatDoorPNum
import Derived.Test.YtbogmbdfjgnfaaaGreatDoorPAr2
import Derived.Lib.Join
namespace Go.Tri
open Go.RowKit
/-- a piece, or a break -/
structure Px where
 p : Pc
 st : Bool
def pxC (x : Px) : List Value := [str x.p.t, .bool x.p.q, .bool x.p.s, .bool x.st]
def px0 : Px := ⟨pc0, false⟩
def brk : Px := ⟨pc0, true⟩
/-! ### variables -/
def findN (l : List Vr) (n : List UInt8) : Option Nat := l.findIdx? fun v => decide (v.name = n)
def atN (l : List Vr) (n : List UInt8) : Vr := match findN l n with
 | some i => nth l i vr0
 | none => ⟨n, [], false, false, true⟩
def lowN (l : List Vr) (n : List UInt8) : Nat := (l.takeWhile fun v => Op.bytesLess v.name n).length
def putN (l : List Vr) (x : Vr) : List Vr := match findN l x.name with
 | some i => l.set i x
 | none => l.take (lowN l x.name) ++ [x] ++ l.drop (lowN l x.name)
def setN (l : List Vr) (n v : List UInt8) : Nat × List Vr :=
 if nameB n = false then (22, l) else if (atN l n).r = true then (63, l) else if 65536 < v.length then (66, l) else if findN l n = none ∧ 64 ≤ l.length then (64, l)
 else (0, putN l ⟨(atN l n).name, v, (atN l n).e, (atN l n).r, false⟩)
def markN (l : List Vr) (n : List UInt8) (e r : Bool) : List Vr :=
 if nameB n = false then l else if e = false ∧ r = false then l else if findN l n = none ∧ 64 ≤ l.length then l
 else putN l ⟨(atN l n).name, (atN l n).value, (atN l n).e || e, (atN l n).r || r, (atN l n).u⟩
/-! ### the host: variables, arguments; what commands say; what was asked -/
structure Hx where
 vars : List Vr
 args : List (List UInt8)
 outs : List (List UInt8)
 asked : List (List UInt8)
def shyS : List UInt8 := [115, 104, 121, 97, 114, 100]
def specL : List Vr := [⟨[63], [48], false, false, false⟩, ⟨[36], [50], false, false, false⟩, ⟨[48], shyS, false, false, false⟩]
/-- a parameter's value -/
def parX (h : Hx) (n : List UInt8) : List UInt8 × Bool := match findN specL n with
 | some i => ((nth specL i vr0).value, !(nth specL i vr0).u)
 | none =>
  if n ≠ [] ∧ digitB' (nth n 0 0) = true then (match numB n with
   | some k => if 1 ≤ k ∧ k ≤ (h.args.length : Int) then (nth h.args (k - 1).toNat [], true) else ([], false)
   | none => ([], false))
  else if n = [35] then (Lib.itoa (h.args.length : Int), true)
  else ((atN h.vars n).value, !(atN h.vars n).u)
def shownX (l : List Vr) : List Vr := l.filter fun v => !v.u
inductive XR where
 | ok (l : List Px) (h : Hx)
 | bad (e : Nat) (m : List UInt8) (h : Hx)
def wholeX (s : List UInt8) (q : Bool) : List Px := [⟨⟨s, q, true⟩, false⟩]
def stS (x : Px) : List UInt8 := if x.st then [32] else []
def textX (l : List Px) : List UInt8 := l.flatMap fun x => stS x ++ x.p.t
def charsX (l : List Px) : List Ch := l.flatMap fun x => (if x.st then [(⟨32, false⟩ : Ch)] else []) ++ x.p.t.map fun b => ⟨b, x.p.q⟩
def trimNl (s : List UInt8) : List UInt8 := Lib.trimRightS s [10]
def ifsN : List UInt8 := [73, 70, 83]
def homeN : List UInt8 := [72, 79, 77, 69]
def ifsS : List UInt8 := [32, 9, 10]
def cutOps : List (List UInt8) := [[37], [37, 37], [35], [35, 35]]
def manyB (t : List UInt8) : Bool := decide (t = [64]) || decide (t = [42])
def betX (h : Hx) : List UInt8 := if (parX h ifsN).2 = true then (parX h ifsN).1.take 1 else [32]
def argAt (q : Bool) (l : List (List UInt8)) (i : Nat) : List Px := (if 0 < i then [brk] else []) ++ wholeX (nth l i []) q
def argL (q : Bool) (l : List (List UInt8)) (i : Nat) : List Px := (List.range i).flatMap (argAt q l)
/-- @ and * without an operator -/
def argsX (h : Hx) (t : List UInt8) (q : Bool) : List Px :=
 if t = [42] ∧ q = true then wholeX (Lib.join h.args (betX h)) true else argL q h.args h.args.length
def valX (h : Hx) (t : List UInt8) : List UInt8 × Bool := if manyB t = true then (Lib.join h.args [32], decide (h.args ≠ [])) else parX h t
def lenX (h : Hx) (t : List UInt8) : Int := if manyB t = true then (h.args.length : Int) else ((valX h t).1.length : Int)
/-- a command is asked -/
def askX (h : Hx) (t : List UInt8) (q : Bool) : XR :=
 if (h.asked ++ [t]).length ≤ h.outs.length then .ok (wholeX (trimNl (nth h.outs h.asked.length [])) q) ⟨h.vars, h.args, h.outs, h.asked ++ [t]⟩ else .bad 5 [] ⟨h.vars, h.args, h.outs, h.asked ++ [t]⟩
def isX (h : Hx) (t op : List UInt8) : Bool := (valX h t).2 && (!stB op [58] || decide ((valX h t).1 ≠ []))
def opX (op : List UInt8) : List UInt8 := Lib.trimPrefix op [58]
@[reducible] def Hx.put (h : Hx) (l : List Vr) : Hx := ⟨l, h.args, h.outs, h.asked⟩
/-- what stands in the place of a parameter -/
def insX (t op : List UInt8) (q : Bool) : XR → XR
 | .bad e m h => .bad e m h
 | .ok l h =>
  if op = [61] then (if nameB t = false then .bad 22 [] h else if (setN h.vars t (textX l)).1 ≠ 0 then .bad (setN h.vars t (textX l)).1 [] h else .ok (wholeX (textX l) q) (h.put (setN h.vars t (textX l)).2))
  else if op = [63] then .bad 62 (textX l) h
  else if l = [] then .ok (wholeX [] q) h else .ok l h
def cutX (v op : List UInt8) (q : Bool) : XR → XR
 | .bad e m h => .bad e m h
 | .ok l h => .ok (wholeX (cutP (charsX l) v (decide (nth op 0 0 = 37)) (decide (op.length = 2))) q) h
/-- assignments of an expression -/
def setsX (L : List Px) : List Ass → Hx → XR
 | [], h => .ok L h
 | s :: r, h => if (setN h.vars s.1 (Lib.itoa s.2)).1 ≠ 0 then .bad (setN h.vars s.1 (Lib.itoa s.2)).1 [] h else setsX L r (h.put (setN h.vars s.1 (Lib.itoa s.2)).2)
def evX (l : List Px) (h : Hx) : Int × List Ass × Nat := evalP (textX l) ((shownX h.vars).map Vr.nv)
def ariX (q : Bool) : XR → XR
 | .bad e m h => .bad e m h
 | .ok l h => if (evX l h).2.2 ≠ 0 then .bad (evX l h).2.2 [] h else setsX (wholeX (Lib.itoa (evX l h).1) q) (evX l h).2.1 h
def litX (t : List UInt8) (q wi : Bool) : List Px := [⟨⟨t, q, wi && !q⟩, false⟩]
mutual
def partX (wi : Bool) (h : Hx) : PT → XR
 | .mk k t op w q =>
  if k = 2 then
   if manyB t = true ∧ op = [] then .ok (argsX h t q) h
   else if op = [] then .ok (wholeX (valX h t).1 q) h
   else if op = lenW then .ok (wholeX (Lib.itoa (lenX h t)) q) h
   else if op ∈ cutOps then (if 4096 < (valX h t).1.length then .bad 66 [] h else cutX (valX h t).1 op q (partsX false h [] w))
   else if opX op = [43] ∧ isX h t op = false then .ok (wholeX [] q) h
   else if opX op ≠ [43] ∧ isX h t op = true then .ok (wholeX (valX h t).1 q) h
   else insX t (opX op) q (partsX true h [] w)
  else if k = 4 then ariX q (partsX false h [] w)
  else if k = 3 then askX h t q
  else if k = 5 ∧ (parX h homeN).2 = true then .ok (wholeX (parX h homeN).1 true) h
  else .ok (litX t q wi) h
def partsX (wi : Bool) (h : Hx) (acc : List Px) : List PT → XR
 | [] => .ok acc h
 | p :: l => match partX wi h p with
  | .bad e m h => .bad e m h
  | .ok m h' => partsX wi h' (acc ++ m) l
end
/-- a text of a kind -/
def expX (h : Hx) (s : List UInt8) (kind : Int) : XR := match partsP s kind with
 | .bad e => .bad e [] h
 | .ok l => partsX false h [] l
/-! ### small laws -/
theorem findN_some {l : List Vr} {n : List UInt8} {i : Nat} (h : i < l.length) (hn : (nth l i vr0).name = n) (hno : ∀ k, k < i → (nth l k vr0).name ≠ n) : findN l n = some i := by
 unfold findN
 rw [List.findIdx?_eq_some_iff_getElem]
 refine ⟨h, by rw [nth_eq h] at hn; simp [hn], fun j hj => ?_⟩
 have := hno j hj
 rw [nth_eq (by omega)] at this
 simp [this]
theorem findN_none {l : List Vr} {n : List UInt8} (hno : ∀ k, k < l.length → (nth l k vr0).name ≠ n) : findN l n = none := by
 unfold findN
 rw [List.findIdx?_eq_none_iff]
 intro x hx
 obtain ⟨i, hi, rfl⟩ := List.getElem_of_mem hx
 have := hno i hi
 rw [nth_eq hi] at this
 simp [this]
theorem findN_lt {l : List Vr} {n : List UInt8} {i : Nat} (h : findN l n = some i) : i < l.length ∧ (nth l i vr0).name = n := by
 unfold findN at h
 rw [List.findIdx?_eq_some_iff_getElem] at h
 obtain ⟨h1, h2, _⟩ := h
 exact ⟨h1, by rw [nth_eq h1]; simpa using h2⟩
theorem atN_some {l : List Vr} {n : List UInt8} {i : Nat} (h : findN l n = some i) : atN l n = nth l i vr0 := by unfold atN; rw [h]
theorem atN_none {l : List Vr} {n : List UInt8} (h : findN l n = none) : atN l n = ⟨n, [], false, false, true⟩ := by unfold atN; rw [h]
theorem atN_name (l : List Vr) (n : List UInt8) : (atN l n).name = n := by
 cases h : findN l n with
 | none => rw [atN_none h]
 | some i => rw [atN_some h]; exact (findN_lt h).2
theorem lowN_le (l : List Vr) (n : List UInt8) : lowN l n ≤ l.length := (List.takeWhile_prefix _).length_le
theorem lowN_at {l : List Vr} {n : List UInt8} {i : Nat} (hi : i ≤ l.length) (hlt : ∀ k, k < i → Op.bytesLess (nth l k vr0).name n = true) (hst : i < l.length → Op.bytesLess (nth l i vr0).name n = false) : lowN l n = i := by
 unfold lowN
 have h1 : l.takeWhile (fun v => Op.bytesLess v.name n) = l.take i := by
  conv => lhs; rw [← List.take_append_drop i l]
  rw [List.takeWhile_append_of_pos]
  ·rcases Nat.lt_or_ge i l.length with h | h
   ·rw [drop_nth vr0 h, List.takeWhile_cons, hst h]; simp
   ·rw [List.drop_of_length_le h]; simp
  ·intro x hx
   obtain ⟨k, hk, rfl⟩ := List.getElem_of_mem hx
   rw [List.length_take] at hk
   have := hlt k (by omega)
   rw [nth_eq (by omega)] at this
   rw [List.getElem_take]; exact this
 rw [h1, List.length_take]; omega
theorem putN_some {l : List Vr} {x : Vr} {i : Nat} (h : findN l x.name = some i) : putN l x = l.set i x := by unfold putN; rw [h]
theorem putN_none {l : List Vr} {x : Vr} (h : findN l x.name = none) : putN l x = l.take (lowN l x.name) ++ [x] ++ l.drop (lowN l x.name) := by unfold putN; rw [h]
theorem putN_len (l : List Vr) (x : Vr) : (putN l x).length = if findN l x.name = none then l.length + 1 else l.length := by
 cases h : findN l x.name with
 | none =>
  rw [putN_none h, if_pos rfl]
  have := lowN_le l x.name
  simp only [List.length_append, List.length_take, List.length_drop, List.length_cons, List.length_nil]; omega
 | some i => rw [putN_some h, List.length_set, if_neg (by simp)]
theorem putN_mem {l : List Vr} {x y : Vr} (h : y ∈ putN l x) : y ∈ l ∨ y = x := by
 cases hf : findN l x.name with
 | none =>
  rw [putN_none hf] at h
  simp only [List.mem_append, List.mem_singleton] at h
  rcases h with (h | h) | h
  ·exact .inl (List.mem_of_mem_take h)
  ·exact .inr h
  ·exact .inl (List.mem_of_mem_drop h)
 | some i =>
  rw [putN_some hf] at h
  exact List.mem_or_eq_of_mem_set h
theorem setN_len {l : List Vr} {n v : List UInt8} (h : l.length ≤ 64) : (setN l n v).2.length ≤ 64 := by
 unfold setN
 split
 ·exact h
 ·split
  ·exact h
  ·split
   ·exact h
   ·split
    ·exact h
    ·rename_i hx
     show (putN l _).length ≤ 64
     rw [putN_len]
     show (if findN l (atN l n).name = none then _ else _) ≤ 64
     rw [atN_name]
     split
     ·rename_i hf
      have : ¬ 64 ≤ l.length := fun h64 => hx ⟨hf, h64⟩
      omega
     ·exact h
theorem markN_len {l : List Vr} {n : List UInt8} {e r : Bool} (h : l.length ≤ 64) : (markN l n e r).length ≤ 64 := by
 unfold markN
 split
 ·exact h
 ·split
  ·exact h
  ·split
   ·exact h
   ·rename_i hx
    rw [putN_len]
    show (if findN l (atN l n).name = none then _ else _) ≤ 64
    rw [atN_name]
    split
    ·rename_i hf
     have : ¬ 64 ≤ l.length := fun h64 => hx ⟨hf, h64⟩
     omega
    ·exact h
def findR (l : List Vr) (n : List UInt8) : Int := match findN l n with
 | some i => (i : Int)
 | none => -1
theorem findR_some {l : List Vr} {n : List UInt8} {i : Nat} (h : i < l.length) (hn : (nth l i vr0).name = n) (hno : ∀ k, k < i → (nth l k vr0).name ≠ n) : findR l n = i := by unfold findR; rw [findN_some h hn hno]
theorem findR_none {l : List Vr} {n : List UInt8} (hno : ∀ k, k < l.length → (nth l k vr0).name ≠ n) : findR l n = -1 := by unfold findR; rw [findN_none hno]
theorem findN_pos {l : List Vr} {n : List UInt8} (h : 0 ≤ findR l n) : findN l n = some (findR l n).toNat := by
 unfold findR at *
 cases hf : findN l n with
 | none => rw [hf] at h; exact absurd h (by decide)
 | some i => simp
theorem findN_neg {l : List Vr} {n : List UInt8} (h : findR l n < 0) : findN l n = none := by
 unfold findR at h
 cases hf : findN l n with
 | none => rfl
 | some i => rw [hf] at h; simp only at h; omega
theorem findR_neg {l : List Vr} {n : List UInt8} (h : findN l n = none) : findR l n < 0 := by unfold findR; rw [h]; decide
theorem findR_at {l : List Vr} {n : List UInt8} (h : 0 ≤ findR l n) : (findR l n).toNat < l.length ∧ atN l n = nth l (findR l n).toNat vr0 := ⟨(findN_lt (findN_pos h)).1, atN_some (findN_pos h)⟩
theorem atN_neg {l : List Vr} {n : List UInt8} (h : findR l n < 0) : atN l n = ⟨n, [], false, false, true⟩ := atN_none (findN_neg h)
theorem putN_at {l : List Vr} {x : Vr} (h : 0 ≤ findR l x.name) : putN l x = l.set (findR l x.name).toNat x := putN_some (findN_pos h)
theorem setN_name {l : List Vr} {n v : List UInt8} (h1 : nameB n = false) : setN l n v = (22, l) := by unfold setN; rw [if_pos h1]
theorem setN_ro {l : List Vr} {n v : List UInt8} (h1 : nameB n = true) (h2 : (atN l n).r = true) : setN l n v = (63, l) := by unfold setN; rw [if_neg (by rw [h1]; simp), if_pos h2]
theorem setN_long {l : List Vr} {n v : List UInt8} (h1 : nameB n = true) (h2 : (atN l n).r = false) (h3 : 65536 < v.length) : setN l n v = (66, l) := by unfold setN; rw [if_neg (by rw [h1]; simp), if_neg (by rw [h2]; simp), if_pos h3]
theorem setN_full {l : List Vr} {n v : List UInt8} (h1 : nameB n = true) (h2 : (atN l n).r = false) (h3 : ¬ 65536 < v.length) (h4 : findN l n = none) (h5 : 64 ≤ l.length) : setN l n v = (64, l) := by unfold setN; rw [if_neg (by rw [h1]; simp), if_neg (by rw [h2]; simp), if_neg h3, if_pos ⟨h4, h5⟩]
theorem setN_ok {l : List Vr} {n v : List UInt8} (h1 : nameB n = true) (h2 : (atN l n).r = false) (h3 : ¬ 65536 < v.length) (h4 : ¬ (findN l n = none ∧ 64 ≤ l.length)) : setN l n v = (0, putN l ⟨(atN l n).name, v, (atN l n).e, (atN l n).r, false⟩) := by unfold setN; rw [if_neg (by rw [h1]; simp), if_neg (by rw [h2]; simp), if_neg h3, if_neg h4]
theorem markN_name {l : List Vr} {n : List UInt8} {e r : Bool} (h1 : nameB n = false) : markN l n e r = l := by unfold markN; rw [if_pos h1]
theorem markN_none {l : List Vr} {n : List UInt8} {e r : Bool} (h1 : nameB n = true) (h2 : e = false ∧ r = false) : markN l n e r = l := by unfold markN; rw [if_neg (by rw [h1]; simp), if_pos h2]
theorem markN_full {l : List Vr} {n : List UInt8} {e r : Bool} (h1 : nameB n = true) (h2 : ¬ (e = false ∧ r = false)) (h4 : findN l n = none) (h5 : 64 ≤ l.length) : markN l n e r = l := by unfold markN; rw [if_neg (by rw [h1]; simp), if_neg h2, if_pos ⟨h4, h5⟩]
theorem markN_ok {l : List Vr} {n : List UInt8} {e r : Bool} (h1 : nameB n = true) (h2 : ¬ (e = false ∧ r = false)) (h4 : ¬ (findN l n = none ∧ 64 ≤ l.length)) : markN l n e r = putN l ⟨(atN l n).name, (atN l n).value, (atN l n).e || e, (atN l n).r || r, (atN l n).u⟩ := by unfold markN; rw [if_neg (by rw [h1]; simp), if_neg h2, if_neg h4]
def argsN (l : List (List UInt8)) : List (List UInt8) := if l.length ≤ 200 then l else []
theorem parX_hit {h : Hx} {n : List UInt8} {i : Nat} (hf : findN specL n = some i) : parX h n = ((nth specL i vr0).value, !(nth specL i vr0).u) := by unfold parX; rw [hf]
theorem parX_dig {h : Hx} {n : List UInt8} (hf : findN specL n = none) (hd : (decide (n ≠ []) && digitB' (nth n 0 0)) = true) (hk : ((numB n).isSome && decide (1 ≤ (numB n).getD 0) && decide ((numB n).getD 0 ≤ (h.args.length : Int))) = true) : parX h n = (nth h.args ((numB n).getD 0 - 1).toNat [], true) := by
 rw [Bool.and_eq_true, decide_eq_true_eq] at hd
 rw [Bool.and_eq_true, Bool.and_eq_true, decide_eq_true_eq, decide_eq_true_eq] at hk
 unfold parX
 rw [hf]
 simp only
 rw [if_pos hd]
 cases hn : numB n with
 | none => rw [hn] at hk; exact absurd hk.1.1 (by simp)
 | some k =>
  rw [hn] at hk
  simp only [Option.getD_some] at hk ⊢
  rw [if_pos ⟨hk.1.2, hk.2⟩]
theorem parX_dig0 {h : Hx} {n : List UInt8} (hf : findN specL n = none) (hd : (decide (n ≠ []) && digitB' (nth n 0 0)) = true) (hk : ((numB n).isSome && decide (1 ≤ (numB n).getD 0) && decide ((numB n).getD 0 ≤ (h.args.length : Int))) = false) : parX h n = ([], false) := by
 rw [Bool.and_eq_true, decide_eq_true_eq] at hd
 unfold parX
 rw [hf]
 simp only
 rw [if_pos hd]
 cases hn : numB n with
 | none => rfl
 | some k =>
  rw [hn] at hk
  simp only [Option.getD_some, Option.isSome_some, Bool.true_and] at hk ⊢
  rw [if_neg]
  rintro ⟨h1, h2⟩
  rw [decide_eq_true h1, decide_eq_true h2] at hk
  cases hk
theorem parX_cnt {h : Hx} (hf : findN specL [35] = none) : parX h [35] = (Lib.itoa (h.args.length : Int), true) := by
 unfold parX
 rw [hf]
 simp only
 rw [if_neg (by decide), if_pos trivial]
theorem parX_get {h : Hx} {n : List UInt8} (hf : findN specL n = none) (hd : (decide (n ≠ []) && digitB' (nth n 0 0)) = false) (hn : n ≠ [35]) : parX h n = ((atN h.vars n).value, !(atN h.vars n).u) := by
 unfold parX
 rw [hf]
 simp only
 rw [if_neg (fun h9 => by rw [decide_eq_true h9.1, h9.2] at hd; cases hd), if_neg hn]
theorem argL_succ (q : Bool) (l : List (List UInt8)) (i : Nat) : argL q l (i + 1) = argL q l i ++ argAt q l i := by
 unfold argL; rw [List.range_succ, List.flatMap_append]; simp
theorem textX_app (a b : List Px) : textX (a ++ b) = textX a ++ textX b := by unfold textX; rw [List.flatMap_append]
theorem textX_take {l : List Px} {i : Nat} (h : i < l.length) : textX (l.take (i + 1)) = textX (l.take i) ++ stS (nth l i px0) ++ (nth l i px0).p.t := by
 rw [take_nth px0 h, textX_app]
 unfold textX; simp
theorem betX_len (h : Hx) : (betX h).length ≤ 1 := by
 unfold betX
 split
 ·rw [List.length_take]; omega
 ·simp
/-- how long what the host tells may be -/
structure HB (h : Hx) : Prop where
 vv : ∀ v ∈ h.vars, v.value.length ≤ 65536
 aa : ∀ a ∈ h.args, a.length ≤ 65536
 oo : ∀ o ∈ h.outs, o.length ≤ 65536
 aj : ∀ sep : List UInt8, sep.length ≤ 1 → (Lib.join h.args sep).length ≤ 65536
 an : h.args.length ≤ 200
 vn : h.vars.length ≤ 64
theorem setN_keep {l : List Vr} {n v : List UInt8} (h : (setN l n v).1 ≠ 0) : (setN l n v).2 = l := by
 unfold setN at *
 split
 ·rfl
 ·rename_i h1
  rw [if_neg h1] at h
  split
  ·rfl
  ·rename_i h2
   rw [if_neg h2] at h
   split
   ·rfl
   ·rename_i h3
    rw [if_neg h3] at h
    split
    ·rfl
    ·rename_i h4
     rw [if_neg h4] at h
     exact absurd rfl h
theorem Hx.put_keep {h : Hx} {n v : List UInt8} (he : (setN h.vars n v).1 ≠ 0) : h.put (setN h.vars n v).2 = h := by rw [setN_keep he]
section
variable {t op v : List UInt8} {q wi : Bool} {l : List Px} {h : Hx} {w : List PT}
theorem insX_name (ho : op = [61]) (hn : nameB t = false) : insX t op q (.ok l h) = .bad 22 [] h := by
 show (if _ then _ else _) = _
 rw [if_pos ho, if_pos hn]
theorem insX_err (ho : op = [61]) (hn : nameB t = true) (he : (setN h.vars t (textX l)).1 ≠ 0) : insX t op q (.ok l h) = .bad (setN h.vars t (textX l)).1 [] h := by
 show (if _ then _ else _) = _
 rw [if_pos ho, if_neg (by rw [hn]; simp), if_pos he]
theorem insX_set (ho : op = [61]) (hn : nameB t = true) (he : (setN h.vars t (textX l)).1 = 0) : insX t op q (.ok l h) = .ok (wholeX (textX l) q) (h.put (setN h.vars t (textX l)).2) := by
 show (if _ then _ else _) = _
 rw [if_pos ho, if_neg (by rw [hn]; simp), if_neg (by rw [he]; simp)]
theorem insX_msg (ho : op = [63]) : insX t op q (.ok l h) = .bad 62 (textX l) h := by
 show (if _ then _ else _) = _
 rw [if_neg (by rw [ho]; decide), if_pos ho]
theorem insX_nil (h1 : op ≠ [61]) (h2 : op ≠ [63]) (hl : l = []) : insX t op q (.ok l h) = .ok (wholeX [] q) h := by
 show (if _ then _ else _) = _
 rw [if_neg h1, if_neg h2, if_pos hl]
theorem insX_l (h1 : op ≠ [61]) (h2 : op ≠ [63]) (hl : l ≠ []) : insX t op q (.ok l h) = .ok l h := by
 show (if _ then _ else _) = _
 rw [if_neg h1, if_neg h2, if_neg hl]
theorem parA (h1 : manyB t = true) (h2 : op = []) : partX wi h (.mk 2 t op w q) = .ok (argsX h t q) h := by
 rw [partX, if_pos rfl, if_pos ⟨h1, h2⟩]
theorem parV (h1 : manyB t = false) (h2 : op = []) : partX wi h (.mk 2 t op w q) = .ok (wholeX (valX h t).1 q) h := by
 rw [partX, if_pos rfl, if_neg (by rw [h1]; simp), if_pos h2]
theorem parL (h2 : op = lenW) : partX wi h (.mk 2 t op w q) = .ok (wholeX (Lib.itoa (lenX h t)) q) h := by
 rw [partX, if_pos rfl, if_neg (by rw [h2]; simp [lenW]), if_neg (by rw [h2]; decide), if_pos h2]
theorem cut_ne (h3 : op ∈ cutOps) : op ≠ [] ∧ op ≠ lenW := by
 simp only [cutOps, List.mem_cons, List.not_mem_nil, or_false] at h3
 rcases h3 with rfl | rfl | rfl | rfl <;> decide
theorem parC66 (h3 : op ∈ cutOps) (h4 : 4096 < (valX h t).1.length) : partX wi h (.mk 2 t op w q) = .bad 66 [] h := by
 rw [partX, if_pos rfl, if_neg (fun h9 => (cut_ne h3).1 h9.2), if_neg (cut_ne h3).1, if_neg (cut_ne h3).2, if_pos h3, if_pos h4]
theorem parC (h3 : op ∈ cutOps) (h4 : ¬ 4096 < (valX h t).1.length) : partX wi h (.mk 2 t op w q) = cutX (valX h t).1 op q (partsX false h [] w) := by
 rw [partX, if_pos rfl, if_neg (fun h9 => (cut_ne h3).1 h9.2), if_neg (cut_ne h3).1, if_neg (cut_ne h3).2, if_pos h3, if_neg h4]
theorem parP (h1 : op ≠ []) (h2 : op ≠ lenW) (h3 : op ∉ cutOps) (h4 : opX op = [43]) (h5 : isX h t op = false) : partX wi h (.mk 2 t op w q) = .ok (wholeX [] q) h := by
 rw [partX, if_pos rfl, if_neg (fun h9 => h1 h9.2), if_neg h1, if_neg h2, if_neg h3, if_pos ⟨h4, h5⟩]
theorem parI (h1 : op ≠ []) (h2 : op ≠ lenW) (h3 : op ∉ cutOps) (h4 : opX op ≠ [43]) (h5 : isX h t op = true) : partX wi h (.mk 2 t op w q) = .ok (wholeX (valX h t).1 q) h := by
 rw [partX, if_pos rfl, if_neg (fun h9 => h1 h9.2), if_neg h1, if_neg h2, if_neg h3, if_neg (fun h9 => h4 h9.1), if_pos ⟨h4, h5⟩]
theorem parN (h1 : op ≠ []) (h2 : op ≠ lenW) (h3 : op ∉ cutOps) (h4 : ¬ (opX op = [43] ∧ isX h t op = false)) (h5 : ¬ (opX op ≠ [43] ∧ isX h t op = true)) : partX wi h (.mk 2 t op w q) = insX t (opX op) q (partsX true h [] w) := by
 rw [partX, if_pos rfl, if_neg (fun h9 => h1 h9.2), if_neg h1, if_neg h2, if_neg h3, if_neg h4, if_neg h5]
end
/-- a scene's variables, laid one by one -/
def layS (l : List Vr) (v : Vr) : List Vr := markN (if v.u = true then l else (setN l v.name v.value).2) v.name v.e v.r
def layV (vars : List Vr) : List Vr := vars.foldl layS []
theorem layV_snoc {vars : List Vr} {i : Nat} (h : i < vars.length) : layV (vars.take (i + 1)) = markN (if (nth vars i vr0).u = true then layV (vars.take i) else (setN (layV (vars.take i)) (nth vars i vr0).name (nth vars i vr0).value).2) (nth vars i vr0).name (nth vars i vr0).e (nth vars i vr0).r := by
 unfold layV
 rw [take_nth vr0 h, List.foldl_append]; rfl
theorem argsN_len (l : List (List UInt8)) : (argsN l).length ≤ 200 := by
 unfold argsN
 split
 ·assumption
 ·exact Nat.zero_le _
def awS16 : List UInt8 := [36, 120, 36, 120]
def xV (v : List UInt8) : Vr := ⟨[120], v, false, false, false⟩
def awH16 : Hx := ⟨[xV [97, 32, 98]], [], [], []⟩
end Go.Tri

/-
 A tree of files in plain words: inodes by their numbers; paths walked; files and directories made.
-/
namespace Go.Tri
open Go.RowKit
structure Nd where
 kind : Int
 mode : Int
 links : Int
 holds : Int
 parent : Int
 data : List UInt8
 names : List (List UInt8)
 inos : List Int
def nd0 : Nd := ⟨0, 0, 0, 0, 0, [], [], []⟩
def isN (fs : List Nd) (i : Int) : Bool := decide (0 < i) && decide (i < (fs.length : Int)) && decide (0 < (nth fs i.toNat nd0).kind)
def dirN (fs : List Nd) (i : Int) : Bool := isN fs i && decide ((nth fs i.toNat nd0).kind = 2)
def mayN (fs : List Nd) (i w : Int) : Bool := if (!isN fs i || decide (w < 1) || decide (7 < w)) = true then false else decide (andI ((w64 ((nth fs i.toNat nd0).mode.tdiv 64)).tmod 8) w = w)
def entI (nd : Nd) (n : List UInt8) : Int := match nd.names.findIdx? fun x => decide (x = n) with
 | some i => nth nd.inos i 0
 | none => 0
/-- pieces of a path, up to a place: the pieces, where the next one begins -/
def pcsN (p : List UInt8) : Nat → List (List UInt8) × Nat
 | 0 => ([], 0)
 | i + 1 => if i = p.length ∨ nth p i 0 = 47 then ((if (pcsN p i).2 < i then (pcsN p i).1 ++ [(p.drop (pcsN p i).2).take (i - (pcsN p i).2)] else (pcsN p i).1), i + 1) else pcsN p i
def piecesN (p : List UInt8) : List (List UInt8) := (pcsN p (p.length + 1)).1
def slashN (p : List UInt8) : Bool := decide (p ≠ []) && decide (nth p (p.length - 1) 0 = 47)
def beginN (fs : List Nd) (d : Int) (p : List UInt8) : Int × Int :=
 if dirN fs d = false then (0, 9) else if p = [] then (0, 2) else if 256 < p.length then (0, 36) else if nth p 0 0 = 47 then (1, 0) else (d, 0)
def stepN (fs : List Nd) (a : Int) (q : List UInt8) : Int × Int :=
 if (nth fs a.toNat nd0).kind ≠ 2 then (0, 20) else if mayN fs a 1 = false then (0, 13) else if q = [46] then (a, 0)
 else if q = [46, 46] ∧ (nth fs a.toNat nd0).links = 0 then (0, 2) else if q = [46, 46] then ((nth fs a.toNat nd0).parent, 0) else if 32 < q.length then (0, 36)
 else if entI (nth fs a.toNat nd0) q = 0 then (0, 2) else (entI (nth fs a.toNat nd0) q, 0)
def stepsN (fs : List Nd) : Int → List (List UInt8) → Int × Int
 | a, [] => (a, 0)
 | a, q :: r => if (stepN fs a q).2 ≠ 0 then (0, (stepN fs a q).2) else stepsN fs (stepN fs a q).1 r
def lastN (l : List (List UInt8)) : List UInt8 := nth l (l.length - 1) []
def aheadN (fs : List Nd) (d : Int) (p : List UInt8) : Int × List UInt8 × Int :=
 if (beginN fs d p).2 ≠ 0 then (0, [], (beginN fs d p).2)
 else
  let l := piecesN p
  let s := stepsN fs (beginN fs d p).1 (l.take (l.length - 1))
  if s.2 ≠ 0 then (0, [], s.2) else if (nth fs s.1.toNat nd0).kind ≠ 2 then (0, [], 20) else if mayN fs s.1 1 = false then (0, [], 13)
  else if l = [] ∨ lastN l = [46] ∨ lastN l = [46, 46] then (0, [], 22) else if 32 < (lastN l).length then (0, [], 36) else (s.1, lastN l, 0)
def preS (fs : List Nd) (d : Int) (p : List UInt8) : Int × Int := stepsN fs (beginN fs d p).1 ((piecesN p).take ((piecesN p).length - 1))
theorem aheadN_eq (fs : List Nd) (d : Int) (p : List UInt8) : aheadN fs d p = if (beginN fs d p).2 ≠ 0 then (0, [], (beginN fs d p).2) else if (preS fs d p).2 ≠ 0 then (0, [], (preS fs d p).2) else if (nth fs (preS fs d p).1.toNat nd0).kind ≠ 2 then (0, [], 20) else if mayN fs (preS fs d p).1 1 = false then (0, [], 13)
  else if piecesN p = [] ∨ lastN (piecesN p) = [46] ∨ lastN (piecesN p) = [46, 46] then (0, [], 22) else if 32 < (lastN (piecesN p)).length then (0, [], 36) else ((preS fs d p).1, lastN (piecesN p), 0) := rfl
def countN (fs : List Nd) : Nat := (fs.filter fun x => decide (0 < x.kind)).length
/-- the first free number from a place on -/
def freeN (fs : List Nd) : Nat → Nat → Nat
 | 0, i => i
 | f + 1, i => if i < fs.length ∧ 0 < (nth fs i nd0).kind then freeN fs f (i + 1) else i
def lowE (l : List (List UInt8)) (n : List UInt8) : Nat := (l.takeWhile fun x => Op.bytesLess x n).length
def putE (fs : List Nd) (d : Nat) (n : List UInt8) (k : Int) : List Nd :=
 let x := nth fs d nd0
 fs.set d ⟨x.kind, x.mode, x.links, x.holds, x.parent, x.data, x.names.take (lowE x.names n) ++ [n] ++ x.names.drop (lowE x.names n), x.inos.take (lowE x.names n) ++ [k] ++ x.inos.drop (lowE x.names n)⟩
def mkE (fs : List Nd) (a : Int) (n : List UInt8) (kind mode : Int) : Nat × List Nd :=
 let i := freeN fs fs.length 1
 (i, putE ((if i = fs.length then fs ++ [nd0] else fs).set i ⟨kind, andI mode 511, 1, 0, a, [], [], []⟩) a.toNat n i)
/-- a new inode: its number, the error, the tree -/
def makeN (fs : List Nd) (d : Int) (p : List UInt8) (kind mode : Int) : Int × Int × List Nd :=
 let s := aheadN fs d p
 if s.2.2 ≠ 0 then (0, s.2.2, fs) else if kind = 1 ∧ slashN p = true then (0, 21, fs) else if 0 < entI (nth fs s.1.toNat nd0) s.2.1 then (0, 17, fs)
 else if (nth fs s.1.toNat nd0).links = 0 then (0, 2, fs) else if mayN fs s.1 2 = false then (0, 13, fs) else if 100 ≤ countN fs then (0, 23, fs)
 else ((mkE fs s.1 s.2.1 kind mode).1, 0, (mkE fs s.1 s.2.1 kind mode).2)
/-- a tree as it should be -/
structure WfN (fs : List Nd) : Prop where
 two : 2 ≤ fs.length
 par : ∀ x ∈ fs, 0 ≤ x.parent ∧ x.parent < fs.length
 ino : ∀ x ∈ fs, ∀ k ∈ x.inos, 0 ≤ k ∧ k < fs.length
 len : ∀ x ∈ fs, x.inos.length = x.names.length
theorem isN_in {fs : List Nd} {i : Int} (h : isN fs i = true) : 0 < i ∧ i < fs.length := by
 unfold isN at h
 rw [Bool.and_eq_true, Bool.and_eq_true, decide_eq_true_eq, decide_eq_true_eq] at h
 exact h.1
theorem begin_in {fs : List Nd} (hw : WfN fs) {d : Int} {p : List UInt8} (h : (beginN fs d p).2 = 0) : 0 ≤ (beginN fs d p).1 ∧ (beginN fs d p).1 < fs.length := by
 unfold beginN at *
 split
 ·rename_i h1; rw [if_pos h1] at h; cases h
 ·rename_i h1
  rw [if_neg h1] at h
  have hd : dirN fs d = true := by cases hd : dirN fs d with | true => rfl | false => exact absurd hd h1
  unfold dirN at hd
  rw [Bool.and_eq_true] at hd
  have := isN_in hd.1
  split
  ·rename_i h2; rw [if_pos h2] at h; cases h
  ·rename_i h2
   rw [if_neg h2] at h
   split
   ·rename_i h3; rw [if_pos h3] at h; cases h
   ·have := hw.two
    split
    ·exact ⟨by decide, by show (1 : Int) < _; omega⟩
    ·exact ⟨by show 0 ≤ d; omega, by show d < _; omega⟩
theorem ent_in {fs : List Nd} (hw : WfN fs) {x : Nd} (hx : x ∈ fs) (n : List UInt8) : 0 ≤ entI x n ∧ entI x n < fs.length := by
 have := hw.two
 unfold entI
 split
 ·rename_i i hi
  rw [List.findIdx?_eq_some_iff_getElem] at hi
  obtain ⟨h1, _, _⟩ := hi
  have hl : i < x.inos.length := by rw [hw.len x hx]; exact h1
  exact hw.ino x hx _ (nth_mem hl)
 ·exact ⟨Int.le_refl _, by omega⟩
theorem step_in {fs : List Nd} (hw : WfN fs) {a : Int} (ha : 0 ≤ a ∧ a < fs.length) (q : List UInt8) : 0 ≤ (stepN fs a q).1 ∧ (stepN fs a q).1 < fs.length := by
 have h2 := hw.two
 have hx : nth fs a.toNat nd0 ∈ fs := nth_mem (by omega)
 have hz : (0 : Int) ≤ 0 ∧ (0 : Int) < fs.length := ⟨Int.le_refl _, by omega⟩
 unfold stepN
 split
 ·exact hz
 ·split
  ·exact hz
  ·split
   ·exact ha
   ·split
    ·exact hz
    ·split
     ·exact hw.par _ hx
     ·split
      ·exact hz
      ·split
       ·exact hz
       ·exact ent_in hw hx q
theorem steps_in {fs : List Nd} (hw : WfN fs) : ∀ (l : List (List UInt8)) (a : Int), 0 ≤ a ∧ a < fs.length → 0 ≤ (stepsN fs a l).1 ∧ (stepsN fs a l).1 < fs.length
 | [], a, ha => ha
 | q :: r, a, ha => by
  have h2 := hw.two
  rw [stepsN]
  split
  ·exact ⟨Int.le_refl _, by show (0 : Int) < _; omega⟩
  ·exact steps_in hw r _ (step_in hw ha q)
theorem ahead_in {fs : List Nd} (hw : WfN fs) {d : Int} {p : List UInt8} : 0 ≤ (aheadN fs d p).1 ∧ (aheadN fs d p).1 < fs.length := by
 have h2 := hw.two
 have hz : (0 : Int) ≤ 0 ∧ (0 : Int) < fs.length := ⟨Int.le_refl _, by omega⟩
 unfold aheadN
 split
 ·exact hz
 ·rename_i h1
  have hb := begin_in hw (d := d) (p := p) (by omega)
  simp only
  split
  ·exact hz
  ·split
   ·exact hz
   ·split
    ·exact hz
    ·split
     ·exact hz
     ·split
      ·exact hz
      ·exact steps_in hw _ _ hb
theorem free_le {fs : List Nd} : ∀ (f i : Nat), i ≤ fs.length → fs.length - i ≤ f → freeN fs f i ≤ fs.length ∧ i ≤ freeN fs f i
 | 0, i, h, _ => ⟨h, Nat.le_refl _⟩
 | f + 1, i, h, hf => by
  rw [freeN]
  split
  ·rename_i h1
   have := free_le (fs := fs) f (i + 1) (by omega) (by omega)
   omega
  ·omega
theorem free_at {fs : List Nd} {i j f : Nat} (hij : i ≤ j) (hgo : ∀ k, i ≤ k → k < j → k < fs.length ∧ 0 < (nth fs k nd0).kind) (hst : ¬ (j < fs.length ∧ 0 < (nth fs j nd0).kind)) (hf : j - i ≤ f) : freeN fs f i = j := by
 induction f generalizing i with
 | zero => rw [freeN]; omega
 | succ f ih =>
  rw [freeN]
  rcases Nat.lt_or_ge i j with h | h
  ·rw [if_pos (hgo i (Nat.le_refl _) h)]
   exact ih (by omega) (fun k h1 h2 => hgo k (by omega) h2) (by omega)
  ·obtain rfl : i = j := by omega
   rw [if_neg hst]
theorem lowE_le (l : List (List UInt8)) (n : List UInt8) : lowE l n ≤ l.length := (List.takeWhile_prefix _).length_le
theorem lowE_at {l : List (List UInt8)} {n : List UInt8} {i : Nat} (hi : i ≤ l.length) (hlt : ∀ k, k < i → Op.bytesLess (nth l k []) n = true) (hst : i < l.length → Op.bytesLess (nth l i []) n = false) : lowE l n = i := by
 unfold lowE
 have h1 : l.takeWhile (fun x => Op.bytesLess x n) = l.take i := by
  conv => lhs; rw [← List.take_append_drop i l]
  rw [List.takeWhile_append_of_pos]
  ·rcases Nat.lt_or_ge i l.length with h | h
   ·rw [drop_nth [] h, List.takeWhile_cons, hst h]; simp
   ·rw [List.drop_of_length_le h]; simp
  ·intro x hx
   obtain ⟨k, hk, rfl⟩ := List.getElem_of_mem hx
   rw [List.length_take] at hk
   have := hlt k (by omega)
   rw [nth_eq (by omega)] at this
   rw [List.getElem_take]; exact this
 rw [h1, List.length_take]; omega
theorem putE_wf {fs : List Nd} (hw : WfN fs) {d : Nat} (hd : d < fs.length) {n : List UInt8} {k : Int} (hk : 0 ≤ k ∧ k < fs.length) : WfN (putE fs d n k) := by
 have hx : nth fs d nd0 ∈ fs := nth_mem hd
 have hlen : (putE fs d n k).length = fs.length := by unfold putE; simp only; rw [List.length_set]
 have hle := lowE_le (nth fs d nd0).names n
 have hil := hw.len _ hx
 have key : ∀ y ∈ putE fs d n k, y ∈ fs ∨ (y.parent = (nth fs d nd0).parent ∧ (∀ j ∈ y.inos, j ∈ (nth fs d nd0).inos ∨ j = k) ∧ y.inos.length = y.names.length) := by
  intro y hy
  unfold putE at hy
  simp only at hy
  rcases List.mem_or_eq_of_mem_set hy with hy | rfl
  ·exact .inl hy
  ·refine .inr ⟨rfl, fun j hj => ?_, ?_⟩
   ·simp only [List.mem_append, List.mem_singleton] at hj
    rcases hj with (hj | hj) | hj
    ·exact .inl (List.mem_of_mem_take hj)
    ·exact .inr hj
    ·exact .inl (List.mem_of_mem_drop hj)
   ·simp only [List.length_append, List.length_take, List.length_drop, List.length_singleton]; omega
 refine ⟨by rw [hlen]; exact hw.two, fun y hy => ?_, fun y hy j hj => ?_, fun y hy => ?_⟩
 ·rw [hlen]
  rcases key y hy with h | h
  ·exact hw.par y h
  ·rw [h.1]; exact hw.par _ hx
 ·rw [hlen]
  rcases key y hy with h | h
  ·exact hw.ino y h j hj
  ·rcases h.2.1 j hj with h3 | rfl
   ·exact hw.ino _ hx j h3
   ·exact hk
 ·rcases key y hy with h | h
  ·exact hw.len y h
  ·exact h.2.2
theorem mkE_wf {fs : List Nd} (hw : WfN fs) {a : Int} (ha : 0 ≤ a ∧ a < fs.length) (n : List UInt8) (kind mode : Int) : WfN (mkE fs a n kind mode).2 := by
 have h2 := hw.two
 obtain ⟨hf1, hf2⟩ := free_le (fs := fs) fs.length 1 (by omega) (by omega)
 unfold mkE
 simp only
 generalize freeN fs fs.length 1 = i at *
 have hl1 : (if i = fs.length then fs ++ [nd0] else fs).length = if i = fs.length then fs.length + 1 else fs.length := by split <;> simp
 generalize hg : (if i = fs.length then fs ++ [nd0] else fs) = g at *
 have hgl : fs.length ≤ g.length ∧ i < g.length := by
  rw [hl1]; split
  ·omega
  ·omega
 have hmem : ∀ x ∈ g, x ∈ fs ∨ x = nd0 := by
  intro x hx
  rw [← hg] at hx
  split at hx
  ·rcases List.mem_append.1 hx with h | h
   ·exact .inl h
   ·exact .inr (List.mem_singleton.1 h)
  ·exact .inl hx
 have hw2 : WfN (g.set i ⟨kind, andI mode 511, 1, 0, a, [], [], []⟩) := by
  refine ⟨by rw [List.length_set]; omega, fun x hx => ?_, fun x hx j hj => ?_, fun x hx => ?_⟩
  ·rw [List.length_set]
   rcases List.mem_or_eq_of_mem_set hx with hx | rfl
   ·rcases hmem x hx with h | rfl
    ·have := hw.par x h; omega
    ·exact ⟨Int.le_refl _, by show (0 : Int) < _; omega⟩
   ·exact ⟨ha.1, by show a < _; omega⟩
  ·rw [List.length_set]
   rcases List.mem_or_eq_of_mem_set hx with hx | rfl
   ·rcases hmem x hx with h | rfl
    ·have := hw.ino x h j hj; omega
    ·cases hj
   ·cases hj
  ·rcases List.mem_or_eq_of_mem_set hx with hx | rfl
   ·rcases hmem x hx with h | rfl
    ·exact hw.len x h
    ·rfl
   ·rfl
 exact putE_wf hw2 (by rw [List.length_set]; omega) ⟨by omega, by rw [List.length_set]; omega⟩
theorem makeN_wf {fs : List Nd} (hw : WfN fs) (d : Int) (p : List UInt8) (kind mode : Int) : WfN (makeN fs d p kind mode).2.2 := by
 have ha := ahead_in hw (d := d) (p := p)
 unfold makeN
 simp only
 split
 ·exact hw
 ·split
  ·exact hw
  ·split
   ·exact hw
   ·split
    ·exact hw
    ·split
     ·exact hw
     ·split
      ·exact hw
      ·exact mkE_wf hw ha _ _ _
theorem putE_len (fs : List Nd) (d : Nat) (n : List UInt8) (k : Int) : (putE fs d n k).length = fs.length := by unfold putE; simp only; rw [List.length_set]
theorem makeN_len (fs : List Nd) (d : Int) (p : List UInt8) (kind mode : Int) : (makeN fs d p kind mode).2.2.length ≤ fs.length + 1 := by
 unfold makeN
 simp only
 repeat' split
 all_goals first | (show fs.length ≤ _; omega) | skip
 unfold mkE
 simp only
 rw [putE_len, List.length_set]
 split
 ·rw [List.length_append]; exact Nat.le_refl _
 ·omega
def fs0 : List Nd := [nd0, ⟨2, 493, 1, 0, 1, [], [], []⟩]
theorem fs0_wf : WfN fs0 := by
 refine ⟨by decide, ?_, ?_, ?_⟩
 ·intro x hx
  simp only [fs0, List.mem_cons, List.not_mem_nil, or_false] at hx
  rcases hx with rfl | rfl <;> decide
 ·intro x hx k hk
  simp only [fs0, List.mem_cons, List.not_mem_nil, or_false] at hx
  rcases hx with rfl | rfl <;> cases hk
 ·intro x hx
  simp only [fs0, List.mem_cons, List.not_mem_nil, or_false] at hx
  rcases hx with rfl | rfl <;> rfl
/-- a scene's paths, laid one by one -/
def dirP (p : List UInt8) : Bool := decide (1 < p.length) && decide (nth p (p.length - 1) 0 = 47)
def layP (fs : List Nd) (p : List UInt8) : List Nd := if dirP p = true then (makeN fs 1 p 2 493).2.2 else (makeN fs 1 p 1 420).2.2
def layF (ps : List (List UInt8)) : List Nd := ps.foldl layP fs0
theorem layP_wf {fs : List Nd} (hw : WfN fs) (p : List UInt8) : WfN (layP fs p) := by
 unfold layP; split <;> exact makeN_wf hw _ _ _ _
theorem layP_len (fs : List Nd) (p : List UInt8) : (layP fs p).length ≤ fs.length + 1 := by
 unfold layP; split <;> exact makeN_len _ _ _ _ _
theorem layF_snoc {ps : List (List UInt8)} {i : Nat} (h : i < ps.length) : layF (ps.take (i + 1)) = layP (layF (ps.take i)) (nth ps i []) := by
 unfold layF
 rw [take_nth [] h, List.foldl_append]; rfl
theorem layF_wf (ps : List (List UInt8)) : WfN (layF ps) ∧ (layF ps).length ≤ 2 + ps.length := by
 have key : ∀ (ps : List (List UInt8)) (fs : List Nd), WfN fs → WfN (ps.foldl layP fs) ∧ (ps.foldl layP fs).length ≤ fs.length + ps.length := by
  intro ps
  induction ps with
  | nil => intro fs h; exact ⟨h, Nat.le_refl _⟩
  | cons p ps ih =>
   intro fs h
   have h1 := ih (layP fs p) (layP_wf h p)
   have h2 := layP_len fs p
   exact ⟨h1.1, by rw [List.foldl_cons, List.length_cons]; omega⟩
 exact key ps fs0 fs0_wf
theorem ent_hit {nd : Nd} {n : List UInt8} {i : Nat} (h : i < nd.names.length) (hn : nth nd.names i [] = n) (hno : ∀ j, j < i → nth nd.names j [] ≠ n) : entI nd n = nth nd.inos i 0 := by
 have : (nd.names.findIdx? fun x => decide (x = n)) = some i := by
  rw [List.findIdx?_eq_some_iff_getElem]
  refine ⟨h, by rw [nth_eq h] at hn; simp [hn], fun j hj => ?_⟩
  have := hno j hj
  rw [nth_eq (by omega)] at this
  simp [this]
 unfold entI; rw [this]
theorem ent_miss {nd : Nd} {n : List UInt8} (hno : ∀ j, j < nd.names.length → nth nd.names j [] ≠ n) : entI nd n = 0 := by
 have : (nd.names.findIdx? fun x => decide (x = n)) = none := by
  rw [List.findIdx?_eq_none_iff]
  intro x hx
  obtain ⟨i, hi, rfl⟩ := List.getElem_of_mem hx
  have := hno i hi
  rw [nth_eq hi] at this
  simp [this]
 unfold entI; rw [this]
theorem makeN_eq (fs : List Nd) (d : Int) (p : List UInt8) (kind mode : Int) : makeN fs d p kind mode = if (aheadN fs d p).2.2 ≠ 0 then ((0 : Int), (aheadN fs d p).2.2, fs) else if kind = 1 ∧ slashN p = true then (0, 21, fs) else if 0 < entI (nth fs (aheadN fs d p).1.toNat nd0) (aheadN fs d p).2.1 then (0, 17, fs)
 else if (nth fs (aheadN fs d p).1.toNat nd0).links = 0 then (0, 2, fs) else if mayN fs (aheadN fs d p).1 2 = false then (0, 13, fs) else if 100 ≤ countN fs then (0, 23, fs)
 else (((mkE fs (aheadN fs d p).1 (aheadN fs d p).2.1 kind mode).1 : Int), 0, (mkE fs (aheadN fs d p).1 (aheadN fs d p).2.1 kind mode).2) := rfl
theorem putE_few {fs : List Nd} {m : Nat} (h : ∀ x ∈ fs, x.names.length ≤ m) (d : Nat) (n : List UInt8) (k : Int) (hd : d < fs.length) : ∀ x ∈ putE fs d n k, x.names.length ≤ m + 1 := by
 intro x hx
 unfold putE at hx
 simp only at hx
 rcases List.mem_or_eq_of_mem_set hx with hx | rfl
 ·have := h x hx; omega
 ·have := h _ (nth_mem (d := nd0) hd)
  have := lowE_le (nth fs d nd0).names n
  simp only [List.length_append, List.length_take, List.length_drop, List.length_singleton]; omega
theorem makeN_few {fs : List Nd} (hw : WfN fs) {m : Nat} (h : ∀ x ∈ fs, x.names.length ≤ m) (d : Int) (p : List UInt8) (kind mode : Int) : ∀ x ∈ (makeN fs d p kind mode).2.2, x.names.length ≤ m + 1 := by
 have hz : ∀ x ∈ fs, x.names.length ≤ m + 1 := fun x hx => by have := h x hx; omega
 have ha := ahead_in hw (d := d) (p := p)
 rw [makeN_eq]
 split
 ·exact hz
 ·split
  ·exact hz
  ·split
   ·exact hz
   ·split
    ·exact hz
    ·split
     ·exact hz
     ·split
      ·exact hz
      ·unfold mkE
       simp only
       refine putE_few ?_ _ _ _ ?_
       ·intro x hx
        rcases List.mem_or_eq_of_mem_set hx with hx | rfl
        ·split at hx
         ·rcases List.mem_append.1 hx with hx | hx
          ·exact h x hx
          ·rw [List.mem_singleton.1 hx]; exact Nat.zero_le _
         ·exact h x hx
        ·exact Nat.zero_le _
       ·rw [List.length_set]
        split
        ·rw [List.length_append]; omega
        ·omega
end Go.Tri

/-
 How much a word is expanded to.
-/
namespace Go.Tri
open Go.RowKit
mutual
/-- texts of a size; no expressions -/
def okT : PT → Prop
 | .mk k t _ w _ => k ≠ 4 ∧ t.length ≤ 65536 ∧ oksT w
def oksT : List PT → Prop
 | [] => True
 | p :: l => okT p ∧ oksT l
end
theorem oksT_mem {l : List PT} (h : oksT l) {p : PT} (hp : p ∈ l) : okT p := by
 induction l with
 | nil => cases hp
 | cons q l ih =>
  rw [oksT] at h
  rcases List.mem_cons.1 hp with rfl | hp
  ·exact h.1
  ·exact ih h.2 hp
def Bnd (h : Hx) (k a b : Nat) : XR → Prop
 | .ok m h' => HB h' ∧ h'.asked.length ≤ h.asked.length + k ∧ m.length ≤ a + 401 * k ∧ (textX m).length ≤ b + 70000 * k
 | .bad _ _ h' => HB h' ∧ h'.asked.length ≤ h.asked.length + k
theorem Bnd.mono {h : Hx} {k k' a b : Nat} {r : XR} (hb : Bnd h k a b r) (hk : k ≤ k') : Bnd h k' a b r := by
 cases r with
 | ok m h' => obtain ⟨h1, h2, h3, h4⟩ := hb; exact ⟨h1, by omega, by omega, by omega⟩
 | bad e m h' => obtain ⟨h1, h2⟩ := hb; exact ⟨h1, by omega⟩
theorem whole_text (s : List UInt8) (q : Bool) : textX (wholeX s q) = s := by simp [textX, wholeX, stS]
theorem bnd_whole {h : Hx} (hB : HB h) {s : List UInt8} {q : Bool} {k : Nat} (hs : s.length ≤ 70000) (hk : 1 ≤ k) : Bnd h k 0 0 (.ok (wholeX s q) h) := ⟨hB, by omega, by simp [wholeX]; omega, by rw [whole_text]; omega⟩
theorem itoa_le (n : Int) (h : -9223372036854775808 ≤ n ∧ n ≤ 9223372036854775807) : (Lib.itoa n).length ≤ 20 := by
 have dd : ∀ k n : Nat, n < 10 ^ (k + 1) → (Lib.decDigits n).length ≤ k + 1 := by
  intro k
  induction k with
  | zero => intro n h; rw [digits_lt (by omega)]; simp
  | succ k ih =>
   intro n h
   by_cases h1 : n < 10
   ·rw [digits_lt h1]; simp
   ·rw [digits_ge h1, List.length_append]
    have := ih (n / 10) (by
     rw [Nat.div_lt_iff_lt_mul (by omega)]
     rw [Nat.pow_succ] at h; exact h)
    simp; omega
 have h2 := dd 18 n.natAbs (by omega)
 have h3 := dd 18 n.toNat (by omega)
 unfold Lib.itoa
 split <;> simp <;> omega
theorem parX_le {h : Hx} (hB : HB h) (n : List UInt8) : (parX h n).1.length ≤ 65536 := by
 unfold parX
 split
 ·rename_i i hi
  have h3 : i < 3 := (findN_lt hi).1
  have h4 : i = 0 ∨ i = 1 ∨ i = 2 := by omega
  rcases h4 with rfl | rfl | rfl <;> decide
 ·split
  ·split
   ·split
    ·rename_i k _ hk
     have hl : (k - 1).toNat < h.args.length := by omega
     exact hB.aa _ (nth_mem hl)
    ·exact Nat.zero_le _
   ·exact Nat.zero_le _
  ·split
   ·have := hB.an
    exact Nat.le_trans (itoa_le (h.args.length : Int) (by omega)) (by decide)
   ·show (atN h.vars n).value.length ≤ 65536
    cases hf : findN h.vars n with
    | none => rw [atN_none hf]; exact Nat.zero_le _
    | some i => rw [atN_some hf]; exact hB.vv _ (nth_mem (findN_lt hf).1)
theorem valX_le {h : Hx} (hB : HB h) (n : List UInt8) : (valX h n).1.length ≤ 65536 := by
 unfold valX
 split
 ·exact hB.aj [32] (by decide)
 ·exact parX_le hB n
theorem lenX_le {h : Hx} (hB : HB h) (n : List UInt8) : 0 ≤ lenX h n ∧ lenX h n ≤ 65536 := by
 have := valX_le hB n
 have := hB.an
 unfold lenX
 split <;> omega
theorem argL_count (q : Bool) (l : List (List UInt8)) (i : Nat) : (argL q l i).length ≤ 2 * i := by
 induction i with
 | zero => exact Nat.le_refl _
 | succ i ih =>
  rw [argL_succ, List.length_append]
  have : (argAt q l i).length ≤ 2 := by unfold argAt wholeX; split <;> simp
  omega
theorem argL_text (q : Bool) (l : List (List UInt8)) : ∀ i, i ≤ l.length → (textX (argL q l i)).length ≤ Lib.lens (l.take i) + i := by
 intro i
 induction i with
 | zero => intro _; exact Nat.zero_le _
 | succ i ih =>
  intro hi
  rw [argL_succ, textX_app, List.length_append]
  have h1 := ih (by omega)
  have h2 : (textX (argAt q l i)).length ≤ 1 + (nth l i []).length := by
   unfold argAt
   rw [textX_app, whole_text, List.length_append]
   have : (textX (if 0 < i then [brk] else [])).length ≤ 1 := by split <;> decide
   omega
  have h3 := Lib.lens_take_succ l i (nth l i []) (get_nth (by omega))
  omega
theorem lens_join (l : List (List UInt8)) (sep : List UInt8) : Lib.lens l ≤ (Lib.join l sep).length := by
 cases l with
 | nil => exact Nat.zero_le _
 | cons x r =>
  rw [Lib.join_cons, List.length_append, Lib.joinTail_length]
  show (x :: r).map (·.length) |>.sum |> (· ≤ _)
  have : Lib.lens r = (r.map (·.length)).sum := rfl
  rw [List.map_cons, List.sum_cons, this]
  omega
theorem args_text {h : Hx} (hB : HB h) (q : Bool) : (textX (argL q h.args h.args.length)).length ≤ 65736 := by
 have h1 := argL_text q h.args h.args.length (Nat.le_refl _)
 rw [List.take_length] at h1
 have h2 := lens_join h.args [32]
 have h3 := hB.aj [32] (by decide)
 have := hB.an
 omega
theorem setN_HB {h : Hx} (hB : HB h) {n v : List UInt8} (h0 : (setN h.vars n v).1 = 0) : HB (h.put (setN h.vars n v).2) where
 vv := by
  intro y hy
  have hy : y ∈ (setN h.vars n v).2 := hy
  unfold setN at hy h0
  split at hy
  ·exact hB.vv y hy
  ·rename_i h1
   rw [if_neg h1] at h0
   split at hy
   ·exact hB.vv y hy
   ·rename_i h2
    rw [if_neg h2] at h0
    split at hy
    ·exact hB.vv y hy
    ·rename_i h3
     rw [if_neg h3] at h0
     split at hy
     ·exact hB.vv y hy
     ·rcases putN_mem hy with hy | rfl
      ·exact hB.vv y hy
      ·show v.length ≤ 65536; omega
 aa := hB.aa
 oo := hB.oo
 aj := hB.aj
 an := hB.an
 vn := setN_len hB.vn
theorem trimNl_le (s : List UInt8) : (trimNl s).length ≤ s.length := by
 unfold trimNl Lib.trimRightS
 rw [List.length_reverse]
 have := (List.dropWhile_suffix (fun x => [10].contains x) (l := s.reverse)).length_le
 rwa [List.length_reverse] at this
theorem ask_bnd {h : Hx} (hB : HB h) (t : List UInt8) (q : Bool) {k : Nat} (hk : 1 ≤ k) : Bnd h k 0 0 (askX h t q) := by
 have hB' : HB ⟨h.vars, h.args, h.outs, h.asked ++ [t]⟩ := ⟨hB.vv, hB.aa, hB.oo, hB.aj, hB.an, hB.vn⟩
 unfold askX
 split
 ·rename_i hl
  rw [List.length_append, List.length_singleton] at hl
  have h1 := hB.oo _ (nth_mem (d := []) (show h.asked.length < h.outs.length by omega))
  have h2 := trimNl_le (nth h.outs h.asked.length [])
  exact ⟨hB', by simp; omega, by simp [wholeX]; omega, by rw [whole_text]; omega⟩
 ·exact ⟨hB', by simp; omega⟩
theorem ins_bnd {h : Hx} {t op : List UInt8} {q : Bool} {r : XR} {k : Nat} (hr : Bnd h k 0 0 r) : Bnd h (k + 1) 0 0 (insX t op q r) := by
 cases r with
 | bad e m h' => exact Bnd.mono (r := .bad e m h') hr (by omega)
 | ok l h' =>
  obtain ⟨h1, h2, h3, h4⟩ := hr
  show Bnd h (k + 1) 0 0 (if _ then _ else _)
  split
  ·split
   ·exact ⟨h1, by omega⟩
   ·split
    ·exact ⟨h1, by omega⟩
    ·rename_i h0
     have h0 : (setN h'.vars t (textX l)).1 = 0 := by omega
     exact ⟨setN_HB h1 h0, by show h'.asked.length ≤ _; omega, by simp [wholeX]; omega, by rw [whole_text]; omega⟩
  ·split
   ·exact ⟨h1, by omega⟩
   ·split
    ·exact ⟨h1, by omega, by simp [wholeX]; omega, by rw [whole_text]; simp⟩
    ·exact ⟨h1, by omega, by omega, by omega⟩
theorem cut_bnd {h : Hx} {v op : List UInt8} {q : Bool} {r : XR} {k : Nat} (hv : v.length ≤ 65536) (hr : Bnd h k 0 0 r) : Bnd h (k + 1) 0 0 (cutX v op q r) := by
 cases r with
 | bad e m h' => exact Bnd.mono (r := .bad e m h') hr (by omega)
 | ok l h' =>
  obtain ⟨h1, h2, h3, h4⟩ := hr
  have := (cut_law (charsX l) v (decide (nth op 0 0 = 37)) (decide (op.length = 2))).1
  exact ⟨h1, by omega, by simp [wholeX]; omega, by rw [whole_text]; omega⟩
theorem lit_text (t : List UInt8) (q wi : Bool) : textX (litX t q wi) = t := by simp [textX, litX, stS]
mutual
theorem partX_bnd : ∀ (p : PT) (wi : Bool) (h : Hx), okT p → HB h → Bnd h p.cnt 0 0 (partX wi h p)
 | .mk k t op w q, wi, h, ho, hB => by
  rw [okT] at ho
  obtain ⟨hk4, ht, hw⟩ := ho
  have ih := fun wi => partsX_bnd w wi h [] hw hB
  have hv := valX_le hB t
  show Bnd h (1 + cntL w) 0 0 _
  rw [partX]
  split
  ·split
   ·show Bnd _ _ 0 0 (.ok (argsX h t q) h)
    unfold argsX
    split
    ·exact bnd_whole hB (by have := hB.aj (betX h) (betX_len h); omega) (by omega)
    ·have h1 := argL_count q h.args h.args.length
     have h2 := args_text hB q
     have h3 := hB.an
     exact ⟨hB, by omega, by omega, by omega⟩
   ·split
    ·exact bnd_whole hB (by omega) (by omega)
    ·split
     ·have := lenX_le hB t
      exact bnd_whole hB (by have := itoa_le (lenX h t) (by omega); omega) (by omega)
     ·split
      ·split
       ·exact ⟨hB, by omega⟩
       ·rw [Nat.add_comm]; exact cut_bnd hv (ih false)
      ·split
       ·exact bnd_whole hB (by simp) (by omega)
       ·split
        ·exact bnd_whole hB (by omega) (by omega)
        ·rw [Nat.add_comm]; exact ins_bnd (ih true)
  ·split
   ·exact ask_bnd hB t q (by omega)
   ·split
    ·exact bnd_whole hB (by have := parX_le hB homeN; omega) (by omega)
    ·exact ⟨hB, by omega, by simp [litX]; omega, by rw [lit_text]; omega⟩
theorem partsX_bnd : ∀ (l : List PT) (wi : Bool) (h : Hx) (acc : List Px), oksT l → HB h → Bnd h (cntL l) acc.length (textX acc).length (partsX wi h acc l)
 | [], wi, h, acc, ho, hB => by
  rw [partsX]
  exact ⟨hB, by omega, by omega, by omega⟩
 | p :: l, wi, h, acc, ho, hB => by
  rw [oksT] at ho
  have h1 := partX_bnd p wi h ho.1 hB
  have hc : cntL (p :: l) = p.cnt + cntL l := by rw [cntL]
  rw [partsX, hc]
  cases hp : partX wi h p with
  | bad e m h' =>
   rw [hp] at h1
   obtain ⟨h2, h3⟩ := h1
   exact ⟨h2, by omega⟩
  | ok m h' =>
   rw [hp] at h1
   obtain ⟨h2, h3, h4, h5⟩ := h1
   have h6 := partsX_bnd l wi h' (acc ++ m) ho.2 h2
   show Bnd h _ _ _ (partsX wi h' (acc ++ m) l)
   rw [textX_app, List.length_append, List.length_append] at h6
   cases hq : partsX wi h' (acc ++ m) l with
   | bad e m2 h'' =>
    rw [hq] at h6
    obtain ⟨h7, h8⟩ := h6
    exact ⟨h7, by omega⟩
   | ok m2 h'' =>
    rw [hq] at h6
    obtain ⟨h7, h8, h9, h10⟩ := h6
    exact ⟨h7, by omega, by omega, by omega⟩
end
end Go.Tri

/-
 What the pieces of a word are split to, in plain words.
-/
namespace Go.Tri
open Go.RowKit
def grpG : List Pc → List Px → List (List Pc)
 | g, [] => [g]
 | g, x :: l => if x.st = true then g :: grpG [] l else grpG (g ++ [x.p]) l
/-- what stands between breaks -/
def groupsX (l : List Px) : List (List Pc) := grpG [] l
theorem grpG_len : ∀ (l : List Px) (g : List Pc), (grpG g l).length ≤ l.length + 1
 | [], g => Nat.le_refl _
 | x :: l, g => by
  rw [grpG]
  split
  ·rw [List.length_cons, List.length_cons]; have := grpG_len l []; omega
  ·have := grpG_len l (g ++ [x.p]); rw [List.length_cons]; omega
theorem grp_drop {L : List Px} {i : Nat} (hi : i < L.length) (g : List Pc) : grpG g (L.drop i) = if (nth L i px0).st = true then g :: grpG [] (L.drop (i + 1)) else grpG (g ++ [(nth L i px0).p]) (L.drop (i + 1)) := by
 rw [drop_nth px0 hi, grpG]
theorem drop_nth_eq {α : Type} {l r : List α} {n : Nat} {x d : α} (h : l.drop n = x :: r) : n < l.length ∧ nth l n d = x ∧ l.drop (n + 1) = r := by
 obtain ⟨h1, h2, h3⟩ := drop_step h
 refine ⟨h1, ?_, h3⟩
 rw [get_nth (d := d) h1] at h2
 exact Option.some.inj h2
def psX (pf : List Ch → List (List UInt8)) (f : List Ch) : List (List UInt8) := if wildP f = true then pf f else []
def pathsX (pf : List Ch → List (List UInt8)) (f : List Ch) : List (List UInt8) := if psX pf f = [] then [chText f] else psX pf f
def fldG (pf : List Ch → List (List UInt8)) (ifs : List UInt8) : List (List UInt8) → List (List Pc) → List (List UInt8) × Nat
 | acc, [] => (acc, 0)
 | acc, g :: r => if okFields (fieldsAll g ifs) = true then fldG pf ifs (acc ++ (fieldsAll g ifs).flatMap (pathsX pf)) r else ([], 66)
def ifsX (h : Hx) : List UInt8 := if (parX h ifsN).2 = true then (parX h ifsN).1 else ifsS
/-- the fields of pieces -/
def fieldsL (pf : List Ch → List (List UInt8)) (ifs : List UInt8) (l : List Px) : List (List UInt8) × Nat :=
 if (fldG pf ifs [] (groupsX l)).2 ≠ 0 then ([], 66) else if 200 < (fldG pf ifs [] (groupsX l)).1.length then ([], 66) else ((fldG pf ifs [] (groupsX l)).1, 0)
/-- the fields of a word: the fields, the message, the error -/
def fldsX (pf : Hx → List Ch → List (List UInt8)) (h : Hx) (s : List UInt8) : List (List UInt8) × List UInt8 × Nat × Hx := match expX h s 0 with
 | .bad e m h' => ([], m, e, h')
 | .ok l h' => ((fieldsL (pf h') (ifsX h') l).1, [], (fieldsL (pf h') (ifsX h') l).2, h')
theorem fldG_step {pf : List Ch → List (List UInt8)} {ifs : List UInt8} {acc : List (List UInt8)} {gs : List (List Pc)} {k : Nat} (hk : k < gs.length) : fldG pf ifs acc (gs.drop k) = if okFields (fieldsAll (nth gs k []) ifs) = true then fldG pf ifs (acc ++ (fieldsAll (nth gs k []) ifs).flatMap (pathsX pf)) (gs.drop (k + 1)) else ([], 66) := by
 rw [drop_nth [] hk, fldG]
theorem pathsX_le {pf : List Ch → List (List UInt8)} (hpf : ∀ f, (pf f).length ≤ 1000) (f : List Ch) : (pathsX pf f).length ≤ 1000 := by
 unfold pathsX
 split
 ·simp
 ·unfold psX
  split
  ·exact hpf f
  ·simp
theorem flat_le {pf : List Ch → List (List UInt8)} (hpf : ∀ f, (pf f).length ≤ 1000) (l : List (List Ch)) : (l.flatMap (pathsX pf)).length ≤ 1000 * l.length := by
 induction l with
 | nil => exact Nat.le_refl _
 | cons f l ih =>
  rw [List.flatMap_cons, List.length_append, List.length_cons]
  have := pathsX_le hpf f
  omega
theorem flat_snoc {pf : List Ch → List (List UInt8)} {l : List (List Ch)} {i : Nat} (hi : i < l.length) : (l.take (i + 1)).flatMap (pathsX pf) = (l.take i).flatMap (pathsX pf) ++ pathsX pf (nth l i []) := by
 rw [take_nth [] hi, List.flatMap_append]; simp
theorem fieldsL_bad {pf : List Ch → List (List UInt8)} {ifs : List UInt8} {l : List Px} (h : fldG pf ifs [] (groupsX l) = ([], 66)) : fieldsL pf ifs l = ([], 66) := by unfold fieldsL; rw [h]; rfl
theorem fieldsL_many {pf : List Ch → List (List UInt8)} {ifs : List UInt8} {l : List Px} {o : List (List UInt8)} (h : fldG pf ifs [] (groupsX l) = (o, 0)) (ho : 200 < o.length) : fieldsL pf ifs l = ([], 66) := by unfold fieldsL; rw [h]; simp only; rw [if_neg (by simp), if_pos ho]
theorem fieldsL_ok {pf : List Ch → List (List UInt8)} {ifs : List UInt8} {l : List Px} {o : List (List UInt8)} (h : fldG pf ifs [] (groupsX l) = (o, 0)) (ho : ¬ 200 < o.length) : fieldsL pf ifs l = (o, 0) := by unfold fieldsL; rw [h]; simp only; rw [if_neg (by simp), if_neg ho]
theorem fldsX_bad {pf : Hx → List Ch → List (List UInt8)} {h h' : Hx} {s m : List UInt8} {e : Nat} (hx : expX h s 0 = .bad e m h') : fldsX pf h s = ([], m, e, h') := by unfold fldsX; rw [hx]
theorem fldsX_ok {pf : Hx → List Ch → List (List UInt8)} {h h' : Hx} {s : List UInt8} {L : List Px} (hx : expX h s 0 = .ok L h') : fldsX pf h s = ((fieldsL (pf h') (ifsX h') L).1, [], (fieldsL (pf h') (ifsX h') L).2, h') := by unfold fldsX; rw [hx]
theorem tot_text (l : List Px) : ∀ (g : List Pc), ∀ x ∈ grpG g l, tot x ≤ tot g + (textX l).length := by
 have h0 : tot ([] : List Pc) = 0 := rfl
 induction l with
 | nil => intro g x hx; rw [grpG, List.mem_singleton] at hx; subst hx; simp [textX]
 | cons y l ih =>
  intro g x hx
  have ht : (textX (y :: l)).length = (stS y).length + y.p.t.length + (textX l).length := by
   show ((stS y ++ y.p.t) ++ textX l).length = _
   rw [List.length_append, List.length_append]
  rw [grpG] at hx
  split at hx
  ·rcases List.mem_cons.1 hx with rfl | hx
   ·omega
   ·have := ih [] x hx; omega
  ·have h1 := ih (g ++ [y.p]) x hx
   have h2 : tot (g ++ [y.p]) = tot g + y.p.t.length := by unfold tot; rw [List.map_append, List.sum_append]; simp
   omega
theorem grp_count (l : List Px) : ∀ (g : List Pc), ∀ x ∈ grpG g l, x.length ≤ g.length + l.length := by
 induction l with
 | nil => intro g x hx; rw [grpG, List.mem_singleton] at hx; subst hx; simp
 | cons y l ih =>
  intro g x hx
  rw [grpG] at hx
  rw [List.length_cons]
  split at hx
  ·rcases List.mem_cons.1 hx with rfl | hx
   ·omega
   ·have := ih [] x hx; simp only [List.length_nil] at this; omega
  ·have := ih (g ++ [y.p]) x hx; rw [List.length_append, List.length_singleton] at this; omega
theorem tot_mem {g : List Pc} {x : Pc} (h : x ∈ g) : x.t.length ≤ tot g := by
 induction g with
 | nil => cases h
 | cons y g ih =>
  unfold tot
  rw [List.map_cons, List.sum_cons]
  rcases List.mem_cons.1 h with rfl | h
  ·omega
  ·have := ih h; unfold tot at this; omega
end Go.Tri

/-
 Texts with a parameter's operator, or with a command, read.
-/
namespace Go.Tri
open Go.RowKit
/-- a quoted text, read: it is quoted, or means just itself -/
theorem quote_read' (n : Nat) (s : List UInt8) : ∃ q, wP n 0 (quoteB s) = .ok [.mk 1 s [] [] q] ∧ (q = true ∨ ∀ c ∈ s, plainC c = true) := by
 rw [wP_read]
 unfold readP quoteB
 split
 ·rename_i h
  rw [Bool.and_eq_true, decide_eq_true_eq, List.all_eq_true] at h
  obtain ⟨hne, hall⟩ := h
  cases s with
  | nil => exact absurd rfl hne
  | cons c r =>
   rw [if_neg (by rw [tilde_head (plain_not126 c (hall c (List.mem_cons_self)))]; simp)]
   have := read_self (n := n) (W := Wn n) (kd := 0) (c :: r) (c :: r).length none (Nat.le_refl _) (fun d hd => plain_self d (hall d hd))
   rw [if_neg (by simp)] at this
   exact ⟨false, this, .inr hall⟩
 ·have e : [39] ++ escB s ++ [39] = 39 :: (escB s ++ [39]) := by simp
  rw [e, if_neg (by rw [tilde_head (by decide)]; simp)]
  have := read_esc (k := n) (W := Wn n) s.length s _ none (Nat.le_refl _) (Nat.le_refl _)
  exact ⟨true, this, .inl rfl⟩
end Go.Tri

/-
 What a parameter's operators make of a value; what stands in a command's place.
-/
namespace Go.Tri
open Go.RowKit
def hxX (x : Option (List UInt8)) : Hx := ⟨(match x with | none => [] | some v => [xV v]), [], [], []⟩
theorem parX_x (x : Option (List UInt8)) : parX (hxX x) [120] = (x.getD [], x.isSome) := by cases x <;> rfl
theorem valX_x (x : Option (List UInt8)) : valX (hxX x) [120] = (x.getD [], x.isSome) := by
 unfold valX
 rw [if_neg (by decide), parX_x]
theorem part_lit (wi : Bool) (h : Hx) (t : List UInt8) (op : List UInt8) (w : List PT) (q : Bool) : partX wi h (.mk 1 t op w q) = .ok (litX t q wi) h := by
 rw [partX, if_neg (by decide), if_neg (by decide), if_neg (by decide), if_neg (by simp)]
theorem parts_one {wi : Bool} {h : Hx} {acc : List Px} {p : PT} : partsX wi h acc [p] = match partX wi h p with | .bad e m h => .bad e m h | .ok m h' => .ok (acc ++ m) h' := by
 rw [partsX]
 cases partX wi h p with
 | ok m h' => show partsX wi h' _ [] = _; rw [partsX]
 | bad e m h' => rfl
theorem parts_lit (wi : Bool) (h : Hx) (t : List UInt8) (op : List UInt8) (w : List PT) (q : Bool) : partsX wi h [] [.mk 1 t op w q] = .ok (litX t q wi) h := by
 rw [parts_one, part_lit]; rfl
theorem part_pln (wi : Bool) (x : Option (List UInt8)) (w : List PT) (q : Bool) : partX wi (hxX x) (.mk 2 [120] [] w q) = .ok (wholeX (x.getD []) q) (hxX x) := by
 rw [partX, if_pos rfl, if_neg (by simp [manyB]), if_pos rfl, valX_x]
theorem nameX : nameB [120] = true := rfl
theorem set_none {v : List UInt8} (hv : v.length ≤ 65536) : setN [] [120] v = (0, [xV v]) := by
 unfold setN
 rw [if_neg (by rw [nameX]; simp), if_neg (by rw [atN_none (show findN [] [120] = none from rfl)]; simp), if_neg (by omega), if_neg (by simp)]
 rfl
end Go.Tri

/-
 What each text of the statement on parameters is worth.
-/
namespace Go.Tri
open Go.RowKit
def varsOf (x : Option (List UInt8)) : List Vr := (hxX x).vars
theorem lay_x {x : Option (List UInt8)} (hx : (x.getD []).length ≤ 65536) : (⟨layV (varsOf x), argsN [], [], []⟩ : Hx) = hxX x := by
 cases x with
 | none => rfl
 | some v =>
  have h1 : layV (varsOf (some v)) = [xV v] := by
   show layS [] (xV v) = _
   unfold layS
   rw [if_neg (by simp [xV])]
   show markN (setN [] [120] v).2 [120] false false = _
   rw [set_none (v := v) hx, markN_none nameX ⟨rfl, rfl⟩]
  show (⟨layV (varsOf (some v)), [], [], []⟩ : Hx) = _
  rw [h1]; rfl
theorem hb_x {x : Option (List UInt8)} (hx : (x.getD []).length ≤ 65536) : HB (hxX x) where
 vv := by
  intro v hv
  cases x with
  | none => cases hv
  | some u => rw [show (hxX (some u)).vars = [xV u] from rfl, List.mem_singleton] at hv; subst hv; exact hx
 aa := by intro a ha; cases x <;> cases ha
 oo := by intro a ha; cases x <;> cases ha
 aj := by intro sep _; cases x <;> exact Nat.zero_le _
 an := by cases x <;> exact Nat.zero_le _
 vn := by cases x <;> simp [hxX]
end Go.Tri

/-
 What is quoted is one field; quoted "$@" gives the arguments.
-/
namespace Go.Tri
open Go.RowKit
/-- a piece that stays whole -/
def wholeP (p : Pc) : Prop := p.q = true ∨ (p.s = false ∧ p.t ≠ [])
def chsP (p : Pc) : List Ch := p.t.map fun b => ⟨b, p.q⟩
theorem whole_fold (p : Pc) (ifs : List UInt8) (hp : (p.q || !p.s) = true) : ∀ (t : List UInt8) (f : FSt), ((t.map (evB p ifs)).foldl stepF f) = if t = [] then f else ⟨f.out, f.cur ++ t.map (fun b => ⟨b, p.q⟩), true, false⟩
 | [], f => rfl
 | b :: t, f => by
  rw [List.map_cons, List.foldl_cons, evB_plain (by rw [hp]; rfl), whole_fold p ifs hp t _, if_neg (List.cons_ne_nil b t)]
  cases t with
  | nil => rfl
  | cons c t => rw [if_neg (List.cons_ne_nil c t)]; simp [stepF]
theorem fields_whole {p : Pc} (hp : wholeP p) (ifs : List UInt8) : fieldsAll [p] ifs = [chsP p] := by
 have e : evs' [p] ifs = (if p.q then [Ev.begin] else []) ++ p.t.map (evB p ifs) := by simp [evs', evP']
 unfold fieldsAll
 rw [e, List.foldl_append]
 rcases hp with hq | ⟨hs, ht⟩
 ·rw [if_pos hq, whole_fold p ifs (by rw [hq]; rfl)]
  unfold chsP
  split
  ·rename_i h; rw [h]; rfl
  ·rfl
 ·have hq2 : (p.q || !p.s) = true := by rw [hs]; simp
  rw [whole_fold p ifs hq2, if_neg ht]
  unfold chsP
  cases p.q <;> rfl
theorem chText_chs (p : Pc) : chText (chsP p) = p.t := by
 unfold chText chsP
 rw [List.map_map]
 have : (Ch.b ∘ fun b => (⟨b, p.q⟩ : Ch)) = id := rfl
 rw [this, List.map_id]
theorem plain_tame : ∀ c : UInt8, plainC c = true → hasB [42, 63, 91] c = false := by
 intro c; revert c; exact u8_all (by decide +kernel)
theorem wild_quoted {p : Pc} (h : p.q = true ∨ ∀ c ∈ p.t, plainC c = true) : wildP (chsP p) = false := by
 unfold wildP chsP
 rw [List.any_map, List.any_eq_false]
 intro b hb
 show ¬ (!p.q && hasB [42, 63, 91] b) = true
 rcases h with h | h
 ·rw [h]; simp
 ·rw [plain_tame b (h b hb)]; simp
theorem okF_one {f : List Ch} (h : f.length ≤ 4096) : okFields [f] = true := by
 unfold okFields
 rw [List.all_cons, List.all_nil, decide_eq_true h]
 rfl
theorem paths_tame {pf : List Ch → List (List UInt8)} {f : List Ch} (h : wildP f = false) : pathsX pf f = [chText f] := by
 unfold pathsX psX
 rw [h]; rfl
theorem fldG_whole {pf : List Ch → List (List UInt8)} {ifs : List UInt8} : ∀ (l : List Pc) (acc : List (List UInt8)), (∀ p ∈ l, wholeP p ∧ (p.q = true ∨ ∀ c ∈ p.t, plainC c = true) ∧ p.t.length ≤ 4096) → fldG pf ifs acc (l.map fun p => [p]) = (acc ++ l.map Pc.t, 0)
 | [], acc, _ => by simp [fldG]
 | p :: l, acc, h => by
  obtain ⟨h1, h2, h3⟩ := h p (List.mem_cons_self)
  have hl : (chsP p).length ≤ 4096 := by unfold chsP; rwa [List.length_map]
  rw [List.map_cons, fldG, fields_whole h1, if_pos (okF_one hl), fldG_whole l _ (fun q hq => h q (List.mem_cons_of_mem _ hq))]
  rw [List.flatMap_cons, List.flatMap_nil, List.append_nil, paths_tame (wild_quoted h2), chText_chs]
  simp
theorem fieldsL_whole {pf : List Ch → List (List UInt8)} {ifs : List UInt8} {L : List Px} {l : List Pc} (hg : groupsX L = l.map fun p => [p]) (hl : l.length ≤ 200) (h : ∀ p ∈ l, wholeP p ∧ (p.q = true ∨ ∀ c ∈ p.t, plainC c = true) ∧ p.t.length ≤ 4096) : fieldsL pf ifs L = (l.map Pc.t, 0) :=
 fieldsL_ok (o := l.map Pc.t) (by rw [hg, fldG_whole l [] h]; simp) (by rw [List.length_map]; omega)
theorem fields_none (ifs : List UInt8) : fieldsAll [] ifs = [] := rfl
/-- what is quoted -/
theorem quote_word {s : List UInt8} (hs : s.length ≤ 4096) : ∃ q, partsP (quoteB s) 0 = .ok [.mk 1 s [] [] q] ∧ (q = true ∨ (s ≠ [] ∧ ∀ c ∈ s, plainC c = true)) := by
 have hl := quoteB_le s
 have hp : partsP (quoteB s) 0 = wP 24 0 (quoteB s) := by unfold partsP; rw [if_neg (by omega), if_neg (by decide)]; rfl
 by_cases h0 : s = []
 ·subst h0
  exact ⟨true, by rw [hp]; rfl, .inl rfl⟩
 ·obtain ⟨q, hq, hqp⟩ := quote_read' 24 s
  exact ⟨q, hp.trans hq, hqp.imp id fun h => ⟨h0, h⟩⟩
theorem flds_quote (pf : Hx → List Ch → List (List UInt8)) (h : Hx) {s : List UInt8} (hs : s.length ≤ 4096) : fldsX pf h (quoteB s) = ([s], [], 0, h) := by
 obtain ⟨q, hp, hq⟩ := quote_word hs
 have hx : expX h (quoteB s) 0 = .ok (litX s q false) h := by
  unfold expX
  rw [hp]
  exact parts_lit _ _ _ _ _ _
 rw [fldsX_ok hx, fieldsL_whole (l := [⟨s, q, false⟩]) (by rfl) (by simp) (fun p hp => ?_)]
 ·rfl
 ·rw [List.mem_singleton] at hp
  subst hp
  exact ⟨hq.imp id fun h => ⟨rfl, h.1⟩, hq.imp id And.right, hs⟩
/-- quoted "$@" -/
def atW : List UInt8 := [34, 36, 64, 34]
theorem at_parts : partsP atW 0 = .ok [.mk 2 [64] [] [] true] := by rfl
theorem argL_cons (q : Bool) (a : List UInt8) (l : List (List UInt8)) (n : Nat) : argL q (a :: l) (n + 1) = wholeX a q ++ (List.range n).flatMap fun i => brk :: wholeX (nth l i []) q := by
 unfold argL
 rw [List.range_succ_eq_map, List.flatMap_cons, List.flatMap_map]
 rfl
theorem grp_brk (q : Bool) (l : List (List UInt8)) : ∀ (n : Nat) (i : Nat) (g : List Pc), i + n = l.length → grpG g ((List.range' i n).flatMap fun i => brk :: wholeX (nth l i []) q) = g :: (l.drop i).map fun s => [⟨s, q, true⟩]
 | 0, i, g, h => by rw [List.drop_of_length_le (by omega)]; rfl
 | n + 1, i, g, h => by
  rw [List.range'_succ, List.flatMap_cons, drop_nth [] (show i < l.length by omega), List.map_cons]
  show g :: grpG [⟨nth l i [], q, true⟩] (List.flatMap (fun i => brk :: wholeX (nth l i []) q) (List.range' (i + 1) n)) = _
  rw [grp_brk q l n (i + 1) _ (by omega)]
theorem groups_args (q : Bool) (l : List (List UInt8)) (h : l ≠ []) : groupsX (argL q l l.length) = l.map fun s => [⟨s, q, true⟩] := by
 cases l with
 | nil => exact absurd rfl h
 | cons a l =>
  rw [List.length_cons, argL_cons]
  show grpG [⟨a, q, true⟩] ((List.range l.length).flatMap fun i => brk :: wholeX (nth l i []) q) = _
  have := grp_brk q l l.length 0 [⟨a, q, true⟩] (by omega)
  rw [← List.range_eq_range'] at this
  rw [this]; rfl
theorem flds_args (pf : Hx → List Ch → List (List UInt8)) (h : Hx) (hn : h.args.length ≤ 200) (hl : ∀ s ∈ h.args, s.length ≤ 4096) : fldsX pf h atW = (h.args, [], 0, h) := by
 have hx : expX h atW 0 = .ok (argL true h.args h.args.length) h := by
  unfold expX
  rw [at_parts]
  show partsX false h [] [.mk 2 [64] [] [] true] = _
  rw [parts_one, parA (by rfl) rfl]
  show XR.ok ([] ++ argsX h [64] true) h = _
  rw [List.nil_append]
  unfold argsX
  rw [if_neg (by simp)]
 rw [fldsX_ok hx]
 by_cases h0 : h.args = []
 ·rw [h0]; rfl
 ·have hg : groupsX (argL true h.args h.args.length) = (h.args.map fun s => (⟨s, true, true⟩ : Pc)).map fun p => [p] := by
   rw [groups_args _ _ h0, List.map_map]; rfl
  rw [fieldsL_whole hg (by rw [List.length_map]; omega) (fun p hp => ?_)]
  ·have : (h.args.map fun s => (⟨s, true, true⟩ : Pc)).map Pc.t = h.args := by rw [List.map_map]; exact List.map_id _
   rw [this]
  ·obtain ⟨s, hs, rfl⟩ := List.mem_map.1 hp
   exact ⟨.inl rfl, .inl rfl, hl s hs⟩
end Go.Tri

/-
 A small scene: how long what it tells may be.
-/
namespace Go.Tri
open Go.RowKit
def ValOk (l : List Vr) : Prop := ∀ v ∈ l, v.value.length ≤ 65536
theorem atN_val {l : List Vr} (h : ValOk l) (n : List UInt8) : (atN l n).value.length ≤ 65536 := by
 cases hf : findN l n with
 | none => rw [atN_none hf]; exact Nat.zero_le _
 | some i => rw [atN_some hf]; exact h _ (nth_mem (findN_lt hf).1)
theorem putN_val {l : List Vr} {x : Vr} (h : ValOk l) (hx : x.value.length ≤ 65536) : ValOk (putN l x) := fun v hv => by
 rcases putN_mem hv with hv | rfl
 ·exact h v hv
 ·exact hx
theorem setN_val {l : List Vr} {n v : List UInt8} (h : ValOk l) : ValOk (setN l n v).2 := by
 unfold setN
 split
 ·exact h
 ·split
  ·exact h
  ·split
   ·exact h
   ·split
    ·exact h
    ·exact putN_val h (by show v.length ≤ 65536; omega)
theorem markN_val {l : List Vr} {n : List UInt8} {e r : Bool} (h : ValOk l) : ValOk (markN l n e r) := by
 unfold markN
 split
 ·exact h
 ·split
  ·exact h
  ·split
   ·exact h
   ·exact putN_val h (atN_val h n)
theorem layS_ok {l : List Vr} (v : Vr) (h : ValOk l ∧ l.length ≤ 64) : ValOk (layS l v) ∧ (layS l v).length ≤ 64 := by
 unfold layS
 split
 ·exact ⟨markN_val h.1, markN_len h.2⟩
 ·exact ⟨markN_val (setN_val h.1), markN_len (setN_len h.2)⟩
theorem layV_ok (vars : List Vr) : ValOk (layV vars) ∧ (layV vars).length ≤ 64 := by
 have key : ∀ (vs l : List Vr), ValOk l ∧ l.length ≤ 64 → ValOk (vs.foldl layS l) ∧ (vs.foldl layS l).length ≤ 64 := by
  intro vs
  induction vs with
  | nil => intro l h; exact h
  | cons v vs ih => intro l h; exact ih _ (layS_ok v h)
 exact key vars [] ⟨fun v hv => (by cases hv), Nat.zero_le _⟩
def valsN (vars : List Vr) : Nat := (vars.map fun v => v.value.length).sum
theorem valsN_snoc {vars : List Vr} {i : Nat} (h : i < vars.length) : valsN (vars.take (i + 1)) = valsN (vars.take i) + (nth vars i vr0).value.length := by
 unfold valsN
 rw [take_nth vr0 h, List.map_append, List.sum_append]; simp
theorem valsN_le (vars : List Vr) (i : Nat) : valsN (vars.take i) ≤ valsN vars := by
 conv => rhs; rw [← List.take_append_drop i vars]
 unfold valsN
 rw [List.map_append, List.sum_append]; omega
/-- texts and how many -/
def sizN (l : List (List UInt8)) : Nat := Lib.lens l + l.length
def smallN (vars : List Vr) (al outs : List (List UInt8)) (s : List UInt8) : Nat := s.length + valsN vars + sizN al + sizN outs
def smallB (vars : List Vr) (al outs : List (List UInt8)) (s : List UInt8) : Bool := decide (smallN vars al outs s ≤ 1500) && decide (vars.length ≤ 20)
theorem len_lens {l : List (List UInt8)} {a : List UInt8} (h : a ∈ l) : a.length ≤ Lib.lens l := by
 induction l with
 | nil => cases h
 | cons b l ih =>
  have e : Lib.lens (b :: l) = b.length + Lib.lens l := rfl
  rcases List.mem_cons.1 h with rfl | h
  ·omega
  ·have := ih h; omega
theorem join_le (l : List (List UInt8)) (sep : List UInt8) (hs : sep.length ≤ 1) : (Lib.join l sep).length ≤ sizN l := by
 cases l with
 | nil => exact Nat.zero_le _
 | cons x r =>
  rw [Lib.join_length]
  unfold sizN
  rw [List.length_cons]
  have : sep.length * r.length ≤ 1 * r.length := Nat.mul_le_mul_right _ hs
  omega
theorem argsN_siz (l : List (List UInt8)) : sizN (argsN l) ≤ sizN l := by
 unfold argsN
 split
 ·exact Nat.le_refl _
 ·exact Nat.zero_le _
theorem hb_small {vars : List Vr} {al outs : List (List UInt8)} {s : List UInt8} (h : smallN vars al outs s ≤ 1500) : HB ⟨layV vars, argsN al, outs, []⟩ where
 vv := (layV_ok vars).1
 aa := fun a ha => by
  have h1 := argsN_siz al
  have h2 : a.length ≤ Lib.lens (argsN al) := len_lens ha
  unfold smallN at h
  unfold sizN at h h1
  omega
 oo := fun a ha => by
  have h2 : a.length ≤ Lib.lens outs := len_lens ha
  unfold smallN sizN at h
  omega
 aj := fun sep hs => by
  have h1 := argsN_siz al
  have h2 := join_le (argsN al) sep hs
  unfold smallN at h
  show (Lib.join (argsN al) sep).length ≤ _
  omega
 an := argsN_len al
 vn := (layV_ok vars).2
/-! ### nothing wild -/
def NoWild (h : Hx) (s : List UInt8) : Prop := ∀ L h', expX h s 0 = .ok L h' → ∀ g ∈ groupsX L, ∀ f ∈ fieldsAll g (ifsX h'), wildP f = false
theorem noWild_of {h h' : Hx} {s : List UInt8} {L : List Px} {l : List Pc} (hx : expX h s 0 = .ok L h') (hg : ∀ g ∈ groupsX L, g = [] ∨ ∃ p, g = [p] ∧ wholeP p ∧ (p.q = true ∨ ∀ c ∈ p.t, plainC c = true)) : NoWild h s := by
 intro L2 h2 hx2 g hgm f hf
 rw [hx] at hx2
 cases hx2
 rcases hg g hgm with rfl | ⟨p, rfl, h1, h3⟩
 ·rw [fields_none] at hf; cases hf
 ·rw [fields_whole h1, List.mem_singleton] at hf
  rw [hf]
  exact wild_quoted h3
theorem quote_exp (h : Hx) {s : List UInt8} (hs : s.length ≤ 4096) : ∃ q, expX h (quoteB s) 0 = .ok (litX s q false) h ∧ (q = true ∨ (s ≠ [] ∧ ∀ c ∈ s, plainC c = true)) := by
 obtain ⟨q, hp, hq⟩ := quote_word hs
 refine ⟨q, ?_, hq⟩
 unfold expX
 rw [hp]
 exact parts_lit _ _ _ _ _ _
theorem quote_wild (h : Hx) {s : List UInt8} (hs : s.length ≤ 4096) : NoWild h (quoteB s) := by
 obtain ⟨q, hx, hq⟩ := quote_exp h hs
 refine noWild_of (l := []) hx (fun g hg => ?_)
 rw [show groupsX (litX s q false) = [[⟨s, q, false⟩]] by rfl, List.mem_singleton] at hg
 exact .inr ⟨_, hg, hq.imp id fun h => ⟨rfl, h.1⟩, hq.imp id And.right⟩
theorem at_exp (h : Hx) : expX h atW 0 = .ok (argL true h.args h.args.length) h := by
 unfold expX
 rw [at_parts]
 show partsX false h [] [.mk 2 [64] [] [] true] = _
 rw [parts_one, parA (by rfl) rfl]
 show XR.ok ([] ++ argsX h [64] true) h = _
 rw [List.nil_append]
 unfold argsX
 rw [if_neg (by simp)]
theorem at_wild (h : Hx) : NoWild h atW := by
 refine noWild_of (l := []) (at_exp h) (fun g hg => ?_)
 by_cases h0 : h.args = []
 ·rw [h0] at hg
  rw [show groupsX (argL true [] ([] : List (List UInt8)).length) = [[]] by rfl, List.mem_singleton] at hg
  exact .inl hg
 ·rw [groups_args _ _ h0] at hg
  obtain ⟨s, hs, rfl⟩ := List.mem_map.1 hg
  exact .inr ⟨_, rfl, .inl rfl, .inl rfl⟩
theorem quote_okT {s : List UInt8} (hs : s.length ≤ 4096) : ∀ l, partsP (quoteB s) 0 = .ok l → cntL l ≤ 2000 ∧ oksT l := fun l hl => by
 obtain ⟨q, hp, _⟩ := quote_word hs
 rw [hp] at hl
 cases hl
 refine ⟨by simp [cntL, PT.cnt], ?_⟩
 simp only [oksT, okT]
 exact ⟨⟨by decide, by omega, trivial⟩, trivial⟩
theorem at_okT : ∀ l, partsP atW 0 = .ok l → cntL l ≤ 2000 ∧ oksT l := fun l hl => by
 rw [at_parts] at hl
 cases hl
 exact ⟨by decide, by simp [oksT, okT]⟩

def sizL (ll : List (List (List UInt8))) : Nat := (ll.map sizN).sum
theorem sizL_snoc {ll : List (List (List UInt8))} {i : Nat} (h : i < ll.length) : sizL (ll.take (i + 1)) = sizL (ll.take i) + sizN (nth ll i []) := by
 unfold sizL
 rw [take_nth [] h, List.map_append, List.sum_append]; simp
theorem sizL_le (ll : List (List (List UInt8))) (i : Nat) : sizL (ll.take i) ≤ sizL ll := by
 conv => rhs; rw [← List.take_append_drop i ll]
 unfold sizL
 rw [List.map_append, List.sum_append]; omega
theorem two_sl {I : Look} {sv ov : Value} {al outs : List (List UInt8)} {C : List UInt8 → List Value} (h1 : Sl I 1 sv (al.map C)) (h2 : Sl I 1 ov (outs.map C)) {j : Nat} (hj : j < 2) : Sl I 1 (nth [sv, ov] j undef) ((nth [al, outs] j []).map C) := by
 match j, hj with
 | 0, _ => exact h1
 | 1, _ => exact h2
end Go.Tri
