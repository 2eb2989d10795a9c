/-
  A word as parts, in plain words.
-/
import Derived.Test.YtjdcefhllbfacaaDoorPLex12
namespace Go.Tri
open Go.RowKit
/-- a part -/
inductive PT where
  | mk (kind : Nat) (text op : List UInt8) (word : List PT) (q : Bool)
def PT.kind : PT → Nat
  | .mk k _ _ _ _ => k
def PT.text : PT → List UInt8
  | .mk _ t _ _ _ => t
def PT.op : PT → List UInt8
  | .mk _ _ o _ _ => o
def PT.word : PT → List PT
  | .mk _ _ _ w _ => w
def PT.q : PT → Bool
  | .mk _ _ _ _ q => q
def pt0 : PT := .mk 0 [] [] [] false
/-- parts, or why they are refused -/
inductive PR where
  | ok (l : List PT)
  | bad (e : Nat)
/-- a step: the parts so far and how many bytes it took -/
inductive SP where
  | ok (l : List PT) (k : Nat)
  | bad (e : Nat)
inductive BR where
  | ok (p : PT)
  | bad (e : Nat)
def litP (l : List PT) (t : List UInt8) (q : Bool) : List PT :=
  if l ≠ [] ∧ (nth l (l.length - 1) pt0).kind = 1 ∧ (nth l (l.length - 1) pt0).q = q then l.set (l.length - 1) (.mk 1 ((nth l (l.length - 1) pt0).text ++ t) (nth l (l.length - 1) pt0).op (nth l (l.length - 1) pt0).word q)
  else l ++ [.mk 1 t [] [] q]
def allP (l : List PT) : List PT → List PT
  | [] => l
  | p :: m => allP (if p.kind = 1 then litP l p.text p.q else l ++ [p]) m
/-- how far the text is a name -/
def nameN : Nat → Nat → List UInt8 → Nat
  | 0, n, _ => n
  | f + 1, n, s => if n < s.length ∧ nameB (s.take (n + 1)) = true then nameN f (n + 1) s else n
def markS : List UInt8 := [64, 42, 35, 63, 36, 33]
def paramN (s : List UInt8) : Nat :=
  let n := nameN s.length 0 s
  let d := s.length - (Lib.trimLeftS s digitsS).length
  if n ≠ 0 then n else if d ≠ 0 then d else if s ≠ [] ∧ hasB markS (nth s 0 0) = true then 1 else 0
def opsW : List (List UInt8) := [[58, 45], [58, 61], [58, 63], [58, 43], [37, 37], [35, 35], [45], [61], [63], [43], [37], [35]]
def findOp (s : List UInt8) : List UInt8 := (opsW.find? (fun o => stB s o)).getD []
def lenW : List UInt8 := [108, 101, 110]
def bracedP (W : Nat → List UInt8 → PR) (kind : Nat) (s : List UInt8) : BR :=
  if (stB s [35] && decide (1 < s.length) && decide (paramN (s.drop 1) = s.length - 1)) = true then .ok (.mk 2 (s.drop 1) lenW [] (decide (kind ≠ 0)))
  else if paramN s = 0 then .bad 55
  else if s.drop (paramN s) = [] then .ok (.mk 2 (s.take (paramN s)) [] [] (decide (kind ≠ 0)))
  else if findOp (s.drop (paramN s)) = [] then .bad 55
  else match W (if Lib.contains [37, 37, 35, 35] (findOp (s.drop (paramN s))) = true then 0 else kind) ((s.drop (paramN s)).drop (findOp (s.drop (paramN s))).length) with
    | .bad e => .bad e
    | .ok w => .ok (.mk 2 (s.take (paramN s)) (findOp (s.drop (paramN s))) w (decide (kind ≠ 0)))
def beginsB (l : List UInt8) : Bool := stB l [36, 40] || stB l [36, 123]
def exprB (s : List UInt8) (q : Bool) : Bool := stB s [40] && match (lv 24).2 q (36 :: s) with
  | .ok k => decide (k = s.length + 1)
  | .bad _ _ => false
def dolP (n : Nat) (W : Nat → List UInt8 → PR) (kind : Nat) (l : List UInt8) (acc : List PT) : SP :=
  if beginsB l = true then
    match (lv n).2 (decide (kind ≠ 0)) l with
    | .bad _ e => .bad e
    | .ok k =>
      if nth l 1 0 = 123 then
        match bracedP W kind ((l.take (k - 1)).drop 2) with
        | .bad e => .bad e
        | .ok p => .ok (acc ++ [p]) k
      else if exprB ((l.take (k - 1)).drop 2) (decide (kind ≠ 0)) = true then
        match W 2 ((((l.take (k - 1)).drop 2).take (((l.take (k - 1)).drop 2).length - 1)).drop 1) with
        | .bad e => .bad e
        | .ok w => .ok (acc ++ [.mk 4 [] [] w (decide (kind ≠ 0))]) k
      else .ok (acc ++ [.mk 3 ((l.take (k - 1)).drop 2) [] [] (decide (kind ≠ 0))]) k
  else if paramN (l.drop 1) = 0 then .ok (litP acc [36] (decide (kind ≠ 0))) 1
  else .ok (acc ++ [.mk 2 ((l.drop 1).take (if 48 ≤ (nth l 1 0).toNat ∧ (nth l 1 0).toNat ≤ 57 then 1 else paramN (l.drop 1))) [] [] (decide (kind ≠ 0))]) ((if 48 ≤ (nth l 1 0).toNat ∧ (nth l 1 0).toNat ≤ 57 then 1 else paramN (l.drop 1)) + 1)
def bslP (kind : Nat) (l : List UInt8) (acc : List PT) : SP :=
  if l.length = 1 then .ok (litP acc [92] true) 1
  else if nth l 1 0 = 10 then .ok acc 2
  else if kind = 0 ∨ hasB [36, 96, 92] (nth l 1 0) = true ∨ (kind = 1 ∧ nth l 1 0 = 34) then .ok (litP acc ((l.take 2).drop 1) true) 2
  else .ok (litP acc [92] true) 1
def quotP (n : Nat) (W : Nat → List UInt8 → PR) (l : List UInt8) (acc : List PT) : SP :=
  match (if nth l 0 0 = 34 then (lv n).1 l else singleP l) with
  | .bad _ e => .bad e
  | .ok k =>
    if nth l 0 0 = 39 ∨ (l.take (k - 1)).drop 1 = [] then .ok (litP acc ((l.take (k - 1)).drop 1) true) k
    else match W 1 ((l.take (k - 1)).drop 1) with
      | .bad e => .bad e
      | .ok m => .ok (allP (if m = [] then litP acc [] true else acc) m) k
def stepP (n : Nat) (W : Nat → List UInt8 → PR) (kind : Nat) (l : List UInt8) (acc : List PT) : SP :=
  if nth l 0 0 = 92 then bslP kind l acc
  else if (nth l 0 0 = 39 ∨ nth l 0 0 = 34) ∧ kind = 0 then quotP n W l acc
  else if nth l 0 0 = 36 then dolP n W kind l acc
  else if nth l 0 0 = 96 then .bad 55
  else .ok (litP acc (l.take 1) (decide (kind ≠ 0))) 1
def readL (n : Nat) (W : Nat → List UInt8 → PR) (kind : Nat) : Nat → List UInt8 → List PT → PR
  | 0, _, acc => .ok acc
  | f + 1, l, acc => if l = [] then .ok acc else match stepP n W kind l acc with
    | .bad e => .bad e
    | .ok acc' k => readL n W kind f (l.drop k) acc'
def tildeB (kind : Nat) (s : List UInt8) : Bool := decide (kind = 0) && (decide (s = [126]) || stB s [126, 47])
def readP (n : Nat) (W : Nat → List UInt8 → PR) (kind : Nat) (s : List UInt8) : PR :=
  if tildeB kind s = true then readL n W kind s.length (s.drop 1) [.mk 5 [126] [] [] false] else readL n W kind s.length s []
/-- within a depth that leaves n levels -/
def wP : Nat → Nat → List UInt8 → PR
  | 0 => readP 0 (fun _ _ => .bad 52)
  | n + 1 => readP (n + 1) (wP n)
def partsP (s : List UInt8) (kind : Int) : PR := if 65536 < s.length then .bad 50 else if kind < 0 ∨ 2 < kind then .bad 73 else wP 24 kind.toNat s
def statP (l : List PT) : Option (List UInt8) := if l.all (fun p => decide (p.kind = 1)) = true then some ((l.map PT.text).flatten) else none
end Go.Tri
