/-
  What a word is expanded to, in plain words, for a host that knows at most the variable x and tells what commands say.
-/
import Derived.Test.YtbogmbdfjgnfaaaGreatDoorPWord5
import Derived.Test.YtbogmbdfjgnfaaaGreatDoorPSplit
import Derived.Test.YtbogmbdfjgnfaaaGreatDoorPPat2
import Derived.Test.YtbogmbdfjgnfaaaGreatDoorPNum
namespace Go.Tri
open Go.RowKit
/-- a piece, or a break -/
structure Px where
  p : Pc
  st : Bool
def pxC (x : Px) : List Value := [str x.p.t, .bool x.p.q, .bool x.p.s, .bool x.st]
def px0 : Px := ⟨pc0, false⟩
/-- the host: the variable x; what commands say; what was asked -/
structure Hx where
  x : Option (List UInt8)
  outs : List (List UInt8)
  asked : List (List UInt8)
def shyS : List UInt8 := [115, 104, 121, 97, 114, 100]
/-- a parameter's value -/
def parX (h : Hx) (n : List UInt8) : List UInt8 × Bool :=
  if n = [63] then ([48], true) else if n = [36] then ([50], true) else if n = [48] then (shyS, true)
  else if n ≠ [] ∧ digitB' (nth n 0 0) = true then ([], false)
  else if n = [35] then ([48], true)
  else if n = [120] then (h.x.getD [], h.x.isSome)
  else ([], false)
inductive XR where
  | ok (l : List Px) (h : Hx)
  | bad (e : Nat) (h : Hx)
def wholeX (s : List UInt8) (q : Bool) : List Px := [⟨⟨s, q, true⟩, false⟩]
def textX (l : List Px) : List UInt8 := l.flatMap fun x => (if x.st then [32] else []) ++ x.p.t
def charsX (l : List Px) : List Ch := l.flatMap fun x => (if x.st then [(⟨32, false⟩ : Ch)] else []) ++ x.p.t.map fun b => ⟨b, x.p.q⟩
def trimNl (s : List UInt8) : List UInt8 := (s.reverse.dropWhile (· == 10)).reverse
def cutOps : List (List UInt8) := [[37], [37, 37], [35], [35, 35]]
/-- a command is asked -/
def askX (h : Hx) (t : List UInt8) (q : Bool) : XR :=
  if (h.asked ++ [t]).length ≤ h.outs.length then .ok (wholeX (trimNl (nth h.outs h.asked.length [])) q) ⟨h.x, h.outs, h.asked ++ [t]⟩ else .bad 5 ⟨h.x, h.outs, h.asked ++ [t]⟩
/-- what stands in the place of a parameter -/
def insX (r : XR) (op : List UInt8) (q : Bool) : XR := match r with
  | .bad e h => .bad e h
  | .ok l h =>
    if op = [61] then .ok (wholeX (textX l) q) ⟨some (textX l), h.outs, h.asked⟩
    else if l = [] then .ok (wholeX [] q) h else .ok l h
mutual
def partX (within : Bool) (h : Hx) : PT → XR
  | .mk k t op w q =>
    if k = 2 then
      if op = [] then .ok (wholeX (parX h t).1 q) h
      else if op = lenW then .ok (wholeX (Lib.itoa ((parX h t).1.length : Int)) q) h
      else if op ∈ cutOps then
        if 4096 < (parX h t).1.length then .bad 66 h
        else match partsX false h [] w with
          | .bad e h => .bad e h
          | .ok l h' => .ok (wholeX (cutP (charsX l) (parX h t).1 (decide (nth op 0 0 = 37)) (decide (op.length = 2))) q) h'
      else
        let is := (parX h t).2 && (!stB op [58] || decide ((parX h t).1 ≠ []))
        let o := if stB op [58] then op.drop 1 else op
        if o = [43] ∧ is = false then .ok (wholeX [] q) h
        else if o ≠ [43] ∧ is = true then .ok (wholeX (parX h t).1 q) h
        else insX (partsX true h [] w) o q
    else if k = 3 then askX h t q
    else .ok [⟨⟨t, q, within && !q⟩, false⟩] h
def partsX (within : Bool) (h : Hx) (acc : List Px) : List PT → XR
  | [] => .ok acc h
  | p :: l => match partX within h p with
    | .bad e h => .bad e h
    | .ok m h' => partsX within h' (acc ++ m) l
end
def ifsS : List UInt8 := [32, 9, 10]
def awS16 : List UInt8 := [36, 120, 36, 120]
def awH16 : Hx := ⟨some [97, 32, 98], [], []⟩
end Go.Tri
