/-
 What a line of a shell text is read as: quotes and substitutions, in plain words, over what is left of the text.
-/
import Derived.Test.YtbndcpjklngfhaaGreatDoorPOct
import Derived.Lib.SlTrimSet
import Derived.Test.YtbndcpjklngfhaaGreatDoorPAny
import Derived.Lib.TrimByte
namespace Go.Tri
open Go.RowKit
variable {q apo:Bool} {k e:Nat}
inductive SR where
 |ok (k:Nat)
 |bad (a e:Nat)
 deriving DecidableEq
inductive LR where
 |ok (k:Nat)
 |bad (a e:Nat)
 |out
 deriving DecidableEq
def SR.on(k:Nat):SR->SR
 | .ok j=>.ok (k+j)
 | .bad a e=>.bad (k+a) e
def LR.on(k:Nat):LR->LR
 | .ok j=>.ok (k+j)
 | .bad a e=>.bad (k+a) e
 | .out=>.out
def LR.close(k e:Nat):LR->SR
 | .ok j=>.ok (k+j)
 | .bad a e'=>.bad (k+a) e'
 | .out=>.bad 0 e
def Dl(l t:List UInt8):Bool:=decide (l.take t.length=t)
theorem ASu(b:UInt8)(l:List UInt8)(c:UInt8):Dl (b::l) [c]=decide (b=c):=by simp[Dl]
theorem Hq{l t:List UInt8}(h:Dl l t=true):t.length<=l.length:=by
 have:=B3 List.length (BM h)
 rw[BL]at this;omega
def CM(l:List UInt8):SR:=if Lib.indexByte (l.drop 1) 39<0 then .bad 0 53 else .ok ((Lib.indexByte (l.drop 1) 39).toNat+2)
def Bv(dlr:Bool->List UInt8->SR)(q apo:Bool)(l:List UInt8):SR:=
 if Dl l [92]then .ok (min 2 l.length)
 else if Dl l [39]&&apo then CM l
 else if Dl l [96]then .bad 0 55
 else if Dl l [36,40]||Dl l [36,123]then dlr q l
 else .ok (min 1 l.length)
def LY(dlr:Bool->List UInt8->SR):Nat->List UInt8->LR
 |0,_=>.out
 |f+1,l=>if l=[]then .out else if Dl l [34]then .ok 1 else
  match Bv dlr true false l with
  | .bad a e=>.bad a e
  | .ok k=>(LY dlr f (l.drop k)).on k
def AHJ(dlr:Bool->List UInt8->SR)(l:List UInt8):SR:=(LY dlr l.length (l.drop 1)).close 1 53
def JR(brace:Bool)(o:Nat)(b:UInt8):Nat:=if(!brace&&decide (b=41))=true then o-1 else if(!brace&&decide (b=40))=true then o+1 else o
def HN(dbl:List UInt8->SR)(dlr:Bool->List UInt8->SR)(brace q:Bool):Nat->Nat->List UInt8->LR
 |0,_,_=>.out
 |f+1,o,l=>if l=[]then .out else
  if AG l 0 0=34 then
   match dbl l with
   | .bad a e=>.bad a e
   | .ok k=>(HN dbl dlr brace q f o (l.drop k)).on k
  else if(brace&&decide (AG l 0 0=125)||(!brace&&decide (AG l 0 0=41)&&decide (o=0)))=true then .ok 1
  else match Bv dlr q (!q) l with
   | .bad a e=>.bad a e
   | .ok k=>(HN dbl dlr brace q f (JR brace o (AG l 0 0)) (l.drop k)).on k
def Mr(l:List UInt8):Bool:=decide (AG l 1 0=123)
def AEv(dbl:List UInt8->SR)(dlr:Bool->List UInt8->SR)(q:Bool)(l:List UInt8):SR:=(HN dbl dlr (Mr l) (q&&Mr l) l.length 0 (l.drop 2)).close 2 53
def lv:Nat->(List UInt8->SR)×(Bool->List UInt8->SR)
 |0=>(fun _=>.bad 0 52,fun _ _=>.bad 0 52)
 |n+1=>(AHJ (lv n).2,AEv (lv n).1 (lv n).2)
def Fit(l:List UInt8):SR->Prop
 | .ok k=>1<=k/\k<=l.length
 | .bad _ _=>True
theorem ADQ{l:List UInt8}(h:l≠[]):Fit l (CM l):=by
 unfold CM
 split
 ·trivial
 rename_i h1
 have Ua:=Lib.indexByte_ge (l.drop 1) 39
 obtain⟨i,hi⟩:∃i:Nat,Lib.indexByte (l.drop 1) 39=i:=⟨(Lib.indexByte (l.drop 1) 39).toNat,by omega⟩
 have:=(F6 hi).1
 rw[BA]at this
 have hp:=BV.2 h
 show 1<=_/\_<=_
 rw[hi]
 omega
theorem Kx{dlr:Bool->List UInt8->SR}{l:List UInt8}(hd:∀q l,2<=l.length->Fit l (dlr q l))(h:l≠[]):Fit l (Bv dlr q apo l):=by
 have hp:=BV.2 h
 unfold Bv
 split
 ·exact⟨by omega,by omega⟩
 split
 ·exact ADQ h
 split
 ·trivial
 split
 ·rename_i h1
  refine hd _ _ ?_
  rw[C4]at h1
  rcases h1 with h1|h1
  ·exact Hq h1
  exact Hq h1
 exact⟨by omega,by omega⟩
def AQU(l:List UInt8):LR->Prop
 | .ok k=>1<=k/\k<=l.length
 |_=>True
theorem Z6{l:List UInt8}{r:LR}(hk:k<=l.length)(h:AQU (l.drop k) r):AQU l (r.on k):=by
 cases r with
 |ok j=>
  have h2:1<=j/\j<=(l.drop k).length:=h
  rw[BA]at h2
  exact⟨by omega,by omega⟩
 |bad a e=>trivial
 |out=>trivial
theorem YC{l:List UInt8}{r:LR}(hk:k<=l.length)(h:AQU (l.drop k) r):Fit l (r.close k e):=by
 cases r with
 |ok j=>
  have h2:1<=j/\j<=(l.drop k).length:=h
  rw[BA]at h2
  exact⟨by omega,by omega⟩
 |bad a e=>trivial
 |out=>trivial
theorem VW{dlr:Bool->List UInt8->SR}(hd:∀q l,2<=l.length->Fit l (dlr q l)):∀(f:Nat) (l:List UInt8),AQU l (LY dlr f l)
 |0,_=>trivial
 |f+1,l=>by
  unfold LY
  split
  ·trivial
  rename_i hl
  have hp:=BV.2 hl
  split
  ·exact⟨A5 _,by omega⟩
  have hf:=Kx (q:=true) (apo:=false) hd hl
  cases hi:Bv dlr true false l with
  |bad a e=>trivial
  |ok k=>
   rw[hi]at hf
   exact Z6 hf.2 (VW hd f _)
theorem RE{dbl:List UInt8->SR}{dlr:Bool->List UInt8->SR}{brace q:Bool}(hb:∀l,l≠[]->Fit l (dbl l))(hd:∀q l,2<=l.length->Fit l (dlr q l)):∀(f o:Nat) (l:List UInt8),AQU l (HN dbl dlr brace q f o l)
 |0,_,_=>trivial
 |f+1,o,l=>by
  unfold HN
  split
  ·trivial
  rename_i hl
  have hp:=BV.2 hl
  split
  ·have hf:=hb l hl
   cases hi:dbl l with
   |bad a e=>trivial
   |ok k=>
    rw[hi]at hf
    exact Z6 hf.2 (RE hb hd f _ _)
  split
  ·exact⟨A5 _,by omega⟩
  have hf:=Kx (q:=q) (apo:= !q) hd hl
  cases hi:Bv dlr q (!q) l with
  |bad a e=>trivial
  |ok k=>
   rw[hi]at hf
   exact Z6 hf.2 (RE hb hd f _ _)
theorem GM:∀n,(∀l,l≠[]->Fit l ((lv n).1 l))/\∀q l,2<=l.length->Fit l ((lv n).2 q l)
 |0=>⟨fun _ _=>trivial,fun _ _ _=>trivial⟩
 |n+1=>by
  obtain⟨h1,h2⟩:=GM n
  refine⟨fun l hl=>?_,fun q l hl=>?_⟩
  ·exact YC (BV.2 hl) (VW h2 _ _)
  exact YC hl (RE h1 h2 _ _ _)
theorem ABE{dlr:Bool->List UInt8->SR}(f:Nat):LY dlr f []=.out:=by cases f<;>simp[LY]
theorem ACV{dbl:List UInt8->SR}{dlr:Bool->List UInt8->SR}{brace:Bool}(f o:Nat):HN dbl dlr brace q f o []=.out:=by cases f<;>simp[HN]
theorem LR.on_on(a b:Nat)(r:LR):(r.on b).on a=r.on (a+b):=by
 cases r<;>simp[LR.on,Nat.add_assoc]
theorem LR.on_zero(r:LR):r.on 0=r:=by
 cases r<;>simp[LR.on]
structure Tok where
 kind:Nat
 text:List UInt8
 pos:Nat
 doc:List UInt8
 raw:Bool
 deriving DecidableEq
def Ec:List UInt8:=[48,49,50,51,52,53,54,55,56,57]
def Fv:SR->Prop
 | .ok _=>True
 | .bad _ e=>e≠0
def Qu:LR->Prop
 | .bad _ e=>e≠0
 |_=>True
theorem QW{r:LR}(h:Qu r)(he:e≠0):Fv (r.close k e):=by
 cases r with
 |ok j=>trivial
 |bad a e'=>exact h
 |out=>exact he
theorem Pq{r:LR}(h:Qu r):Qu (r.on k):=by
 cases r with
 |ok j=>trivial
 |bad a e'=>exact h
 |out=>trivial
theorem LW(l:List UInt8):Fv (CM l):=by
 unfold CM
 split
 ·exact Nat.succ_ne_zero _
 trivial
theorem O0{dlr:Bool->List UInt8->SR}{l:List UInt8}(hd:∀q l,Fv (dlr q l)):Fv (Bv dlr q apo l):=by
 unfold Bv
 split
 ·trivial
 split
 ·exact LW l
 split
 ·exact Nat.succ_ne_zero _
 split
 ·exact hd _ _
 trivial
theorem TN{dlr:Bool->List UInt8->SR}(hd:∀q l,Fv (dlr q l)):∀(f:Nat) (l:List UInt8),Qu (LY dlr f l)
 |0,_=>trivial
 |f+1,l=>by
  unfold LY
  split
  ·trivial
  split
  ·trivial
  have hf:=O0 (q:=true) (apo:=false) (l:=l) hd
  cases hi:Bv dlr true false l with
  |bad a e=>rw[hi]at hf;exact hf
  |ok k=>exact Pq (TN hd f _)
theorem NQ{dbl:List UInt8->SR}{dlr:Bool->List UInt8->SR}{brace q:Bool}(hb:∀l,Fv (dbl l))(hd:∀q l,Fv (dlr q l)):∀(f o:Nat) (l:List UInt8),Qu (HN dbl dlr brace q f o l)
 |0,_,_=>trivial
 |f+1,o,l=>by
  unfold HN
  split
  ·trivial
  split
  ·have hf:=hb l
   cases hi:dbl l with
   |bad a e=>rw[hi]at hf;exact hf
   |ok k=>exact Pq (NQ hb hd f _ _)
  split
  ·trivial
  have hf:=O0 (q:=q) (apo:= !q) (l:=l) hd
  cases hi:Bv dlr q (!q) l with
  |bad a e=>rw[hi]at hf;exact hf
  |ok k=>exact Pq (NQ hb hd f _ _)
theorem HH:∀n,(∀l,Fv ((lv n).1 l))/\∀q l,Fv ((lv n).2 q l)
 |0=>⟨fun _=>Nat.succ_ne_zero _,fun _ _=>Nat.succ_ne_zero _⟩
 |n+1=>by
  obtain⟨h1,h2⟩:=HH n
  exact⟨fun l=>QW (TN h2 _ _) (Nat.succ_ne_zero _),fun q l=>QW (NQ h1 h2 _ _ _) (Nat.succ_ne_zero _)⟩
inductive LnR where
 |ok (toks:List Tok) (k:Nat)
 |bad (a e:Nat)
structure AcI where
 toks:List Tok
 fin:Nat
 place:Nat
 err:Nat
section
variable {s:List UInt8} {l cur:List Tok} {j0 n jj:Nat}
end
end Go.Tri
