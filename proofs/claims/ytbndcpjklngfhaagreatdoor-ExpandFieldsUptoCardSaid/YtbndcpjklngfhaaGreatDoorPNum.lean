/-
 Numbers as texts, in plain words.
-/
import Derived.Test.YtbndcpjklngfhaaGreatDoorPOct
import Derived.Lib.SlTrimSet
namespace Go.Tri
open Go.RowKit
variable {i v u d:Nat} {s:List UInt8}
def H0(acc:Nat):List UInt8->Option Nat
 | []=>some acc
 |c::r=>if BO c then H0 (acc * 10+(c.toNat-48)) r else none
theorem WM(l r:List UInt8):∀acc,H0 acc (l++r)=(H0 acc l).bind fun v=>H0 v r:=by
 induction l with
 |nil=>intro acc;rfl
 |cons c l ih=>
  intro acc
  rw[NA,H0,H0]
  split
  ·exact ih _
  rfl
theorem AIE:∀(l:List UInt8) (acc v:Nat),H0 acc l=some v->acc<=v
 | [],acc,v,h=>by cases h;exact A5 _
 |c::l,acc,v,h=>by
  rw[H0]at h
  split at h
  ·have:=AIE l _ _ h;omega
  cases h
theorem ALU{t:List UInt8}(h:i<t.length)(hv:H0 0 (t.take i)=some v):H0 0 (t.take (i+1))=if BO (AG t i 0)then some (v * 10+((AG t i 0).toNat-48))else none:=by
 rw[C6 0 h,WM,hv,Option.bind_some]
 rfl
theorem VL(t:List UInt8)(i:Nat):H0 0 t=(H0 0 (t.take i)).bind fun v=>H0 v (t.drop i):=by
 conv=>lhs;rw[<-Iu i t]
 exact WM _ _ _
def signed(s:List UInt8):Bool:=decide (s≠[])&&(decide (AG s 0 0=43)||decide (AG s 0 0=45))
def Pi(s:List UInt8):List UInt8:=if signed s then s.drop 1 else s
def Um(s:List UInt8):Bool:=signed s&&decide (AG s 0 0=45)
def RJ:Nat:=9223372036854775808
def I5(s:List UInt8):Option Int:=
 if Pi s=[]then none else(H0 0 (Pi s)).bind fun v=>if Um s then(if v<=RJ then some (-(v:Int))else none)else if v<RJ then some (v:Int)else none
theorem Xd(c:UInt8):BO c=true↔(48<=c.toNat/\c.toNat<=57):=by
 unfold BO
 rw[Ay,BC,BC]
 omega
theorem EC(h:u<10):Lib.decDigits u=[UInt8.ofNat (48+u % 10)]:=by
 rw[Lib.decDigits,dif_pos h,Nat.mod_eq_of_lt h]
theorem GS(h:¬u<10):Lib.decDigits u=Lib.decDigits (u / 10)++[UInt8.ofNat (48+u % 10)]:=by
 rw[Lib.decDigits,dif_neg h]
theorem UC(u:Nat):(UInt8.ofNat (48+u % 10)).toNat=48+u % 10:=by
 rw[UInt8.toNat_ofNat']
 omega
theorem Lm(u:Nat):BO (UInt8.ofNat (48+u % 10))=true:=by
 rw[Xd,UC];omega
theorem AEO(u:Nat):H0 0 (Lib.decDigits u)=some u:=by
 induction u using Nat.strongRecOn with
 |_ u ih=>
  by_cases h:u<10
  ·rw[EC h,H0,AI (Lm u),UC,H0]
   congr 1;omega
  rw[GS h,WM,ih (u / 10) (by omega),Option.bind_some,H0,AI (Lm u),UC,H0]
  congr 1;omega
theorem IG(u:Nat):Lib.decDigits u≠[]:=by
 by_cases h:u<10
 ·rw[EC h];simp
 rw[GS h];simp
theorem N8(u:Nat):BO (AG (Lib.decDigits u) 0 0)=true:=by
 induction u using Nat.strongRecOn with
 |_ u ih=>
  by_cases h:u<10
  ·rw[EC h];exact Lm u
  rw[GS h]
  have:=ih (u / 10) (by omega)
  have hp:=BV.2 (IG (u / 10))
  have e:AG (Lib.decDigits (u / 10)++[UInt8.ofNat (48+u % 10)]) 0 0=AG (Lib.decDigits (u / 10)) 0 0:=by
   unfold AG
   rw[Cy,Cy,List.getElem?_append_left hp]
  rw[e];exact this
theorem ABK(u:Nat):(-(u:Int)).tmod 10= -((u % 10:Nat):Int):=by
 rw[Int.neg_tmod];rfl
theorem tdiv_neg(u:Nat):(-(u:Int)).tdiv 10= -((u / 10:Nat):Int):=by
 rw[Int.neg_tdiv];rfl
theorem Sf(d:Nat)(h:d<=9):((-9223372036854775808:Int)+(d:Int)).tdiv 10= -(((9223372036854775808-d) / 10:Nat):Int):=by
 have e:((-9223372036854775808:Int)+(d:Int))= -((9223372036854775808-d:Nat):Int):=by omega
 rw[e,tdiv_neg]
theorem ALL(h:¬(-(v:Int)< -(((9223372036854775808-d) / 10:Nat):Int)))(hd:d<=9):v * 10+d<=9223372036854775808:=by omega
theorem ALm(h: -(v:Int)< -(((9223372036854775808-d) / 10:Nat):Int))(hd:d<=9):9223372036854775808<v * 10+d:=by omega
theorem ANS{r:List UInt8}(hv:H0 0 ((Pi s).take i)=some v)(hr:(Pi s).drop i=r)(hb:RJ<v):I5 s=none:=by
 unfold I5
 split
 ·rfl
 rw[VL _ i,hv,Option.bind_some]
 cases hx:H0 v ((Pi s).drop i)with
 |none=>rfl
 |some u=>
  have:=AIE _ _ _ hx
  rw[Option.bind_some]
  unfold RJ at *
  split
  ·rw[AB (by omega)]
  rw[AB (by omega)]
theorem AOO(hi:i<(Pi s).length)(hd:BO (AG (Pi s) i 0)=false):I5 s=none:=by
 unfold I5
 split
 ·rfl
 have:H0 0 (Pi s)=none:=by
  rw[VL _ i]
  cases hx:H0 0 ((Pi s).take i)with
  |none=>rfl
  |some v=>
   rw[Option.bind_some,Bg 0 hi,H0,AB (by simp[hd])]
 rw[this];rfl
end Go.Tri
