/-
 What a word is expanded to, in plain words.
-/
import Derived.Test.YtbndcpjklngfhaaGreatDoorPWord7
import Derived.Test.YtbndcpjklngfhaaGreatDoorPSplit
import Derived.Test.YtbndcpjklngfhaaGreatDoorPPat2
import Derived.Test.YtbndcpjklngfhaaGreatDoorPNum
import Derived.Test.YtbndcpjklngfhaaGreatDoorPExW
import Derived.Lib.Join
import Derived.Test.YtbndcpjklngfhaaGreatDoorPLex5
namespace Go.Tri
open Go.RowKit
variable {e r:Bool} {d:Int} {j k m kind:Nat} {ifs:List UInt8} {o al outs:List (List UInt8)}
structure Px where
 p:Pc
 st:Bool
def Hz(x:Px):List Value:=[Au x.p.t,.bool x.p.q,.bool x.p.s,.bool x.st]
def FD:Px:=⟨FE,false⟩
def brk:Px:=⟨FE,true⟩
def DR(l:List Vr)(n:List UInt8):Option Nat:=l.findIdx? fun v=>decide (v.name=n)
def FC(l:List Vr)(n:List UInt8):Vr:=match DR l n with
 |some i=>AG l i Ez
 |none=>⟨n,[],false,false,true⟩
def ADn(l:List Vr)(n:List UInt8):Nat:=(l.takeWhile fun v=>Op.bytesLess v.name n).length
def QT(l:List Vr)(x:Vr):List Vr:=match DR l x.name with
 |some i=>l.set i x
 |none=>l.take (ADn l x.name)++[x]++l.drop (ADn l x.name)
def Cm(l:List Vr)(n v:List UInt8):Nat×List Vr:=
 if CF n=false then(22,l)else if(FC l n).r=true then(63,l)else if 65536<v.length then(66,l)else if DR l n=none/\64<=l.length then(64,l)
 else(0,QT l ⟨(FC l n).name,v,(FC l n).e,(FC l n).r,false⟩)
def Ib(l:List Vr)(n:List UInt8)(e r:Bool):List Vr:=
 if CF n=false then l else if e=false/\r=false then l else if DR l n=none/\64<=l.length then l
 else QT l ⟨(FC l n).name,(FC l n).value,(FC l n).e||e,(FC l n).r||r,(FC l n).u⟩
structure Hx where
 vars:List Vr
 args:List (List UInt8)
 outs:List (List UInt8)
 asked:List (List UInt8)
def AeC:List UInt8:=[115,104,121,97,114,100]
def HK:List Vr:=[⟨[63],[48],false,false,false⟩,⟨[36],[50],false,false,false⟩,⟨[48],AeC,false,false,false⟩]
def FH(h:Hx)(n:List UInt8):List UInt8×Bool:=match DR HK n with
 |some i=>((AG HK i Ez).value,!(AG HK i Ez).u)
 |none=>
  if n≠[]/\BO (AG n 0 0)=true then(match I5 n with
   |some k=>if 1<=k/\k<=(h.args.length:Int)then(AG h.args (k-1).toNat [],true)else([],false)
   |none=>([],false))
  else if n=[35]then(Lib.itoa (h.args.length:Int),true)
  else((FC h.vars n).value,!(FC h.vars n).u)
def EL(l:List Vr):List Vr:=l.filter fun v=> !v.u
inductive XR where
 |ok (l:List Px) (h:Hx)
 |bad (e:Nat) (m:List UInt8) (h:Hx)
def B0(s:List UInt8)(q:Bool):List Px:=[⟨⟨s,q,true⟩,false⟩]
def stS(x:Px):List UInt8:=if x.st then[32]else[]
def BN(l:List Px):List UInt8:=l.flatMap fun x=>stS x++x.p.t
def Cr(l:List Px):List Ch:=l.flatMap fun x=>(if x.st then[(⟨32,false⟩:Ch)]else[])++x.p.t.map fun b=>⟨b,x.p.q⟩
def Gc(s:List UInt8):List UInt8:=Lib.trimRightS s [10]
def Pz:List UInt8:=[73,70,83]
def ND:List UInt8:=[72,79,77,69]
def ALG:List UInt8:=[32,9,10]
def Ge:List (List UInt8):=[[37],[37,37],[35],[35,35]]
def JN(t:List UInt8):Bool:=decide (t=[64])||decide (t=[42])
def QQ(h:Hx):List UInt8:=if(FH h Pz).2=true then(FH h Pz).1.take 1 else[32]
def OB(q:Bool)(l:List (List UInt8))(i:Nat):List Px:=(if 0<i then[brk]else[])++B0 (AG l i []) q
def Jd(q:Bool)(l:List (List UInt8))(i:Nat):List Px:=(List.range i).flatMap (OB q l)
def KJ(h:Hx)(t:List UInt8)(q:Bool):List Px:=
 if t=[42]/\q=true then B0 (Lib.join h.args (QQ h)) true else Jd q h.args h.args.length
def FI(h:Hx)(t:List UInt8):List UInt8×Bool:=if JN t=true then(Lib.join h.args [32],decide (h.args≠[]))else FH h t
def Ou(h:Hx)(t:List UInt8):Int:=if JN t=true then(h.args.length:Int)else((FI h t).1.length:Int)
def Nh(h:Hx)(t:List UInt8)(q:Bool):XR:=
 if(h.asked++[t]).length<=h.outs.length then .ok (B0 (Gc (AG h.outs h.asked.length [])) q) ⟨h.vars,h.args,h.outs,h.asked++[t]⟩else .bad 5 [] ⟨h.vars,h.args,h.outs,h.asked++[t]⟩
def isX(h:Hx)(t op:List UInt8):Bool:=(FI h t).2&&(!Dl op [58]||decide ((FI h t).1≠[]))
def opX(op:List UInt8):List UInt8:=Lib.trimPrefix op [58]
@[reducible] def Hx.put(h:Hx)(l:List Vr):Hx:=⟨l,h.args,h.outs,h.asked⟩
def RT(t op:List UInt8)(q:Bool):XR->XR
 | .bad e m h=>.bad e m h
 | .ok l h=>
  if op=[61]then(if CF t=false then .bad 22 [] h else if(Cm h.vars t (BN l)).1≠0 then .bad (Cm h.vars t (BN l)).1 [] h else .ok (B0 (BN l) q) (h.put (Cm h.vars t (BN l)).2))
  else if op=[63]then .bad 62 (BN l) h
  else if l=[]then .ok (B0 [] q) h else .ok l h
def AOg(v op:List UInt8)(q:Bool):XR->XR
 | .bad e m h=>.bad e m h
 | .ok l h=>.ok (B0 (KN (Cr l) v (decide (AG op 0 0=37)) (decide (op.length=2))) q) h
def HU(L:List Px):List Dw->Hx->XR
 | [],h=>.ok L h
 |s::r,h=>if(Cm h.vars s.1 (Lib.itoa s.2)).1≠0 then .bad (Cm h.vars s.1 (Lib.itoa s.2)).1 [] h else HU L r (h.put (Cm h.vars s.1 (Lib.itoa s.2)).2)
def Eh(l:List Px)(h:Hx):Int×List Dw×Nat:=Fc (BN l) ((EL h.vars).map Vr.nv)
def RB(q:Bool):XR->XR
 | .bad e m h=>.bad e m h
 | .ok l h=>if(Eh l h).2.2≠0 then .bad (Eh l h).2.2 [] h else HU (B0 (Lib.itoa (Eh l h).1) q) (Eh l h).2.1 h
def SQ(t:List UInt8)(q wi:Bool):List Px:=[⟨⟨t,q,wi&& !q⟩,false⟩]
mutual
def CZ(wi:Bool)(h:Hx):PT->XR
 | .mk k t op w q=>
  if k=2 then
   if JN t=true/\op=[]then .ok (KJ h t q) h
   else if op=[]then .ok (B0 (FI h t).1 q) h
   else if op=R8 then .ok (B0 (Lib.itoa (Ou h t)) q) h
   else if op∈Ge then(if 4096<(FI h t).1.length then .bad 66 [] h else AOg (FI h t).1 op q (CE false h [] w))
   else if opX op=[43]/\isX h t op=false then .ok (B0 [] q) h
   else if opX op≠[43]/\isX h t op=true then .ok (B0 (FI h t).1 q) h
   else RT t (opX op) q (CE true h [] w)
  else if k=4 then RB q (CE false h [] w)
  else if k=3 then Nh h t q
  else if k=5/\(FH h ND).2=true then .ok (B0 (FH h ND).1 true) h
  else .ok (SQ t q wi) h
def CE(wi:Bool)(h:Hx)(acc:List Px):List PT->XR
 | []=>.ok acc h
 |p::l=>match CZ wi h p with
  | .bad e m h=>.bad e m h
  | .ok m h'=>CE wi h' (acc++m) l
end
def IS(h:Hx)(s:List UInt8)(kind:Int):XR:=match Di s kind with
 | .bad e=>.bad e [] h
 | .ok l=>CE false h [] l
theorem Uk{l:List Vr}{n:List UInt8}{i:Nat}(h:i<l.length)(hn:(AG l i Ez).name=n)(Cz:∀k,k<i->(AG l k Ez).name≠n):DR l n=some i:=by
 unfold DR
 rw[List.findIdx?_eq_some_iff_getElem]
 refine⟨h,by rw[CT h]at hn;simp[hn],fun j hj=>?_⟩
 have:=Cz j hj
 rw[CT (by omega)]at this
 simp[this]
theorem Wc{l:List Vr}{n:List UInt8}(Cz:∀k,k<l.length->(AG l k Ez).name≠n):DR l n=none:=by
 unfold DR
 rw[List.findIdx?_eq_none_iff]
 intro x hx
 obtain⟨i,hi,rfl⟩:=List.getElem_of_mem hx
 have:=Cz i hi
 rw[CT hi]at this
 simp[this]
theorem Ns{l:List Vr}{n:List UInt8}{i:Nat}(h:DR l n=some i):i<l.length/\(AG l i Ez).name=n:=by
 unfold DR at h
 rw[List.findIdx?_eq_some_iff_getElem]at h
 obtain⟨h1,h2,_⟩:=h
 exact⟨h1,by rw[CT h1];simpa using h2⟩
theorem Qv{l:List Vr}{n:List UInt8}{i:Nat}(h:DR l n=some i):FC l n=AG l i Ez:=by unfold FC;rw[h]
theorem Nt{l:List Vr}{n:List UInt8}(h:DR l n=none):FC l n=⟨n,[],false,false,true⟩:=by unfold FC;rw[h]
theorem ADw(l:List Vr)(n:List UInt8):(FC l n).name=n:=by
 cases h:DR l n with
 |none=>rw[Nt h]
 |some i=>rw[Qv h];exact(Ns h).2
theorem ASL(l:List Vr)(n:List UInt8):ADn l n<=l.length:=(List.takeWhile_prefix _).length_le
theorem AUj{l:List Vr}{n:List UInt8}{i:Nat}(hi:i<=l.length)(Eg:∀k,k<i->Op.bytesLess (AG l k Ez).name n=true)(CS:i<l.length->Op.bytesLess (AG l i Ez).name n=false):ADn l n=i:=by
 unfold ADn
 have h1:l.takeWhile (fun v=>Op.bytesLess v.name n)=l.take i:=by
  conv=>lhs;rw[<-Iu i l]
  rw[List.takeWhile_append_of_pos]
  ·rcases Nat.lt_or_ge i l.length with h|h
   ·rw[Bg Ez h,List.takeWhile_cons,CS h];simp
   rw[E4 h];simp
  intro x hx
  obtain⟨k,hk,rfl⟩:=List.getElem_of_mem hx
  rw[BL]at hk
  have:=Eg k (by omega)
  rw[CT (by omega)]at this
  rw[List.getElem_take];exact this
 rw[h1,BL];omega
theorem Sd{l:List Vr}{x:Vr}{i:Nat}(h:DR l x.name=some i):QT l x=l.set i x:=by unfold QT;rw[h]
theorem TD{l:List Vr}{x:Vr}(h:DR l x.name=none):QT l x=l.take (ADn l x.name)++[x]++l.drop (ADn l x.name):=by unfold QT;rw[h]
theorem ACy(l:List Vr)(x:Vr):(QT l x).length=if DR l x.name=none then l.length+1 else l.length:=by
 cases h:DR l x.name with
 |none=>
  rw[TD h,AI O]
  have:=ASL l x.name
  simp only[Bh,BL,BA,CD,Bb];omega
 |some i=>rw[Sd h,Il,AB (by simp)]
theorem ABZ{l:List Vr}{x y:Vr}(h:y∈QT l x):y∈l\/y=x:=by
 cases hf:DR l x.name with
 |none=>
  rw[TD hf]at h
  simp only[Ic,FK]at h
  rcases h with (h|h)|h
  ·exact .inl (List.mem_of_mem_take h)
  ·exact .inr h
  exact .inl (List.mem_of_mem_drop h)
 |some i=>
  rw[Sd hf]at h
  exact List.mem_or_eq_of_mem_set h
theorem Ik{l:List Vr}{n v:List UInt8}(h:l.length<=64):(Cm l n v).2.length<=64:=by
 unfold Cm
 split
 ·exact h
 split
 ·exact h
 split
 ·exact h
 split
 ·exact h
 rename_i hx
 show(QT l _).length<=64
 rw[ACy]
 show(if DR l (FC l n).name=none then _ else _)<=64
 rw[ADw]
 split
 ·rename_i hf
  have:¬64<=l.length:=fun h64=>hx ⟨hf,h64⟩
  omega
 exact h
theorem SK{l:List Vr}{n:List UInt8}(h:l.length<=64):(Ib l n e r).length<=64:=by
 unfold Ib
 split
 ·exact h
 split
 ·exact h
 split
 ·exact h
 rename_i hx
 rw[ACy]
 show(if DR l (FC l n).name=none then _ else _)<=64
 rw[ADw]
 split
 ·rename_i hf
  have:¬64<=l.length:=fun h64=>hx ⟨hf,h64⟩
  omega
 exact h
def Gr(l:List Vr)(n:List UInt8):Int:=match DR l n with
 |some i=>(i:Int)
 |none=> -1
theorem AFv{l:List Vr}{n:List UInt8}{i:Nat}(h:i<l.length)(hn:(AG l i Ez).name=n)(Cz:∀k,k<i->(AG l k Ez).name≠n):Gr l n=i:=by unfold Gr;rw[Uk h hn Cz]
theorem AGS{l:List Vr}{n:List UInt8}(Cz:∀k,k<l.length->(AG l k Ez).name≠n):Gr l n= -1:=by unfold Gr;rw[Wc Cz]
theorem TA{l:List Vr}{n:List UInt8}(h:0<=Gr l n):DR l n=some (Gr l n).toNat:=by
 unfold Gr at *
 cases hf:DR l n with
 |none=>rw[hf]at h;exact Ac h (by decide)
 |some i=>simp
theorem OK{l:List Vr}{n:List UInt8}(h:Gr l n<0):DR l n=none:=by
 unfold Gr at h
 cases hf:DR l n with
 |none=>rfl
 |some i=>rw[hf]at h;simp only at h;omega
theorem YW{l:List Vr}{n:List UInt8}(h:DR l n=none):Gr l n<0:=by unfold Gr;rw[h];decide
theorem ABo{l:List Vr}{n:List UInt8}(h:0<=Gr l n):(Gr l n).toNat<l.length/\FC l n=AG l (Gr l n).toNat Ez:=⟨(Ns (TA h)).1,Qv (TA h)⟩
theorem ASO{l:List Vr}{n:List UInt8}(h:Gr l n<0):FC l n=⟨n,[],false,false,true⟩:=Nt (OK h)
theorem ATN{l:List Vr}{x:Vr}(h:0<=Gr l x.name):QT l x=l.set (Gr l x.name).toNat x:=Sd (TA h)
theorem ALW{l:List Vr}{n v:List UInt8}(h1:CF n=false):Cm l n v=(22,l):=by unfold Cm;rw[AI h1]
theorem AUD{l:List Vr}{n v:List UInt8}(h1:CF n=true)(h2:(FC l n).r=true):Cm l n v=(63,l):=by unfold Cm;rw[AB (by rw[h1];simp),AI h2]
theorem ALD{l:List Vr}{n v:List UInt8}(h1:CF n=true)(h2:(FC l n).r=false)(h3:65536<v.length):Cm l n v=(66,l):=by unfold Cm;rw[AB (by rw[h1];simp),AB (by rw[h2];simp),AI h3]
theorem ALi{l:List Vr}{n v:List UInt8}(h1:CF n=true)(h2:(FC l n).r=false)(h3:¬65536<v.length)(h4:DR l n=none)(h5:64<=l.length):Cm l n v=(64,l):=by unfold Cm;rw[AB (by rw[h1];simp),AB (by rw[h2];simp),AB h3,AI ⟨h4,h5⟩]
theorem ATw{l:List Vr}{n v:List UInt8}(h1:CF n=true)(h2:(FC l n).r=false)(h3:¬65536<v.length)(h4:¬(DR l n=none/\64<=l.length)):Cm l n v=(0,QT l ⟨(FC l n).name,v,(FC l n).e,(FC l n).r,false⟩):=by unfold Cm;rw[AB (by rw[h1];simp),AB (by rw[h2];simp),AB h3,AB h4]
theorem AGA{l:List Vr}{n:List UInt8}(h1:CF n=false):Ib l n e r=l:=by unfold Ib;rw[AI h1]
theorem U8{l:List Vr}{n:List UInt8}(h1:CF n=true)(h2:e=false/\r=false):Ib l n e r=l:=by unfold Ib;rw[AB (by rw[h1];simp),AI h2]
theorem AFi{l:List Vr}{n:List UInt8}(h1:CF n=true)(h2:¬(e=false/\r=false))(h4:DR l n=none)(h5:64<=l.length):Ib l n e r=l:=by unfold Ib;rw[AB (by rw[h1];simp),AB h2,AI ⟨h4,h5⟩]
theorem ANa{l:List Vr}{n:List UInt8}(h1:CF n=true)(h2:¬(e=false/\r=false))(h4:¬(DR l n=none/\64<=l.length)):Ib l n e r=QT l ⟨(FC l n).name,(FC l n).value,(FC l n).e||e,(FC l n).r||r,(FC l n).u⟩:=by unfold Ib;rw[AB (by rw[h1];simp),AB h2,AB h4]
def EM(l:List (List UInt8)):List (List UInt8):=if l.length<=200 then l else[]
theorem APX{h:Hx}{n:List UInt8}{i:Nat}(hf:DR HK n=some i):FH h n=((AG HK i Ez).value,!(AG HK i Ez).u):=by unfold FH;rw[hf]
theorem ARa{h:Hx}{n:List UInt8}(hf:DR HK n=none)(hd:(decide (n≠[])&&BO (AG n 0 0))=true)(hk:((I5 n).isSome&&decide (1<=(I5 n).getD 0)&&decide ((I5 n).getD 0<=(h.args.length:Int)))=true):FH h n=(AG h.args ((I5 n).getD 0-1).toNat [],true):=by
 rw[Ay,BC]at hd
 rw[Ay,Ay,BC,BC]at hk
 unfold FH
 rw[hf]
 simp only
 rw[AI hd]
 cases hn:I5 n with
 |none=>rw[hn]at hk;exact Ac hk.1.1 (by simp)
 |some k=>
  rw[hn]at hk
  simp only[Option.getD_some]at hk ⊢
  rw[AI ⟨hk.1.2,hk.2⟩]
theorem ALO{h:Hx}{n:List UInt8}(hf:DR HK n=none)(hd:(decide (n≠[])&&BO (AG n 0 0))=true)(hk:((I5 n).isSome&&decide (1<=(I5 n).getD 0)&&decide ((I5 n).getD 0<=(h.args.length:Int)))=false):FH h n=([],false):=by
 rw[Ay,BC]at hd
 unfold FH
 rw[hf]
 simp only
 rw[AI hd]
 cases hn:I5 n with
 |none=>rfl
 |some k=>
  rw[hn]at hk
  simp only[Option.getD_some,Option.isSome_some,Bool.true_and]at hk ⊢
  rw[AB]
  rintro⟨h1,h2⟩
  rw[BK h1,BK h2]at hk
  cases hk
theorem ARN{h:Hx}(hf:DR HK [35]=none):FH h [35]=(Lib.itoa (h.args.length:Int),true):=by
 unfold FH
 rw[hf]
 simp only
 rw[AB (by decide),AI trivial]
theorem AOh{h:Hx}{n:List UInt8}(hf:DR HK n=none)(hd:(decide (n≠[])&&BO (AG n 0 0))=false)(hn:n≠[35]):FH h n=((FC h.vars n).value,!(FC h.vars n).u):=by
 unfold FH
 rw[hf]
 simp only
 rw[AB (fun h9=>by rw[BK h9.1,h9.2]at hd;cases hd),AB hn]
theorem MC(q:Bool)(l:List (List UInt8))(i:Nat):Jd q l (i+1)=Jd q l i++OB q l i:=by
 unfold Jd;rw[List.range_succ,List.flatMap_append];simp
theorem Lo(a b:List Px):BN (a++b)=BN a++BN b:=by unfold BN;rw[List.flatMap_append]
theorem Mh{l:List Px}{i:Nat}(h:i<l.length):BN (l.take (i+1))=BN (l.take i)++stS (AG l i FD)++(AG l i FD).p.t:=by
 rw[C6 FD h,Lo]
 unfold BN;simp
theorem Qq(h:Hx):(QQ h).length<=1:=by
 unfold QQ
 split
 ·rw[BL];omega
 simp
structure HB(h:Hx):Prop where
 vv:∀v∈h.vars,v.value.length<=65536
 aa:∀a∈h.args,a.length<=65536
 oo:∀o∈h.outs,o.length<=65536
 aj:∀sep:List UInt8,sep.length<=1->(Lib.join h.args sep).length<=65536
 an:h.args.length<=200
 vn:h.vars.length<=64
theorem ALy{l:List Vr}{n v:List UInt8}(h:(Cm l n v).1≠0):(Cm l n v).2=l:=by
 unfold Cm at *
 split
 ·rfl
 rename_i h1
 rw[AB h1]at h
 split
 ·rfl
 rename_i h2
 rw[AB h2]at h
 split
 ·rfl
 rename_i h3
 rw[AB h3]at h
 split
 ·rfl
 rename_i h4
 rw[AB h4]at h
 exact Ac O h
theorem Hx.put_keep{h:Hx}{n v:List UInt8}(he:(Cm h.vars n v).1≠0):h.put (Cm h.vars n v).2=h:=by rw[ALy he]
section
variable {t op v:List UInt8} {q wi:Bool} {l:List Px} {h:Hx} {w:List PT}
theorem X1(ho:op=[61])(hn:CF t=false):RT t op q (.ok l h)=.bad 22 [] h:=by
 show(if _ then _ else _)=_
 rw[AI ho,AI hn]
theorem ADr(ho:op=[61])(hn:CF t=true)(he:(Cm h.vars t (BN l)).1≠0):RT t op q (.ok l h)=.bad (Cm h.vars t (BN l)).1 [] h:=by
 show(if _ then _ else _)=_
 rw[AI ho,AB (by rw[hn];simp),AI he]
theorem ADz(ho:op=[61])(hn:CF t=true)(he:(Cm h.vars t (BN l)).1=0):RT t op q (.ok l h)=.ok (B0 (BN l) q) (h.put (Cm h.vars t (BN l)).2):=by
 show(if _ then _ else _)=_
 rw[AI ho,AB (by rw[hn];simp),AB (by rw[he];simp)]
theorem ACA(ho:op=[63]):RT t op q (.ok l h)=.bad 62 (BN l) h:=by
 show(if _ then _ else _)=_
 rw[AB (by rw[ho];decide),AI ho]
theorem ADc(h1:op≠[61])(h2:op≠[63])(hl:l=[]):RT t op q (.ok l h)=.ok (B0 [] q) h:=by
 show(if _ then _ else _)=_
 rw[AB h1,AB h2,AI hl]
theorem AMs(h1:op≠[61])(h2:op≠[63])(hl:l≠[]):RT t op q (.ok l h)=.ok l h:=by
 show(if _ then _ else _)=_
 rw[AB h1,AB h2,AB hl]
theorem Abe(h1:JN t=true)(h2:op=[]):CZ wi h (.mk 2 t op w q)=.ok (KJ h t q) h:=by
 rw[CZ,AI O,AI ⟨h1,h2⟩]
theorem AcS(h1:JN t=false)(h2:op=[]):CZ wi h (.mk 2 t op w q)=.ok (B0 (FI h t).1 q) h:=by
 rw[CZ,AI O,AB (by rw[h1];simp),AI h2]
theorem AdX(h2:op=R8):CZ wi h (.mk 2 t op w q)=.ok (B0 (Lib.itoa (Ou h t)) q) h:=by
 rw[CZ,AI O,AB (by rw[h2];simp[R8]),AB (by rw[h2];decide),AI h2]
theorem N7(h3:op∈Ge):op≠[]/\op≠R8:=by
 simp only[Ge,Ci,List.not_mem_nil,or_false]at h3
 rcases h3 with rfl|rfl|rfl|rfl<;>decide
theorem ARY(h3:op∈Ge)(h4:4096<(FI h t).1.length):CZ wi h (.mk 2 t op w q)=.bad 66 [] h:=by
 rw[CZ,AI O,AB (fun h9=>(N7 h3).1 h9.2),AB (N7 h3).1,AB (N7 h3).2,AI h3,AI h4]
theorem ASe(h3:op∈Ge)(h4:¬4096<(FI h t).1.length):CZ wi h (.mk 2 t op w q)=AOg (FI h t).1 op q (CE false h [] w):=by
 rw[CZ,AI O,AB (fun h9=>(N7 h3).1 h9.2),AB (N7 h3).1,AB (N7 h3).2,AI h3,AB h4]
theorem AeP(h1:op≠[])(h2:op≠R8)(h3:op ∉ Ge)(h4:opX op=[43])(h5:isX h t op=false):CZ wi h (.mk 2 t op w q)=.ok (B0 [] q) h:=by
 rw[CZ,AI O,AB (fun h9=>h1 h9.2),AB h1,AB h2,AB h3,AI ⟨h4,h5⟩]
theorem AbW(h1:op≠[])(h2:op≠R8)(h3:op ∉ Ge)(h4:opX op≠[43])(h5:isX h t op=true):CZ wi h (.mk 2 t op w q)=.ok (B0 (FI h t).1 q) h:=by
 rw[CZ,AI O,AB (fun h9=>h1 h9.2),AB h1,AB h2,AB h3,AB (fun h9=>h4 h9.1),AI ⟨h4,h5⟩]
theorem ABt(h1:op≠[])(h2:op≠R8)(h3:op ∉ Ge)(h4:¬(opX op=[43]/\isX h t op=false))(h5:¬(opX op≠[43]/\isX h t op=true)):CZ wi h (.mk 2 t op w q)=RT t (opX op) q (CE true h [] w):=by
 rw[CZ,AI O,AB (fun h9=>h1 h9.2),AB h1,AB h2,AB h3,AB h4,AB h5]
end
def ABh(l:List Vr)(v:Vr):List Vr:=Ib (if v.u=true then l else(Cm l v.name v.value).2) v.name v.e v.r
def HS(vars:List Vr):List Vr:=vars.foldl ABh []
theorem AKn{vars:List Vr}{i:Nat}(h:i<vars.length):HS (vars.take (i+1))=Ib (if(AG vars i Ez).u=true then HS (vars.take i)else(Cm (HS (vars.take i)) (AG vars i Ez).name (AG vars i Ez).value).2) (AG vars i Ez).name (AG vars i Ez).e (AG vars i Ez).r:=by
 unfold HS
 rw[C6 Ez h,ADZ];rfl
theorem SL(l:List (List UInt8)):(EM l).length<=200:=by
 unfold EM
 split
 ·assumption
 exact Aw _
def Vs:List UInt8:=[36,120,36,120]
def xV(v:List UInt8):Vr:=⟨[120],v,false,false,false⟩
def L5:Hx:=⟨[xV [97,32,98]],[],[],[]⟩
structure Nd where
 kind:Int
 mode:Int
 links:Int
 holds:Int
 parent:Int
 data:List UInt8
 names:List (List UInt8)
 inos:List Int
def JI:Nd:=⟨0,0,0,0,0,[],[],[]⟩
def isN(fs:List Nd)(i:Int):Bool:=decide (0<i)&&decide (i<(fs.length:Int))&&decide (0<(AG fs i.toNat JI).kind)
def AKl(fs:List Nd)(i:Int):Bool:=isN fs i&&decide ((AG fs i.toNat JI).kind=2)
def RP(fs:List Nd)(i w:Int):Bool:=if(!isN fs i||decide (w<1)||decide (7<w))=true then false else decide (MU ((F4 ((AG fs i.toNat JI).mode.tdiv 64)).tmod 8) w=w)
def Qr(nd:Nd)(n:List UInt8):Int:=match nd.names.findIdx? fun x=>decide (x=n)with
 |some i=>AG nd.inos i 0
 |none=>0
def KP(p:List UInt8):Nat->List (List UInt8)×Nat
 |0=>([],0)
 |i+1=>if i=p.length\/AG p i 0=47 then((if(KP p i).2<i then(KP p i).1++[(p.drop (KP p i).2).take (i-(KP p i).2)]else(KP p i).1),i+1)else KP p i
def BQ(p:List UInt8):List (List UInt8):=(KP p (p.length+1)).1
def OD(p:List UInt8):Bool:=decide (p≠[])&&decide (AG p (p.length-1) 0=47)
def Cv(fs:List Nd)(d:Int)(p:List UInt8):Int×Int:=
 if AKl fs d=false then(0,9)else if p=[]then(0,2)else if 256<p.length then(0,36)else if AG p 0 0=47 then(1,0)else(d,0)
def Fe(fs:List Nd)(a:Int)(q:List UInt8):Int×Int:=
 if(AG fs a.toNat JI).kind≠2 then(0,20)else if RP fs a 1=false then(0,13)else if q=[46]then(a,0)
 else if q=[46,46]/\(AG fs a.toNat JI).links=0 then(0,2)else if q=[46,46]then((AG fs a.toNat JI).parent,0)else if 32<q.length then(0,36)
 else if Qr (AG fs a.toNat JI) q=0 then(0,2)else(Qr (AG fs a.toNat JI) q,0)
def EJ(fs:List Nd):Int->List (List UInt8)->Int×Int
 |a,[]=>(a,0)
 |a,q::r=>if(Fe fs a q).2≠0 then(0,(Fe fs a q).2)else EJ fs (Fe fs a q).1 r
def G9(l:List (List UInt8)):List UInt8:=AG l (l.length-1) []
def B7(fs:List Nd)(d:Int)(p:List UInt8):Int×List UInt8×Int:=
 if(Cv fs d p).2≠0 then(0,[],(Cv fs d p).2)
 else
  let l:=BQ p
  let s:=EJ fs (Cv fs d p).1 (l.take (l.length-1))
  if s.2≠0 then(0,[],s.2)else if(AG fs s.1.toNat JI).kind≠2 then(0,[],20)else if RP fs s.1 1=false then(0,[],13)
  else if l=[]\/G9 l=[46]\/G9 l=[46,46]then(0,[],22)else if 32<(G9 l).length then(0,[],36)else(s.1,G9 l,0)
def QM(fs:List Nd)(d:Int)(p:List UInt8):Int×Int:=EJ fs (Cv fs d p).1 ((BQ p).take ((BQ p).length-1))
theorem HG(fs:List Nd)(d:Int)(p:List UInt8):B7 fs d p=if(Cv fs d p).2≠0 then(0,[],(Cv fs d p).2)else if(QM fs d p).2≠0 then(0,[],(QM fs d p).2)else if(AG fs (QM fs d p).1.toNat JI).kind≠2 then(0,[],20)else if RP fs (QM fs d p).1 1=false then(0,[],13)
 else if BQ p=[]\/G9 (BQ p)=[46]\/G9 (BQ p)=[46,46]then(0,[],22)else if 32<(G9 (BQ p)).length then(0,[],36)else((QM fs d p).1,G9 (BQ p),0):=rfl
def M1(fs:List Nd):Nat:=(fs.filter fun x=>decide (0<x.kind)).length
def O7(fs:List Nd):Nat->Nat->Nat
 |0,i=>i
 |f+1,i=>if i<fs.length/\0<(AG fs i JI).kind then O7 fs f (i+1)else i
def ADV(l:List (List UInt8))(n:List UInt8):Nat:=(l.takeWhile fun x=>Op.bytesLess x n).length
def Ox(fs:List Nd)(d:Nat)(n:List UInt8)(k:Int):List Nd:=
 let x:=AG fs d JI
 fs.set d ⟨x.kind,x.mode,x.links,x.holds,x.parent,x.data,x.names.take (ADV x.names n)++[n]++x.names.drop (ADV x.names n),x.inos.take (ADV x.names n)++[k]++x.inos.drop (ADV x.names n)⟩
def mkE(fs:List Nd)(a:Int)(n:List UInt8)(kind mode:Int):Nat×List Nd:=
 let i:=O7 fs fs.length 1
 (i,Ox ((if i=fs.length then fs++[JI]else fs).set i ⟨kind,MU mode 511,1,0,a,[],[],[]⟩) a.toNat n i)
def Fk(fs:List Nd)(d:Int)(p:List UInt8)(kind mode:Int):Int×Int×List Nd:=
 let s:=B7 fs d p
 if s.2.2≠0 then(0,s.2.2,fs)else if kind=1/\OD p=true then(0,21,fs)else if 0<Qr (AG fs s.1.toNat JI) s.2.1 then(0,17,fs)
 else if(AG fs s.1.toNat JI).links=0 then(0,2,fs)else if RP fs s.1 2=false then(0,13,fs)else if 100<=M1 fs then(0,23,fs)
 else((mkE fs s.1 s.2.1 kind mode).1,0,(mkE fs s.1 s.2.1 kind mode).2)
structure NG(fs:List Nd):Prop where
 two:2<=fs.length
 par:∀x∈fs,0<=x.parent/\x.parent<fs.length
 ino:∀x∈fs,∀k∈x.inos,0<=k/\k<fs.length
 len:∀x∈fs,x.inos.length=x.names.length
theorem APW{fs:List Nd}{i:Int}(h:isN fs i=true):0<i/\i<fs.length:=by
 unfold isN at h
 rw[Ay,Ay,BC,BC]at h
 exact h.1
theorem QZ{fs:List Nd}(hw:NG fs){p:List UInt8}(h:(Cv fs d p).2=0):0<=(Cv fs d p).1/\(Cv fs d p).1<fs.length:=by
 unfold Cv at *
 split
 ·rename_i h1;rw[AI h1]at h;cases h
 rename_i h1
 rw[AB h1]at h
 have hd:AKl fs d=true:=by cases hd:AKl fs d with|true=>rfl|false=>exact Ac hd h1
 unfold AKl at hd
 rw[Ay]at hd
 have:=APW hd.1
 split
 ·rename_i h2;rw[AI h2]at h;cases h
 rename_i h2
 rw[AB h2]at h
 split
 ·rename_i h3;rw[AI h3]at h;cases h
 have:=hw.two
 split
 ·exact⟨by decide,by show(1:Int)<_;omega⟩
 exact⟨by show 0<=d;omega,by show d<_;omega⟩
theorem AZC{fs:List Nd}(hw:NG fs){x:Nd}(hx:x∈fs)(n:List UInt8):0<=Qr x n/\Qr x n<fs.length:=by
 have:=hw.two
 unfold Qr
 split
 ·rename_i i hi
  rw[List.findIdx?_eq_some_iff_getElem]at hi
  obtain⟨h1,_,_⟩:=hi
  have hl:i<x.inos.length:=by rw[hw.len x hx];exact h1
  exact hw.ino x hx _ (BE hl)
 exact⟨Int.le_refl _,by omega⟩
theorem ZO{fs:List Nd}(hw:NG fs){a:Int}(ha:0<=a/\a<fs.length)(q:List UInt8):0<=(Fe fs a q).1/\(Fe fs a q).1<fs.length:=by
 have h2:=hw.two
 have hx:AG fs a.toNat JI∈fs:=BE (by omega)
 have hz:(0:Int)<=0/\(0:Int)<fs.length:=⟨Int.le_refl _,by omega⟩
 unfold Fe
 split
 ·exact hz
 split
 ·exact hz
 split
 ·exact ha
 split
 ·exact hz
 split
 ·exact hw.par _ hx
 split
 ·exact hz
 split
 ·exact hz
 exact AZC hw hx q
theorem Uh{fs:List Nd}(hw:NG fs):∀(l:List (List UInt8)) (a:Int),0<=a/\a<fs.length->0<=(EJ fs a l).1/\(EJ fs a l).1<fs.length
 | [],a,ha=>ha
 |q::r,a,ha=>by
  have h2:=hw.two
  rw[EJ]
  split
  ·exact⟨Int.le_refl _,by show(0:Int)<_;omega⟩
  exact Uh hw r _ (ZO hw ha q)
theorem WA{fs:List Nd}(hw:NG fs){p:List UInt8}:0<=(B7 fs d p).1/\(B7 fs d p).1<fs.length:=by
 have h2:=hw.two
 have hz:(0:Int)<=0/\(0:Int)<fs.length:=⟨Int.le_refl _,by omega⟩
 unfold B7
 split
 ·exact hz
 rename_i h1
 have hb:=QZ hw (d:=d) (p:=p) (by omega)
 simp only
 split
 ·exact hz
 split
 ·exact hz
 split
 ·exact hz
 split
 ·exact hz
 split
 ·exact hz
 exact Uh hw _ _ hb
theorem AIQ{fs:List Nd}:∀(f i:Nat),i<=fs.length->fs.length-i<=f->O7 fs f i<=fs.length/\i<=O7 fs f i
 |0,i,h,_=>⟨h,A5 _⟩
 |f+1,i,h,hf=>by
  rw[O7]
  split
  ·rename_i h1
   have:=AIQ (fs:=fs) f (i+1) (by omega) (by omega)
   omega
  omega
theorem AUk{fs:List Nd}{i f:Nat}(hij:i<=j)(hgo:∀k,i<=k->k<j->k<fs.length/\0<(AG fs k JI).kind)(CS:¬(j<fs.length/\0<(AG fs j JI).kind))(hf:j-i<=f):O7 fs f i=j:=by
 induction f generalizing i with
 |zero=>rw[O7];omega
 |succ f ih=>
  rw[O7]
  rcases Nat.lt_or_ge i j with h|h
  ·rw[AI (hgo i (A5 _) h)]
   exact ih (by omega) (fun k h1 h2=>hgo k (by omega) h2) (by omega)
  obtain rfl:i=j:=by omega
  rw[AB CS]
theorem AIx(l:List (List UInt8))(n:List UInt8):ADV l n<=l.length:=(List.takeWhile_prefix _).length_le
theorem ASU{l:List (List UInt8)}{n:List UInt8}{i:Nat}(hi:i<=l.length)(Eg:∀k,k<i->Op.bytesLess (AG l k []) n=true)(CS:i<l.length->Op.bytesLess (AG l i []) n=false):ADV l n=i:=by
 unfold ADV
 have h1:l.takeWhile (fun x=>Op.bytesLess x n)=l.take i:=by
  conv=>lhs;rw[<-Iu i l]
  rw[List.takeWhile_append_of_pos]
  ·rcases Nat.lt_or_ge i l.length with h|h
   ·rw[Bg [] h,List.takeWhile_cons,CS h];simp
   rw[E4 h];simp
  intro x hx
  obtain⟨k,hk,rfl⟩:=List.getElem_of_mem hx
  rw[BL]at hk
  have:=Eg k (by omega)
  rw[CT (by omega)]at this
  rw[List.getElem_take];exact this
 rw[h1,BL];omega
theorem ASv{fs:List Nd}(hw:NG fs){d:Nat}(hd:d<fs.length){n:List UInt8}{k:Int}(hk:0<=k/\k<fs.length):NG (Ox fs d n k):=by
 have hx:AG fs d JI∈fs:=BE hd
 have Dg:(Ox fs d n k).length=fs.length:=by unfold Ox;simp only;rw[Il]
 have CH:=AIx (AG fs d JI).names n
 have DK:=hw.len _ hx
 have key:∀y∈Ox fs d n k,y∈fs\/(y.parent=(AG fs d JI).parent/\(∀j∈y.inos,j∈(AG fs d JI).inos\/j=k)/\y.inos.length=y.names.length):=by
  intro y hy
  unfold Ox at hy
  simp only at hy
  rcases List.mem_or_eq_of_mem_set hy with hy|rfl
  ·exact .inl hy
  refine .inr ⟨O,fun j hj=>?_,?_⟩
  ·simp only[Ic,FK]at hj
   rcases hj with (hj|hj)|hj
   ·exact .inl (List.mem_of_mem_take hj)
   ·exact .inr hj
   exact .inl (List.mem_of_mem_drop hj)
  simp only[Bh,BL,BA,KZ];omega
 refine⟨by rw[Dg];exact hw.two,fun y hy=>?_,fun y hy j hj=>?_,fun y hy=>?_⟩
 ·rw[Dg]
  rcases key y hy with h|h
  ·exact hw.par y h
  rw[h.1];exact hw.par _ hx
 ·rw[Dg]
  rcases key y hy with h|h
  ·exact hw.ino y h j hj
  rcases h.2.1 j hj with h3|rfl
  ·exact hw.ino _ hx j h3
  exact hk
 rcases key y hy with h|h
 ·exact hw.len y h
 exact h.2.2
theorem AZK{fs:List Nd}(hw:NG fs){a:Int}(ha:0<=a/\a<fs.length)(n:List UInt8)(kind mode:Int):NG (mkE fs a n kind mode).2:=by
 have h2:=hw.two
 obtain⟨hf1,hf2⟩:=AIQ (fs:=fs) fs.length 1 (by omega) (by omega)
 unfold mkE
 simp only
 generalize O7 fs fs.length 1=i at *
 have Ri:(if i=fs.length then fs++[JI]else fs).length=if i=fs.length then fs.length+1 else fs.length:=by split<;>simp
 generalize hg:(if i=fs.length then fs++[JI]else fs)=g at *
 have hgl:fs.length<=g.length/\i<g.length:=by
  rw[Ri];split
  ·omega
  omega
 have AXO:∀x∈g,x∈fs\/x=JI:=by
  intro x hx
  rw[<-hg]at hx
  split at hx
  ·rcases Ic.1 hx with h|h
   ·exact .inl h
   exact .inr (FK.1 h)
  exact .inl hx
 have JM:NG (g.set i ⟨kind,MU mode 511,1,0,a,[],[],[]⟩):=by
  refine⟨by rw[Il];omega,fun x hx=>?_,fun x hx j hj=>?_,fun x hx=>?_⟩
  ·rw[Il]
   rcases List.mem_or_eq_of_mem_set hx with hx|rfl
   ·rcases AXO x hx with h|rfl
    ·have:=hw.par x h;omega
    exact⟨Int.le_refl _,by show(0:Int)<_;omega⟩
   exact⟨ha.1,by show a<_;omega⟩
  ·rw[Il]
   rcases List.mem_or_eq_of_mem_set hx with hx|rfl
   ·rcases AXO x hx with h|rfl
    ·have:=hw.ino x h j hj;omega
    cases hj
   cases hj
  rcases List.mem_or_eq_of_mem_set hx with hx|rfl
  ·rcases AXO x hx with h|rfl
   ·exact hw.len x h
   rfl
  rfl
 exact ASv JM (by rw[Il];omega) ⟨by omega,by rw[Il];omega⟩
theorem AMe{fs:List Nd}(hw:NG fs)(d:Int)(p:List UInt8)(kind mode:Int):NG (Fk fs d p kind mode).2.2:=by
 have ha:=WA hw (d:=d) (p:=p)
 unfold Fk
 simp only
 split
 ·exact hw
 split
 ·exact hw
 split
 ·exact hw
 split
 ·exact hw
 split
 ·exact hw
 split
 ·exact hw
 exact AZK hw ha _ _ _
theorem APz(fs:List Nd)(d:Nat)(n:List UInt8)(k:Int):(Ox fs d n k).length=fs.length:=by unfold Ox;simp only;rw[Il]
theorem AKS(fs:List Nd)(d:Int)(p:List UInt8)(kind mode:Int):(Fk fs d p kind mode).2.2.length<=fs.length+1:=by
 unfold Fk
 simp only
 repeat' split
 all_goals first | (show fs.length<=_;omega)|skip
 unfold mkE
 simp only
 rw[APz,Il]
 split
 ·rw[Bh];exact A5 _
 omega
def fs0:List Nd:=[JI,⟨2,493,1,0,1,[],[],[]⟩]
theorem AOo:NG fs0:=by
 refine⟨by decide,?_,?_,?_⟩
 ·intro x hx
  simp only[fs0,Ci,List.not_mem_nil,or_false]at hx
  rcases hx with rfl|rfl<;>decide
 ·intro x hx k hk
  simp only[fs0,Ci,List.not_mem_nil,or_false]at hx
  rcases hx with rfl|rfl<;>cases hk
 intro x hx
 simp only[fs0,Ci,List.not_mem_nil,or_false]at hx
 rcases hx with rfl|rfl<;>rfl
def ARP(p:List UInt8):Bool:=decide (1<p.length)&&decide (AG p (p.length-1) 0=47)
def Ol(fs:List Nd)(p:List UInt8):List Nd:=if ARP p=true then(Fk fs 1 p 2 493).2.2 else(Fk fs 1 p 1 420).2.2
def GF(ps:List (List UInt8)):List Nd:=ps.foldl Ol fs0
theorem AHv{fs:List Nd}(hw:NG fs)(p:List UInt8):NG (Ol fs p):=by
 unfold Ol;split<;>exact AMe hw _ _ _ _
theorem APp(fs:List Nd)(p:List UInt8):(Ol fs p).length<=fs.length+1:=by
 unfold Ol;split<;>exact AKS _ _ _ _ _
theorem Y3{ps:List (List UInt8)}{i:Nat}(h:i<ps.length):GF (ps.take (i+1))=Ol (GF (ps.take i)) (AG ps i []):=by
 unfold GF
 rw[C6 [] h,ADZ];rfl
theorem US(ps:List (List UInt8)):NG (GF ps)/\(GF ps).length<=2+ps.length:=by
 have key:∀(ps:List (List UInt8)) (fs:List Nd),NG fs->NG (ps.foldl Ol fs)/\(ps.foldl Ol fs).length<=fs.length+ps.length:=by
  intro ps
  induction ps with
  |nil=>intro fs h;exact⟨h,A5 _⟩
  |cons p ps ih=>
   intro fs h
   have h1:=ih (Ol fs p) (AHv h p)
   have h2:=APp fs p
   exact⟨h1.1,by rw[Qz,CD];omega⟩
 exact key ps fs0 AOo
theorem AUd{nd:Nd}{n:List UInt8}{i:Nat}(h:i<nd.names.length)(hn:AG nd.names i []=n)(Cz:∀j,j<i->AG nd.names j []≠n):Qr nd n=AG nd.inos i 0:=by
 have:(nd.names.findIdx? fun x=>decide (x=n))=some i:=by
  rw[List.findIdx?_eq_some_iff_getElem]
  refine⟨h,by rw[CT h]at hn;simp[hn],fun j hj=>?_⟩
  have:=Cz j hj
  rw[CT (by omega)]at this
  simp[this]
 unfold Qr;rw[this]
theorem AQq{nd:Nd}{n:List UInt8}(Cz:∀j,j<nd.names.length->AG nd.names j []≠n):Qr nd n=0:=by
 have:(nd.names.findIdx? fun x=>decide (x=n))=none:=by
  rw[List.findIdx?_eq_none_iff]
  intro x hx
  obtain⟨i,hi,rfl⟩:=List.getElem_of_mem hx
  have:=Cz i hi
  rw[CT hi]at this
  simp[this]
 unfold Qr;rw[this]
theorem Ih(fs:List Nd)(d:Int)(p:List UInt8)(kind mode:Int):Fk fs d p kind mode=if(B7 fs d p).2.2≠0 then((0:Int),(B7 fs d p).2.2,fs)else if kind=1/\OD p=true then(0,21,fs)else if 0<Qr (AG fs (B7 fs d p).1.toNat JI) (B7 fs d p).2.1 then(0,17,fs)
 else if(AG fs (B7 fs d p).1.toNat JI).links=0 then(0,2,fs)else if RP fs (B7 fs d p).1 2=false then(0,13,fs)else if 100<=M1 fs then(0,23,fs)
 else(((mkE fs (B7 fs d p).1 (B7 fs d p).2.1 kind mode).1:Int),0,(mkE fs (B7 fs d p).1 (B7 fs d p).2.1 kind mode).2):=rfl
theorem AOa{fs:List Nd}(h:∀x∈fs,x.names.length<=m)(d:Nat)(n:List UInt8)(k:Int)(hd:d<fs.length):∀x∈Ox fs d n k,x.names.length<=m+1:=by
 intro x hx
 unfold Ox at hx
 simp only at hx
 rcases List.mem_or_eq_of_mem_set hx with hx|rfl
 ·have:=h x hx;omega
 have:=h _ (BE (d:=JI) hd)
 have:=AIx (AG fs d JI).names n
 simp only[Bh,BL,BA,KZ];omega
theorem ST{fs:List Nd}(hw:NG fs)(h:∀x∈fs,x.names.length<=m)(d:Int)(p:List UInt8)(kind mode:Int):∀x∈(Fk fs d p kind mode).2.2,x.names.length<=m+1:=by
 have hz:∀x∈fs,x.names.length<=m+1:=fun x hx=>by have:=h x hx;omega
 have ha:=WA hw (d:=d) (p:=p)
 rw[Ih]
 split
 ·exact hz
 split
 ·exact hz
 split
 ·exact hz
 split
 ·exact hz
 split
 ·exact hz
 split
 ·exact hz
 unfold mkE
 simp only
 refine AOa ?_ _ _ _ ?_
 ·intro x hx
  rcases List.mem_or_eq_of_mem_set hx with hx|rfl
  ·split at hx
   ·rcases Ic.1 hx with hx|hx
    ·exact h x hx
    rw[FK.1 hx];exact Aw _
   exact h x hx
  exact Aw _
 rw[Il]
 split
 ·rw[Bh];omega
 omega
mutual
def okT:PT->Prop
 | .mk _ t _ w _=>t.length<=65536/\NH w
def NH:List PT->Prop
 | []=>True
 |p::l=>okT p/\NH l
end
theorem AEC{l:List PT}(h:NH l){p:PT}(hp:p∈l):okT p:=by
 induction l with
 |nil=>cases hp
 |cons q l ih=>
  rw[NH]at h
  rcases Ci.1 hp with rfl|hp
  ·exact h.1
  exact ih h.2 hp
def UI(h:Hx)(k a b:Nat):XR->Prop
 | .ok m h'=>HB h'/\h'.asked.length<=h.asked.length+k/\m.length<=a+401 * k/\(BN m).length<=b+70000 * k
 | .bad _ _ h'=>HB h'/\h'.asked.length<=h.asked.length+k
theorem UI.mono{h:Hx}{k' a b:Nat}{r:XR}(hb:UI h k a b r)(hk:k<=k'):UI h k' a b r:=by
 cases r with
 |ok m h'=>obtain⟨h1,h2,h3,h4⟩:=hb;exact⟨h1,by omega,by omega,by omega⟩
 |bad e m h'=>obtain⟨h1,h2⟩:=hb;exact⟨h1,by omega⟩
theorem G0(s:List UInt8)(q:Bool):BN (B0 s q)=s:=by simp[BN,B0,stS]
theorem KC{h:Hx}(hB:HB h){s:List UInt8}{q:Bool}(hs:s.length<=70000)(hk:1<=k):UI h k 0 0 (.ok (B0 s q) h):=⟨hB,by omega,by simp[B0];omega,by rw[G0];omega⟩
theorem Zj(n:Int)(h: -9223372036854775808<=n/\n<=9223372036854775807):(Lib.itoa n).length<=20:=by
 have dd:∀k n:Nat,n<10 ^ (k+1)->(Lib.decDigits n).length<=k+1:=by
  intro k
  induction k with
  |zero=>intro n h;rw[EC (by omega)];simp
  |succ k ih=>
   intro n h
   by_cases h1:n<10
   ·rw[EC h1];simp
   rw[GS h1,Bh]
   have:=ih (n / 10) (by
    rw[Nat.div_lt_iff_lt_mul (by omega)]
    rw[Nat.pow_succ]at h;exact h)
   simp;omega
 have h2:=dd 18 n.natAbs (by omega)
 have h3:=dd 18 n.toNat (by omega)
 unfold Lib.itoa
 split<;>simp<;>omega
theorem ZR{h:Hx}(hB:HB h)(n:List UInt8):(FH h n).1.length<=65536:=by
 unfold FH
 split
 ·rename_i i hi
  have h3:i<3:=(Ns hi).1
  have h4:i=0\/i=1\/i=2:=by omega
  rcases h4 with rfl|rfl|rfl<;>decide
 split
 ·split
  ·split
   ·rename_i k _ hk
    have hl:(k-1).toNat<h.args.length:=by omega
    exact hB.aa _ (BE hl)
   exact Aw _
  exact Aw _
 split
 ·have:=hB.an
  exact Ky (Zj (h.args.length:Int) (by omega)) (by decide)
 show(FC h.vars n).value.length<=65536
 cases hf:DR h.vars n with
 |none=>rw[Nt hf];exact Aw _
 |some i=>rw[Qv hf];exact hB.vv _ (BE (Ns hf).1)
theorem UM{h:Hx}(hB:HB h)(n:List UInt8):(FI h n).1.length<=65536:=by
 unfold FI
 split
 ·exact hB.aj [32] (by decide)
 exact ZR hB n
theorem ZX{h:Hx}(hB:HB h)(n:List UInt8):0<=Ou h n/\Ou h n<=65536:=by
 have:=UM hB n
 have:=hB.an
 unfold Ou
 split<;>omega
theorem AFW(q:Bool)(l:List (List UInt8))(i:Nat):(Jd q l i).length<=2 * i:=by
 induction i with
 |zero=>exact A5 _
 |succ i ih=>
  rw[MC,Bh]
  have:(OB q l i).length<=2:=by unfold OB B0;split<;>simp
  omega
theorem ALq(q:Bool)(l:List (List UInt8)):∀i,i<=l.length->(BN (Jd q l i)).length<=Lib.lens (l.take i)+i:=by
 intro i
 induction i with
 |zero=>intro _;exact Aw _
 |succ i ih=>
  intro hi
  rw[MC,Lo,Bh]
  have h1:=ih (by omega)
  have h2:(BN (OB q l i)).length<=1+(AG l i []).length:=by
   unfold OB
   rw[Lo,G0,Bh]
   have:(BN (if 0<i then[brk]else[])).length<=1:=by split<;>decide
   omega
  have h3:=Lib.lens_take_succ l i (AG l i []) (Jq (by omega))
  omega
theorem AKj(l:List (List UInt8))(sep:List UInt8):Lib.lens l<=(Lib.join l sep).length:=by
 cases l with
 |nil=>exact Aw _
 |cons x r=>
  rw[Lib.join_cons,Bh,Lib.joinTail_length]
  show(x::r).map (·.length) |>.sum |> (· <=_)
  have:Lib.lens r=(r.map (·.length)).sum:=rfl
  rw[EN,List.sum_cons,this]
  omega
theorem ALd{h:Hx}(hB:HB h)(q:Bool):(BN (Jd q h.args h.args.length)).length<=65736:=by
 have h1:=ALq q h.args h.args.length (A5 _)
 rw[Gb]at h1
 have h2:=AKj h.args [32]
 have h3:=hB.aj [32] (by decide)
 have:=hB.an
 omega
theorem AIL{h:Hx}(hB:HB h){n v:List UInt8}(h0:(Cm h.vars n v).1=0):HB (h.put (Cm h.vars n v).2) where
 vv:=by
  intro y hy
  have hy:y∈(Cm h.vars n v).2:=hy
  unfold Cm at hy h0
  split at hy
  ·exact hB.vv y hy
  rename_i h1
  rw[AB h1]at h0
  split at hy
  ·exact hB.vv y hy
  rename_i h2
  rw[AB h2]at h0
  split at hy
  ·exact hB.vv y hy
  rename_i h3
  rw[AB h3]at h0
  split at hy
  ·exact hB.vv y hy
  rcases ABZ hy with hy|rfl
  ·exact hB.vv y hy
  show v.length<=65536;omega
 aa:=hB.aa
 oo:=hB.oo
 aj:=hB.aj
 an:=hB.an
 vn:=Ik hB.vn
theorem ALa(s:List UInt8):(Gc s).length<=s.length:=by
 unfold Gc Lib.trimRightS
 rw[ZE]
 have:=(List.dropWhile_suffix (fun x=>[10].contains x) (l:=s.reverse)).length_le
 rwa [ZE]at this
theorem ASD{h:Hx}(hB:HB h)(t:List UInt8)(q:Bool)(hk:1<=k):UI h k 0 0 (Nh h t q):=by
 have hB':HB ⟨h.vars,h.args,h.outs,h.asked++[t]⟩:=⟨hB.vv,hB.aa,hB.oo,hB.aj,hB.an,hB.vn⟩
 unfold Nh
 split
 ·rename_i hl
  rw[Bh,KZ]at hl
  have h1:=hB.oo _ (BE (d:=[]) (show h.asked.length<h.outs.length by omega))
  have h2:=ALa (AG h.outs h.asked.length [])
  exact⟨hB',by simp;omega,by simp[B0];omega,by rw[G0];omega⟩
 exact⟨hB',by simp;omega⟩
theorem ATm{h:Hx}{t op:List UInt8}{q:Bool}{r:XR}(hr:UI h k 0 0 r):UI h (k+1) 0 0 (RT t op q r):=by
 cases r with
 |bad e m h'=>exact UI.mono (r:=.bad e m h') hr (by omega)
 |ok l h'=>
  obtain⟨h1,h2,h3,h4⟩:=hr
  show UI h (k+1) 0 0 (if _ then _ else _)
  split
  ·split
   ·exact⟨h1,by omega⟩
   split
   ·exact⟨h1,by omega⟩
   rename_i h0
   have h0:(Cm h'.vars t (BN l)).1=0:=by omega
   exact⟨AIL h1 h0,by show h'.asked.length<=_;omega,by simp[B0];omega,by rw[G0];omega⟩
  split
  ·exact⟨h1,by omega⟩
  split
  ·exact⟨h1,by omega,by simp[B0];omega,by rw[G0];simp⟩
  exact⟨h1,by omega,by omega,by omega⟩
theorem ATd{h:Hx}{v op:List UInt8}{q:Bool}{r:XR}(hv:v.length<=65536)(hr:UI h k 0 0 r):UI h (k+1) 0 0 (AOg v op q r):=by
 cases r with
 |bad e m h'=>exact UI.mono (r:=.bad e m h') hr (by omega)
 |ok l h'=>
  obtain⟨h1,h2,h3,h4⟩:=hr
  have:=(AUa (Cr l) v (decide (AG op 0 0=37)) (decide (op.length=2))).1
  exact⟨h1,by omega,by simp[B0];omega,by rw[G0];omega⟩
theorem ADH{h:Hx}{k:Nat}{L:List Px}(h3:L.length<=0+401 * k)(h4:(BN L).length<=0+70000 * k):∀(S:List Dw) (h':Hx),HB h'->h'.asked.length<=h.asked.length+k->UI h k 0 0 (HU L S h')
 | [],h',h1,h2=>by rw[HU];exact⟨h1,h2,h3,h4⟩
 |s::r,h',h1,h2=>by
  rw[HU]
  split
  ·exact⟨h1,h2⟩
  rename_i h0
  exact ADH h3 h4 r _ (AIL h1 (by omega)) h2
theorem AUq{h:Hx}{q:Bool}{r:XR}(hr:UI h k 0 0 r):UI h (k+1) 0 0 (RB q r):=by
 cases r with
 |bad e m h'=>exact UI.mono (r:=.bad e m h') hr (by omega)
 |ok l h'=>
  obtain⟨h1,h2,h3,h4⟩:=hr
  unfold RB
  simp only
  split
  ·exact⟨h1,by omega⟩
  have hI:=(AGK (BN l) ((EL h'.vars).map Vr.nv)).1
  have:=Zj (Eh l h').1 hI
  exact ADH (by simp[B0];omega) (by rw[G0];omega) _ h' h1 (by omega)
theorem ARX(t:List UInt8)(q wi:Bool):BN (SQ t q wi)=t:=by simp[BN,SQ,stS]
mutual
theorem SO:∀(p:PT) (wi:Bool) (h:Hx),okT p->HB h->UI h p.cnt 0 0 (CZ wi h p)
 | .mk k t op w q,wi,h,ho,hB=>by
  rw[okT]at ho
  obtain⟨ht,hw⟩:=ho
  have ih:=fun wi=>Ei w wi h [] hw hB
  have hv:=UM hB t
  show UI h (1+C5 w) 0 0 _
  rw[CZ]
  split
  ·split
   ·show UI _ _ 0 0 (.ok (KJ h t q) h)
    unfold KJ
    split
    ·exact KC hB (by have:=hB.aj (QQ h) (Qq h);omega) (by omega)
    have h1:=AFW q h.args h.args.length
    have h2:=ALd hB q
    have h3:=hB.an
    exact⟨hB,by omega,by omega,by omega⟩
   split
   ·exact KC hB (by omega) (by omega)
   split
   ·have:=ZX hB t
    exact KC hB (by have:=Zj (Ou h t) (by omega);omega) (by omega)
   split
   ·split
    ·exact⟨hB,by omega⟩
    rw[Nat.add_comm];exact ATd hv (ih false)
   split
   ·exact KC hB (by simp) (by omega)
   split
   ·exact KC hB (by omega) (by omega)
   rw[Nat.add_comm];exact ATm (ih true)
  split
  ·rw[Nat.add_comm];exact AUq (ih false)
  split
  ·exact ASD hB t q (by omega)
  split
  ·exact KC hB (by have:=ZR hB ND;omega) (by omega)
  exact⟨hB,by omega,by simp[SQ];omega,by rw[ARX];omega⟩
theorem Ei:∀(l:List PT) (wi:Bool) (h:Hx) (acc:List Px),NH l->HB h->UI h (C5 l) acc.length (BN acc).length (CE wi h acc l)
 | [],wi,h,acc,ho,hB=>by
  rw[CE]
  exact⟨hB,by omega,by omega,by omega⟩
 |p::l,wi,h,acc,ho,hB=>by
  rw[NH]at ho
  have h1:=SO p wi h ho.1 hB
  have hc:C5 (p::l)=p.cnt+C5 l:=by rw[C5]
  rw[CE,hc]
  cases hp:CZ wi h p with
  |bad e m h'=>
   rw[hp]at h1
   obtain⟨h2,h3⟩:=h1
   exact⟨h2,by omega⟩
  |ok m h'=>
   rw[hp]at h1
   obtain⟨h2,h3,h4,h5⟩:=h1
   have h6:=Ei l wi h' (acc++m) ho.2 h2
   show UI h _ _ _ (CE wi h' (acc++m) l)
   rw[Lo,Bh,Bh]at h6
   cases hq:CE wi h' (acc++m) l with
   |bad e m2 h''=>
    rw[hq]at h6
    obtain⟨h7,h8⟩:=h6
    exact⟨h7,by omega⟩
   |ok m2 h''=>
    rw[hq]at h6
    obtain⟨h7,h8,h9,h10⟩:=h6
    exact⟨h7,by omega,by omega,by omega⟩
end
def Ku:List Pc->List Px->List (List Pc)
 |g,[]=>[g]
 |g,x::l=>if x.st=true then g::Ku [] l else Ku (g++[x.p]) l
def Bc(l:List Px):List (List Pc):=Ku [] l
theorem Q0:∀(l:List Px) (g:List Pc),(Ku g l).length<=l.length+1
 | [],g=>A5 _
 |x::l,g=>by
  rw[Ku]
  split
  ·rw[CD,CD];have:=Q0 l [];omega
  have:=Q0 l (g++[x.p]);rw[CD];omega
theorem Qs{L:List Px}{i:Nat}(hi:i<L.length)(g:List Pc):Ku g (L.drop i)=if(AG L i FD).st=true then g::Ku [] (L.drop (i+1))else Ku (g++[(AG L i FD).p]) (L.drop (i+1)):=by
 rw[Bg FD hi,Ku]
theorem TK{α:Type}{l r:List α}{n:Nat}{x d:α}(h:l.drop n=x::r):n<l.length/\AG l n d=x/\l.drop (n+1)=r:=by
 obtain⟨h1,h2,h3⟩:=C2 h
 refine⟨h1,?_,h3⟩
 rw[Jq (d:=d) h1]at h2
 exact O3 h2
def psX(pf:List Ch->List (List UInt8))(f:List Ch):List (List UInt8):=if Fa f=true then pf f else[]
def Dh(pf:List Ch->List (List UInt8))(f:List Ch):List (List UInt8):=if psX pf f=[]then[Cj f]else psX pf f
def Jo(pf:List Ch->List (List UInt8))(ifs:List UInt8):List (List UInt8)->List (List Pc)->List (List UInt8)×Nat
 |acc,[]=>(acc,0)
 |acc,g::r=>if Da (Aq g ifs)=true then Jo pf ifs (acc++(Aq g ifs).flatMap (Dh pf)) r else([],66)
def Cf(h:Hx):List UInt8:=if(FH h Pz).2=true then(FH h Pz).1 else ALG
def Gz(pf:List Ch->List (List UInt8))(ifs:List UInt8)(l:List Px):List (List UInt8)×Nat:=
 if(Jo pf ifs [] (Bc l)).2≠0 then([],66)else if 200<(Jo pf ifs [] (Bc l)).1.length then([],66)else((Jo pf ifs [] (Bc l)).1,0)
def Dz(pf:Hx->List Ch->List (List UInt8))(h:Hx)(s:List UInt8):List (List UInt8)×List UInt8×Nat×Hx:=match IS h s 0 with
 | .bad e m h'=>([],m,e,h')
 | .ok l h'=>((Gz (pf h') (Cf h') l).1,[],(Gz (pf h') (Cf h') l).2,h')
theorem ALj{pf:List Ch->List (List UInt8)}{acc:List (List UInt8)}{gs:List (List Pc)}(hk:k<gs.length):Jo pf ifs acc (gs.drop k)=if Da (Aq (AG gs k []) ifs)=true then Jo pf ifs (acc++(Aq (AG gs k []) ifs).flatMap (Dh pf)) (gs.drop (k+1))else([],66):=by
 rw[Bg [] hk,Jo]
theorem SD{pf:List Ch->List (List UInt8)}(hpf:∀f,(pf f).length<=1000)(f:List Ch):(Dh pf f).length<=1000:=by
 unfold Dh
 split
 ·simp
 unfold psX
 split
 ·exact hpf f
 simp
theorem UL{pf:List Ch->List (List UInt8)}(hpf:∀f,(pf f).length<=1000)(l:List (List Ch)):(l.flatMap (Dh pf)).length<=1000 * l.length:=by
 induction l with
 |nil=>exact A5 _
 |cons f l ih=>
  rw[List.flatMap_cons,Bh,CD]
  have:=SD hpf f
  omega
theorem ZD{pf:List Ch->List (List UInt8)}{l:List (List Ch)}{i:Nat}(hi:i<l.length):(l.take (i+1)).flatMap (Dh pf)=(l.take i).flatMap (Dh pf)++Dh pf (AG l i []):=by
 rw[C6 [] hi,List.flatMap_append];simp
theorem TW{pf:List Ch->List (List UInt8)}{l:List Px}(h:Jo pf ifs [] (Bc l)=([],66)):Gz pf ifs l=([],66):=by unfold Gz;rw[h];rfl
theorem Rc{pf:List Ch->List (List UInt8)}{l:List Px}(h:Jo pf ifs [] (Bc l)=(o,0))(ho:200<o.length):Gz pf ifs l=([],66):=by unfold Gz;rw[h];simp only;rw[AB (by simp),AI ho]
theorem Ps{pf:List Ch->List (List UInt8)}{l:List Px}(h:Jo pf ifs [] (Bc l)=(o,0))(ho:¬200<o.length):Gz pf ifs l=(o,0):=by unfold Gz;rw[h];simp only;rw[AB (by simp),AB ho]
theorem YA{pf:Hx->List Ch->List (List UInt8)}{h h':Hx}{s m:List UInt8}{e:Nat}(hx:IS h s 0=.bad e m h'):Dz pf h s=([],m,e,h'):=by unfold Dz;rw[hx]
theorem VR{pf:Hx->List Ch->List (List UInt8)}{h h':Hx}{s:List UInt8}{L:List Px}(hx:IS h s 0=.ok L h'):Dz pf h s=((Gz (pf h') (Cf h') L).1,[],(Gz (pf h') (Cf h') L).2,h'):=by unfold Dz;rw[hx]
theorem ADb(l:List Px):∀(g:List Pc),∀x∈Ku g l,tot x<=tot g+(BN l).length:=by
 have h0:tot ([]:List Pc)=0:=rfl
 induction l with
 |nil=>intro g x hx;rw[Ku,FK]at hx;subst hx;simp[BN]
 |cons y l ih=>
  intro g x hx
  have ht:(BN (y::l)).length=(stS y).length+y.p.t.length+(BN l).length:=by
   show((stS y++y.p.t)++BN l).length=_
   rw[Bh,Bh]
  rw[Ku]at hx
  split at hx
  ·rcases Ci.1 hx with rfl|hx
   ·omega
   have:=ih [] x hx;omega
  have h1:=ih (g++[y.p]) x hx
  have h2:tot (g++[y.p])=tot g+y.p.t.length:=by unfold tot;rw[Gm,List.sum_append];simp
  omega
theorem Xf(l:List Px):∀(g:List Pc),∀x∈Ku g l,x.length<=g.length+l.length:=by
 induction l with
 |nil=>intro g x hx;rw[Ku,FK]at hx;subst hx;simp
 |cons y l ih=>
  intro g x hx
  rw[Ku]at hx
  rw[CD]
  split at hx
  ·rcases Ci.1 hx with rfl|hx
   ·omega
   have:=ih [] x hx;simp only[Bb]at this;omega
  have:=ih (g++[y.p]) x hx;rw[Bh,KZ]at this;omega
theorem ATE{g:List Pc}{x:Pc}(h:x∈g):x.t.length<=tot g:=by
 induction g with
 |nil=>cases h
 |cons y g ih=>
  unfold tot
  rw[EN,List.sum_cons]
  rcases Ci.1 h with rfl|h
  ·omega
  have:=ih h;unfold tot at this;omega
def hxX(x:Option (List UInt8)):Hx:=⟨(match x with|none=>[]|some v=>[xV v]),[],[],[]⟩
theorem AXH(x:Option (List UInt8)):FH (hxX x) [120]=(x.getD [],x.isSome):=by cases x<;>rfl
theorem AYt(x:Option (List UInt8)):FI (hxX x) [120]=(x.getD [],x.isSome):=by
 unfold FI
 rw[AB (by decide),AXH]
theorem AJY{wi:Bool}{h:Hx}{acc:List Px}{p:PT}:CE wi h acc [p]=match CZ wi h p with| .bad e m h=>.bad e m h| .ok m h'=>.ok (acc++m) h':=by
 rw[CE]
 cases CZ wi h p with
 |ok m h'=>show CE wi h' _ []=_;rw[CE]
 |bad e m h'=>rfl
theorem ABy(wi:Bool)(x:Option (List UInt8))(w:List PT)(q:Bool):CZ wi (hxX x) (.mk 2 [120] [] w q)=.ok (B0 (x.getD []) q) (hxX x):=by
 rw[CZ,AI O,AB (by simp[JN]),AI O,AYt]
theorem AWy:CF [120]=true:=rfl
theorem AOK{v:List UInt8}(hv:v.length<=65536):Cm [] [120] v=(0,[xV v]):=by
 unfold Cm
 rw[AB (by rw[AWy];simp),AB (by rw[Nt (show DR [] [120]=none from O)];simp),AB (by omega),AB (by simp)]
 rfl
def SV(x:Option (List UInt8)):List Vr:=(hxX x).vars
theorem Aej{x:Option (List UInt8)}(hx:(x.getD []).length<=65536):(⟨HS (SV x),EM [],[],[]⟩:Hx)=hxX x:=by
 cases x with
 |none=>rfl
 |some v=>
  have h1:HS (SV (some v))=[xV v]:=by
   show ABh [] (xV v)=_
   unfold ABh
   rw[AB (by simp[xV])]
   show Ib (Cm [] [120] v).2 [120] false false=_
   rw[AOK (v:=v) hx,U8 AWy ⟨O,O⟩]
  show(⟨HS (SV (some v)),[],[],[]⟩:Hx)=_
  rw[h1];rfl
theorem AhK{x:Option (List UInt8)}(hx:(x.getD []).length<=65536):HB (hxX x) where
 vv:=by
  intro v hv
  cases x with
  |none=>cases hv
  |some u=>rw[show(hxX (some u)).vars=[xV u]from O,FK]at hv;subst hv;exact hx
 aa:=by intro a ha;cases x<;>cases ha
 oo:=by intro a ha;cases x<;>cases ha
 aj:=by intro sep _;cases x<;>exact Aw _
 an:=by cases x<;>exact Aw _
 vn:=by cases x<;>simp[hxX]
def M7(l:List Vr):Prop:=∀v∈l,v.value.length<=65536
theorem AUf{l:List Vr}(h:M7 l)(n:List UInt8):(FC l n).value.length<=65536:=by
 cases hf:DR l n with
 |none=>rw[Nt hf];exact Aw _
 |some i=>rw[Qv hf];exact h _ (BE (Ns hf).1)
theorem ACT{l:List Vr}{x:Vr}(h:M7 l)(hx:x.value.length<=65536):M7 (QT l x):=fun v hv=>by
 rcases ABZ hv with hv|rfl
 ·exact h v hv
 exact hx
theorem APJ{l:List Vr}{n v:List UInt8}(h:M7 l):M7 (Cm l n v).2:=by
 unfold Cm
 split
 ·exact h
 split
 ·exact h
 split
 ·exact h
 split
 ·exact h
 exact ACT h (by show v.length<=65536;omega)
theorem X8{l:List Vr}{n:List UInt8}(h:M7 l):M7 (Ib l n e r):=by
 unfold Ib
 split
 ·exact h
 split
 ·exact h
 split
 ·exact h
 exact ACT h (AUf h n)
theorem ASo{l:List Vr}(v:Vr)(h:M7 l/\l.length<=64):M7 (ABh l v)/\(ABh l v).length<=64:=by
 unfold ABh
 split
 ·exact⟨X8 h.1,SK h.2⟩
 exact⟨X8 (APJ h.1),SK (Ik h.2)⟩
theorem AHa(vars:List Vr):M7 (HS vars)/\(HS vars).length<=64:=by
 have key:∀(vs l:List Vr),M7 l/\l.length<=64->M7 (vs.foldl ABh l)/\(vs.foldl ABh l).length<=64:=by
  intro vs
  induction vs with
  |nil=>intro l h;exact h
  |cons v vs ih=>intro l h;exact ih _ (ASo v h)
 exact key vars [] ⟨fun v hv=>(by cases hv),Aw _⟩
def LB(vars:List Vr):Nat:=(vars.map fun v=>v.value.length).sum
theorem Vi{vars:List Vr}{i:Nat}(h:i<vars.length):LB (vars.take (i+1))=LB (vars.take i)+(AG vars i Ez).value.length:=by
 unfold LB
 rw[C6 Ez h,Gm,List.sum_append];simp
theorem ACv(vars:List Vr)(i:Nat):LB (vars.take i)<=LB vars:=by
 conv=>rhs;rw[<-Iu i vars]
 unfold LB
 rw[Gm,List.sum_append];omega
def Sq(l:List (List UInt8)):Nat:=Lib.lens l+l.length
def LZ(vars:List Vr)(al outs:List (List UInt8))(s:List UInt8):Nat:=s.length+LB vars+Sq al+Sq outs
def AAp(vars:List Vr)(al outs:List (List UInt8))(s:List UInt8):Bool:=decide (LZ vars al outs s<=1500)&&decide (vars.length<=20)
theorem ADl{l:List (List UInt8)}{a:List UInt8}(h:a∈l):a.length<=Lib.lens l:=by
 induction l with
 |nil=>cases h
 |cons b l ih=>
  have e:Lib.lens (b::l)=b.length+Lib.lens l:=rfl
  rcases Ci.1 h with rfl|h
  ·omega
  have:=ih h;omega
theorem AUI(l:List (List UInt8))(sep:List UInt8)(hs:sep.length<=1):(Lib.join l sep).length<=Sq l:=by
 cases l with
 |nil=>exact Aw _
 |cons x r=>
  rw[Lib.join_length]
  unfold Sq
  rw[CD]
  have:sep.length * r.length<=1 * r.length:=TO _ hs
  omega
theorem ZG(l:List (List UInt8)):Sq (EM l)<=Sq l:=by
 unfold EM
 split
 ·exact A5 _
 exact Aw _
theorem MA{vars:List Vr}{s:List UInt8}(h:LZ vars al outs s<=1500):HB ⟨HS vars,EM al,outs,[]⟩ where
 vv:=(AHa vars).1
 aa:=fun a ha=>by
  have h1:=ZG al
  have h2:a.length<=Lib.lens (EM al):=ADl ha
  unfold LZ at h
  unfold Sq at h h1
  omega
 oo:=fun a ha=>by
  have h2:a.length<=Lib.lens outs:=ADl ha
  unfold LZ Sq at h
  omega
 aj:=fun sep hs=>by
  have h1:=ZG al
  have h2:=AUI (EM al) sep hs
  unfold LZ at h
  show(Lib.join (EM al) sep).length<=_
  omega
 an:=SL al
 vn:=(AHa vars).2
def AQV(h:Hx)(s:List UInt8):Prop:=∀L h',IS h s 0=.ok L h'->∀g∈Bc L,∀f∈Aq g (Cf h'),Fa f=false
def ABL(ll:List (List (List UInt8))):Nat:=(ll.map Sq).sum
theorem ZF{ll:List (List (List UInt8))}{i:Nat}(h:i<ll.length):ABL (ll.take (i+1))=ABL (ll.take i)+Sq (AG ll i []):=by
 unfold ABL
 rw[C6 [] h,Gm,List.sum_append];simp
theorem AIu(ll:List (List (List UInt8)))(i:Nat):ABL (ll.take i)<=ABL ll:=by
 conv=>rhs;rw[<-Iu i ll]
 unfold ABL
 rw[Gm,List.sum_append];omega
theorem ZU{I:AQ}{sv ov:Value}{C:List UInt8->List Value}(h1:Sl I 1 sv (al.map C))(h2:Sl I 1 ov (outs.map C))(hj:j<2):Sl I 1 (AG [sv,ov] j undef) ((AG [al,outs] j []).map C):=by
 match j,hj with
 |0,_=>exact h1
 |1,_=>exact h2
mutual
def PT.wgt:PT->Nat
 | .mk _ t _ w _=>t.length+EX w
def EX:List PT->Nat
 | []=>0
 |p::r=>p.wgt+EX r
end
theorem Kc:∀(a b:List PT),EX (a++b)=EX a+EX b
 | [],b=>by simp[EX]
 |p::a,b=>by rw[NA,EX,EX,Kc a b];omega
theorem NY(k:Nat)(t o:List UInt8)(w:List PT)(q:Bool):EX [.mk k t o w q]=t.length+EX w:=by
 rw[EX,EX,PT.wgt];omega
theorem ABp:∀(l:List PT) (i:Nat) (e:PT),i<l.length->EX (l.set i e)+(AG l i Sh).wgt=EX l+e.wgt
 | [],_,_,h=>Ac h (Nat.not_lt_zero _)
 |p::l,0,e,_=>by
  have he:AG (p::l) 0 Sh=p:=rfl
  rw[DS,EX,EX,he];omega
 |p::l,i+1,e,h=>by
  have he:AG (p::l) (i+1) Sh=AG l i Sh:=rfl
  have:=ABp l i e (by simpa using h)
  rw[Iw,EX,EX,he];omega
theorem Ii(l:List PT)(t:List UInt8)(q:Bool):EX (G2 l t q)=EX l+t.length:=by
 unfold G2
 split
 ·rename_i h
  have hp:=BV.2 h.1
  have:=ABp l (l.length-1) (.mk 1 ((AG l (l.length-1) Sh).text++t) (AG l (l.length-1) Sh).op (AG l (l.length-1) Sh).word q) (by omega)
  have e:(AG l (l.length-1) Sh).wgt=(AG l (l.length-1) Sh).text.length+EX (AG l (l.length-1) Sh).word:=by cases AG l (l.length-1) Sh;rfl
  rw[PT.wgt,Bh]at this
  omega
 rw[Kc,NY];simp[EX]
theorem AMp(p:PT):p.text.length<=p.wgt:=by cases p;rw[PT.wgt];show _<=_+_;exact Nat.le_add_right _ _
theorem AEF:∀(m l:List PT),EX (Jk l m)<=EX l+EX m
 | [],l=>by simp[Jk,EX]
 |p::m,l=>by
  rw[Jk,EX]
  refine Ky (AEF m _) ?_
  have h1:=Ii l p.text p.q
  have h2:=AMp p
  split
  ·omega
  rw[Kc,EX,EX];omega
def WT(W:Nat->List UInt8->PR):Prop:=∀kind s l,W kind s=.ok l->EX l<=s.length
theorem AHC{W:Nat->List UInt8->PR}(hW:WT W){s:List UInt8}{p:PT}(h:Dm W kind s=.ok p):p.wgt<=s.length:=by
 have EU:=Lj s
 unfold Dm at h
 split at h
 ·cases h;rw[PT.wgt,EX,BA];omega
 split at h
 ·cases h
 split at h
 ·cases h;rw[PT.wgt,EX,BL];omega
 split at h
 ·cases h
 split at h
 ·cases h
 rename_i w hw
 cases h
 have:=hW _ _ _ hw
 rw[BA,BA]at this
 rw[PT.wgt,BL];omega
theorem ANW{n:Nat}{W:Nat->List UInt8->PR}(hB:WB W)(hW:WT W){l:List UInt8}{acc acc':List PT}(hl:l≠[])(h:DI n W kind l acc=.ok acc' k):EX acc'<=EX acc+k:=by
 have hk:=GB hB hl h
 have hp:=BV.2 hl
 unfold DI at h
 split at h
 ·unfold Sg at h
  split at h
  ·cases h;rw[Ii];simp
  split at h
  ·cases h;omega
  split at h
  ·cases h;rw[Ii,BA,BL];omega
  cases h;rw[Ii];simp
 split at h
 ·unfold Iv at h
  split at h
  ·cases h
  rename_i r j hr
  have hj:2<=j/\j<=l.length:=N0 (n:=n) hl (by unfold Fh;exact hr)
  have KM:((l.take (j-1)).drop 1).length=j-2:=by rw[BA,BL];omega
  split at h
  ·cases h
   rw[Ii]
   omega
  split at h
  ·cases h
  rename_i m hm
  cases h
  have h1:=hW _ _ _ hm
  refine Ky (AEF m _) ?_
  split
  ·rw[Ii,Bb];omega
  omega
 split at h
 ·unfold Ks at h
  split at h
  ·rename_i hb
   split at h
   ·cases h
   rename_i r j hr
   have hj:3<=j/\j<=l.length:=by
    refine⟨Nu hr,?_⟩
    have:=(GM n).2 (decide (kind≠0)) l (Kz hb)
    rw[hr]at this;exact this.2
   have KM:((l.take (j-1)).drop 2).length=j-3:=by rw[BA,BL];omega
   split at h
   ·split at h
    ·cases h
    rename_i p hp
    cases h
    have:=AHC hW hp
    rw[Kc,EX,EX];omega
   split at h
   ·split at h
    ·cases h
    rename_i w hw
    cases h
    have:=hW _ _ _ hw
    rw[BA,BL]at this
    rw[Kc,NY,Bb];omega
   cases h
   rw[Kc,NY,EX];omega
  split at h
  ·cases h;rw[Ii];simp
  cases h
  rw[Kc,NY,EX,BL];omega
 split at h
 ·cases h
 cases h;rw[Ii,BL];omega
theorem WP{n:Nat}{W:Nat->List UInt8->PR}(hB:WB W)(hW:WT W){kind:Nat}:∀(f:Nat) (l:List UInt8) (acc r:List PT),HJ n W kind f l acc=.ok r->EX r<=EX acc+l.length
 |0,l,acc,r,h=>by cases h;omega
 |f+1,l,acc,r,h=>by
  rw[HJ]at h
  split at h
  ·cases h;omega
  rename_i hl
  cases hs:DI n W kind l acc with
  |bad e=>simp only[hs]at h;cases h
  |ok acc' k=>
   simp only[hs]at h
   have h1:=GB hB hl hs
   have h2:=ANW hB hW hl hs
   have:=WP hB hW f _ _ _ h
   rw[BA]at this
   omega
theorem Xh{n:Nat}{W:Nat->List UInt8->PR}(hB:WB W)(hW:WT W):WT (Hr n W):=fun kind s l h=>by
 unfold Hr at h
 split at h
 ·rename_i ht
  have hs:1<=s.length:=by
   unfold JH at ht
   rw[Ay,C4]at ht
   rcases ht.2 with h|h
   ·have h2:=BM h
    subst h2;decide
   have:=Hq h;simp at this;omega
  have:=WP hB hW _ _ _ _ h
  rw[BA,NY,EX]at this
  simp at this
  omega
 have:=WP hB hW _ _ _ _ h
 simpa[EX]using this
theorem ANv:∀n,WT (wP n)
 |0=>Xh (fun _ _ _ h=>by cases h) (fun _ _ _ h=>by cases h)
 |n+1=>Xh (N9 n) (ANv n)
theorem AJj{s:List UInt8}{k:Int}{l:List PT}(h:Di s k=.ok l):EX l<=s.length:=by
 unfold Di at h
 split at h
 ·cases h
 split at h
 ·cases h
 exact ANv 24 _ _ _ h
mutual
theorem AYy:∀(p:PT),p.wgt<=65536->okT p
 | .mk k t o w q,h=>by
  rw[PT.wgt]at h
  rw[okT]
  exact⟨by omega,Zq w (by omega)⟩
theorem Zq:∀(l:List PT),EX l<=65536->NH l
 | [],_=>by rw[NH];trivial
 |p::l,h=>by
  rw[EX]at h
  rw[NH]
  exact⟨AYy p (by omega),Zq l (by omega)⟩
end
end Go.Tri
