/-
 What layer 2 computes, in plain words: brackets, one element, whole texts.
-/
import Derived.Test.YtbndcpjklngfhaaGreatDoorPGen
namespace Go.Tri
open Go.RowKit
variable {s s0 fr:List UInt8} {k i:Nat} {e g:Bool}

def Ft:Ch:=⟨0,false⟩
def uq(b:UInt8):Ch:=⟨b,false⟩
def Ax:List Ch->List UInt8->Bool
 |_,[]=>true
 | [],_::_=>false
 |c::p,b::s=>decide (c=uq b)&&Ax p s
theorem Nv(p:List Ch):Ax p []=true:=by cases p<;>rfl
theorem LP:∀(p:List Ch) (s:List UInt8),p.length<s.length->Ax p s=false
 | [],[],h=>Ac h (by simp)
 | [],_::_,_=>rfl
 |_::_,[],h=>Ac h (by simp)
 |c::p,b::s,h=>by
  have:=LP p s (by simp at h;omega)
  simp[Ax,this]
theorem Q8(p:List Ch)(s:List UInt8)(i:Nat)(h:i<s.length)(hp:i<p.length):Ax (p.drop i) (s.drop i)=(decide (AG p i Ft=uq (AG s i 0))&&Ax (p.drop (i+1)) (s.drop (i+1))):=by
 rw[Bg Ft hp,Bg 0 h];rfl
theorem HD{p:List Ch}(h:Ax p s=true):s.length<=p.length:=by
 rcases Nat.lt_or_ge p.length s.length with h1|h1
 ·rw[LP p s h1]at h;cases h
 exact h1
theorem Nk(c:Ch)(p:List Ch)(b:UInt8):Ax (c::p) [b]=decide (c=uq b):=by
 show(decide (c=uq b)&&Ax p [])=_
 rw[Nv,Bool.and_true]
theorem TH:∀(p:List Ch) (s t:List UInt8),Ax p s=true->Ax p t=true->s.length=t.length->s=t
 |_,[],[],_,_,_=>rfl
 |_,[],_::_,_,_,h=>by simp at h
 |_,_::_,[],_,_,h=>by simp at h
 | [],_::_,_::_,h,_,_=>by cases h
 |c::p,b::s,d::t,h1,h2,hl=>by
  simp only[Ax,Ay,BC]at h1 h2
  have e:b=d:=by
   have:=h1.1.symm.trans h2.1
   simpa[uq]using this
  rw[e,TH p s t h1.2 h2.2 (by simpa using hl)]

def A3:List (List UInt8):=[[97,108,112,104,97],[100,105,103,105,116],[97,108,110,117,109],[117,112,112,101,114],[108,111,119,101,114],[115,112,97,99,101]]
def DZ(n:List UInt8):List UInt8:=[91,58]++n++[58,93]
theorem JX{n:List UInt8}(h:n∈A3):n.length=5:=by
 simp only[A3,Ci,List.not_mem_nil,or_false]at h
 rcases h with rfl|rfl|rfl|rfl|rfl|rfl<;>rfl
def Jc(p:List Ch)(cl n:List UInt8):List UInt8:=if Ax p (DZ n)then n else cl
def Kb(p:List Ch):List UInt8:=A3.foldl (Jc p) []
theorem ATc{p:List Ch}{n m:List UInt8}(hn:n∈A3)(hm:m∈A3)(h1:Ax p (DZ n)=true)(h2:Ax p (DZ m)=true):n=m:=by
 have:=TH p _ _ h1 h2 (by simp[DZ,JX hn,JX hm])
 simp only[DZ,NA,PK,List.cons.injEq,true_and]at this
 exact(List.append_inj this (by rw[JX hn,JX hm])).1
theorem ABe{p:List Ch}:∀(l:List (List UInt8)) (a:List UInt8),(∀n∈l,n∈A3)->(l.foldl (Jc p) a=a/\∀n∈l,Ax p (DZ n)=false)\/ ∃n∈l,Ax p (DZ n)=true/\l.foldl (Jc p) a=n
 | [],a,_=>.inl ⟨O,fun _ h=>by cases h⟩
 |n::l,a,h=>by
  rw[Qz]
  rcases ABe (p:=p) l (Jc p a n) (fun m hm=>h m (List.mem_cons_of_mem _ hm))with ⟨h1,h2⟩|⟨m,h1,h2,h3⟩
  ·by_cases hn:Ax p (DZ n)=true
   ·exact .inr ⟨n,CQ,hn,by rw[h1,Jc,AI hn]⟩
   refine .inl ⟨by rw[h1,Jc,AB hn],fun m hm=>?_⟩
   rcases Ci.1 hm with rfl|hm
   ·simpa using hn
   exact h2 m hm
  exact .inr ⟨m,List.mem_cons_of_mem _ h1,h2,h3⟩
theorem ML(p:List Ch):(Kb p=[]/\∀n∈A3,Ax p (DZ n)=false)\/ ∃n∈A3,Ax p (DZ n)=true/\Kb p=n:=ABe A3 [] (fun _ h=>h)
theorem AXU{p:List Ch}{n:List UInt8}(hn:n∈A3)(h:Ax p (DZ n)=true):Kb p=n:=by
 rcases ML p with ⟨_,h2⟩|⟨m,hm,h1,h2⟩
 ·rw[h2 n hn]at h;cases h
 rw[h2];exact ATc hm hn h1 h
def M3(c:UInt8):Bool:=decide ((65:Int)<=(c.toNat:Int))&&decide ((c.toNat:Int)<=90)
def Ml(c:UInt8):Bool:=decide ((97:Int)<=(c.toNat:Int))&&decide ((c.toNat:Int)<=122)
def Si(c:UInt8):Bool:=decide ((48:Int)<=(c.toNat:Int))&&decide ((c.toNat:Int)<=57)
def AHE(c:UInt8):Bool:=(decide ((9:Int)<=(c.toNat:Int))&&decide ((c.toNat:Int)<=13))||decide (c=32)
def Mj(n:List UInt8)(c:UInt8):Bool:=
 if n=[97,108,112,104,97]then M3 c||Ml c else if n=[100,105,103,105,116]then Si c else if n=[97,108,110,117,109]then M3 c||Ml c||Si c
 else if n=[117,112,112,101,114]then M3 c else if n=[108,111,119,101,114]then Ml c else AHE c
structure Mem where
 cl:List UInt8
 lo:UInt8
 hi:UInt8
 deriving DecidableEq
def GI(m:Mem)(c:UInt8):Bool:=if m.cl∈A3 then Mj m.cl c else decide ((m.lo.toNat:Int)<=(c.toNat:Int))&&decide ((c.toNat:Int)<=(m.hi.toNat:Int))
def Sm(m:Mem):List Value:=[Au m.cl,u8 m.lo,u8 m.hi]
def FT(p:List Ch):Mem×Nat:=
 if Kb p≠[]then(⟨Kb p,0,0⟩,(Kb p).length+4)
 else if decide ((2:Int)<(p.length:Int))&&Ax (p.drop 1) [45]&& !Ax (p.drop 2) [93]then(⟨[],(AG p 0 Ft).b,(AG p 2 Ft).b⟩,3)
 else(⟨[],(AG p 0 Ft).b,(AG p 0 Ft).b⟩,1)
theorem Hj(p:List Ch):1<=(FT p).2:=by
 unfold FT;split
 ·simp
 split<;>simp
theorem Ht{p:List Ch}(h:p≠[]):(FT p).2<=p.length:=by
 unfold FT;split
 ·rcases ML p with ⟨h1,_⟩|⟨n,hn,h1,h2⟩
  ·contradiction
  rw[h2]
  have:=HD h1
  simp[DZ]at this
  simp;omega
 split
 ·rename_i h2
  simp at h2;simp;omega
 exact BV.2 h

def ACz:Nat->List Ch->Bool->UInt8->Bool->Option (Bool×List Ch)
 |0,_,_,_,_=>none
 |n+1,p,first,c,found=>
  if p=[]then none else if !first&&Ax p [93]then some (found,p.drop 1)else ACz n (p.drop (FT p).2) false c (found||GI (FT p).1 c)
theorem SX:∀(n m:Nat) (p:List Ch) (first:Bool) (c:UInt8) (found:Bool),p.length<=n->p.length<=m->ACz n p first c found=ACz m p first c found
 |0,0,_,_,_,_,_,_=>rfl
 |0,m+1,p,_,_,_,h,_=>by
  have:p=[]:=List.eq_nil_of_length_eq_zero (by omega)
  subst this;simp[ACz]
 |n+1,0,p,_,_,_,_,h=>by
  have:p=[]:=List.eq_nil_of_length_eq_zero (by omega)
  subst this;simp[ACz]
 |n+1,m+1,p,first,c,found,h1,h2=>by
  unfold ACz
  split
  ·rfl
  rename_i hp
  have h3:=Hj p
  have h4:=Ht hp
  split
  ·rfl
  exact SX n m _ _ _ _ (by simp;omega) (by simp;omega)
def brG(p:List Ch)(first:Bool)(c:UInt8)(found:Bool):Option (Bool×List Ch):=ACz p.length p first c found
theorem Pt{p:List Ch}(hp:p≠[])(first:Bool)(c:UInt8)(found:Bool):
  brG p first c found=if !first&&Ax p [93]then some (found,p.drop 1)else brG (p.drop (FT p).2) false c (found||GI (FT p).1 c):=by
 have h3:=Hj p
 have h4:=Ht hp
 unfold brG
 rw[SX p.length (p.length-1+1) p first c found (A5 _) (by omega)]
 rw[ACz,AB hp]
 split
 ·rfl
 exact SX _ _ _ _ _ _ (by simp;omega) (A5 _)
def Nm:Nat->List Ch->Bool->List (Mem×Nat)
 |0,_,_=>[]
 |n+1,p,first=>if p=[]then[]else if !first&&Ax p [93]then[]else FT p::Nm n (p.drop (FT p).2) false
theorem NO:∀(n m:Nat) (p:List Ch) (first:Bool),p.length<=n->p.length<=m->Nm n p first=Nm m p first
 |0,0,_,_,_,_=>rfl
 |0,m+1,p,_,h,_=>by
  have:p=[]:=List.eq_nil_of_length_eq_zero (by omega)
  subst this;simp[Nm]
 |n+1,0,p,_,_,h=>by
  have:p=[]:=List.eq_nil_of_length_eq_zero (by omega)
  subst this;simp[Nm]
 |n+1,m+1,p,first,h1,h2=>by
  unfold Nm
  split
  ·rfl
  rename_i hp
  have h3:=Hj p
  have h4:=Ht hp
  split
  ·rfl
  rw[NO n m _ _ (by simp;omega) (by simp;omega)]
def Kh(p:List Ch)(first:Bool):List (Mem×Nat):=Nm p.length p first
theorem WG{p:List Ch}(hp:p≠[])(first:Bool):Kh p first=if !first&&Ax p [93]then[]else FT p::Kh (p.drop (FT p).2) false:=by
 have h3:=Hj p
 have h4:=Ht hp
 unfold Kh
 rw[NO p.length (p.length-1+1) p first (A5 _) (by omega)]
 rw[Nm,AB hp]
 split
 ·rfl
 rw[NO _ _ _ _ (by simp;omega) (A5 _)]
def Kv:Nat->Value->List (Mem×Nat)->List (List Value)
 |_,_,[]=>[]
 |n,v,(m,k)::r=>[.agg (Sm m).toArray,F7 2 k n v]::Kv (n-k) (F7 2 k n v) r
theorem PW{p:List Ch}(hp:p≠[])(first:Bool)(h:(!first&&Ax p [93])=false)(v:Value):Kv p.length v (Kh p first)=
  [.agg (Sm (FT p).1).toArray,F7 2 (FT p).2 p.length v]::Kv (p.drop (FT p).2).length (F7 2 (FT p).2 p.length v) (Kh (p.drop (FT p).2) false):=by
 rw[WG hp,h,AB (by simp),BA]
 rfl
def Ds(p:List Ch)(c:UInt8):Option (Bool×List Ch):=
 let not:=Ax (p.drop 1) [33]
 let inner:=if not then p.drop 2 else p.drop 1
 (brG inner true c false).map fun x=>(x.1 != not,x.2)
theorem AHU:∀(n:Nat) (p:List Ch) (first:Bool) (c:UInt8) (found:Bool) (x:Bool×List Ch),p.length<=n->brG p first c found=some x->x.2.length<p.length
 |0,p,_,_,_,_,h,hx=>by
  have:p=[]:=List.eq_nil_of_length_eq_zero (by omega)
  subst this;cases hx
 |n+1,p,first,c,found,x,h,hx=>by
  by_cases hp:p=[]
  ·subst hp;cases hx
  have h3:=Hj p
  have h4:=Ht hp
  have h5:=BV.2 hp
  rw[Pt hp]at hx
  split at hx
  ·cases hx;simp;omega
  have:=AHU n _ _ _ _ _ (by simp;omega) hx
  simp at this;omega
theorem Uo:∀(n:Nat) (p:List Ch) (first:Bool) (c d:UInt8) (f g:Bool),p.length<=n->(brG p first c f).map (·.2)=(brG p first d g).map (·.2)
 |0,p,_,_,_,_,_,h=>by
  have:p=[]:=List.eq_nil_of_length_eq_zero (by omega)
  subst this;rfl
 |n+1,p,first,c,d,f,g,h=>by
  by_cases hp:p=[]
  ·subst hp;rfl
  have h3:=Hj p
  have h4:=Ht hp
  have h5:=BV.2 hp
  rw[Pt hp,Pt hp]
  split
  ·rfl
  exact Uo n _ _ _ _ _ _ (by simp;omega)
def Hw(p:List Ch)(c:UInt8):Bool×List Ch:=
 if Ax p [63]then(true,p.drop 1)
 else if Ax p [91]then match Ds p c with
  |some x=>x
  |none=>(decide ((AG p 0 Ft).b=c),p.drop 1)
 else(decide ((AG p 0 Ft).b=c),p.drop 1)
theorem Zv{p:List Ch}{c:UInt8}{x:Bool×List Ch}(h:Ds p c=some x):x.2.length<p.length:=by
 unfold Ds at h
 simp only[Option.map_eq_some_iff]at h
 obtain⟨y,hy,rfl⟩:=h
 have:=AHU _ _ _ _ _ _ (A5 _) hy
 split at this<;>simp at this ⊢ <;>omega
theorem V5{p:List Ch}(hp:p≠[])(c:UInt8):(Hw p c).2.length<p.length:=by
 have h5:=BV.2 hp
 unfold Hw
 split
 ·simp;omega
 split
 ·split
  ·rename_i x hx;exact Zv hx
  simp;omega
 simp;omega
theorem ACY(p:List Ch)(c d:UInt8):(Hw p c).2=(Hw p d).2:=by
 unfold Hw
 split
 ·rfl
 split
 ·have:(Ds p c).map (·.2)=(Ds p d).map (·.2):=by
   unfold Ds
   simp only[Option.map_map]
   exact Uo _ _ _ _ _ _ _ (A5 _)
  cases h1:Ds p c<;>cases h2:Ds p d<;>rw[h1,h2]at this<;>simp at this ⊢
  exact this
 rfl

def MtF:Nat->List Ch->List UInt8->Bool
 |0,_,s=>s.isEmpty
 |n+1,p,s=>
  if p=[]then s.isEmpty else if Ax p [42]then(List.range (s.length+1)).any fun i=>MtF n (p.drop 1) (s.drop i)
  else if s=[]then false else(Hw p (AG s 0 0)).1&&MtF n (Hw p (AG s 0 0)).2 (s.drop 1)
theorem KX:∀(n m:Nat) (p:List Ch) (s:List UInt8),p.length<=n->p.length<=m->MtF n p s=MtF m p s
 |0,0,_,_,_,_=>rfl
 |0,m+1,p,_,h,_=>by
  have:p=[]:=List.eq_nil_of_length_eq_zero (by omega)
  subst this;simp[MtF]
 |n+1,0,p,_,_,h=>by
  have:p=[]:=List.eq_nil_of_length_eq_zero (by omega)
  subst this;simp[MtF]
 |n+1,m+1,p,s,h1,h2=>by
  unfold MtF
  split
  ·rfl
  rename_i hp
  have h5:=BV.2 hp
  split
  ·congr 1;funext i;exact KX n m _ _ (by simp;omega) (by simp;omega)
  split
  ·rfl
  have:=V5 hp (AG s 0 0)
  rw[KX n m _ _ (by omega) (by omega)]
def Mt(p:List Ch)(s:List UInt8):Bool:=MtF p.length p s
theorem AYf(s:List UInt8):Mt [] s=s.isEmpty:=rfl
theorem ASR{p:List Ch}(h:Ax p [42]=true)(s:List UInt8):Mt p s=(List.range (s.length+1)).any fun i=>Mt (p.drop 1) (s.drop i):=by
 have hp:p≠[]:=by rintro rfl;cases h
 have h5:=BV.2 hp
 unfold Mt
 rw[KX p.length (p.length-1+1) p s (A5 _) (by omega),MtF,AB hp,AI h]
 congr 1;funext i;exact KX _ _ _ _ (by simp) (A5 _)
theorem AQM{p:List Ch}(hp:p≠[])(h:Ax p [42]=false):Mt p []=false:=by
 have h5:=BV.2 hp
 unfold Mt
 rw[KX p.length (p.length-1+1) p [] (A5 _) (by omega),MtF,AB hp,AB (by simp[h]),AI O]
theorem AGu{p:List Ch}(hp:p≠[])(h:Ax p [42]=false)(hs:s≠[]):Mt p s=((Hw p (AG s 0 0)).1&&Mt (Hw p (AG s 0 0)).2 (s.drop 1)):=by
 have h5:=BV.2 hp
 unfold Mt
 rw[KX p.length (p.length-1+1) p s (A5 _) (by omega),MtF,AB hp,AB (by simp[h]),AB hs]
 congr 1
 have:=V5 hp (AG s 0 0)
 exact KX _ _ _ _ (by omega) (A5 _)

theorem Kw{p:List Ch}(h:Ax p [42]=true):Mt p s=true↔ ∃i,i<=s.length/\Mt (p.drop 1) (s.drop i)=true:=by
 rw[ASR h,List.any_eq_true]
 constructor
 ·rintro⟨i,h1,h2⟩;exact⟨i,by simpa[Nat.lt_succ_iff]using h1,h2⟩
 rintro⟨i,h1,h2⟩;exact⟨i,by simpa[Nat.lt_succ_iff]using h1,h2⟩

structure AcH(ag:List Ch)(fr:List UInt8)(p:List Ch)(s:List UInt8):Prop where
 len:s.length<=fr.length
 back:∀i,i<=fr.length->Mt ag (fr.drop i)=true->∃j,j<=s.length/\Mt p (s.drop j)=true
def later(ag:List Ch)(fr:List UInt8):Prop:= ∃i,1<=i/\i<=fr.length/\Mt ag (fr.drop i)=true
structure LO(p0:List Ch)(s0:List UInt8)(star:Bool)(ag:List Ch)(fr:List UInt8)(p:List Ch)(s:List UInt8):Prop where
 what:Mt p0 s0=true↔Mt p s=true\/(star=true/\later ag fr)
 tried:star=true->AcH ag fr p s
theorem LO.start(p:List Ch)(s:List UInt8):LO p s false [] [] p s:=⟨by simp,fun h=>by cases h⟩
theorem LO.star{p0:List Ch}{star:Bool}{ag:List Ch}{p:List Ch}(h:LO p0 s0 star ag fr p s)(hs:Ax p [42]=true):LO p0 s0 true (p.drop 1) s (p.drop 1) s:=by
 refine⟨?_,fun _=>⟨A5 _,fun i hi h=>⟨i,hi,h⟩⟩⟩
 rw[h.what]
 constructor
 ·rintro(h1|⟨h1,i,Ym,EG,h2⟩)
  ·obtain⟨j,hj,hm⟩:=(Kw hs).1 h1
   cases j with
   |zero=>exact .inl (by simpa using hm)
   |succ j=>exact .inr ⟨O,j+1,by omega,hj,hm⟩
  obtain⟨j,hj,hm⟩:=(h.tried h1).back i EG h2
  obtain⟨k,hk,hm⟩:=(Kw hs).1 hm
  rw[Cp]at hm
  simp at hk
  rcases Nat.eq_zero_or_pos (j+k)with h0|h0
  ·rw[h0]at hm;exact .inl (by simpa using hm)
  exact .inr ⟨O,j+k,h0,by omega,hm⟩
 rintro(h1|⟨_,i,Ym,EG,h2⟩)
 ·exact .inl ((Kw hs).2 ⟨0,by omega,by simpa using h1⟩)
 exact .inl ((Kw hs).2 ⟨i,EG,h2⟩)
theorem LO.one{p0:List Ch}{star:Bool}{ag:List Ch}{p:List Ch}(h:LO p0 s0 star ag fr p s)(hp:p≠[])(CS:Ax p [42]=false)(hs:s≠[])(ho:(Hw p (AG s 0 0)).1=true):
  LO p0 s0 star ag fr (Hw p (AG s 0 0)).2 (s.drop 1):=by
 have h5:=BV.2 hs
 refine⟨?_,fun hh=>⟨?_,fun i hi hm=>?_⟩⟩
 ·rw[h.what,AGu hp CS hs,ho,Bool.true_and]
 ·have:=(h.tried hh).len;simp;omega
 obtain⟨j,hj,hm⟩:=(h.tried hh).back i hi hm
 by_cases hjs:j<s.length
 ·have Dk:s.drop j≠[]:=by simp;omega
  rw[AGu hp CS Dk,Ay]at hm
  refine⟨j,by simp;omega,?_⟩
  rw[Cp]
  have:=hm.2
  rw[Cp]at this
  rw[ACY p (AG s 0 0) (AG (s.drop j) 0 0),Nat.add_comm 1 j]
  exact this
 rw[E4 (by omega),AQM hp CS]at hm;cases hm
theorem LO.back{p0:List Ch}{ag:List Ch}{p:List Ch}(h:LO p0 s0 true ag fr p s)(hm:Mt p s=false)(hf:fr≠[]):LO p0 s0 true ag (fr.drop 1) ag (fr.drop 1):=by
 have h5:=BV.2 hf
 refine⟨?_,fun _=>⟨A5 _,fun i hi h=>⟨i,hi,h⟩⟩⟩
 rw[h.what,hm]
 constructor
 ·rintro(h1|⟨_,i,Ym,EG,h2⟩)
  ·cases h1
  rcases Nat.lt_or_ge 1 i with h3|h3
  ·exact .inr ⟨O,i-1,by omega,by simp;omega,by rw[Cp,show 1+(i-1)=i by omega];exact h2⟩
  rw[show i=1 by omega]at h2;exact .inl h2
 rintro(h1|⟨_,i,Ym,EG,h2⟩)
 ·exact .inr ⟨O,1,by omega,h5,h1⟩
 rw[Cp]at h2
 simp at EG
 exact .inr ⟨O,1+i,by omega,by omega,h2⟩
theorem LO.fail{p0:List Ch}{star:Bool}{ag:List Ch}{p:List Ch}(h:LO p0 s0 star ag fr p s)(hm:Mt p s=false)(hf:star=false\/fr=[]):Mt p0 s0=false:=by
 cases hq:Mt p0 s0 with
 |false=>rfl
 |true=>
  rcases h.what.1 hq with h1|⟨h1,i,Ym,EG,_⟩
  ·rw[hm]at h1;cases h1
  rcases hf with hf|hf
  ·rw[hf]at h1;cases h1
  subst hf;simp at EG;omega
theorem LO.done{p0:List Ch}{star:Bool}{ag:List Ch}{p:List Ch}(h:LO p0 s0 star ag fr p s)(hm:Mt p s=true):Mt p0 s0=true:=h.what.2 (.inl hm)
theorem Qf{p:List Ch}(Dk:¬(p=[]/\s=[]))(CS:Ax p [42]=false)(ho:p≠[]->s≠[]->(Hw p (AG s 0 0)).1=false):Mt p s=false:=by
 by_cases hp:p=[]
 ·subst hp
  rw[AYf]
  cases s with
  |nil=>exact Ac ⟨O,O⟩ Dk
  |cons _ _=>rfl
 by_cases hs:s=[]
 ·subst hs;exact AQM hp CS
 rw[AGu hp CS hs,ho hp hs,Bool.false_and]
theorem AHi{a n m A x y:Nat}(h1:a+1<=A)(hx:x<=n)(hy:y<=m)(k:Nat)(hk:0<=k):a * (n+m+1)+(x+y)<A * (n+m+1)+k:=by
 have:(a+1) * (n+m+1)<=A * (n+m+1):=TO _ h1
 rw[Nat.add_mul,Nat.one_mul]at this
 omega
def Tg(p:List Ch)(i:Nat)(b:UInt8):Bool:=decide ((i:Int)<(p.length:Int))&&decide ((AG p i Ft).b=b)&& !(AG p i Ft).q
theorem C9(p:List Ch)(i:Nat)(b:UInt8):Tg p i b=Ax (p.drop i) [b]:=by
 rcases Nat.lt_or_ge i p.length with h|h
 ·rw[Bg Ft h,Nk]
  unfold Tg
  have h1:decide ((i:Int)<(p.length:Int))=true:=by rw[BC];omega
  rw[h1,Bool.true_and]
  obtain⟨cb,cq⟩:=AG p i Ft
  cases cq<;>by_cases hb:cb=b<;>simp[uq,hb]
 rw[E4 h]
 unfold Tg
 have h1:decide ((i:Int)<(p.length:Int))=false:=by rw[CA];omega
 rw[h1];rfl
def VN(p:List Ch)(i:Nat)(s:List UInt8)(m:Nat):Bool:=(List.range m).all fun j=>Tg p (i+j) (AG s j 0)
theorem AFh(p:List Ch)(i:Nat)(s:List UInt8)(m:Nat):VN p i s (m+1)=(VN p i s m&&Tg p (i+m) (AG s m 0)):=by
 unfold VN
 rw[List.range_succ,List.all_append];simp
theorem AAT{p:List Ch}{b:UInt8}:Ax p (b::s)=(Ax p [b]&&Ax (p.drop 1) s):=by
 cases p with
 |nil=>rfl
 |cons c p=>rw[Nk];rfl
theorem QP:∀(s:List UInt8) (p:List Ch) (i:Nat),VN p i s s.length=Ax (p.drop i) s
 | [],p,i=>by rw[Nv];rfl
 |b::s,p,i=>by
  rw[AAT,<-C9,Cp,<-QP s p (i+1)]
  unfold VN
  rw[CD,List.range_succ_eq_map,List.all_cons,List.all_map]
  congr 2
  funext j
  show Tg p (i+(j+1)) (AG (b::s) (j+1) 0)=Tg p (i+1+j) (AG s j 0)
  rw[show i+(j+1)=i+1+j by omega]
  rfl
def Ny(p:List Ch):Nat:=if Kb p=[]then 0 else 9
def ACu(p:List Ch)(c:UInt8):Bool:=if Kb p=[]then false else Mj (Kb p) c
def JE(c:UInt8):List Bool:=[M3 c||Ml c,Si c,M3 c||Ml c||Si c,M3 c,Ml c,AHE c]
theorem AKe(c:UInt8)(h:k<6):AG (JE c) k false=Mj (AG A3 k []) c:=by
 match k,h with
 |0,_=>rfl
 |1,_=>rfl
 |2,_=>rfl
 |3,_=>rfl
 |4,_=>rfl
 |5,_=>rfl
theorem AVM{p:List Ch}(hk:k<6)(h:Ax p (DZ (AG A3 k []))=true)(c:UInt8):Ny p=9/\ACu p c=AG (JE c) k false:=by
 have hm:AG A3 k []∈A3:=BE hk
 have h1:=AXU hm h
 have h2:AG A3 k []≠[]:=fun e=>by have:=JX hm;rw[e]at this;simp at this
 unfold Ny ACu
 rw[h1,AB h2,AB h2,AKe c hk]
 exact⟨O,O⟩
theorem ANc{p:List Ch}(h:∀k,k<6->Ax p (DZ (AG A3 k []))=false)(c:UInt8):Ny p=0/\ACu p c=false:=by
 have h1:Kb p=[]:=by
  rcases ML p with ⟨h1,_⟩|⟨n,hn,h1,_⟩
  ·exact h1
  obtain⟨k,hk,rfl⟩:=List.getElem_of_mem hn
  have:=h k hk
  rw[CT hk]at this
  rw[this]at h1;cases h1
 unfold Ny ACu
 rw[AI h1,AI h1]
 exact⟨O,O⟩
theorem AOZ{q:List Ch}{c:UInt8}(h:0<Ny q):(FT q).2=Ny q/\GI (FT q).1 c=ACu q c:=by
 have h1:Kb q≠[]:=fun e=>by simp[Ny,e]at h
 rcases ML q with ⟨h2,_⟩|⟨n,hn,_,h2⟩
 ·contradiction
 unfold FT Ny ACu
 rw[AI h1,AB h1,AB h1]
 refine⟨by rw[h2,JX hn],?_⟩
 unfold GI
 rw[AI (show Kb q∈A3 by rw[h2];exact hn)]
theorem Y0{q:List Ch}(h:¬0<Ny q):Kb q=[]:=by
 cases hc:Kb q with
 |nil=>rfl
 |cons a l=>simp[Ny,hc]at h
theorem WK{lo hi c:UInt8}:GI ⟨[],lo,hi⟩ c=(decide ((lo.toNat:Int)<=(c.toNat:Int))&&decide ((c.toNat:Int)<=(hi.toNat:Int))):=by
 unfold GI
 rw[AB (by simp[A3])]
theorem AGy{b c:UInt8}:GI ⟨[],b,b⟩ c=decide (b=c):=by
 rw[WK]
 by_cases h:b=c
 ·subst h;simp
 have:¬(b.toNat:Int)=(c.toNat:Int):=fun e=>h ((AIq b c).1 e)
 rw[DC h,Bool.and_eq_false_iff]
 simp only[CA]
 omega
theorem Sn(p:List Ch)(i k:Nat):AG (p.drop i) k Ft=AG p (i+k) Ft:=by
 unfold AG
 rw[Cy,Cy,List.getElem?_drop]
theorem AVh(p:List Ch):Ny p<=9:=by unfold Ny;split<;>omega

def Yx(c:Ch):Bool:= !c.q&&Ho [42,63,91] c.b
def Fa(p:List Ch):Bool:=p.any Yx
def ADO:List Ch->Nat->Int
 | [],_=> -1
 |c::p,i=>if Yx c then(i:Int)else ADO p (i+1)
theorem ARq(p:List Ch)(i:Nat):decide (0<=ADO p i)=Fa p:=by
 induction p generalizing i with
 |nil=>rfl
 |cons c p ih=>
  rw[ADO,Fa,List.any_cons]
  cases h:Yx c with
  |true=>rw[AI O];simp
  |false=>rw[AB (by simp),Bool.false_or];exact ih _
def GD(s:List UInt8)(g:Bool)(i:Nat):Nat:=if g then s.length-i else i
def JT(p:List Ch)(s:List UInt8)(e g:Bool)(i:Nat):Bool:=if e then Mt p (s.drop (s.length-GD s g i))else Mt p (s.take (GD s g i))
def SJ(s:List UInt8)(e g:Bool)(i:Nat):List UInt8:=if e then s.take (s.length-GD s g i)else s.drop (GD s g i)
def KN(p:List Ch)(s:List UInt8)(e g:Bool):List UInt8:=match(List.range (s.length+1)).find? (JT p s e g)with
 |some i=>SJ s e g i
 |none=>s
theorem ACf{p:List Ch}(hi:i<=s.length)(Cz:∀j,j<i->JT p s e g j=false)(h:JT p s e g i=true):KN p s e g=SJ s e g i:=by
 have:(List.range (s.length+1)).find? (JT p s e g)=some i:=by
  rw[List.find?_range_eq_some]
  exact⟨h,by simp;omega,fun j hj=>by simp[Cz j hj]⟩
 rw[KN,this]
theorem Yu{p:List Ch}(Cz:∀j,j<s.length+1->JT p s e g j=false):KN p s e g=s:=by
 have:(List.range (s.length+1)).find? (JT p s e g)=none:=by
  rw[List.find?_eq_none]
  intro j hj
  simp[Cz j (by simpa using hj)]
 rw[KN,this]
theorem Yq(h:i<=s.length):GD s g i<=s.length:=by
 unfold GD;split<;>omega
theorem AUa(p:List Ch)(s:List UInt8)(e g:Bool):(KN p s e g).length<=s.length∧
  (e=true->KN p s e g=s.take (KN p s e g).length/\(KN p s e g=s\/Mt p (s.drop (KN p s e g).length)=true))∧
  (e=false->KN p s e g=s.drop (s.length-(KN p s e g).length)/\(KN p s e g=s\/Mt p (s.take (s.length-(KN p s e g).length))=true)):=by
 cases hf:(List.range (s.length+1)).find? (JT p s e g)with
 |none=>
  have h:KN p s e g=s:=by rw[KN,hf]
  rw[h]
  exact⟨A5 _,fun _=>⟨by simp,.inl O⟩,fun _=>⟨by simp,.inl O⟩⟩
 |some i=>
  have h:KN p s e g=SJ s e g i:=by rw[KN,hf]
  have hk:=List.find?_some hf
  have hm:=List.mem_of_find?_eq_some hf
  have hi:i<=s.length:=by simp at hm;omega
  have hl:=Yq (g:=g) hi
  rw[h]
  unfold JT at hk
  unfold SJ
  cases e with
  |true=>
   simp only[if_true]at hk ⊢
   have e1:(s.take (s.length-GD s g i)).length=s.length-GD s g i:=by simp
   rw[e1]
   exact⟨by omega,fun _=>⟨O,.inr hk⟩,fun h=>by cases h⟩
  |false=>
   simp only[RZ,O9]at hk ⊢
   have e1:s.length-(s.drop (GD s g i)).length=GD s g i:=by simp;omega
   rw[e1]
   exact⟨by simp,(fun h=>by cases h),fun _=>⟨rfl,.inr hk⟩⟩
end Go.Tri
