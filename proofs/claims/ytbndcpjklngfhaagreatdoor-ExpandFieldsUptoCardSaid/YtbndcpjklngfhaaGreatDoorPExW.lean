/-
 Expressions of whole numbers in plain words: lexemes, trees, what they are worth.
-/
import Derived.Test.YtbndcpjklngfhaaGreatDoorPWord7
import Derived.Lib.SlTrimSet
import Derived.Test.YtbndcpjklngfhaaGreatDoorTriY
import Derived.Test.YtbndcpjklngfhaaGreatDoorPNum
namespace Go.Tri
open Go.RowKit
variable {s op:List UInt8} {u i e j:Nat} {c:UInt8} {r:Int×Nat} {α:Type} {vs:List Value} {w0:World}
def F4(n:Int):Int:=IntKind.i64.wrap n
def C1:List UInt8:=[32,9,10]
structure Lx where
 text:List UInt8
 worth:Int
 what:Nat
def JF:Lx:=⟨[],0,0⟩
def Mg:Lx:=⟨[],0,4⟩
def DH(s:List UInt8):Nat×Nat:=if AG s 0 0=48 then(if 1<s.length/\AG s 1 0|||32=120 then(16,2)else(8,0))else(10,0)
def AXq(u:Nat):List UInt8:=if u=16 then[48,49,50,51,52,53,54,55,56,57,97,98,99,100,101,102]else if u=8 then[48,49,50,51,52,53,54,55]else[48,49,50,51,52,53,54,55,56,57]
def AFY(u:Nat)(c:UInt8):UInt8:=if u=16/\65<=c.toNat/\c.toNat<=70 then c|||32 else c
def S5(u:Nat)(c:UInt8):Int:=Lib.indexByte (AXq u) (AFY u c)
def FG(u:Nat)(s:List UInt8):Nat->Int->Nat->Int×Nat
 |0,n,i=>(n,i)
 |f+1,n,i=>if i<s.length then(if S5 u (AG s i 0)<0 then(n,i)else FG u s f (F4 (F4 (n * (u:Int))+S5 u (AG s i 0))) (i+1))else(n,i)
def Ck(s:List UInt8):Option (Int×Nat):=
 let r:=FG (DH s).1 s s.length 0 (DH s).2
 if r.2=(DH s).2\/(r.2<s.length/\CF ([95]++(s.drop r.2).take 1)=true)then none else some r
def WO:List UInt8:=[32,60,60,61,32,62,62,61,32,42,61,32,47,61,32,37,61,32,43,61,32,45,61,32,38,61,32,94,61,32,124,61,32,124,124,32,38,38,32,61,61,32,33,61,32,60,61,32,62,61,32,60,60,32,62,62,32,61,32,63,32,58,32,124,32,94,32,38,32,60,32,62,32,43,32,45,32,42,32,47,32,37,32,33,32,126,32,40,32,41,32]
def VZ(t:List UInt8):Bool:=Lib.contains WO ([32]++t++[32])&& !Lib.contains t [32]
def Fq(s:List UInt8):Nat->Nat
 |0=>0
 |n+1=>if VZ (s.take (n+1))=true then n+1 else Fq s n
def Bp(s:List UInt8):Lx×Nat:=
 if s=[]then(JF,0)
 else if BO (AG s 0 0)=true then(match Ck s with|none=>(Mg,0)|some r=>(⟨s.take r.2,r.1,1⟩,r.2))
 else if CF (s.take 1)=true then(⟨s.take (Dc s.length 1 s),0,2⟩,Dc s.length 1 s)
 else if Fq s (min 3 s.length)=0 then(Mg,0)else(⟨s.take (Fq s (min 3 s.length)),0,3⟩,Fq s (min 3 s.length))
def Ed(x:Lx):Bool:=decide (x.what=0)||decide (x.what=4)
def Li:Nat->List UInt8->List Lx
 |0,_=>[]
 |f+1,t=>(Bp t).1::(if Ed (Bp t).1=true then[]else Li f (Lib.trimLeftS (t.drop (Bp t).2) C1))
def DM(s:List UInt8):List Lx:=Li (s.length+1) (Lib.trimLeftS s C1)
inductive Ex where
 |num (n:Int)
 |var (nm:List UInt8)
 |asg (op nm:List UInt8) (k:Ex)
 |una (op:List UInt8) (k:Ex)
 |bin (op:List UInt8) (a b:Ex)
 |cho (a b c:Ex)
inductive PA where
 |ok (x:Ex) (L:List Lx)
 |bad (e:Nat)
def Ld:Ex->Nat
 | .num _=>1
 | .var _=>1
 | .asg _ _ k=>Ld k+1
 | .una _ k=>Ld k+1
 | .bin _ a b=>Ld a+Ld b+1
 | .cho a b c=>Ld a+Ld b+Ld c+1
def Ar(L:List Lx):Lx:=AG L 0 JF
def BP(L:List Lx):Lx:=AG L (if L.length=1 then 0 else 1) JF
def Am(L:List Lx):List Lx:=if L.length=1 then L else L.drop 1
def G3(L:List Lx)(t:List UInt8):Bool:=decide ((Ar L).what=3)&&decide ((Ar L).text=t)
def lvS:Nat->List UInt8
 |0=>[32,124,124,32]
 |1=>[32,38,38,32]
 |2=>[32,124,32]
 |3=>[32,94,32]
 |4=>[32,38,32]
 |5=>[32,61,61,32,33,61,32]
 |6=>[32,60,32,60,61,32,62,32,62,61,32]
 |7=>[32,60,60,32,62,62,32]
 |8=>[32,43,32,45,32]
 |_=>[32,42,32,47,32,37,32]
def AUN:List UInt8:=[32,61,32,42,61,32,47,61,32,37,61,32,43,61,32,45,61,32,60,60,61,32,62,62,61,32,38,61,32,94,61,32,124,61,32]
def HL(L:List Lx):Bool:=decide ((Ar L).what=2)&&decide ((BP L).what=3)&&Lib.contains AUN ([32]++(BP L).text++[32])
def HQ(v:Nat)(L:List Lx):Bool:=decide ((Ar L).what=3)&&Lib.contains (lvS v) ([32]++(Ar L).text++[32])
def IB(L:List Lx):Bool:=G3 L [43]||G3 L [45]||G3 L [33]||G3 L [126]
structure Kl where
 asg:List Lx->PA
 cho:List Lx->PA
 opd:List Lx->PA
def EH(R:Kl)(L:List Lx):PA:=
 if IB L=true then(match R.opd (Am L)with| .bad e=>.bad e| .ok x L1=>.ok (.una ([49]++(Ar L).text) x) L1)
 else if G3 L [40]=true then(match R.asg (Am L)with| .bad e=>.bad e| .ok x L1=>if G3 L1 [41]=true then .ok x (Am L1)else .bad 60)
 else if(Ar L).what=1 then .ok (.num (Ar L).worth) (Am L)
 else if(Ar L).what=2 then .ok (.var (Ar L).text) (Am L)
 else .bad 60
def KS(v:Nat)(next:List Lx->PA):Nat->Ex->List Lx->PA
 |0,x,L=>.ok x L
 |f+1,x,L=>if HQ v L=true then(match next (Am L)with| .bad e=>.bad e| .ok y L1=>KS v next f (.bin (Ar L).text x y) L1)else .ok x L
def CJ(R:Kl):Nat->List Lx->PA
 |0,L=>EH R L
 |k+1,L=>match CJ R k L with| .bad e=>.bad e| .ok x L1=>KS (9-k) (CJ R k) L1.length x L1
def ED(R:Kl)(L:List Lx):PA:=
 match CJ R 10 L with
 | .bad e=>.bad e
 | .ok x L1=>if G3 L1 [63]=true then
   (match R.asg (Am L1)with
   | .bad e=>.bad e
   | .ok y L2=>if G3 L2 [58]=true then(match R.cho (Am L2)with| .bad e=>.bad e| .ok z L3=>.ok (.cho x y z) L3)else .bad 60)
  else .ok x L1
def Gn(R:Kl)(L:List Lx):PA:=
 if HL L=true then(match R.asg (Am (Am L))with| .bad e=>.bad e| .ok x L1=>.ok (.asg (BP L).text (Ar L).text x) L1)
 else ED R L
def FM:Nat->Kl
 |0=>⟨fun _=>.bad 52,fun _=>.bad 52,fun _=>.bad 52⟩
 |n+1=>⟨Gn (FM n),ED (FM n),EH (FM n)⟩
inductive RA where
 |ok (x:Ex)
 |bad (e:Nat)
def Dy(s:List UInt8):RA:=
 if Lib.trimS s C1=[]then .ok (.num 0)
 else match(FM 25).asg (DM s)with
  | .bad e=>.bad e
  | .ok x L=>if(Ar L).what=0 then .ok x else .bad 60
def Zy(b:Bool):Int:=if b=true then 1 else 0
def MU(a b:Int):Int:=F4 (((BitVec.ofInt 64 a)&&& (BitVec.ofInt 64 b)).toNat:Int)
def orI(a b:Int):Int:=F4 (((BitVec.ofInt 64 a)||| (BitVec.ofInt 64 b)).toNat:Int)
def AFQ(a b:Int):Int:=F4 (((BitVec.ofInt 64 a) ^^^ (BitVec.ofInt 64 b)).toNat:Int)
def AXP(a n:Int):Int:=F4 (a * 2 ^ (min n.toNat 64))
def AQZ(a n:Int):Int:=a.fdiv (2 ^ (min n.toNat 64))
def CO(op:List UInt8)(a b:Int):Int×Nat:=
  if op=[124]then(orI a b,0)else if op=[94]then(AFQ a b,0)else if op=[38]then(MU a b,0)
  else if op=[60,60]then(AXP a (MU b 63),0)else if op=[62,62]then(AQZ a (MU b 63),0)
  else if op=[43]then(F4 (a+b),0)else if op=[45]then(F4 (a-b),0)else if op=[42]then(F4 (a * b),0)
  else if op=[47]\/op=[37]then
    (if b=0 then(0,61)else if a= -9223372036854775808/\b= -1/\op=[47]then(a,0)else if b= -1/\op=[37]then(0,0)
     else if op=[47]then(F4 (a.tdiv b),0)else(a.tmod b,0))
  else if op=[61,61]then(Zy (decide (a=b)),0)else if op=[33,61]then(Zy (decide (a≠b)),0)
  else if op=[60]then(Zy (decide (a<b)),0)else if op=[60,61]then(Zy (decide (a<=b)),0)else if op=[62]then(Zy (decide (b<a)),0)
  else(Zy (decide (b<=a)),0)
abbrev Dw:=List UInt8×Int
def HM(t:List UInt8):Int×Nat:=
 let s:=Lib.trimS t C1
 if s=[]then(0,0)
 else
  let r:=if AG s 0 0=45\/AG s 0 0=43 then s.drop 1 else s
  if r=[]\/BO (AG r 0 0)=false then(0,60)
  else match Ck r with
   |none=>(0,60)
   |some q=>if q.2=r.length then(if AG s 0 0=45 then F4 (-q.1)else q.1,0)else(0,60)
def Bt(vars:List (List UInt8×List UInt8))(S:List Dw)(n:List UInt8):Int×Nat:=
 match S.reverse.find? (fun a=>decide (a.1=n))with
 |some a=>(a.2,0)
 |none=>match vars.find? (fun v=>decide (v.1=n))with
  |some v=>HM v.2
  |none=>(0,0)
inductive WR where
 |ok (v:Int) (S:List Dw)
 |bad (e:Nat)
def APr(op:List UInt8)(a:Int):Int:=if op=[49,43]then a else if op=[49,45]then F4 (-a)else if op=[49,126]then AFQ (-1) a else Zy (decide (a=0))
def A1(vars:List (List UInt8×List UInt8)):Ex->List Dw->WR
  | .num n,S=>.ok n S
  | .var nm,S=>if(Bt vars S nm).2=0 then .ok (Bt vars S nm).1 S else .bad (Bt vars S nm).2
  | .asg op nm k,S=>
    if op=[61]then(match A1 vars k S with| .bad e=>.bad e| .ok b S1=>.ok b (S1++[(nm,b)]))
    else if(Bt vars S nm).2=0 then
      (match A1 vars k S with
      | .bad e=>.bad e
      | .ok b S1=>if(CO (Lib.trimSuffix op [61]) (Bt vars S nm).1 b).2=0 then .ok (CO (Lib.trimSuffix op [61]) (Bt vars S nm).1 b).1 (S1++[(nm,(CO (Lib.trimSuffix op [61]) (Bt vars S nm).1 b).1)])else .bad (CO (Lib.trimSuffix op [61]) (Bt vars S nm).1 b).2)
    else .bad (Bt vars S nm).2
  | .una op k,S=>match A1 vars k S with| .bad e=>.bad e| .ok a S1=>.ok (APr op a) S1
  | .cho a b c,S=>match A1 vars a S with| .bad e=>.bad e| .ok v S1=>if v≠0 then A1 vars b S1 else A1 vars c S1
  | .bin op a b,S=>
    match A1 vars a S with
    | .bad e=>.bad e
    | .ok v S1=>
      if op=[38,38]\/op=[124,124]then
        (if decide (v≠0)=decide (op=[124,124])then .ok (Zy (decide (v≠0))) S1
         else match A1 vars b S1 with| .bad e=>.bad e| .ok u S2=>.ok (Zy (decide (u≠0))) S2)
      else match A1 vars b S1 with
        | .bad e=>.bad e
        | .ok u S2=>if(CO op v u).2=0 then .ok (CO op v u).1 S2 else .bad (CO op v u).2
def Fc(s:List UInt8)(vars:List (List UInt8×List UInt8)):Int×List Dw×Nat:=
 match Dy s with
 | .bad e=>(0,[],e)
 | .ok x=>match A1 vars x []with
  | .bad e=>(0,[],e)
  | .ok v S=>(v,S,0)
theorem AQw(h0:AG s 0 0=48)(h:(decide ((1:Int)<(s.length:Int))&&decide (AG s 1 0|||32=120))=true):DH s=(16,2):=by
 rw[Ay,BC,BC]at h
 unfold DH
 rw[AI h0,AI ⟨by omega,h.2⟩]
theorem AOc(h0:AG s 0 0=48)(h:(decide ((1:Int)<(s.length:Int))&&decide (AG s 1 0|||32=120))=false):DH s=(8,0):=by
 unfold DH
 rw[AI h0,AB]
 rintro⟨h1,h2⟩
 rw[BK (show(1:Int)<(s.length:Int) by omega),BK h2]at h
 cases h
theorem Uv(h0:¬AG s 0 0=48):DH s=(10,0):=by
 unfold DH
 rw[AB h0]
theorem AIV(h:s≠[]):(DH s).2<=s.length:=by
 have:=BV.2 h
 unfold DH
 split
 ·split
  ·rename_i h2;exact h2.1
  exact Aw _
 exact Aw _
theorem AUz(h:((decide ((u:Int)=16)&&decide ((65:Int)<=(c.toNat:Int)))&&decide ((c.toNat:Int)<=70))=true):AFY u c=c|||32:=by
 simp only[Ay,BC]at h
 unfold AFY
 rw[AI ⟨by omega,by omega,by omega⟩]
theorem API(h:((decide ((u:Int)=16)&&decide ((65:Int)<=(c.toNat:Int)))&&decide ((c.toNat:Int)<=70))=false):AFY u c=c:=by
 unfold AFY
 rw[AB]
 rintro⟨h1,h2,h3⟩
 rw[BK (show(u:Int)=16 by omega),BK (show(65:Int)<=(c.toNat:Int) by omega),BK (show(c.toNat:Int)<=70 by omega)]at h
 cases h
theorem ADT{f:Nat}{n:Int}(h:¬i<s.length):FG u s f n i=(n,i):=by
 cases f with
 |zero=>rfl
 |succ f=>rw[FG,AB h]
theorem Xw{f:Nat}{n:Int}(h:S5 u (AG s i 0)<0):FG u s f n i=(n,i):=by
 cases f with
 |zero=>rfl
 |succ f=>rw[FG];split<;>rfl
theorem Y8{f:Nat}{n:Int}(hf:s.length-i<=f)(h:i<s.length)(hd:¬S5 u (AG s i 0)<0):FG u s f n i=FG u s (f-1) (F4 (F4 (n * (u:Int))+S5 u (AG s i 0))) (i+1):=by
 obtain⟨g,rfl⟩:∃g,f=g+1:=⟨f-1,by omega⟩
 rw[FG,AI h,AB hd];rfl
theorem ADM{n:Int}{k:Nat}(hk:k=1)(hr:FG (DH s).1 s s.length 0 (DH s).2=(n,i))(h:(decide ((i:Int)=((DH s).2:Int))||(decide ((i:Int)<(s.length:Int))&&CF ([95]++(s.drop i).take k)))=true):Ck s=none:=by
 subst hk
 unfold Ck
 simp only[hr]
 rw[AI]
 simp only[C4,Ay,BC]at h
 rcases h with h|h
 ·exact .inl (by omega)
 exact .inr ⟨by omega,h.2⟩
theorem ADJ{n:Int}{k:Nat}(hk:k=1)(hr:FG (DH s).1 s s.length 0 (DH s).2=(n,i))(h:(decide ((i:Int)=((DH s).2:Int))||(decide ((i:Int)<(s.length:Int))&&CF ([95]++(s.drop i).take k)))=false):Ck s=some (n,i):=by
 subst hk
 unfold Ck
 simp only[hr]
 rw[AB]
 rintro(h1|⟨h1,h2⟩)
 ·rw[BK (show(i:Int)=((DH s).2:Int) by omega)]at h;cases h
 rw[h2,BK (show(i:Int)<(s.length:Int) by omega)]at h
 simp at h
def Mp(s:List UInt8):Int×Nat:=(Ck s).getD (0,0)
def Me(x:Lx):List Value:=[Au x.text,.int .i64 x.worth,.int .i64 (x.what:Int)]
theorem F9(x:Lx):∀u∈Me x,u.oneCell'=true:=fun u hu=>by
 simp only[Me,Ci,List.not_mem_nil,or_false]at hu
 rcases hu with rfl|rfl|rfl<;>rfl
theorem Lu{f n:Nat}{s:List UInt8}(h:¬(n<s.length/\CF (s.take (n+1))=true)):Dc f n s=n:=by
 cases f with
 |zero=>rfl
 |succ f=>rw[Dc,AB h]
theorem KU{f n:Nat}{s:List UInt8}(hf:s.length-n<=f)(h1:n<s.length)(h2:CF (s.take (n+1))=true):Dc f n s=Dc (f-1) (n+1) s:=by
 obtain⟨g,rfl⟩:∃g,f=g+1:=⟨f-1,by omega⟩
 rw[Dc,AI ⟨h1,h2⟩];rfl
theorem AJl{n:Nat}(h:0<n)(hb:VZ (s.take n)=false):Fq s n=Fq s (n-1):=by
 obtain⟨m,rfl⟩:∃m,n=m+1:=⟨n-1,by omega⟩
 rw[Fq,AB (by rw[hb];simp)];rfl
theorem ANx{n:Nat}(h:0<n)(hb:VZ (s.take n)=true):Fq s n=n:=by
 obtain⟨m,rfl⟩:∃m,n=m+1:=⟨n-1,by omega⟩
 rw[Fq,AI hb]
theorem SA(Dk:s≠[])(hd:(decide ((48:Int)<=((AG s 0 0).toNat:Int))&&decide (((AG s 0 0).toNat:Int)<=57))=true):Bp s=(match Ck s with|none=>(Mg,0)|some r=>(⟨s.take r.2,r.1,1⟩,r.2)):=by
 unfold Bp
 rw[AB Dk,AI (show BO (AG s 0 0)=true from hd)]
theorem Rv(Dk:s≠[])(hd:(decide ((48:Int)<=((AG s 0 0).toNat:Int))&&decide (((AG s 0 0).toNat:Int)<=57))=false):Bp s=if CF (s.take 1)=true then(⟨s.take (Dc s.length 1 s),0,2⟩,Dc s.length 1 s)
 else if Fq s (min 3 s.length)=0 then(Mg,0)else(⟨s.take (Fq s (min 3 s.length)),0,3⟩,Fq s (min 3 s.length)):=by
 unfold Bp
 rw[AB Dk,AB (show ¬BO (AG s 0 0)=true from fun h=>by rw[show BO (AG s 0 0)=false from hd]at h;cases h)]
theorem Qt{u:Nat}{s:List UInt8}:∀(f:Nat) (n:Int) (i:Nat),i<=s.length->i<=(FG u s f n i).2/\(FG u s f n i).2<=s.length
 |0,_,_,h=>⟨A5 _,h⟩
 |f+1,n,i,h=>by
  rw[FG]
  split
  ·split
   ·exact⟨A5 _,h⟩
   rename_i h1 _
   have:=Qt (u:=u) f (F4 (F4 (n * (u:Int))+S5 u (AG s i 0))) (i+1) h1
   exact⟨by omega,this.2⟩
  exact⟨A5 _,h⟩
theorem Y5(Dk:s≠[])(h:Ck s=some r):0<r.2/\r.2<=s.length:=by
 have h1:=Qt (u:=(DH s).1) (s:=s) s.length 0 (DH s).2 (AIV Dk)
 unfold Ck at h
 simp only at h
 split at h
 ·cases h
 rename_i hc
 cases h
 exact⟨by rcases Nat.eq_zero_or_pos (FG (DH s).1 s s.length 0 (DH s).2).2 with h0|h0<;>first |exact h0|exact Ac (.inl (by omega)) hc,h1.2⟩
theorem AAV(s:List UInt8):∀n,Fq s n<=n
 |0=>A5 _
 |n+1=>by
  rw[Fq];split
  ·exact A5 _
  exact Nat.le_succ_of_le (AAV s n)
theorem QN{s:List UInt8}:∀(f n:Nat),n<=s.length->n<=Dc f n s/\Dc f n s<=s.length
 |0,n,h=>⟨A5 _,h⟩
 |f+1,n,h=>by
  rw[Dc];split
  ·rename_i hc
   have:=QN f (n+1) hc.1
   exact⟨by omega,this.2⟩
  exact⟨A5 _,h⟩
theorem Lr{t:List UInt8}(h:Ed (Bp t).1=false):1<=(Bp t).2/\(Bp t).2<=t.length:=by
 unfold Bp at h ⊢
 split
 ·rename_i h0;rw[AI h0]at h;cases h
 rename_i h0
 have hp:=BV.2 h0
 rw[AB h0]at h
 split
 ·rename_i h1
  rw[AI h1]at h
  cases hn:Ck t with
  |none=>rw[hn]at h;cases h
  |some r=>exact Y5 h0 hn
 rename_i h1
 rw[AB h1]at h
 split
 ·exact QN t.length 1 hp
 rename_i h2
 rw[AB h2]at h
 split
 ·rename_i h3;rw[AI h3]at h;cases h
 rename_i h3
 have:=AAV t (min 3 t.length)
 exact⟨by show 1<=Fq t _;omega,by show Fq t _<=_;omega⟩
theorem E6(s cs:List UInt8):(Lib.trimLeftS s cs).length<=s.length:=(List.dropWhile_sublist _).length_le
theorem ACN:∀(f:Nat) (t:List UInt8),(Li f t).length<=t.length+1
 |0,_=>Aw _
 |f+1,t=>by
  rw[Li]
  split
  ·simp
  rename_i h
  have h1:=Lr (t:=t) (by simpa using h)
  have h2:=ACN f (Lib.trimLeftS (t.drop (Bp t).2) C1)
  have h3:=E6 (t.drop (Bp t).2) C1
  rw[BA]at h3
  rw[CD];omega
theorem N4(s:List UInt8):(DM s).length<=s.length+1:=by
 have h1:=ACN (s.length+1) (Lib.trimLeftS s C1)
 have h2:=E6 s C1
 unfold DM;omega
theorem APb{l r:List α}{x:α}{n:Nat}(h:l.drop n=x::r):n<l.length/\l[n]? =some x/\l.drop (n+1)=r:=by
 have hn:n<l.length:=by
  rcases Nat.lt_or_ge n l.length with h1|h1
  ·exact h1
  rw[NR h1]at h;cases h
 rw[V3 hn]at h
 cases h
 exact⟨hn,LC hn,O⟩
theorem ANt{L:List Lx}{n f:Nat}{q:List UInt8}(h:L.drop n=Li f q)(hf:q.length<f):n<L.length/\L[n]? =some (Bp q).1/\L.drop (n+1)=(if Ed (Bp q).1=true then[]else Li (f-1) (Lib.trimLeftS (q.drop (Bp q).2) C1)):=by
 obtain⟨g,rfl⟩:∃g,f=g+1:=⟨f-1,by omega⟩
 exact APb h
theorem AJN{x:Lx}{b c:Bool}(h:((!c||decide ((x.what:Int)=0))||decide ((x.what:Int)=4))=b)(hc:c=true):Ed x=b:=by
 subst hc
 rw[<-h]
 unfold Ed
 rw[show decide ((x.what:Int)=0)=decide (x.what=0) by by_cases h:x.what=0<;>simp[h]<;>omega,show decide ((x.what:Int)=4)=decide (x.what=4) by by_cases h:x.what=4<;>simp[h]<;>omega]
 rfl
def lxV(x:Lx):List Value:=[.agg (Me x).toArray]
theorem ATa{L:List Lx}{n:Nat}(h:(L.map lxV)[n]? =some vs):n<L.length/\vs=lxV (AG L n JF):=by
 rw[List.getElem?_map]at h
 cases hx:L[n]? with
 |none=>rw[hx]at h;cases h
 |some x=>
  rw[hx]at h
  cases h
  obtain⟨hn,he⟩:=List.getElem?_eq_some_iff.1 hx
  exact⟨hn,by rw[CT hn,he]⟩
def Tk(L:List Lx):Prop:=L≠[]/\Ed (AG L (L.length-1) JF)=true/\∀x∈L,x.text.length<=900000000/\(x.what=2->x.text≠[])
theorem Tk.pos{L:List Lx}(h:Tk L):1<=L.length:=BV.2 h.1
theorem Tk.now2{L:List Lx}(h:Tk L):(Ar L).text.length<=900000000/\((Ar L).what=2->(Ar L).text≠[]):=h.2.2 _ (BE (by have:=h.pos;omega))
theorem Tk.now{L:List Lx}(h:Tk L):(Ar L).text.length<=900000000:=h.now2.1
theorem Tk.then{L:List Lx}(h:Tk L):(BP L).text.length<=900000000:=(h.2.2 _ (BE (by have:=h.pos;split<;>omega))).1
theorem Tk.two{L:List Lx}(h:Tk L)(hs:Ed (Ar L)=false):2<=L.length:=by
 have h1:=h.pos
 rcases Nat.lt_or_ge L.length 2 with h2|h2
 ·have h3:L.length-1=0:=by omega
  have h4:=h.2.1
  rw[h3]at h4
  rw[show Ar L=AG L 0 JF from O,h4]at hs
  cases hs
 exact h2
theorem Lk(l:List α)(i:Nat)(d:α):AG (l.drop 1) i d=AG l (i+1) d:=by
 unfold AG
 rw[Cy,Cy,List.getElem?_drop,Nat.add_comm]
theorem Tk.step{L:List Lx}(h:Tk L):Tk (Am L):=by
 unfold Am
 split
 ·exact h
 rename_i h1
 have h2:=h.pos
 have hl:(L.drop 1).length=L.length-1:=BA
 refine⟨BV.1 (by omega),?_,fun x hx=>h.2.2 x (List.mem_of_mem_drop hx)⟩
 rw[Lk,hl,show L.length-1-1+1=L.length-1 by omega]
 exact h.2.1
theorem Hm(L:List Lx):(Am L).length<=L.length:=by
 unfold Am;split
 ·exact A5 _
 rw[BA];omega
theorem Gu{L:List Lx}(h:Tk L)(hs:Ed (Ar L)=false):(Am L).length+1=L.length:=by
 have:=h.two hs
 unfold Am
 rw[AB (by omega),BA];omega
theorem YN{L:List Lx}(h:L≠[]):Ar (Am L)=BP L:=by
 unfold Ar BP Am
 split
 ·rfl
 rw[Lk]
theorem AFj{L:List Lx}(h:L≠[]):BP (Am L)=AG (L.drop 2) 0 (BP L):=by
 have hp:=BV.2 h
 unfold BP Am
 by_cases h1:L.length=1
 ·rw[AI h1,AI h1]
  rw[NR (by omega)];rfl
 rw[AB h1,AB h1,BA]
 by_cases h2:L.length=2
 ·rw[AI (by omega),Lk,NR (by omega:L.length<=2)];rfl
 rw[AB (by omega),Lk]
 unfold AG
 rw[Cy,Cy,List.getElem?_drop]
 rw[LC (show 1+1<L.length by omega)];rfl
theorem AGW{L:List Lx}(h:L≠[]):(Am L).drop 2=(L.drop 2).drop 1:=by
 have hp:=BV.2 h
 unfold Am
 split
 ·rw[Cp,NR (by omega),NR (by omega)]
 rw[Cp,Cp]
def Ni(L:List Lx)(r:PA):Prop:=∀x L1,r=.ok x L1->Tk L1/\L1.length<=L.length
theorem Ef{L:List Lx}:Ni L (.bad e):=fun _ _ h=>by cases h
theorem Jm{L L1:List Lx}{x:Ex}(h:Tk L1)(hl:L1.length<=L.length):Ni L (.ok x L1):=fun _ _ h2=>by cases h2;exact⟨h,hl⟩
structure Qn(R:Kl):Prop where
 asg:∀L,Tk L->Ni L (R.asg L)
 cho:∀L,Tk L->Ni L (R.cho L)
 opd:∀L,Tk L->Ni L (R.opd L)
theorem Xs{R:Kl}(hR:Qn R){L:List Lx}(h:Tk L):Ni L (EH R L):=by
 have hs:=h.step
 have hl:=Hm L
 unfold EH
 split
 ·cases hr:R.opd (Am L)with
  |bad e=>exact Ef
  |ok x L1=>have:=hR.opd _ hs x L1 hr;exact Jm this.1 (by omega)
 split
 ·cases hr:R.asg (Am L)with
  |bad e=>exact Ef
  |ok x L1=>
   have:=hR.asg _ hs x L1 hr
   have h2:=Hm L1
   simp only
   split
   ·exact Jm this.1.step (by omega)
   exact Ef
 split
 ·exact Jm hs hl
 split
 ·exact Jm hs hl
 exact Ef
theorem Ya{v:Nat}{next:List Lx->PA}(hn:∀L,Tk L->Ni L (next L)):∀(f:Nat) (x:Ex) (L:List Lx),Tk L->Ni L (KS v next f x L)
 |0,x,L,h=>Jm h (A5 _)
 |f+1,x,L,h=>by
  rw[KS]
  split
  ·cases hr:next (Am L)with
   |bad e=>exact Ef
   |ok y L1=>
    have h1:=hn _ h.step y L1 hr
    have h2:=Hm L
    intro z L2 hz
    have h3:=Ya hn f _ L1 h1.1 z L2 hz
    exact⟨h3.1,by omega⟩
  exact Jm h (A5 _)
theorem E8{R:Kl}(hR:Qn R):∀(k:Nat) (L:List Lx),Tk L->Ni L (CJ R k L)
 |0,L,h=>Xs hR h
 |k+1,L,h=>by
  rw[CJ]
  cases hr:CJ R k L with
  |bad e=>exact Ef
  |ok x L1=>
   have h1:=E8 hR k L h x L1 hr
   intro z L2 hz
   have h3:=Ya (E8 hR k) _ _ _ h1.1 z L2 hz
   exact⟨h3.1,by omega⟩
theorem Xz{R:Kl}(hR:Qn R){L:List Lx}(h:Tk L):Ni L (ED R L):=by
 unfold ED
 cases hr:CJ R 10 L with
 |bad e=>exact Ef
 |ok x L1=>
  have h1:=E8 hR 10 L h x L1 hr
  have Ri:=Hm L1
  simp only
  split
  ·cases ha:R.asg (Am L1)with
   |bad e=>exact Ef
   |ok y L2=>
    have h2:=hR.asg _ h1.1.step y L2 ha
    have hl2:=Hm L2
    simp only
    split
    ·cases hc:R.cho (Am L2)with
     |bad e=>exact Ef
     |ok z L3=>
      have h3:=hR.cho _ h2.1.step z L3 hc
      exact Jm h3.1 (by omega)
    exact Ef
  exact Jm h1.1 h1.2
theorem AMD{R:Kl}(hR:Qn R){L:List Lx}(h:Tk L):Ni L (Gn R L):=by
 unfold Gn
 split
 ·cases hr:R.asg (Am (Am L))with
  |bad e=>exact Ef
  |ok x L1=>
   have:=hR.asg _ h.step.step x L1 hr
   have h1:=Hm L
   have h2:=Hm (Am L)
   exact Jm this.1 (by omega)
 exact Xz hR h
theorem DT:∀n,Qn (FM n)
 |0=>⟨fun _ _=>Ef,fun _ _=>Ef,fun _ _=>Ef⟩
 |n+1=>⟨fun _ h=>AMD (DT n) h,fun _ h=>Xz (DT n) h,fun _ h=>Xs (DT n) h⟩
theorem Py{t:List UInt8}{m:Nat}(ht:t.length<=m):(Bp t).1.text.length<=m/\((Bp t).1.what=2->(Bp t).1.text≠[]):=by
 unfold Bp
 split
 ·exact⟨Aw _,fun h=>by cases h⟩
 rename_i h0
 have hp:=BV.2 h0
 split
 ·cases Ck t with
  |none=>exact⟨Aw _,fun h=>by cases h⟩
  |some r=>exact⟨by show(t.take r.2).length<=_;rw[BL];omega,fun h=>by cases h⟩
 split
 ·have hg:=QN (s:=t) t.length 1 hp
  exact⟨by show(t.take _).length<=_;rw[BL];omega,fun _=>BV.1 (by show 0<(t.take _).length;rw[BL];omega)⟩
 split
 ·exact⟨Aw _,fun h=>by cases h⟩
 exact⟨by show(t.take _).length<=_;rw[BL];omega,fun h=>by cases h⟩
theorem AJH:∀(f:Nat) (t:List UInt8),t.length<f->t.length<=900000000->Tk (Li f t)
 |0,_,h,_=>Ac h (Nat.not_lt_zero _)
 |f+1,t,h,ht=>by
  rw[Li]
  by_cases hs:Ed (Bp t).1=true
  ·rw[AI hs]
   refine⟨by simp,hs,fun x hx=>?_⟩
   rw[FK]at hx;subst hx;exact Py ht
  rw[AB hs]
  have h1:=Lr (t:=t) (by simpa using hs)
  have h3:=E6 (t.drop (Bp t).2) C1
  rw[BA]at h3
  have ih:=AJH f (Lib.trimLeftS (t.drop (Bp t).2) C1) (by omega) (by omega)
  have hp:=ih.pos
  refine⟨by simp,?_,fun x hx=>?_⟩
  ·rw[CD,show ∀n,n+1-1=n from fun n=>rfl]
   have h4:=ih.2.1
   rw[show(Li f (Lib.trimLeftS (t.drop (Bp t).2) C1)).length=((Li f (Lib.trimLeftS (t.drop (Bp t).2) C1)).length-1)+1 by omega]
   exact h4
  rcases Ci.1 hx with rfl|hx
  ·exact Py ht
  exact ih.2.2 x hx
theorem UW(h:s.length<=900000000):Tk (DM s):=by
 have:=E6 s C1
 exact AJH _ _ (by omega) (by omega)
def Sz(L:List Lx)(r:PA):Prop:=∀x L1,r=.ok x L1->Ld x+L1.length<=L.length
theorem IU{L:List Lx}:Sz L (.bad e):=fun _ _ h=>by cases h
theorem Vy{L L1:List Lx}{x:Ex}(hl:Ld x+L1.length<=L.length):Sz L (.ok x L1):=fun _ _ h2=>by cases h2;exact hl
structure SzR(R:Kl):Prop where
 asg:∀L,Tk L->Sz L (R.asg L)
 cho:∀L,Tk L->Sz L (R.cho L)
 opd:∀L,Tk L->Sz L (R.opd L)
theorem Ig{L:List Lx}{t:List UInt8}(h:G3 L t=true):Ed (Ar L)=false:=by
 unfold G3 at h
 rw[Ay,BC]at h
 unfold Ed;rw[h.1];rfl
theorem ACk{L:List Lx}(h:IB L=true):Ed (Ar L)=false:=by
 unfold IB at h
 simp only[C4]at h
 rcases h with ((h|h)|h)|h<;>exact Ig h
theorem IM{L:List Lx}{n:Nat}(h:(Ar L).what=n)(hn:n≠0/\n≠4):Ed (Ar L)=false:=by
 unfold Ed
 rw[h,DC hn.1,DC hn.2];rfl
theorem S4{v:Nat}{L:List Lx}(h:HQ v L=true):Ed (Ar L)=false:=by
 unfold HQ at h
 rw[Ay,BC]at h
 exact IM h.1 (by decide)
theorem Su{L:List Lx}(h:HL L=true):Ed (Ar L)=false/\Ed (BP L)=false:=by
 unfold HL at h
 rw[Ay,Ay,BC,BC]at h
 refine⟨IM h.1.1 (by decide),?_⟩
 unfold Ed;rw[h.1.2];rfl
theorem AHn{R:Kl}(hR:SzR R)(hG:Qn R){L:List Lx}(h:Tk L):Sz L (EH R L):=by
 have hs:=h.step
 unfold EH
 split
 ·rename_i hu
  have hl:=Gu h (ACk hu)
  cases hr:R.opd (Am L)with
  |bad e=>exact IU
  |ok x L1=>have:=hR.opd _ hs x L1 hr;exact Vy (by simp only[Ld];omega)
 split
 ·rename_i hp
  have hl:=Gu h (Ig hp)
  cases hr:R.asg (Am L)with
  |bad e=>exact IU
  |ok x L1=>
   have:=hR.asg _ hs x L1 hr
   have h2:=Hm L1
   simp only
   split
   ·exact Vy (by omega)
   exact IU
 split
 ·rename_i hw
  have hl:=Gu h (IM hw (by decide))
  exact Vy (by simp only[Ld];omega)
 split
 ·rename_i hw
  have hl:=Gu h (IM hw (by decide))
  exact Vy (by simp only[Ld];omega)
 exact IU
theorem AIK{v:Nat}{next:List Lx->PA}(hn:∀L,Tk L->Sz L (next L))(hg:∀L,Tk L->Ni L (next L)):∀(f:Nat) (x:Ex) (L:List Lx),Tk L->∀y L1,KS v next f x L=.ok y L1->Ld y+L1.length<=Ld x+L.length
 |0,x,L,_,y,L1,h=>by cases h;exact A5 _
 |f+1,x,L,h,y,L1,hy=>by
  rw[KS]at hy
  split at hy
  ·rename_i hb
   have hl:=Gu h (S4 hb)
   cases hr:next (Am L)with
   |bad e=>rw[hr]at hy;cases hy
   |ok z L2=>
    rw[hr]at hy
    have h1:=hn _ h.step z L2 hr
    have h2:=AIK hn hg f _ L2 (hg _ h.step z L2 hr).1 y L1 hy
    simp only[Ld]at h2
    omega
  cases hy;exact A5 _
theorem Od{R:Kl}(hR:SzR R)(hG:Qn R):∀(k:Nat) (L:List Lx),Tk L->Sz L (CJ R k L)
 |0,L,h=>AHn hR hG h
 |k+1,L,h=>by
  rw[CJ]
  cases hr:CJ R k L with
  |bad e=>exact IU
  |ok x L1=>
   have h1:=Od hR hG k L h x L1 hr
   have h2:=E8 hG k L h x L1 hr
   intro z L2 hz
   have h3:=AIK (Od hR hG k) (E8 hG k) _ _ _ h2.1 z L2 hz
   omega
theorem AIF{R:Kl}(hR:SzR R)(hG:Qn R){L:List Lx}(h:Tk L):Sz L (ED R L):=by
 unfold ED
 cases hr:CJ R 10 L with
 |bad e=>exact IU
 |ok x L1=>
  have h1:=Od hR hG 10 L h x L1 hr
  have g1:=E8 hG 10 L h x L1 hr
  simp only
  split
  ·rename_i hq
   have Ri:=Gu g1.1 (Ig hq)
   cases ha:R.asg (Am L1)with
   |bad e=>exact IU
   |ok y L2=>
    have h2:=hR.asg _ g1.1.step y L2 ha
    have g2:=hG.asg _ g1.1.step y L2 ha
    simp only
    split
    ·rename_i hc
     have hl2:=Gu g2.1 (Ig hc)
     cases A6:R.cho (Am L2)with
     |bad e=>exact IU
     |ok z L3=>
      have h3:=hR.cho _ g2.1.step z L3 A6
      exact Vy (by simp only[Ld];omega)
    exact IU
  exact Vy h1
theorem ASq{R:Kl}(hR:SzR R)(hG:Qn R){L:List Lx}(h:Tk L):Sz L (Gn R L):=by
 unfold Gn
 split
 ·rename_i ha
  have hl:=Gu h (Su ha).1
  cases hr:R.asg (Am (Am L))with
  |bad e=>exact IU
  |ok x L1=>
   have:=hR.asg _ h.step.step x L1 hr
   have h2:=Hm (Am L)
   exact Vy (by simp only[Ld];omega)
 exact AIF hR hG h
theorem Ki:∀n,SzR (FM n)
 |0=>⟨fun _ _=>IU,fun _ _=>IU,fun _ _=>IU⟩
 |n+1=>⟨fun _ h=>ASq (Ki n) (DT n) h,fun _ h=>AIF (Ki n) (DT n) h,fun _ h=>AHn (Ki n) (DT n) h⟩
theorem ABO{x:Ex}(hs:s.length<=900000000)(h:Dy s=.ok x):Ld x<=s.length+1:=by
 unfold Dy at h
 split at h
 ·cases h;simp only[Ld];omega
 cases hr:(FM 25).asg (DM s)with
 |bad e=>rw[hr]at h;cases h
 |ok y L=>
  rw[hr]at h
  simp only at h
  split at h
  ·cases h
   have h1:=(Ki 25).asg _ (UW hs) x L hr
   have h2:=N4 s
   have h3:=((DT 25).asg _ (UW hs) x L hr).1.pos
   omega
  cases h
theorem EE{vars:List (List UInt8×List UInt8)}:∀(x:Ex) (S S1:List Dw) (v:Int),A1 vars x S=.ok v S1->S1.length<=S.length+Ld x
 | .num n,S,S1,v,h=>by cases h;omega
 | .var nm,S,S1,v,h=>by
  simp only[A1]at h
  split at h
  ·cases h;omega
  cases h
 | .asg op nm k,S,S1,v,h=>by
  simp only[A1]at h
  split at h
  ·cases hk:A1 vars k S with
   |bad e=>rw[hk]at h;cases h
   |ok b S2=>
    rw[hk]at h;cases h
    have:=EE k S S2 v hk
    rw[Bh,KZ];simp only[Ld];omega
  split at h
  ·cases hk:A1 vars k S with
   |bad e=>rw[hk]at h;cases h
   |ok b S2=>
    rw[hk]at h
    simp only at h
    split at h
    ·cases h
     have:=EE k S S2 b hk
     rw[Bh,KZ];simp only[Ld];omega
    cases h
  cases h
 | .una op k,S,S1,v,h=>by
  simp only[A1]at h
  cases hk:A1 vars k S with
  |bad e=>rw[hk]at h;cases h
  |ok b S2=>
   rw[hk]at h;cases h
   have:=EE k S S1 b hk
   simp only[Ld];omega
 | .cho a b c,S,S1,v,h=>by
  simp only[A1]at h
  cases hk:A1 vars a S with
  |bad e=>rw[hk]at h;cases h
  |ok u S2=>
   rw[hk]at h
   simp only at h
   have h1:=EE a S S2 u hk
   simp only[Ld]
   split at h
   ·have:=EE b S2 S1 v h;omega
   have:=EE c S2 S1 v h;omega
 | .bin op a b,S,S1,v,h=>by
  simp only[A1]at h
  cases hk:A1 vars a S with
  |bad e=>rw[hk]at h;cases h
  |ok u S2=>
   rw[hk]at h
   simp only at h
   have h1:=EE a S S2 u hk
   simp only[Ld]
   split at h
   ·split at h
    ·cases h;omega
    cases hb:A1 vars b S2 with
    |bad e=>rw[hb]at h;cases h
    |ok t S3=>
     rw[hb]at h;cases h
     have:=EE b S2 S1 t hb;omega
   cases hb:A1 vars b S2 with
   |bad e=>rw[hb]at h;cases h
   |ok t S3=>
    rw[hb]at h
    simp only at h
    split at h
    ·cases h
     have:=EE b S2 S1 t hb;omega
    cases h
def R9:Ex->List UInt8
 | .num _=>[]
 | .var _=>[110,97,109,101]
 | .asg op _ _=>op
 | .una op _=>op
 | .bin op _ _=>op
 | .cho _ _ _=>[63]
def nmE:Ex->List UInt8
 | .var nm=>nm
 | .asg _ nm _=>nm
 |_=>[]
def nE:Ex->Int
 | .num n=>n
 |_=>0
def WU:Ex->List Ex
 | .num _=>[]
 | .var _=>[]
 | .asg _ _ k=>[k]
 | .una _ k=>[k]
 | .bin _ a b=>[a,b]
 | .cho a b c=>[a,b,c]
structure Vr where
 name:List UInt8
 value:List UInt8
 e:Bool
 r:Bool
 u:Bool
def Ez:Vr:=⟨[],[],false,false,false⟩
def DP(v:Vr):List Value:=[Au v.name,Au v.value,.bool v.e,.bool v.r,.bool v.u]
def Vr.nv(v:Vr):List UInt8×List UInt8:=(v.name,v.value)
def H2:Dw:=([],0)
def F5(a:Dw):List Value:=[Au a.1,.int .i64 a.2]
theorem Qw(a:Dw):∀u∈F5 a,u.oneCell'=true:=fun u hu=>by
 simp only[F5,Ci,List.not_mem_nil,or_false]at hu
 rcases hu with rfl|rfl<;>rfl
theorem Nq{I:AQ}{H:List HA}{v:Value}{l:List Vr}(h:Sl I 5 v (l.map DP))(hi:i<l.length):Rds w0 I H (Eb v).block ((Eb v).off+i * 5) (DP (AG l i Ez)):=h.rds (CN l DP Ez hi)
theorem Md{I:AQ}{H:List HA}{v:Value}{l:List Vr}(h:Sl I 5 v (l.map DP)){u:Value}(hi:i<l.length)(hu:(DP (AG l i Ez))[j]? =some u):Rd w0 I H (Eb v).block ((Eb v).off+i * 5+j) u:=h.rd (CN l DP Ez hi) hu
theorem AMc{I:AQ}{H:List HA}{v:Value}{l:List Dw}(h:Sl I 2 v (l.map F5))(hi:i<l.length):Rds w0 I H (Eb v).block ((Eb v).off+i * 2) (F5 (AG l i H2)):=h.rds (CN l F5 H2 hi)
theorem AMn{I:AQ}{H:List HA}{v:Value}{l:List Dw}(h:Sl I 2 v (l.map F5)){u:Value}(hi:i<l.length)(hu:(F5 (AG l i H2))[j]? =some u):Rd w0 I H (Eb v).block ((Eb v).off+i * 2+j) u:=h.rd (CN l F5 H2 hi) hu
def bwV(S:List Dw)(k:Nat):List Value:=[.int .i64 ((S.length-1-k:Nat):Int),.agg (F5 (AG S (S.length-1-k) H2)).toArray]
def bwS(S:List Dw):List (List Value):=(List.range S.length).map (bwV S)
theorem ANI{S:List Dw}{k:Nat}(h:k<S.length):(bwS S)[k]? =some (bwV S k):=by
 unfold bwS
 rw[List.getElem?_map,List.getElem?_range h];rfl
theorem AXv{S:List Dw}{k:Nat}(h:(bwS S)[k]? =some vs):k<S.length/\vs=bwV S k:=by
 have hk:k<S.length:=by
  have:=(List.getElem?_eq_some_iff.1 h).1
  simpa[bwS]using this
 rw[ANI hk]at h
 exact⟨hk,(O3 h).symm⟩
theorem AVa{S:List Dw}:∀vs∈bwS S,vs.length=2:=fun vs h=>by
 obtain⟨x,_,rfl⟩:=FL.1 h;rfl
theorem Z9(S:List Dw):(bwS S).length=S.length:=by unfold bwS;rw[Af,List.length_range]
theorem AKf{n:List UInt8}:∀(S:List Dw) (k:Nat),k<S.length->(∀j,j<k->(AG S (S.length-1-j) H2).1≠n)->(AG S (S.length-1-k) H2).1=n->S.reverse.find? (fun a=>decide (a.1=n))=some (AG S (S.length-1-k) H2):=by
 intro S k hk Cz hit
 have hr:∀j,j<S.length->S.reverse[j]? =some (AG S (S.length-1-j) H2):=fun j hj=>by
  rw[List.getElem?_reverse hj,Jq (d:=H2) (by omega)]
 have PN:S.reverse=S.reverse.take k++(AG S (S.length-1-k) H2)::S.reverse.drop (k+1):=by
  have hk':k<S.reverse.length:=by rw[ZE];exact hk
  conv=>lhs;rw[<-Iu k S.reverse,V3 hk']
  have:=hr k hk
  rw[LC hk']at this
  rw[O3 this]
 rw[PN,List.find?_append]
 have h0:(S.reverse.take k).find? (fun a=>decide (a.1=n))=none:=by
  rw[List.find?_eq_none]
  intro x hx
  obtain⟨j,hj,rfl⟩:=List.getElem_of_mem hx
  rw[BL,ZE]at hj
  have h2:=hr j (by omega)
  rw[LC (by rw[ZE];omega)]at h2
  rw[List.getElem_take,O3 h2]
  simpa using Cz j (by omega)
 rw[h0,List.find?_cons_of_pos (by simpa using hit)];rfl
theorem ALS{n:List UInt8}{S:List Dw}(Cz:∀j,j<S.length->(AG S (S.length-1-j) H2).1≠n):S.reverse.find? (fun a=>decide (a.1=n))=none:=by
 rw[List.find?_eq_none]
 intro x hx
 rw[List.mem_reverse]at hx
 obtain⟨j,hj,rfl⟩:=List.getElem_of_mem hx
 have:=Cz (S.length-1-j) (by omega)
 rw[show S.length-1-(S.length-1-j)=j by omega,CT hj]at this
 simpa using this
def Tt(n:List UInt8):List Vr->Nat->Int
 | [],_=> -1
 |v::r,i=>if v.name=n then(i:Int)else Tt n r (i+1)
theorem SW{n:List UInt8}:∀(l:List Vr) (i:Nat),(Tt n l i= -1/\l.find? (fun v=>decide (v.name=n))=none)\/(∃k,k<l.length/\Tt n l i=((i+k:Nat):Int)/\l.find? (fun v=>decide (v.name=n))=some (AG l k Ez))
 | [],_=>.inl ⟨O,O⟩
 |v::r,i=>by
  rw[Tt,List.find?_cons]
  by_cases h:v.name=n
  ·rw[AI h,BK h]
   exact .inr ⟨0,Nat.succ_pos _,O,O⟩
  rw[AB h,DC h]
  rcases SW r (i+1)with ⟨h1,h2⟩|⟨k,h1,h2,h3⟩
  ·exact .inl ⟨h1,h2⟩
  exact .inr ⟨k+1,by rw[CD];omega,by rw[h2];congr 1;omega,h3⟩
theorem Uc{n:List UInt8}:∀(l:List Vr),(l.map Vr.nv).find? (fun v=>decide (v.1=n))=(l.find? (fun v=>decide (v.name=n))).map Vr.nv
 | []=>rfl
 |v::r=>by
  rw[EN,List.find?_cons,List.find?_cons]
  show(match decide (v.name=n)with|true=>some v.nv|false=>_)=_
  cases decide (v.name=n)with
  |true=>rfl
  |false=>exact Uc r
section ops
variable {C:Cx} {E:Cq} {I:AQ} {H:List HA} {o:Oper} {x y:Operand} {t t':TypeId} {a b:Int}
theorem TZ(ho:o.op=.binOp .and t x y t')(hx:ev E x=some (.int .i64 a))(hy:ev E y=some (.int .i64 b)):BI C E I H o (.int .i64 (MU a b)):=
 B9 ho hx hy fun w=>by simp[go_sem,eqGuard,Op.intBits,MU,F4,IntKind.bits];rfl
theorem AeW(ho:o.op=.binOp .or t x y t')(hx:ev E x=some (.int .i64 a))(hy:ev E y=some (.int .i64 b)):BI C E I H o (.int .i64 (orI a b)):=
 B9 ho hx hy fun w=>by simp[go_sem,eqGuard,Op.intBits,orI,F4,IntKind.bits];rfl
theorem AWp(ho:o.op=.binOp .xor t x y t')(hx:ev E x=some (.int .i64 a))(hy:ev E y=some (.int .i64 b)):BI C E I H o (.int .i64 (AFQ a b)):=
 B9 ho hx hy fun w=>by simp[go_sem,eqGuard,Op.intBits,AFQ,F4,IntKind.bits];rfl
theorem AWj{k:IntKind}(ho:o.op=.binOp .shl t x y t')(hx:ev E x=some (.int .i64 a))(hy:ev E y=some (.int k b))(h:0<=b):BI C E I H o (.int .i64 (AXP a b)):=
 B9 ho hx hy fun w=>by
  have h1:¬b<0:=by omega
  simp[go_sem,eqGuard,Op.shift,h1,AXP,F4,IntKind.bits]
theorem AVs{k:IntKind}(ho:o.op=.binOp .shr t x y t')(hx:ev E x=some (.int .i64 a))(hy:ev E y=some (.int k b))(h:0<=b):BI C E I H o (.int .i64 (AQZ a b)):=
 B9 ho hx hy fun w=>by
  have h1:¬b<0:=by omega
  simp[go_sem,eqGuard,Op.shift,h1,AQZ,IntKind.bits]
theorem ATV(ho:o.op=.unOp .xor t x)(hx:ev E x=some (.int .i64 a)):BI C E I H o (.int .i64 (AFQ (-1) a)):=
 Bw (by rw[ho];rfl) fun r w hs _=>by
  simp only[execOp,ho,hs.ev hx,Op.unary]
  rfl
theorem AWa(b:Int):0<=MU b 63/\MU b 63<64:=by
 unfold MU F4
 have h:((BitVec.ofInt 64 b)&&& (BitVec.ofInt 64 63)).toNat<64:=by
  rw[BitVec.toNat_and]
  have:(BitVec.ofInt 64 63).toNat=63:=by decide
  rw[this]
  exact Nat.lt_of_le_of_lt Nat.and_le_right (by decide)
 rw[wrap_i64 (by omega)]
 omega
end ops
variable {m:Nat}
def E7(a:Int):Prop:= -9223372036854775808<=a/\a<=9223372036854775807
theorem ACt(a:Int):E7 (F4 a):=by
 unfold E7 F4
 rw[IntKind.wrap_i64]
 omega
theorem z_I:E7 0:=by unfold E7;decide
theorem ATk(b:Bool):E7 (Zy b):=by unfold E7 Zy;split<;>decide
theorem APh(u:Nat)(s:List UInt8):∀(f:Nat) (n:Int) (i:Nat),E7 n->E7 (FG u s f n i).1
 |0,n,i,h=>h
 |f+1,n,i,h=>by
  rw[FG]
  split
  ·split
   ·exact h
   exact APh u s f _ _ (ACt _)
  exact h
theorem ACK(h:Ck s=some r):E7 r.1:=by
 unfold Ck at h
 simp only at h
 split at h
 ·cases h
 cases h;exact APh _ _ _ _ _ z_I
theorem AMr(s:List UInt8):E7 (Bp s).1.worth:=by
 unfold Bp
 split
 ·exact z_I
 split
 ·split
  ·exact z_I
  rename_i r hr;exact ACK hr
 split
 ·exact z_I
 split<;>exact z_I
def Ju(m:Nat)(L:List Lx):Prop:=∀l∈L,E7 l.worth/\l.text.length<=m
theorem AOy:∀(f:Nat) (t:List UInt8),t.length<=m->Ju m (Li f t)
 |0,t,_=>fun l hl=>by cases hl
 |f+1,t,ht=>fun l hl=>by
  rw[Li]at hl
  rcases Ci.1 hl with rfl|hl
  ·exact⟨AMr _,(Py ht).1⟩
  split at hl
  ·cases hl
  have h1:=E6 (t.drop (Bp t).2) C1
  rw[BA]at h1
  exact AOy f _ (by omega) l hl
theorem ARG(hs:s.length<=m):Ju m (DM s):=by
 have:=E6 s C1
 exact AOy _ _ (by omega)
theorem LM{L:List Lx}(h:Ju m L):Ju m (Am L):=fun l hl=>by
 unfold Am at hl
 split at hl
 ·exact h l hl
 exact h l (List.mem_of_mem_drop hl)
theorem AbX{L:List Lx}(h:Ju m L):E7 (Ar L).worth:=by
 unfold Ar
 cases L with
 |nil=>exact z_I
 |cons a L=>exact(h a (CQ)).1
theorem Ait{L:List Lx}(h:Ju m L):(Ar L).text.length<=m:=by
 unfold Ar
 cases L with
 |nil=>exact Aw _
 |cons a L=>exact(h a (CQ)).2
def NC(m:Nat):Ex->Prop
 | .num n=>E7 n
 | .var _=>True
 | .asg _ nm k=>nm.length<=m/\NC m k
 | .una _ k=>NC m k
 | .bin _ a b=>NC m a/\NC m b
 | .cho a b c=>NC m a/\NC m b/\NC m c
def Gd(m:Nat)(r:PA):Prop:=∀x L,r=.ok x L->NC m x/\Ju m L
theorem Ha:Gd m (.bad e):=fun _ _ h=>by cases h
theorem Q1{x:Ex}{L:List Lx}(h1:NC m x)(h2:Ju m L):Gd m (.ok x L):=fun _ _ h=>by cases h;exact⟨h1,h2⟩
structure APe(m:Nat)(R:Kl):Prop where
 asg:∀L,Ju m L->Gd m (R.asg L)
 cho:∀L,Ju m L->Gd m (R.cho L)
 opd:∀L,Ju m L->Gd m (R.opd L)
theorem AQG{R:Kl}(hR:APe m R){L:List Lx}(h:Ju m L):Gd m (EH R L):=by
 unfold EH
 split
 ·have h1:=hR.opd _ (LM h)
  cases hr:R.opd (Am L)with
  |bad e=>exact Ha
  |ok x L1=>obtain⟨h2,h3⟩:=h1 _ _ hr;exact Q1 h2 h3
 split
 ·have h1:=hR.asg _ (LM h)
  cases hr:R.asg (Am L)with
  |bad e=>exact Ha
  |ok x L1=>
   obtain⟨h2,h3⟩:=h1 _ _ hr
   simp only
   split
   ·exact Q1 h2 (LM h3)
   exact Ha
 split
 ·exact Q1 (AbX h) (LM h)
 split
 ·exact Q1 trivial (LM h)
 exact Ha
theorem AHm{v:Nat}{next:List Lx->PA}(hn:∀L,Ju m L->Gd m (next L)):∀(f:Nat) (x:Ex) (L:List Lx),NC m x->Ju m L->Gd m (KS v next f x L)
 |0,x,L,hx,h=>Q1 hx h
 |f+1,x,L,hx,h=>by
  rw[KS]
  split
  ·have h1:=hn _ (LM h)
   cases hr:next (Am L)with
   |bad e=>exact Ha
   |ok y L1=>obtain⟨h2,h3⟩:=h1 _ _ hr;exact AHm hn f _ _ ⟨hx,h2⟩ h3
  exact Q1 hx h
theorem Sk{R:Kl}(hR:APe m R):∀(k:Nat) (L:List Lx),Ju m L->Gd m (CJ R k L)
 |0,L,h=>AQG hR h
 |k+1,L,h=>by
  rw[CJ]
  have h1:=Sk hR k L h
  cases hr:CJ R k L with
  |bad e=>exact Ha
  |ok x L1=>obtain⟨h2,h3⟩:=h1 _ _ hr;exact AHm (fun L h=>Sk hR k L h) _ _ _ h2 h3
theorem APa{R:Kl}(hR:APe m R){L:List Lx}(h:Ju m L):Gd m (ED R L):=by
 unfold ED
 have h1:=Sk hR 10 L h
 cases hr:CJ R 10 L with
 |bad e=>exact Ha
 |ok x L1=>
  obtain⟨h2,h3⟩:=h1 _ _ hr
  simp only
  split
  ·have h4:=hR.asg _ (LM h3)
   cases hr2:R.asg (Am L1)with
   |bad e=>exact Ha
   |ok y L2=>
    obtain⟨h5,h6⟩:=h4 _ _ hr2
    simp only
    split
    ·have h7:=hR.cho _ (LM h6)
     cases hr3:R.cho (Am L2)with
     |bad e=>exact Ha
     |ok z L3=>obtain⟨h8,h9⟩:=h7 _ _ hr3;exact Q1 ⟨h2,h5,h8⟩ h9
    exact Ha
  exact Q1 h2 h3
theorem AZq{R:Kl}(hR:APe m R){L:List Lx}(h:Ju m L):Gd m (Gn R L):=by
 unfold Gn
 split
 ·have h1:=hR.asg _ (LM (LM h))
  cases hr:R.asg (Am (Am L))with
  |bad e=>exact Ha
  |ok x L1=>obtain⟨h2,h3⟩:=h1 _ _ hr;exact Q1 ⟨Ait h,h2⟩ h3
 exact APa hR h
theorem Ke:∀n,APe m (FM n)
 |0=>⟨fun _ _=>Ha,fun _ _=>Ha,fun _ _=>Ha⟩
 |n+1=>⟨fun _ h=>AZq (Ke n) h,fun _ h=>APa (Ke n) h,fun _ h=>AQG (Ke n) h⟩
theorem ATH{x:Ex}(hs:s.length<=m)(h:Dy s=.ok x):NC m x:=by
 unfold Dy at h
 split at h
 ·cases h;exact z_I
 cases hr:(FM 25).asg (DM s)with
 |bad e=>rw[hr]at h;cases h
 |ok y L=>
  rw[hr]at h
  simp only at h
  split at h
  ·cases h;exact((Ke 25).asg _ (ARG hs) _ _ hr).1
  cases h
theorem AcQ{a n:Int}(h:E7 a):E7 (AQZ a n):=by
 unfold AQZ
 have hp:(0:Int)<2 ^ (min n.toNat 64):=Int.pow_pos (by decide)
 have h1:(1:Int)<=2 ^ (min n.toNat 64):=hp
 generalize (2:Int) ^ (min n.toNat 64)=d at *
 unfold E7 at *
 rw[Int.fdiv_eq_ediv_of_nonneg _ (by omega)]
 rcases Int.lt_or_le a 0 with h0|h0
 ·have h2:a<=a / d:=by
   rw[Int.le_ediv_iff_mul_le hp]
   have h8:(-a) * 1<=(-a) * d:=Int.mul_le_mul_of_nonneg_left h1 (by omega)
   rw[Int.neg_mul,Int.neg_mul]at h8
   omega
  have h3:a / d<0:=Int.ediv_neg_of_neg_of_pos h0 hp
  omega
 have h2:a / d<=a:=Int.ediv_le_self _ h0
 have h3:0<=a / d:=Int.ediv_nonneg h0 (by omega)
 omega
theorem AeG{a b:Int}(ha:E7 a):E7 (a.tmod b):=by
 have h1:=Int.natAbs_tmod a b
 have h2:(a.tmod b).natAbs<=a.natAbs:=by rw[h1];exact Nat.mod_le _ _
 unfold E7 at *
 rcases Int.lt_or_le a 0 with h0|h0
 ·have h4:a.tmod b<=0:=by
   have h5:=Int.tmod_nonneg (a:= -a) b (by omega)
   rw[Int.neg_tmod]at h5
   omega
  omega
 have h5:=Int.tmod_nonneg (a:=a) b h0
 omega
theorem AIr{c:Prop}[Decidable c]{x y:Int×Nat}(hx:E7 x.1)(hy:E7 y.1):E7 (if c then x else y).1:=by
 by_cases h:c
 ·rw[AI h];exact hx
 rw[AB h];exact hy
theorem ARF{a b:Int}(ha:E7 a)(hb:E7 b):E7 (CO op a b).1:=by
 unfold CO
 repeat' (first |exact ACt _|exact ATk _|exact z_I|exact AcQ ha|exact ha|exact AeG ha|refine AIr ?_ ?_)
theorem AZr(t:List UInt8):E7 (HM t).1:=by
 unfold HM
 simp only
 refine AIr z_I (AIr z_I ?_)
 generalize (if AG (Lib.trimS t C1) 0 0=45\/AG (Lib.trimS t C1) 0 0=43 then(Lib.trimS t C1).drop 1 else Lib.trimS t C1)=r
 cases hq:Ck r with
 |none=>exact z_I
 |some q=>
  have h1:=ACK hq
  refine AIr ?_ z_I
  show E7 (if AG (Lib.trimS t C1) 0 0=45 then F4 (-q.1)else q.1)
  split
  ·exact ACt _
  exact h1
def SU(m:Nat)(S:List Dw):Prop:=∀a∈S,E7 a.2/\a.1.length<=m
theorem AAO{vars:List (List UInt8×List UInt8)}{S:List Dw}(h:SU m S)(n:List UInt8):E7 (Bt vars S n).1:=by
 unfold Bt
 split
 ·rename_i a ha
  exact(h _ (List.mem_reverse.1 (List.mem_of_find?_eq_some ha))).1
 split
 ·exact AZr _
 exact z_I
theorem Ado{a:Int}(h:E7 a):E7 (APr op a):=by
 unfold APr
 split
 ·exact h
 split
 ·exact ACt _
 split
 ·exact ACt _
 exact ATk _
theorem AOx{S:List Dw}{n:List UInt8}{b:Int}(h:SU m S)(hb:E7 b)(hn:n.length<=m):SU m (S++[(n,b)]):=fun a ha=>by
 rcases Ic.1 ha with ha|ha
 ·exact h a ha
 rw[FK.1 ha];exact⟨hb,hn⟩
def Gw(m:Nat)(r:WR):Prop:=∀v S,r=.ok v S->E7 v/\SU m S
theorem VK:Gw m (.bad e):=fun _ _ h=>by cases h
theorem okW{v:Int}{S:List Dw}(h1:E7 v)(h2:SU m S):Gw m (.ok v S):=fun _ _ h=>by cases h;exact⟨h1,h2⟩
theorem Mz(vars:List (List UInt8×List UInt8)):∀(x:Ex) (S:List Dw),NC m x->SU m S->Gw m (A1 vars x S)
 | .num n,S,hx,hS=>by rw[A1];exact okW hx hS
 | .var nm,S,_,hS=>by
  rw[A1]
  split
  ·exact okW (AAO hS nm) hS
  exact VK
 | .asg op nm k,S,hx,hS=>by
  have h1:=Mz vars k S hx.2 hS
  rw[A1]
  split
  ·cases hr:A1 vars k S with
   |bad e=>exact VK
   |ok b S1=>obtain⟨h2,h3⟩:=h1 _ _ hr;exact okW h2 (AOx h3 h2 hx.1)
  split
  ·cases hr:A1 vars k S with
   |bad e=>exact VK
   |ok b S1=>
    obtain⟨h2,h3⟩:=h1 _ _ hr
    have h4:=ARF (op:=Lib.trimSuffix op [61]) (AAO (vars:=vars) hS nm) h2
    simp only
    split
    ·exact okW h4 (AOx h3 h4 hx.1)
    exact VK
  exact VK
 | .una op k,S,hx,hS=>by
  have h1:=Mz vars k S hx hS
  rw[A1]
  cases hr:A1 vars k S with
  |bad e=>exact VK
  |ok a S1=>obtain⟨h2,h3⟩:=h1 _ _ hr;exact okW (Ado h2) h3
 | .cho a b c,S,hx,hS=>by
  have h1:=Mz vars a S hx.1 hS
  rw[A1]
  cases hr:A1 vars a S with
  |bad e=>exact VK
  |ok v S1=>
   obtain⟨h2,h3⟩:=h1 _ _ hr
   simp only
   split
   ·exact Mz vars b S1 hx.2.1 h3
   exact Mz vars c S1 hx.2.2 h3
 | .bin op a b,S,hx,hS=>by
  have h1:=Mz vars a S hx.1 hS
  rw[A1]
  cases hr:A1 vars a S with
  |bad e=>exact VK
  |ok v S1=>
   obtain⟨h2,h3⟩:=h1 _ _ hr
   have h4:=Mz vars b S1 hx.2 h3
   simp only
   split
   ·split
    ·exact okW (ATk _) h3
    cases hr2:A1 vars b S1 with
    |bad e=>exact VK
    |ok u S2=>obtain⟨h5,h6⟩:=h4 _ _ hr2;exact okW (ATk _) h6
   cases hr2:A1 vars b S1 with
   |bad e=>exact VK
   |ok u S2=>
    obtain⟨h5,h6⟩:=h4 _ _ hr2
    simp only
    split
    ·exact okW (ARF h2 h5) h6
    exact VK
theorem AGK(s:List UInt8)(vars:List (List UInt8×List UInt8)):E7 (Fc s vars).1/\SU s.length (Fc s vars).2.1:=by
 have hn:E7 (0:Int)/\SU s.length []:=⟨z_I,fun _ h=>by cases h⟩
 unfold Fc
 cases hr:Dy s with
 |bad e=>exact hn
 |ok x=>
  simp only
  have h1:=Mz vars x [] (ATH (A5 _) hr) (fun _ h=>by cases h)
  cases hw:A1 vars x []with
  |bad e=>exact hn
  |ok v S=>exact h1 _ _ hw
theorem AGT{a b:Int}(h:a % 18446744073709551616=b % 18446744073709551616):F4 a=F4 b:=by
 unfold F4;rw[IntKind.wrap_i64,IntKind.wrap_i64];omega
theorem AAN(a:Int):F4 a % 18446744073709551616=a % 18446744073709551616:=by
 unfold F4;rw[IntKind.wrap_i64];omega
theorem AXp{a:Int}(h: -9223372036854775808<=a/\a<=9223372036854775807):F4 a=a:=IntWalk.i64_in a h
theorem ASk(a b:Int):F4 (F4 a * b)=F4 (a * b):=by
 refine AGT ?_
 rw[Int.mul_emod,AAN,<-Int.mul_emod]
theorem AVA(v:Nat)(d:Nat):F4 (F4 (F4 (v:Int) * ((10:Nat):Int))+(d:Int))=F4 ((v * 10+d:Nat):Int):=by
 rw[ASk]
 refine AGT ?_
 rw[Int.add_emod,AAN,<-Int.add_emod]
 congr 1<;>omega
theorem ADu(h:BO c=true):S5 10 c=((c.toNat-48:Nat):Int):=by
 revert h
 exact G7 (p:=fun c=>BO c=true->S5 10 c=((c.toNat-48:Nat):Int)) (by decide+kernel) c
theorem ABn{s:List UInt8}:∀(f i v v':Nat),s.length-i<=f->i<=s.length->H0 v (s.drop i)=some v'->FG 10 s f (F4 (v:Int)) i=(F4 (v':Int),s.length)
 |0,i,v,v',hf,hi,h=>by
  have:i=s.length:=by omega
  subst this
  rw[K7]at h
  cases h;rfl
 |f+1,i,v,v',hf,hi,h=>by
  rw[FG]
  by_cases hl:i<s.length
  ·rw[AI hl]
   rw[Bg 0 hl,H0]at h
   split at h
   ·rename_i hd
    rw[AB (by rw[ADu hd];omega),ADu hd,AVA]
    exact ABn f (i+1) _ v' (by omega) (by omega) h
   cases h
  have:i=s.length:=by omega
  subst this
  rw[K7]at h
  cases h
  rw[AB hl]
theorem ANe:∀(u:Nat),0<u->AG (Lib.decDigits u) 0 0≠48:=by
 intro u
 induction u using Nat.strongRecOn with
 |ind u ih=>
  intro h0
  by_cases h:u<10
  ·rw[EC h]
   show UInt8.ofNat (48+u % 10)≠48
   intro he
   have:=B3 UInt8.toNat he
   rw[UC]at this
   have h48:(48:UInt8).toNat=48:=rfl
   omega
  rw[GS h]
  have hp:=BV.2 (IG (u / 10))
  have:=ih (u / 10) (by omega) (by omega)
  unfold AG at this ⊢
  rw[Cy,List.getElem?_append_left hp,<-Cy]
  exact this
theorem Wq(u:Nat):Ck (Lib.decDigits u)=some (F4 (u:Int),(Lib.decDigits u).length):=by
 have hu:∃k,DH (Lib.decDigits u)=(k,0)/\FG k (Lib.decDigits u) (Lib.decDigits u).length 0 0=(F4 (u:Int),(Lib.decDigits u).length):=by
  rcases Nat.eq_zero_or_pos u with rfl|h
  ·rw[EC (by decide)]
   exact⟨8,by decide,by decide⟩
  refine⟨10,Uv (ANe u h),?_⟩
  have:=ABn (s:=Lib.decDigits u) (Lib.decDigits u).length 0 0 u (by omega) (Aw _) (by rw[PB];exact AEO u)
  exact this
 obtain⟨k,h1,h2⟩:=hu
 have hp:=BV.2 (IG u)
 unfold Ck
 simp only[h1,h2]
 rw[AB]
 rintro(h|⟨h,_⟩)
 ·omega
 omega
theorem AFL{cs:List UInt8}(Dk:s≠[])(h0:cs.contains (AG s 0 0)=false)(h1:cs.contains (AG s (s.length-1) 0)=false):Lib.trimS s cs=s:=by
 have hp:=BV.2 Dk
 have key:∀{l:List UInt8},l≠[]->cs.contains (AG l 0 0)=false->l.dropWhile (cs.contains ·)=l:=by
  intro l hl h
  cases l with
  |nil=>exact Ac O hl
  |cons a l=>
   rw[List.dropWhile_cons,AB]
   rw[show AG (a::l) 0 0=a from O]at h
   rw[h];simp
 have hr:s.reverse.dropWhile (cs.contains ·)=s.reverse:=by
  refine key (by simpa using Dk) ?_
  unfold AG
  rw[Cy,List.getElem?_reverse hp,<-Cy]
  exact h1
 unfold Lib.trimS Lib.trimRightS Lib.trimLeftS
 rw[hr,List.reverse_reverse,key Dk h0]
theorem ABN(u:Nat):BO (AG (Lib.decDigits u) ((Lib.decDigits u).length-1) 0)=true:=by
 by_cases h:u<10
 ·rw[EC h];exact Lm u
 rw[GS h,Bh,KZ]
 unfold AG
 rw[Cy,List.getElem?_append_right (by omega)]
 rw[show(Lib.decDigits (u / 10)).length+1-1-(Lib.decDigits (u / 10)).length=0 by omega]
 exact Lm u
theorem R7(h:BO c=true):C1.contains c=false:=by
 revert h
 exact G7 (p:=fun c=>BO c=true->C1.contains c=false) (by decide+kernel) c
theorem AKT{t:List UInt8}{n:Int}(hs:Lib.trimS t C1=s)(hn:s=Lib.itoa n)(hr: -9223372036854775808<=n/\n<=9223372036854775807):HM t=(n,0):=by
 have gen:∀(r:List UInt8) (u:Nat),s≠[]->(if AG s 0 0=45\/AG s 0 0=43 then s.drop 1 else s)=r->r=Lib.decDigits u->HM t=(if AG s 0 0=45 then F4 (-F4 (u:Int))else F4 (u:Int),0):=by
  intro r u Dk h1 h2
  unfold HM
  simp only[hs,h1]
  rw[AB Dk,AB (by
   rintro(h3|h3)
   ·exact IG u (h2 ▸ h3)
   rw[h2,N8]at h3;cases h3),h2,Wq]
  show(if(Lib.decDigits u).length=(Lib.decDigits u).length then _ else _)=_
  rw[AI O]
 subst hn
 unfold Lib.itoa at hs gen
 by_cases h:n<0
 ·rw[AI h]at gen
  rw[gen (Lib.decDigits n.natAbs) n.natAbs (by simp) (AI (Or.inl O)) O,AI (show AG (45::Lib.decDigits n.natAbs) 0 0=45 from O)]
  rw[show F4 (-F4 (n.natAbs:Int))=n from by
   unfold F4;rw[IntKind.wrap_i64,IntKind.wrap_i64];omega]
 rw[AB h]at gen
 have hh:=N8 n.toNat
 have h45:¬AG (Lib.decDigits n.toNat) 0 0=45:=fun he=>by rw[he]at hh;revert hh;decide
 have h43:¬AG (Lib.decDigits n.toNat) 0 0=43:=fun he=>by rw[he]at hh;revert hh;decide
 rw[gen (Lib.decDigits n.toNat) n.toNat (IG _) (AB (fun h1=>h1.elim h45 h43)) O,AB h45,AXp (by omega)]
 rw[show((n.toNat:Nat):Int)=n by omega]
theorem Rp(n:Int):Lib.itoa n≠[]/\C1.contains (AG (Lib.itoa n) 0 0)=false/\C1.contains (AG (Lib.itoa n) ((Lib.itoa n).length-1) 0)=false:=by
 unfold Lib.itoa
 split
 ·refine⟨by simp,(show C1.contains 45=false by decide),?_⟩
  have hp:=BV.2 (IG n.natAbs)
  rw[CD,show(Lib.decDigits n.natAbs).length+1-1=(Lib.decDigits n.natAbs).length-1+1 by omega]
  exact R7 (ABN n.natAbs)
 exact⟨IG _,R7 (N8 _),R7 (ABN _)⟩
theorem AKM{n:Int}(hr: -9223372036854775808<=n/\n<=9223372036854775807):HM (Lib.itoa n)=(n,0):=
 AKT (AFL (Rp n).1 (Rp n).2.1 (Rp n).2.2) O hr
theorem AJd(n:Int)(hr: -9223372036854775808<=n/\n<=9223372036854775807):(Lib.itoa n).length<=1000:=by
 have key:∀(k u:Nat),u<10 ^ (k+1)->(Lib.decDigits u).length<=k+1:=by
  intro k
  induction k with
  |zero=>intro u h;rw[EC (by simpa using h)];simp
  |succ k ih=>
   intro u h
   by_cases h10:u<10
   ·rw[EC h10];simp
   rw[GS h10,Bh,KZ]
   have:=ih (u / 10) (by rw[Nat.pow_succ]at h;omega)
   omega
 unfold Lib.itoa
 split
 ·have:=key 19 n.natAbs (by omega)
  rw[CD];omega
 have:=key 19 n.toNat (by omega)
 omega
theorem VC{t:List UInt8}(h:(32:UInt8)∈t):Lib.contains t [32]=true:=by
 unfold Lib.contains
 rw[index_one,DB]
 unfold Ho
 rw[List.any_eq_true]
 exact⟨32,h,by decide⟩
theorem AFU{t:List UInt8}(h:t≠[]):(Bp t).1.what≠0:=by
 unfold Bp
 rw[AB h]
 split
 ·cases Ck t<;>simp[Mg]
 split
 ·simp
 split<;>simp[Mg]
theorem KG{p:UInt8->Bool}:∀{l:List UInt8},l.dropWhile p=[]↔ ∀x∈l,p x=true
 | []=>⟨fun _ _ h=>(by cases h),fun _=>rfl⟩
 |a::l=>by
  rw[List.dropWhile_cons]
  cases h:p a with
  |false=>exact⟨fun h2=>(by simp at h2),fun h2=>(by rw[h2 a CQ]at h;cases h)⟩
  |true=>
   rw[AI O,KG]
   exact⟨fun h2 x hx=>(Ci.1 hx).elim (fun e=>e ▸ h) (h2 x),fun h2 x hx=>h2 x (List.mem_cons_of_mem _ hx)⟩
theorem YL{p:UInt8->Bool}{c:UInt8}(hc:p c=false):∀{l:List UInt8},c∈l->c∈l.dropWhile p
 | [],h=>by cases h
 |a::l,h=>by
  rw[List.dropWhile_cons]
  cases ha:p a with
  |false=>exact h
  |true=>
   rw[AI O]
   rcases Ci.1 h with rfl|h
   ·rw[hc]at ha;cases ha
   exact YL hc h
theorem AFn:Lib.trimS s C1=[]↔s.all (C1.contains ·)=true:=by
 unfold Lib.trimS Lib.trimRightS Lib.trimLeftS
 rw[KG,List.all_eq_true]
 constructor
 ·intro h c hc
  cases hb:C1.contains c with
  |true=>rfl
  |false=>
   have hm:=YL (p:=(C1.contains ·)) hb (List.mem_reverse.2 hc)
   have:=h c (List.mem_reverse.2 hm)
   rw[hb]at this;cases this
 intro h c hc
 have:=(List.dropWhile_sublist (l:=s.reverse) (C1.contains ·)).mem (List.mem_reverse.1 hc)
 exact h c (List.mem_reverse.1 this)
def Nz(r:PA):Prop:=∀e,r=.bad e->e≠0
theorem RM{x:Ex}{L:List Lx}:Nz (.ok x L):=fun _ h=>by cases h
theorem Hk{k:Nat}(h:k≠0):Nz (.bad k):=fun _ h2=>by cases h2;exact h
structure NzR(R:Kl):Prop where
 asg:∀L,Nz (R.asg L)
 cho:∀L,Nz (R.cho L)
 opd:∀L,Nz (R.opd L)
theorem AIG{R:Kl}(h:NzR R)(L:List Lx):Nz (EH R L):=by
 unfold EH
 split
 ·cases hr:R.opd (Am L)with
  |bad k=>exact Hk (h.opd _ k hr)
  |ok x L1=>exact RM
 split
 ·cases hr:R.asg (Am L)with
  |bad k=>exact Hk (h.asg _ k hr)
  |ok x L1=>simp only;split;exact RM;exact Hk (by decide)
 split
 ·exact RM
 split
 ·exact RM
 exact Hk (by decide)
theorem AJA{v:Nat}{next:List Lx->PA}(hn:∀L,Nz (next L)):∀(f:Nat) (x:Ex) (L:List Lx),Nz (KS v next f x L)
 |0,_,_=>RM
 |f+1,x,L=>by
  rw[KS]
  split
  ·cases hr:next (Am L)with
   |bad k=>exact Hk (hn _ k hr)
   |ok y L1=>exact AJA hn f _ _
  exact RM
theorem AAG{R:Kl}(h:NzR R):∀(k:Nat) (L:List Lx),Nz (CJ R k L)
 |0,L=>AIG h L
 |k+1,L=>by
  rw[CJ]
  cases hr:CJ R k L with
  |bad j=>exact Hk (AAG h k L j hr)
  |ok x L1=>exact AJA (AAG h k) _ _ _
theorem AIX{R:Kl}(h:NzR R)(L:List Lx):Nz (ED R L):=by
 unfold ED
 cases hr:CJ R 10 L with
 |bad j=>exact Hk (AAG h 10 L j hr)
 |ok x L1=>
  simp only
  split
  ·cases ha:R.asg (Am L1)with
   |bad j=>exact Hk (h.asg _ j ha)
   |ok y L2=>
    simp only
    split
    ·cases hc:R.cho (Am L2)with
     |bad j=>exact Hk (h.cho _ j hc)
     |ok z L3=>exact RM
    exact Hk (by decide)
  exact RM
theorem ATP{R:Kl}(h:NzR R)(L:List Lx):Nz (Gn R L):=by
 unfold Gn
 split
 ·cases ha:R.asg (Am (Am L))with
  |bad j=>exact Hk (h.asg _ j ha)
  |ok y L2=>exact RM
 exact AIX h L
theorem Zr:∀n,NzR (FM n)
 |0=>⟨fun _=>Hk (by decide),fun _=>Hk (by decide),fun _=>Hk (by decide)⟩
 |n+1=>⟨ATP (Zr n),AIX (Zr n),AIG (Zr n)⟩
theorem APE{k:Nat}(h:Dy s=.bad k):k≠0:=by
 unfold Dy at h
 split at h
 ·cases h
 cases hr:(FM 25).asg (DM s)with
 |bad j=>rw[hr]at h;cases h;exact(Zr 25).asg _ _ hr
 |ok x L=>
  rw[hr]at h
  simp only at h
  split at h
  ·cases h
  cases h;decide
end Go.Tri
