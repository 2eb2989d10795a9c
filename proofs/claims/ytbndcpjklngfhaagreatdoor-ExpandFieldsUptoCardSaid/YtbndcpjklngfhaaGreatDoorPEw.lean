/-
 What a word is expanded to in plain words: breaks bear no text; texts put together piece by piece.
-/
import Derived.Test.YtbndcpjklngfhaaGreatDoorPExV
import Derived.Test.YtbndcpjklngfhaaGreatDoorPRf
namespace Go.Tri
open Go.RowKit
variable {e i:Nat} {m t op v:List UInt8} {q:Bool}
def KW(L:List Px):Prop:=∀x∈L,x.st=true->x.p=FE
def Vw(r:XR):Prop:=∀L h,r=.ok L h->KW L
theorem AVe{L M:List Px}(h:KW L)(k:KW M):KW (L++M):=fun x hx=>(Ic.1 hx).elim (h x) (k x)
theorem Ub:KW []:=fun _ h=>by cases h
theorem H6(s:List UInt8)(q:Bool):KW (B0 s q):=fun x hx h=>by
 rw[FK.1 hx]at h;cases h
theorem ASS(t:List UInt8)(q wi:Bool):KW (SQ t q wi):=fun x hx h=>by
 rw[FK.1 hx]at h;cases h
theorem APO(q:Bool)(l:List (List UInt8))(n:Nat):KW (Jd q l n):=fun x hx h=>by
 unfold Jd at hx
 obtain⟨i,_,hi⟩:=List.mem_flatMap.1 hx
 unfold OB at hi
 rcases Ic.1 hi with h1|h1
 ·split at h1
  ·rw[FK.1 h1];rfl
  cases h1
 exact H6 _ _ x h1 h
theorem Hh{h:Hx}:Vw (.bad e m h):=fun _ _ e=>by cases e
theorem Je{L:List Px}{h:Hx}(k:KW L):Vw (.ok L h):=fun _ _ e=>by cases e;exact k
theorem ADi{L:List Px}(k:KW L):∀(l:List Dw) (h:Hx),Vw (HU L l h)
 | [],h=>Je k
 |s::r,h=>by
  rw[HU];split
  ·exact Hh
  exact ADi k r _
theorem ASM{r:XR}(k:Vw r):Vw (RT t op q r):=by
 cases r with
 |bad e m h=>exact Hh
 |ok L h=>
  unfold RT;simp only
  repeat' split
  all_goals first |exact Hh|exact Je (H6 _ _)|exact Je (k L h O)
theorem AUL{r:XR}:Vw (AOg v op q r):=by
 cases r with
 |bad e m h=>exact Hh
 |ok L h=>exact Je (H6 _ _)
theorem ASC{r:XR}:Vw (RB q r):=by
 cases r with
 |bad e m h=>exact Hh
 |ok L h=>
  unfold RB;simp only
  split
  ·exact Hh
  exact ADi (H6 _ _) _ _
theorem ATz{h:Hx}:Vw (Nh h t q):=by
 unfold Nh;split
 ·exact Je (H6 _ _)
 exact Hh
mutual
theorem ANF(wi:Bool)(h:Hx):∀p:PT,Vw (CZ wi h p)
 | .mk k t op w q=>by
  have hT:=MF true h [] Ub w
  rw[CZ]
  repeat' split
  all_goals first
   |exact Hh|exact Je (H6 _ _)|exact Je (ASS _ _ _)|exact AUL|exact ASC|exact ATz|exact ASM hT
   | (refine Je ?_;unfold KJ;split;exact H6 _ _;exact APO _ _ _)
theorem MF(wi:Bool)(h:Hx)(acc:List Px)(ha:KW acc):∀l:List PT,Vw (CE wi h acc l)
 | []=>Je ha
 |p::l=>by
  have hp:=ANF wi h p
  rw[CE]
  cases hr:CZ wi h p with
  |bad e m h=>exact Hh
  |ok m h'=>exact MF wi h' (acc++m) (AVe ha (hp m h' hr)) l
end
theorem Y7{L:List Px}(h:i<L.length):BN (L.take (i+1))=BN (L.take i)++(stS (AG L i FD)++(AG L i FD).p.t):=by
 unfold BN
 rw[C6 FD h,List.flatMap_append];simp
theorem SG(L:List Px)(i:Nat):(BN (L.take i)).length<=(BN L).length:=by
 conv=>rhs;rw[<-Iu i L]
 unfold BN
 rw[List.flatMap_append,Bh];omega
theorem ASm{L:List Px}(hb:KW L)(h:i<L.length):stS (AG L i FD)++(AG L i FD).p.t=if(AG L i FD).st=true then[32]else(AG L i FD).p.t:=by
 unfold stS
 split
 ·rename_i hs;rw[hb _ (BE h) hs];rfl
 rfl
def AKk(x:Px):List Ch:=(if x.st then[(⟨32,false⟩:Ch)]else[])++x.p.t.map fun b=>⟨b,x.p.q⟩
theorem AGZ{L:List Px}(h:i<L.length):Cr (L.take (i+1))=Cr (L.take i)++AKk (AG L i FD):=by
 unfold Cr AKk
 rw[C6 FD h,List.flatMap_append];simp
theorem VV(L:List Px)(i:Nat):(Cr (L.take i)).length<=(Cr L).length:=by
 conv=>rhs;rw[<-Iu i L]
 unfold Cr
 rw[List.flatMap_append,Bh];omega
theorem ARE{L:List Px}(hb:KW L)(h:i<L.length)(hs:(AG L i FD).st=true):AKk (AG L i FD)=[⟨32,false⟩]:=by
 unfold AKk;rw[hs,hb _ (BE h) hs];rfl
theorem ANZ{x:Px}(hs:x.st=false):AKk x=x.p.t.map fun b=>⟨b,x.p.q⟩:=by
 unfold AKk;rw[hs];rfl
theorem Sa{l:List (List UInt8)}{b:List UInt8}(h:i<l.length):Lib.join (l.take (i+1)) b=(if 0<i then Lib.join (l.take i) b++b else Lib.join (l.take i) b)++AG l i []:=by
 cases l with
 |nil=>simp at h
 |cons x r=>
  cases i with
  |zero=>rw[AB (by omega)];show Lib.join [x] b=Lib.join [] b++x;rw[Lib.join_one];rfl
  |succ i=>
   rw[AI (by omega),List.take_succ_cons,List.take_succ_cons,Lib.join_cons,Lib.join_cons]
   have h1:i<r.length:=by simpa using h
   rw[Lib.joinTail_take_succ b r i (AG r i []) (Jq h1)]
   show x++(Lib.joinTail b (r.take i)++b++AG r i [])=x++Lib.joinTail b (r.take i)++b++AG r i []
   simp only[Ka]
theorem Ye(l:List (List UInt8))(b:List UInt8)(i:Nat):(Lib.join (l.take i) b).length<=(Lib.join l b).length:=by
 cases l with
 |nil=>simp
 |cons x r=>
  cases i with
  |zero=>exact Aw _
  |succ i=>
   rw[List.take_succ_cons,Lib.join_cons,Lib.join_cons,Bh,Bh]
   have:=Lib.joinTail_take_le b r i
   omega
def LwS:SR->Prop
 | .ok _=>True
 | .bad _ e=>e<100
def LwL:LR->Prop
 | .bad _ e=>e<100
 |_=>True
theorem ABS{r:LR}{k:Nat}(h:LwL r)(he:e<100):LwS (r.close k e):=by
 cases r with
 |ok j=>trivial
 |bad a e'=>exact h
 |out=>exact he
theorem AOL{r:LR}{k:Nat}(h:LwL r):LwL (r.on k):=by
 cases r with
 |ok j=>trivial
 |bad a e'=>exact h
 |out=>trivial
theorem Yo(l:List UInt8):LwS (CM l):=by
 unfold CM
 split
 ·show(_:Nat)<100;decide
 trivial
theorem X0{dlr:Bool->List UInt8->SR}{apo:Bool}{l:List UInt8}(hd:∀q l,LwS (dlr q l)):LwS (Bv dlr q apo l):=by
 unfold Bv
 split
 ·trivial
 split
 ·exact Yo l
 split
 ·show(_:Nat)<100;decide
 split
 ·exact hd _ _
 trivial
theorem AIz{dlr:Bool->List UInt8->SR}(hd:∀q l,LwS (dlr q l)):∀(f:Nat) (l:List UInt8),LwL (LY dlr f l)
 |0,_=>trivial
 |f+1,l=>by
  unfold LY
  split
  ·trivial
  split
  ·trivial
  have hf:=X0 (q:=true) (apo:=false) (l:=l) hd
  cases hi:Bv dlr true false l with
  |bad a e=>rw[hi]at hf;exact hf
  |ok k=>exact AOL (AIz hd f _)
theorem ZP{dbl:List UInt8->SR}{dlr:Bool->List UInt8->SR}{brace q:Bool}(hb:∀l,LwS (dbl l))(hd:∀q l,LwS (dlr q l)):∀(f o:Nat) (l:List UInt8),LwL (HN dbl dlr brace q f o l)
 |0,_,_=>trivial
 |f+1,o,l=>by
  unfold HN
  split
  ·trivial
  split
  ·have hf:=hb l
   cases hi:dbl l with
   |bad a e=>rw[hi]at hf;exact hf
   |ok k=>exact AOL (ZP hb hd f _ _)
  split
  ·trivial
  have hf:=X0 (q:=q) (apo:= !q) (l:=l) hd
  cases hi:Bv dlr q (!q) l with
  |bad a e=>rw[hi]at hf;exact hf
  |ok k=>exact AOL (ZP hb hd f _ _)
theorem AQD:∀n,(∀l,LwS ((lv n).1 l))/\∀q l,LwS ((lv n).2 q l)
 |0=>⟨fun _=>(by decide:(_:Nat)<100),fun _ _=>(by decide:(_:Nat)<100)⟩
 |n+1=>by
  obtain⟨h1,h2⟩:=AQD n
  exact⟨fun l=>ABS (AIz h2 _ _) (by decide),fun q l=>ABS (ZP h1 h2 _ _ _) (by decide)⟩
mutual
def KdT:PT->Prop
 | .mk k t _ w q=>(1<=k/\k<=5)/\(k=5->t=[126]/\q=false)/\Kr w
def Kr:List PT->Prop
 | []=>True
 |p::l=>KdT p/\Kr l
end
theorem UY:∀l:List PT,Kr l↔ ∀p∈l,KdT p
 | []=>⟨fun _ _ h=>(by cases h),fun _=>trivial⟩
 |p::l=>by rw[Kr,UY l];simp
theorem Oh{l m:List PT}(h:Kr l)(k:Kr m):Kr (l++m):=by
 rw[UY]at *
 exact fun p hp=>(Ic.1 hp).elim (h p) (k p)
theorem MQ{p:PT}(h:KdT p):Kr [p]:=⟨h,trivial⟩
theorem AZD(t:List UInt8)(q:Bool):KdT (.mk 1 t [] [] q):=⟨by decide,fun h=>(by cases h),trivial⟩
theorem ASz{p:PT}(h:KdT p)(t:List UInt8)(q:Bool):KdT (.mk 1 t p.op p.word q):=by
 obtain⟨k,a,b,c,d⟩:=p
 exact⟨by decide,fun h=>(by cases h),h.2.2⟩
theorem Oc{l:List PT}(h:Kr l):Kr (G2 l t q):=by
 unfold G2
 split
 ·rename_i h1
  rw[UY]at *
  intro p hp
  rcases List.mem_or_eq_of_mem_set hp with hp|rfl
  ·exact h p hp
  have:=BV.2 h1.1
  exact ASz (h _ (BE (by omega))) _ _
 exact Oh h (MQ (AZD _ _))
theorem AIR:∀(m l:List PT),Kr m->Kr l->Kr (Jk l m)
 | [],l,_,h=>h
 |p::m,l,hm,h=>by
  rw[Jk]
  refine AIR m _ hm.2 ?_
  split
  ·exact Oc h
  exact Oh h (MQ hm.1)
def PrK:PR->Prop
 | .ok l=>Kr l
 | .bad e=>e<100
def SpK:SP->Prop
 | .ok l _=>Kr l
 | .bad e=>e<100
def BrK:BR->Prop
 | .ok p=>KdT p
 | .bad e=>e<100
theorem ASX{W:Nat->List UInt8->PR}(hW:∀k s,PrK (W k s)){kind:Nat}{s:List UInt8}:BrK (Dm W kind s):=by
 unfold Dm
 repeat' split
 all_goals first
  |exact(by decide:(55:Nat)<100)
  |exact⟨by decide,fun h=>(by cases h),trivial⟩
  | (rename_i e he;have:=hW (if Lib.contains [37,37,35,35] (CC (s.drop (Ag s)))=true then 0 else kind) ((s.drop (Ag s)).drop (CC (s.drop (Ag s))).length);rw[he]at this;exact this)
  | (rename_i w hw;have:=hW (if Lib.contains [37,37,35,35] (CC (s.drop (Ag s)))=true then 0 else kind) ((s.drop (Ag s)).drop (CC (s.drop (Ag s))).length);rw[hw]at this;exact⟨by decide,fun h=>(by cases h),this⟩)
section
variable {n kind:Nat} {W:Nat->List UInt8->PR} {l:List UInt8} {acc:List PT}
theorem AeR(hW:∀k s,PrK (W k s))(ha:Kr acc):SpK (Ks n W kind l acc):=by
 unfold Ks
 split
 ·have h1:=(AQD n).2 (decide (kind≠0)) l
  cases hr:(lv n).2 (decide (kind≠0)) l with
  |bad a e=>rw[hr]at h1;exact h1
  |ok k=>
   simp only
   split
   ·have h2:=ASX hW (kind:=kind) (s:=(l.take (k-1)).drop 2)
    cases hb:Dm W kind ((l.take (k-1)).drop 2)with
    |bad e=>rw[hb]at h2;exact h2
    |ok p=>rw[hb]at h2;exact Oh ha (MQ h2)
   split
   ·have h2:=hW 2 ((((l.take (k-1)).drop 2).take (((l.take (k-1)).drop 2).length-1)).drop 1)
    cases hb:W 2 ((((l.take (k-1)).drop 2).take (((l.take (k-1)).drop 2).length-1)).drop 1)with
    |bad e=>rw[hb]at h2;exact h2
    |ok w=>rw[hb]at h2;exact Oh ha (MQ ⟨by decide,fun h=>(by cases h),h2⟩)
   exact Oh ha (MQ ⟨by decide,fun h=>(by cases h),trivial⟩)
 split
 ·exact Oc ha
 exact Oh ha (MQ ⟨by decide,fun h=>(by cases h),trivial⟩)
theorem AaV(hW:∀k s,PrK (W k s))(ha:Kr acc):SpK (Iv n W l acc):=by
 unfold Iv
 have h1:LwS (if AG l 0 0=34 then(lv n).1 l else CM l):=by
  split
  ·exact(AQD n).1 l
  exact Yo l
 cases hr:(if AG l 0 0=34 then(lv n).1 l else CM l)with
 |bad a e=>rw[hr]at h1;exact h1
 |ok k=>
  simp only
  split
  ·exact Oc ha
  have h2:=hW 1 ((l.take (k-1)).drop 1)
  cases hb:W 1 ((l.take (k-1)).drop 1)with
  |bad e=>rw[hb]at h2;exact h2
  |ok m=>
   rw[hb]at h2
   refine AIR m _ h2 ?_
   split
   ·exact Oc ha
   exact ha
theorem Aad(hW:∀k s,PrK (W k s))(ha:Kr acc):SpK (DI n W kind l acc):=by
 unfold DI
 split
 ·unfold Sg
  repeat' split
  all_goals first |exact ha|exact Oc ha
 split
 ·exact AaV hW ha
 split
 ·exact AeR hW ha
 split
 ·exact(by decide:(55:Nat)<100)
 exact Oc ha
theorem AFm(hW:∀k s,PrK (W k s)):∀(f:Nat) (l:List UInt8) (acc:List PT),Kr acc->PrK (HJ n W kind f l acc)
 |0,_,_,h=>h
 |f+1,l,acc,h=>by
  rw[HJ]
  split
  ·exact h
  have h1:=Aad (n:=n) (kind:=kind) (l:=l) hW h
  cases hs:DI n W kind l acc with
  |bad e=>rw[hs]at h1;exact h1
  |ok acc' k=>rw[hs]at h1;exact AFm hW f _ _ h1
end
theorem AJC{n kind:Nat}{W:Nat->List UInt8->PR}{s:List UInt8}(hW:∀k s,PrK (W k s)):PrK (Hr n W kind s):=by
 unfold Hr
 split
 ·exact AFm hW _ _ _ (MQ ⟨by decide,fun _=>⟨O,O⟩,trivial⟩)
 exact AFm hW _ _ _ trivial
theorem AfR:∀(n k:Nat) (s:List UInt8),PrK (wP n k s)
 |0,k,s=>AJC fun _ _=>(by decide:(52:Nat)<100)
 |n+1,k,s=>AJC (AfR n)
theorem AHP(s:List UInt8)(kind:Int):PrK (Di s kind):=by
 unfold Di
 split
 ·exact(by decide:(50:Nat)<100)
 split
 ·exact(by decide:(73:Nat)<100)
 exact AfR _ _ _
def Er(r:PA):Prop:=∀e,r=.bad e->e<100
theorem RR{x:Ex}{L:List Lx}:Er (.ok x L):=fun _ h=>by cases h
theorem He{k:Nat}(h:k<100):Er (.bad k):=fun _ h2=>by cases h2;exact h
structure ErR(R:Kl):Prop where
 asg:∀L,Er (R.asg L)
 cho:∀L,Er (R.cho L)
 opd:∀L,Er (R.opd L)
theorem AIs{R:Kl}(h:ErR R)(L:List Lx):Er (EH R L):=by
 unfold EH
 split
 ·cases hr:R.opd (Am L)with
  |bad k=>exact He (h.opd _ k hr)
  |ok x L1=>exact RR
 split
 ·cases hr:R.asg (Am L)with
  |bad k=>exact He (h.asg _ k hr)
  |ok x L1=>simp only;split;exact RR;exact He (by decide)
 split
 ·exact RR
 split
 ·exact RR
 exact He (by decide)
theorem AJQ{v:Nat}{next:List Lx->PA}(hn:∀L,Er (next L)):∀(f:Nat) (x:Ex) (L:List Lx),Er (KS v next f x L)
 |0,_,_=>RR
 |f+1,x,L=>by
  rw[KS]
  split
  ·cases hr:next (Am L)with
   |bad k=>exact He (hn _ k hr)
   |ok y L1=>exact AJQ hn f _ _
  exact RR
theorem ZY{R:Kl}(h:ErR R):∀(k:Nat) (L:List Lx),Er (CJ R k L)
 |0,L=>AIs h L
 |k+1,L=>by
  rw[CJ]
  cases hr:CJ R k L with
  |bad j=>exact He (ZY h k L j hr)
  |ok x L1=>exact AJQ (ZY h k) _ _ _
theorem AJD{R:Kl}(h:ErR R)(L:List Lx):Er (ED R L):=by
 unfold ED
 cases hr:CJ R 10 L with
 |bad j=>exact He (ZY h 10 L j hr)
 |ok x L1=>
  simp only
  split
  ·cases ha:R.asg (Am L1)with
   |bad j=>exact He (h.asg _ j ha)
   |ok y L2=>
    simp only
    split
    ·cases hc:R.cho (Am L2)with
     |bad j=>exact He (h.cho _ j hc)
     |ok z L3=>exact RR
    exact He (by decide)
  exact RR
theorem AVC{R:Kl}(h:ErR R)(L:List Lx):Er (Gn R L):=by
 unfold Gn
 split
 ·cases ha:R.asg (Am (Am L))with
  |bad j=>exact He (h.asg _ j ha)
  |ok y L2=>exact RR
 exact AJD h L
theorem Z2:∀n,ErR (FM n)
 |0=>⟨fun _=>He (by decide),fun _=>He (by decide),fun _=>He (by decide)⟩
 |n+1=>⟨AVC (Z2 n),AJD (Z2 n),AIs (Z2 n)⟩
theorem AHO(op:List UInt8)(a b:Int):(CO op a b).2<100:=by
 have hi:∀{c:Prop} [Decidable c] {x y:Int×Nat},x.2<100->y.2<100->(if c then x else y).2<100:=fun {c} _ {x y} hx hy=>by
  by_cases h:c
  ·rw[AI h];exact hx
  rw[AB h];exact hy
 unfold CO
 repeat' (first |exact(by decide:(0:Nat)<100)|exact(by decide:(61:Nat)<100)|refine hi ?_ ?_)
theorem ARW(t:List UInt8):(HM t).2<100:=by
 unfold HM
 simp only
 repeat' split
 all_goals first |decide| (simp only[];decide)
theorem Xi(vs:List (List UInt8×List UInt8))(S:List Dw)(n:List UInt8):(Bt vs S n).2<100:=by
 unfold Bt
 repeat' split
 all_goals first |exact ARW _| (simp only[];decide)
theorem Gj(vs:List (List UInt8×List UInt8)):∀(x:Ex) (S:List Dw) (e:Nat),A1 vs x S=.bad e->e<100
 | .num n,S,e,h=>by cases h
 | .var nm,S,e,h=>by
  rw[A1]at h
  split at h
  ·cases h
  cases h;exact Xi _ _ _
 | .asg op nm k,S,e,h=>by
  rw[A1]at h
  split at h
  ·cases hk:A1 vs k S with
   |bad j=>rw[hk]at h;cases h;exact Gj vs k S _ hk
   |ok b S1=>rw[hk]at h;cases h
  split at h
  ·cases hk:A1 vs k S with
   |bad j=>rw[hk]at h;cases h;exact Gj vs k S _ hk
   |ok b S1=>
    rw[hk]at h
    simp only at h
    split at h
    ·cases h
    cases h;exact AHO _ _ _
  cases h;exact Xi _ _ _
 | .una op k,S,e,h=>by
  rw[A1]at h
  cases hk:A1 vs k S with
  |bad j=>rw[hk]at h;cases h;exact Gj vs k S _ hk
  |ok b S1=>rw[hk]at h;cases h
 | .cho a b c,S,e,h=>by
  rw[A1]at h
  cases hk:A1 vs a S with
  |bad j=>rw[hk]at h;cases h;exact Gj vs a S _ hk
  |ok v S1=>
   rw[hk]at h
   simp only at h
   split at h
   ·exact Gj vs b S1 e h
   exact Gj vs c S1 e h
 | .bin op a b,S,e,h=>by
  rw[A1]at h
  cases hk:A1 vs a S with
  |bad j=>rw[hk]at h;cases h;exact Gj vs a S _ hk
  |ok v S1=>
   rw[hk]at h
   simp only at h
   split at h
   ·split at h
    ·cases h
    cases hb:A1 vs b S1 with
    |bad j=>rw[hb]at h;cases h;exact Gj vs b S1 _ hb
    |ok u S2=>rw[hb]at h;cases h
   cases hb:A1 vs b S1 with
   |bad j=>rw[hb]at h;cases h;exact Gj vs b S1 _ hb
   |ok u S2=>
    rw[hb]at h
    simp only at h
    split at h
    ·cases h
    cases h;exact AHO _ _ _
theorem AOU(s:List UInt8)(vs:List (List UInt8×List UInt8)):(Fc s vs).2.2<100:=by
 unfold Fc
 cases hr:Dy s with
 |bad k=>
  unfold Dy at hr
  split at hr
  ·cases hr
  cases ha:(FM 25).asg (DM s)with
  |bad j=>rw[ha]at hr;cases hr;exact(Z2 25).asg _ _ ha
  |ok x L=>
   rw[ha]at hr
   simp only at hr
   split at hr
   ·cases hr
   cases hr;exact(by decide:(60:Nat)<100)
 |ok x=>
  simp only
  cases hw:A1 vs x []with
  |bad k=>exact Gj vs x [] k hw
  |ok v S=>exact(by decide:(0:Nat)<100)
open Go.Proofs
def MsX:XR->Prop
 | .ok _ _=>True
 | .bad e m _=>e≠62->m=[]
theorem SE{h:Hx}:MsX (.bad e [] h):=fun _=>rfl
theorem AHX{L:List Px}{h:Hx}:MsX (.ok L h):=trivial
theorem Abc{h:Hx}:MsX (.bad 62 m h):=fun h=>Ac rfl h
theorem AIn(L:List Px):∀(l:List Dw) (h:Hx),MsX (HU L l h)
 | [],_=>trivial
 |s::r,h=>by
  rw[HU];split
  ·exact SE
  exact AIn L r _
theorem AZL{r:XR}(k:MsX r):MsX (RT t op q r):=by
 cases r with
 |bad e m h=>exact k
 |ok L h=>
  unfold RT;simp only
  repeat' split
  all_goals first |exact SE|exact AHX|exact Abc
theorem AYb{r:XR}(k:MsX r):MsX (AOg v op q r):=by
 cases r with
 |bad e m h=>exact k
 |ok L h=>exact AHX
theorem AYv{r:XR}(k:MsX r):MsX (RB q r):=by
 cases r with
 |bad e m h=>exact k
 |ok L h=>
  unfold RB;simp only
  split
  ·exact SE
  exact AIn _ _ _
theorem AXT{h:Hx}:MsX (Nh h t q):=by
 unfold Nh;split
 ·exact AHX
 exact SE
mutual
theorem ASr(wi:Bool)(h:Hx):∀p:PT,MsX (CZ wi h p)
 | .mk k t op w q=>by
  have hT:=QD true h [] w
  have hF:=QD false h [] w
  rw[CZ]
  repeat' split
  all_goals first
   |exact SE|exact AHX|exact AYb hF|exact AYv hF|exact AXT|exact AZL hT
theorem QD(wi:Bool)(h:Hx)(acc:List Px):∀l:List PT,MsX (CE wi h acc l)
 | []=>trivial
 |p::l=>by
  have hp:=ASr wi h p
  rw[CE]
  cases hr:CZ wi h p with
  |bad e m h=>rw[hr]at hp;exact hp
  |ok m h'=>exact QD wi h' (acc++m) l
end
theorem ASy(pf:Hx->List Ch->List (List UInt8))(h:Hx)(s:List UInt8)(he:(Dz pf h s).2.2.1≠62):(Dz pf h s).2.1=[]:=by
 have hm:MsX (IS h s 0):=by
  unfold IS
  split
  ·exact SE
  exact QD _ _ _ _
 unfold Dz at he ⊢
 cases hx:IS h s 0 with
 |bad e m h'=>rw[hx]at hm he;exact hm he
 |ok L h'=>rfl
end Go.Tri
