/-
 Tokens stand in the text where they say.
-/
import Derived.Test.YtbndcpjklngfhaaGreatDoorPLex5
namespace Go.Tri
open Go.RowKit
variable {j e i len p x d:Nat} {s:List UInt8} {c:UInt8} {q:Bool}
theorem D0(s:List UInt8)(i:Nat):AG (s.drop i) 0 0=AG s i 0:=by
 unfold AG;rw[Cy,Cy,List.getElem?_drop];rfl
deriving instance DecidableEq for AcI
theorem ADP{r:LR}{k:Nat}(h:r.close j e=.ok k):∃m,r=.ok m/\k=j+m:=by
 cases r with
 |ok m=>injection h with h;exact⟨m,O,h.symm⟩
 |bad a e=>cases h
 |out=>cases h
deriving instance DecidableEq for LnR
def Ob(i:Nat):SR->Nat
 | .ok k=>i+k
 | .bad _ _=>0
def Sb(i:Nat):SR->Nat
 | .ok _=>0
 | .bad a _=>i+a
def JP:SR->Nat
 | .ok _=>0
 | .bad _ e=>e
def dl(b:Bool)(x:Nat):Nat:=if b then x else 0
def Dr(s:List UInt8)(i:Nat):Bool:=Dl (s.drop i) [36,40]||Dl (s.drop i) [36,123]
theorem Jw(hj:j<s.length):Dl (s.drop j) [c]=decide (AG s j 0=c):=by
 rw[Bg 0 hj,ASu]
theorem AJI{d:UInt8}(h:Dl (s.drop j) [c,d]=true):j+2<=s.length/\AG s j 0=c/\AG s (j+1) 0=d:=by
 have hl:=Hq h
 rw[BA]at hl
 simp only[CD,Bb]at hl
 have h1:=BM h
 simp only[CD,Bb]at h1
 rw[Bg 0 (show j<s.length by omega),Bg 0 (show j+1<s.length by omega)]at h1
 simp at h1
 exact⟨by omega,h1.1,h1.2⟩
theorem QR(h:Dr s i=true):i+2<=s.length/\AG s i 0=36/\(AG s (i+1) 0=40\/AG s (i+1) 0=123):=by
 unfold Dr at h
 rw[C4]at h
 rcases h with h|h
 ·have:=AJI h;exact⟨this.1,this.2.1,.inl this.2.2⟩
 have:=AJI h;exact⟨this.1,this.2.1,.inr this.2.2⟩
theorem P9(h:AG s i 0≠36):Dr s i=false:=by
 rw[<-Bool.not_eq_true]
 exact fun h1=>h (QR h1).2.1
theorem EF{D:Bool->List UInt8->SR}{apo:Bool}(hj:j<s.length):
  Bv D q apo (s.drop j)=if AG s j 0=92 then .ok (min 2 (s.length-j))else if AG s j 0=39/\apo=true then CM (s.drop j)else if AG s j 0=96 then .bad 0 55 else if Dr s j=true then D q (s.drop j)else .ok 1:=by
 unfold Bv
 rw[Jw hj,Jw hj,Jw hj,BA,show min 1 (s.length-j)=1 by omega]
 simp only[BC,Ay]
 rfl
def Ro(len j:Nat)(r:SR)(e p x:Nat):Prop:=match r with
 | .ok k=>p=0/\x=0/\1<=k/\j+k<=len/\(e=j+k\/(len<e/\e<=len+1/\j+k=len))
 | .bad a e'=>x=e'/\e'≠0/\p=j+a/\e=0
theorem Ro.of{r:SR}(Lq:Fit (s.drop j) r)(hf:Fv r)(hj:j<s.length):Ro s.length j r (Ob j r) (Sb j r) (JP r):=by
 cases r with
 |ok k=>
  have h1:1<=k:=Lq.1
  have h2:k<=(s.drop j).length:=Lq.2
  rw[BA]at h2
  exact⟨O,O,h1,by omega,.inl O⟩
 |bad a e=>exact⟨O,hf,O,O⟩
theorem Ro.esc(hj:j<len):Ro len j (.ok (min 2 (len-j))) (j+2) 0 0:=⟨rfl,rfl,by omega,by omega,by omega⟩
theorem Ro.one(hj:j<len):Ro len j (.ok 1) (j+1) 0 0:=⟨rfl,rfl,by omega,by omega,.inl rfl⟩
theorem Ro.bad55:Ro len j (.bad 0 55) 0 j 55:=⟨rfl,by decide,rfl,rfl⟩
theorem Ro.f{r:SR}(h:Ro len j r e p x)(hx:x≠0):∃a,r=.bad a x/\p=j+a/\e=0:=by
 cases r with
 |ok k=>exact Ac h.2.1 hx
 |bad a e'=>obtain⟨rfl,_,h3,h4⟩:=h;exact⟨a,rfl,h3,h4⟩
theorem Ro.t{r:SR}(h:Ro len j r e p x)(hx:x=0):∃k,r=.ok k/\1<=k/\j+k<=len/\(e=j+k\/(len<e/\e<=len+1/\j+k=len)):=by
 cases r with
 |ok k=>exact⟨k,O,h.2.2⟩
 |bad a e'=>obtain⟨rfl,h2,_⟩:=h;exact Ac hx h2
theorem AIZ{r:SR}(b:Bool)(Lq:b=true->Fit (s.drop j) r)(hf:Fv r):(decide ((0:Int)<(dl b (Ob j r):Int))||decide ((0:Int)<(dl b (JP r):Int)))=b:=by
 cases b with
 |false=>rfl
 |true=>
  unfold dl
  cases r with
  |ok k=>
   have h1:1<=k:=(Lq O).1
   rw[BK (show(0:Int)<_ by simp[Ob];omega)];rfl
  |bad a e=>
   have h1:e≠0:=hf
   rw[C4];right
   exact BK (by simp[JP];omega)
theorem T5{a b c a' b' c':Int}(h1:a=a')(h2:b=b')(h3:c=c'):Value.agg #[.int .i64 a,.int .i64 b,.int .i64 c]=Value.agg #[.int .i64 a',.int .i64 b',.int .i64 c']:=by rw[h1,h2,h3]
def KV(len j kv:Nat):Prop:=kv=j\/(j=len/\len<kv/\kv<=len+1)
theorem AAi(hi:i<j)(hj:j<s.length)(hc:AG s j 0=39)(Cz:∀k,i+1<=k->k<j->AG s k 0≠39):CM (s.drop i)=.ok (j+1-i):=by
 unfold CM
 rw[Cp]
 have hn:∀m,AG (s.drop (i+1)) m 0=AG s (i+1+m) 0:=fun m=>by
  unfold AG;rw[Cy,Cy,List.getElem?_drop]
 have Ua:=Lib.indexByte_ge (s.drop (i+1)) 39
 by_cases h:Lib.indexByte (s.drop (i+1)) 39= -1
 ·exfalso
  have h1:=V8 h
  apply h1
  rw[<-hc,show j=i+1+(j-(i+1)) by omega,<-hn]
  exact BE (by rw[BA];omega)
 obtain⟨m,hm⟩:∃m:Nat,Lib.indexByte (s.drop (i+1)) 39=m:=⟨(Lib.indexByte (s.drop (i+1)) 39).toNat,by omega⟩
 obtain⟨h1,h2,h3⟩:=F6 hm
 rw[hn]at h2
 have h4:m=j-(i+1):=by
  rcases Nat.lt_trichotomy m (j-(i+1))with h|h|h
  ·exact Ac h2 (Cz _ (by omega) (by omega))
  ·exact h
  exfalso
  apply h3
  have h5:j-(i+1)<((s.drop (i+1)).take m).length:=by rw[BL];omega
  have h6:AG ((s.drop (i+1)).take m) (j-(i+1)) 0=39:=by
   rw[<-hc]
   unfold AG
   rw[Cy,Cy,List.getElem?_take,AI h,List.getElem?_drop,show i+1+(j-(i+1))=j by omega]
  rw[<-h6];exact BE h5
 rw[hm,AB (by omega)]
 congr 1;omega
theorem ABg(Cz:∀k,i+1<=k->k<s.length->AG s k 0≠39):CM (s.drop i)=.bad 0 53:=by
 unfold CM
 rw[Cp]
 have Ua:=Lib.indexByte_ge (s.drop (i+1)) 39
 by_cases h:Lib.indexByte (s.drop (i+1)) 39= -1
 ·rw[h,AI (by decide)]
 exfalso
 obtain⟨m,hm⟩:∃m:Nat,Lib.indexByte (s.drop (i+1)) 39=m:=⟨(Lib.indexByte (s.drop (i+1)) 39).toNat,by omega⟩
 obtain⟨h1,h2,_⟩:=F6 hm
 rw[BA]at h1
 refine Cz (i+1+m) (by omega) (by omega) ?_
 rw[<-h2]
 unfold AG;rw[Cy,Cy,List.getElem?_drop]
theorem Pf(l:List UInt8)(h:l≠[]):Fit l (CM l):=by
 have hp:=BV.2 h
 unfold CM
 split
 ·trivial
 rename_i h1
 have Ua:=Lib.indexByte_ge (l.drop 1) 39
 obtain⟨i,hi⟩:∃i:Nat,Lib.indexByte (l.drop 1) 39=i:=⟨(Lib.indexByte (l.drop 1) 39).toNat,by omega⟩
 have:=(F6 hi).1
 rw[BA]at this
 rw[hi]
 exact⟨by omega,by omega⟩
def Wm(s:List UInt8)(i d:Nat)(q:Bool):Option SR:=if AG s i 0=34 then some ((lv (24-d)).1 (s.drop i))else if AG s i 0=39/\q=false then some (CM (s.drop i))else if Dr s i=true then some ((lv (24-d)).2 q (s.drop i))else none
def Aer(i:Nat):Option SR->Nat×Nat×Nat
 |none=>(0,0,0)
 |some r=>(Ob i r,Sb i r,JP r)
def Ql(s:List UInt8)(at' d:Int)(q:Bool):Nat×Nat×Nat:=if at'<0\/(s.length:Int)<=at'\/d<0\/24<d then(0,0,0)else Aer at'.toNat (Wm s at'.toNat d.toNat q)
theorem APY{i d:Int}(h:(decide (i<0)||decide ((s.length:Int)<=i)||decide (d<0)||decide (24<d))=true):Ql s i d q=(0,0,0):=by
 unfold Ql
 rw[AI]
 simp only[C4,BC]at h
 rcases h with ((h|h)|h)|h
 ·exact .inl h
 ·exact .inr (.inl h)
 ·exact .inr (.inr (.inl h))
 exact .inr (.inr (.inr h))
theorem ARt{i d:Int}(h:(decide (i<0)||decide ((s.length:Int)<=i)||decide (d<0)||decide (24<d))=false):∃i' d':Nat,i=i'/\d=d'/\i'<s.length/\d'<=24/\∀q,Ql s i d q=Aer i' (Wm s i' d' q):=by
 simp only[Bool.or_eq_false_iff,CA]at h
 obtain⟨⟨⟨h1,h2⟩,h3⟩,h4⟩:=h
 refine⟨i.toNat,d.toNat,by omega,by omega,by omega,by omega,fun q=>?_⟩
 unfold Ql
 rw[AB (by omega)]
theorem ACr(h:AG s i 0=34):Wm s i d q=some ((lv (24-d)).1 (s.drop i)):=by rw[Wm,AI h]
theorem AEL(h:AG s i 0=39)(hq:q=false):Wm s i d q=some (CM (s.drop i)):=by rw[Wm,AB (by rw[h];decide),AI ⟨h,hq⟩]
theorem AEV(h:AG s i 0≠34)(h2:¬(AG s i 0=39/\q=false))(hb:Dr s i=true):Wm s i d q=some ((lv (24-d)).2 q (s.drop i)):=by rw[Wm,AB h,AB h2,AI hb]
theorem YG(h:AG s i 0≠34)(h2:¬(AG s i 0=39/\q=false))(hb:Dr s i=false):Wm s i d q=none:=by rw[Wm,AB h,AB h2,AB (by rw[hb];simp)]
end Go.Tri
