/-
 What layer 15 computes, in plain words: pieces, bytes one by one, fields.
-/
import Derived.Test.YtbndcpjklngfhaaGreatDoorTriB5
namespace Go.Tri
open Go.RowKit
variable {vs:List Value} {i n:Nat} {α:Type} {ifs:List UInt8} {b:UInt8}

structure Ch where
 b:UInt8
 q:Bool
 deriving DecidableEq
structure Pc where
 t:List UInt8
 q:Bool
 s:Bool
 deriving DecidableEq
def FE:Pc:=⟨[],false,false⟩
def D5(c:Ch):List Value:=[u8 c.b,.bool c.q]
def Ot(p:Pc):List Value:=[Au p.t,.bool p.q,.bool p.s]

theorem Hf(c:Ch):∀u∈D5 c,u.oneCell'=true:=fun u hu=>by
 simp only[D5,Ci,List.not_mem_nil,or_false]at hu
 rcases hu with rfl|rfl<;>rfl
theorem Q3(c:Pc):∀u∈Ot c,u.oneCell'=true:=fun u hu=>by
 simp only[Ot,Ci,List.not_mem_nil,or_false]at hu
 rcases hu with rfl|rfl|rfl<;>rfl
def G5(I:AQ)(vs:List Value)(ls:List (List Ch)):Prop:=vs.length=ls.length/\∀(i:Nat) (v:Value) (l:List Ch),vs[i]? =some v->ls[i]? =some l->Sl I 2 v (l.map D5)

def Ho(s:List UInt8)(b:UInt8):Bool:=s.any (· ==b)
theorem G5.at_{I:AQ}{ls:List (List Ch)}(h:G5 I vs ls)(hi:i<ls.length):Sl I 2 (AG vs i undef) ((AG ls i []).map D5):=by
 have h1:i<vs.length:=by rw[h.1];exact hi
 exact h.2 i _ _ (Jq h1) (Jq hi)
theorem G5.mono{I J:AQ}{ls:List (List Ch)}(h:G5 I vs ls)(CH:Le I J):G5 J vs ls:=⟨h.1,fun i v l h1 h2=>(h.2 i v l h1 h2).mono CH⟩
theorem G5.snoc{I:AQ}{ls:List (List Ch)}{v:Value}{l:List Ch}(h:G5 I vs ls)(hv:Sl I 2 v (l.map D5)):G5 I (vs++[v]) (ls++[l]):=by
 refine⟨by simp[h.1],fun i u m h1 h2=>?_⟩
 rcases Nat.lt_or_ge i ls.length with Eg|Ua
 ·rw[List.getElem?_append_left (by rw[h.1];exact Eg)]at h1
  rw[List.getElem?_append_left Eg]at h2
  exact h.2 i u m h1 h2
 rw[List.getElem?_append_right (by rw[h.1];exact Ua),h.1]at h1
 rw[List.getElem?_append_right Ua]at h2
 cases hk:i-ls.length with
 |zero=>
  rw[hk]at h1 h2
  simp only[List.getElem?_cons_zero,Xq]at h1 h2
  subst h1 h2
  exact hv
 |succ n=>rw[hk]at h1;simp at h1
def JB(v:Value):List Value:=[v]
def RL(I:AQ)(v:Value)(ls:List (List Ch)):Prop:= ∃vs,Sl I 1 v (vs.map JB)/\G5 I vs ls
theorem ZA(s:List UInt8)(b:UInt8)(k:Nat)(h:k<s.length):Ho (s.drop k) b=(AG s k 0==b||Ho (s.drop (k+1)) b):=by
 unfold Ho
 rw[Bg 0 h,List.any_cons]

theorem AKd{xs ys:List α}(h:xs.length=ys.length)(d:α)(he:∀i,i<xs.length->AG xs i d=AG ys i d):xs=ys:=by
 apply List.ext_getElem h
 intro i h1 h2
 have:=he i h1
 rwa [CT h1,CT h2]at this
section
variable {w0:World} {I:AQ} {H:List HA} {v:Value}
theorem CN(l:List α)(f:α->List Value)(d:α)(h:i<l.length):(l.map f)[i]? =some (f (AG l i d)):=by
 rw[List.getElem?_map,Jq (d:=d) h];rfl
theorem AIb{l:List Ch}(h:Sl I 2 v (l.map D5))(hi:i<l.length):Rd w0 I H (Eb v).block ((Eb v).off+i * 2+0) (u8 (AG l i ⟨0,false⟩).b):=h.rd (CN l D5 ⟨0,false⟩ hi) rfl
theorem APT{l:List Ch}(h:Sl I 2 v (l.map D5))(hi:i<l.length):Rds w0 I H (Eb v).block ((Eb v).off+i * 2) (D5 (AG l i ⟨0,false⟩)):=h.rds (CN l D5 ⟨0,false⟩ hi)
theorem ANK{l:List Pc}(h:Sl I 3 v (l.map Ot))(hi:i<l.length):Rds w0 I H (Eb v).block ((Eb v).off+i * 3) (Ot (AG l i FE)):=h.rds (CN l Ot FE hi)
theorem Oe(h:Sl I 1 v (vs.map JB))(hi:i<vs.length):Rd w0 I H (Eb v).block ((Eb v).off+i * 1) (AG vs i undef):=h.rd (j:=0) (CN vs JB undef hi) rfl
end

def Cj(l:List Ch):List UInt8:=l.map Ch.b

structure FSt where
 out:List (List Ch)
 cur:List Ch
 begun:Bool
 soft:Bool
 deriving DecidableEq
inductive Ev where
 |begin
 |plain (c:Ch)
 |soft
 |hard
 deriving DecidableEq
def Jr(b:UInt8):Bool:=decide (b=9)||decide (b=10)||decide (b=32)
def evB(p:Pc)(ifs:List UInt8)(b:UInt8):Ev:=
 if p.q|| !p.s|| !Ho ifs b then .plain ⟨b,p.q⟩else if Jr b then .soft else .hard
def AJa(ifs:List UInt8)(p:Pc):List Ev:=(if p.q then[Ev.begin]else[])++p.t.map (evB p ifs)
def Vf(l:List Pc)(ifs:List UInt8):List Ev:=l.flatMap (AJa ifs)
def F2(f:FSt):Ev->FSt
 | .begin=>{f with begun:=true,soft:=false}
 | .plain c=>{f with cur:=f.cur++[c],begun:=true,soft:=false}
 | .soft=>if f.begun then⟨f.out++[f.cur],[],false,true⟩else f
 | .hard=>if f.begun then⟨f.out++[f.cur],[],false,false⟩else if f.soft then{f with soft:=false}else{f with out:=f.out++[[]]}
def AAr(f:FSt):List (List Ch):=if f.begun then f.out++[f.cur]else f.out
def Aq(l:List Pc)(ifs:List UInt8):List (List Ch):=AAr ((Vf l ifs).foldl F2 ⟨[],[],false,false⟩)
def G4:FSt:=⟨[],[],false,false⟩

def tot(l:List Pc):Nat:=(l.map (fun p=>p.t.length)).sum
theorem ACc{l:List Pc}(ifs:List UInt8)(h:i<l.length):Vf (l.drop i) ifs=AJa ifs (AG l i FE)++Vf (l.drop (i+1)) ifs:=by
 rw[Bg FE h];rfl
theorem ACm{l:List Pc}(h:i<l.length):tot (l.drop i)=(AG l i FE).t.length+tot (l.drop (i+1)):=by
 rw[Bg FE h];rfl
theorem Nf{t:List UInt8}{k:Nat}(g:UInt8->Ev)(h:k<t.length):(t.drop k).map g=g (AG t k 0)::(t.drop (k+1)).map g:=by
 rw[Bg 0 h];rfl
theorem ALI{p:Pc}(h:(p.q|| !p.s|| !Ho ifs b)=true):evB p ifs b=.plain ⟨b,p.q⟩:=by unfold evB;rw[AI h]
theorem AEc{p:Pc}(h:(p.q|| !p.s|| !Ho ifs b)=false)(hs:Jr b=true):evB p ifs b=.soft:=by unfold evB;rw[AB (by simp[h]),AI hs]
theorem VM{p:Pc}(h:(p.q|| !p.s|| !Ho ifs b)=false)(hs:Jr b=false):evB p ifs b=.hard:=by unfold evB;rw[AB (by simp[h]),AB (by simp[hs])]
def Da(o:List (List Ch)):Bool:=o.all (fun f=>decide (f.length<=4096))&&decide (o.length<=200)
theorem FQ{o:List (List Ch)}:Da o=true↔(∀i,i<o.length->(AG o i []).length<=4096)/\o.length<=200:=by
 unfold Da
 rw[Ay,List.all_eq_true,decide_eq_true_iff]
 constructor
 ·rintro⟨h,k⟩
  exact⟨fun i hi=>BM (h _ (BE hi)),k⟩
 rintro⟨h,k⟩
 refine⟨fun x hx=>?_,k⟩
 obtain⟨i,hi,rfl⟩:=List.getElem_of_mem hx
 have:=h i hi
 rw[CT hi]at this
 simpa using this

def Nb(p:Pc)(ifs:List UInt8)(b:UInt8):Nat:=if p.s&& !p.q&&Ho ifs b then(if Jr b then 2 else 3)else 0
def evq(ifs:List UInt8)(p:Pc):List (Ch×Nat):=(if p.q then[((⟨0,false⟩:Ch),1)]else[])++p.t.map (fun b=>((⟨b,p.q⟩:Ch),Nb p ifs b))
def Mm(l:List Pc)(ifs:List UInt8):List (Ch×Nat):=l.flatMap (evq ifs)
def evV(x:Ch×Nat):List Value:=[.agg (D5 x.1).toArray,.int .i64 (x.2:Int)]
def QY(x:Ch×Nat):Ev:=if x.2=1 then .begin else if x.2=0 then .plain x.1 else if x.2=2 then .soft else .hard
theorem AZa(ifs:List UInt8)(p:Pc):(evq ifs p).map QY=AJa ifs p:=by
 unfold evq AJa
 rw[Gm,List.map_map]
 congr 1
 ·cases p.q<;>rfl
 refine List.map_congr_left fun b _=>?_
 show QY (⟨b,p.q⟩,Nb p ifs b)=evB p ifs b
 unfold QY Nb evB
 cases p.q<;>cases p.s<;>cases Ho ifs b<;>cases Jr b<;>rfl
theorem ASw(l:List Pc)(ifs:List UInt8):(Mm l ifs).map QY=Vf l ifs:=by
 unfold Mm Vf
 rw[List.map_flatMap]
 congr 1
 funext p
 exact AZa ifs p
theorem Xy{l:List Pc}(ifs:List UInt8)(h:i<l.length):Mm (l.drop i) ifs=evq ifs (AG l i FE)++Mm (l.drop (i+1)) ifs:=by
 rw[Bg FE h];rfl
theorem C2{l r:List α}{x:α}(h:l.drop n=x::r):n<l.length/\l[n]? =some x/\l.drop (n+1)=r:=by
 have hn:n<l.length:=by
  rcases Nat.lt_or_ge n l.length with h'|h'
  ·exact h'
  rw[E4 h']at h;cases h
 rw[V3 hn]at h
 cases h
 exact⟨hn,LC hn,O⟩
theorem U1{l:List α}(h:l.drop n=[])(hn:n<=l.length):n=l.length:=by
 have:=List.drop_eq_nil_iff.1 h
 omega
theorem AMi{xs:List (Ch×Nat)}{x:Ch×Nat}{r:List (Ch×Nat)}(h:xs.drop n=x::r):(xs.map evV)[n]? =some (evV x):=by
 rw[List.getElem?_map,(C2 h).2.1];rfl

def Ru(xs:List (Ch×Nat)):Nat:=(xs.filter (fun x=>x.2 != 1)).length
theorem AUK{xs:List (Ch×Nat)}(h:(xs.map evV)[n]? =some vs):∃c k,vs=evV (c,k)/\n<xs.length/\xs.drop n=(c,k)::xs.drop (n+1)/\xs.take (n+1)=xs.take n++[(c,k)]:=by
 rw[List.getElem?_map]at h
 obtain⟨x,hx,rfl⟩:=Option.map_eq_some_iff.1 h
 obtain⟨hn,hx'⟩:=List.getElem?_eq_some_iff.1 hx
 subst hx'
 exact⟨_,_,O,hn,V3 hn,List.take_succ_eq_append_getElem hn⟩
theorem KI{xs:List (Ch×Nat)}{x:Ch×Nat}(s:FSt)(h:xs.take (n+1)=xs.take n++[x]):((xs.take (n+1)).map QY).foldl F2 s=F2 (((xs.take n).map QY).foldl F2 s) (QY x):=by
 rw[h,Gm,ADZ];rfl
theorem AKi(x:Ch×Nat)(xs:List (Ch×Nat)):Ru (x::xs)=(if x.2=1 then 0 else 1)+Ru xs:=by
 unfold Ru
 rw[List.filter_cons]
 by_cases h:x.2=1
 ·simp[h]
 simp[h];omega
theorem AEU(xs ys:List (Ch×Nat)):Ru (xs++ys)=Ru xs+Ru ys:=by simp[Ru]
theorem AJe(l:List Pc)(ifs:List UInt8):Ru (Mm l ifs)=tot l:=by
 induction l with
 |nil=>rfl
 |cons p l ih=>
  show Ru (evq ifs p++Mm l ifs)=_
  rw[AEU,ih]
  show _=p.t.length+tot l
  congr 1
  unfold evq
  rw[AEU]
  have h1:Ru (if p.q=true then[((⟨0,false⟩:Ch),1)]else[])=0:=by cases p.q<;>rfl
  rw[h1,Nat.zero_add]
  unfold Ru
  rw[List.filter_eq_self.2]
  ·simp
  intro x hx
  obtain⟨b,_,rfl⟩:=FL.1 hx
  show(Nb p ifs b != 1)=true
  unfold Nb
  split
  ·split<;>rfl
  rfl
def Ve(o:List (List Ch)):Bool:=o.any (fun x=>decide ((4096:Int)<(x.length:Int)))
theorem Pr(o:List (List Ch))(x:List Ch):Ve (o++[x])=(Ve o||decide ((4096:Int)<(x.length:Int))):=by simp[Ve]
theorem O1(o:List (List Ch)):Da o=(!Ve o&&decide (o.length<=200)):=by
 unfold Da Ve
 congr 1
 rw[List.not_any_eq_all_not]
 congr 1
 funext x
 rw[Bool.eq_iff_iff]
 simp
 omega
end Go.Tri
