/-
 A word as parts, in plain words.
-/
import Derived.Test.YtbndcpjklngfhaaGreatDoorPLex12
import Derived.Test.YtbndcpjklngfhaaGreatDoorTriY
namespace Go.Tri
open Go.RowKit
variable {v:Value} {i k d e kd g:Nat} {l s inner:List UInt8} {b:Bool}
inductive PT where
 |mk (kind:Nat) (text op:List UInt8) (word:List PT) (q:Bool)
def PT.kind:PT->Nat
 | .mk k _ _ _ _=>k
def PT.text:PT->List UInt8
 | .mk _ t _ _ _=>t
def PT.op:PT->List UInt8
 | .mk _ _ o _ _=>o
def PT.word:PT->List PT
 | .mk _ _ _ w _=>w
def PT.q:PT->Bool
 | .mk _ _ _ _ q=>q
def Sh:PT:=.mk 0 [] [] [] false
inductive PR where
 |ok (l:List PT)
 |bad (e:Nat)
inductive SP where
 |ok (l:List PT) (k:Nat)
 |bad (e:Nat)
inductive BR where
 |ok (p:PT)
 |bad (e:Nat)
def G2(l:List PT)(t:List UInt8)(q:Bool):List PT:=
 if l≠[]/\(AG l (l.length-1) Sh).kind=1/\(AG l (l.length-1) Sh).q=q then l.set (l.length-1) (.mk 1 ((AG l (l.length-1) Sh).text++t) (AG l (l.length-1) Sh).op (AG l (l.length-1) Sh).word q)
 else l++[.mk 1 t [] [] q]
def Jk(l:List PT):List PT->List PT
 | []=>l
 |p::m=>Jk (if p.kind=1 then G2 l p.text p.q else l++[p]) m
def Dc:Nat->Nat->List UInt8->Nat
 |0,n,_=>n
 |f+1,n,s=>if n<s.length/\CF (s.take (n+1))=true then Dc f (n+1) s else n
def VX:List UInt8:=[64,42,35,63,36,33]
def Ag(s:List UInt8):Nat:=
 let n:=Dc s.length 0 s
 let d:=s.length-(Lib.trimLeftS s Ec).length
 if n≠0 then n else if d≠0 then d else if s≠[]/\Ho VX (AG s 0 0)=true then 1 else 0
def Fj:List (List UInt8):=[[58,45],[58,61],[58,63],[58,43],[37,37],[35,35],[45],[61],[63],[43],[37],[35]]
def CC(s:List UInt8):List UInt8:=(Fj.find? (fun o=>Dl s o)).getD []
def R8:List UInt8:=[108,101,110]
def Dm(W:Nat->List UInt8->PR)(kind:Nat)(s:List UInt8):BR:=
 if(Dl s [35]&&decide (1<s.length)&&decide (Ag (s.drop 1)=s.length-1))=true then .ok (.mk 2 (s.drop 1) R8 [] (decide (kind≠0)))
 else if Ag s=0 then .bad 55
 else if s.drop (Ag s)=[]then .ok (.mk 2 (s.take (Ag s)) [] [] (decide (kind≠0)))
 else if CC (s.drop (Ag s))=[]then .bad 55
 else match W (if Lib.contains [37,37,35,35] (CC (s.drop (Ag s)))=true then 0 else kind) ((s.drop (Ag s)).drop (CC (s.drop (Ag s))).length)with
  | .bad e=>.bad e
  | .ok w=>.ok (.mk 2 (s.take (Ag s)) (CC (s.drop (Ag s))) w (decide (kind≠0)))
def Hv(l:List UInt8):Bool:=Dl l [36,40]||Dl l [36,123]
def H4(s:List UInt8)(q:Bool):Bool:=Dl s [40]&&match(lv 24).2 q (36::s)with
 | .ok k=>decide (k=s.length+1)
 | .bad _ _=>false
def Ks(n:Nat)(W:Nat->List UInt8->PR)(kind:Nat)(l:List UInt8)(acc:List PT):SP:=
 if Hv l=true then
  match(lv n).2 (decide (kind≠0)) l with
  | .bad _ e=>.bad e
  | .ok k=>
   if AG l 1 0=123 then
    match Dm W kind ((l.take (k-1)).drop 2)with
    | .bad e=>.bad e
    | .ok p=>.ok (acc++[p]) k
   else if H4 ((l.take (k-1)).drop 2) (decide (kind≠0))=true then
    match W 2 ((((l.take (k-1)).drop 2).take (((l.take (k-1)).drop 2).length-1)).drop 1)with
    | .bad e=>.bad e
    | .ok w=>.ok (acc++[.mk 4 [] [] w (decide (kind≠0))]) k
   else .ok (acc++[.mk 3 ((l.take (k-1)).drop 2) [] [] (decide (kind≠0))]) k
 else if Ag (l.drop 1)=0 then .ok (G2 acc [36] (decide (kind≠0))) 1
 else .ok (acc++[.mk 2 ((l.drop 1).take (if 48<=(AG l 1 0).toNat/\(AG l 1 0).toNat<=57 then 1 else Ag (l.drop 1))) [] [] (decide (kind≠0))]) ((if 48<=(AG l 1 0).toNat/\(AG l 1 0).toNat<=57 then 1 else Ag (l.drop 1))+1)
def Sg(kind:Nat)(l:List UInt8)(acc:List PT):SP:=
 if l.length=1 then .ok (G2 acc [92] true) 1
 else if AG l 1 0=10 then .ok acc 2
 else if kind=0\/Ho [36,96,92] (AG l 1 0)=true\/(kind=1/\AG l 1 0=34)then .ok (G2 acc ((l.take 2).drop 1) true) 2
 else .ok (G2 acc [92] true) 1
def Iv(n:Nat)(W:Nat->List UInt8->PR)(l:List UInt8)(acc:List PT):SP:=
 match(if AG l 0 0=34 then(lv n).1 l else CM l)with
 | .bad _ e=>.bad e
 | .ok k=>
  if AG l 0 0=39\/(l.take (k-1)).drop 1=[]then .ok (G2 acc ((l.take (k-1)).drop 1) true) k
  else match W 1 ((l.take (k-1)).drop 1)with
   | .bad e=>.bad e
   | .ok m=>.ok (Jk (if m=[]then G2 acc [] true else acc) m) k
def DI(n:Nat)(W:Nat->List UInt8->PR)(kind:Nat)(l:List UInt8)(acc:List PT):SP:=
 if AG l 0 0=92 then Sg kind l acc
 else if(AG l 0 0=39\/AG l 0 0=34)/\kind=0 then Iv n W l acc
 else if AG l 0 0=36 then Ks n W kind l acc
 else if AG l 0 0=96 then .bad 55
 else .ok (G2 acc (l.take 1) (decide (kind≠0))) 1
def HJ(n:Nat)(W:Nat->List UInt8->PR)(kind:Nat):Nat->List UInt8->List PT->PR
 |0,_,acc=>.ok acc
 |f+1,l,acc=>if l=[]then .ok acc else match DI n W kind l acc with
  | .bad e=>.bad e
  | .ok acc' k=>HJ n W kind f (l.drop k) acc'
def JH(kind:Nat)(s:List UInt8):Bool:=decide (kind=0)&&(decide (s=[126])||Dl s [126,47])
def Hr(n:Nat)(W:Nat->List UInt8->PR)(kind:Nat)(s:List UInt8):PR:=
 if JH kind s=true then HJ n W kind s.length (s.drop 1) [.mk 5 [126] [] [] false]else HJ n W kind s.length s []
def wP:Nat->Nat->List UInt8->PR
 |0=>Hr 0 (fun _ _=>.bad 52)
 |n+1=>Hr (n+1) (wP n)
def Di(s:List UInt8)(kind:Int):PR:=if 65536<s.length then .bad 50 else if kind<0\/2<kind then .bad 73 else wP 24 kind.toNat s
structure PE where
 kind:Nat
 text:List UInt8
 op:List UInt8
 wv:Value
 word:List PT
 q:Bool
def PE.pt(x:PE):PT:=.mk x.kind x.text x.op x.word x.q
def As:Value:=.slice none 0 0
def Ct:PE:=⟨0,[],[],As,[],false⟩
def Aa(x:PE):List Value:=[.int .i64 (x.kind:Int),Au x.text,Au x.op,x.wv,.bool x.q]
inductive QU(I:AQ):Value->List PT->Prop
 |mk (v:Value) (L:List PE) (h:Sl I 5 v (L.map Aa)) (hw:∀x∈L,QU I x.wv x.word):QU I v (L.map PE.pt)
theorem QU.mono{I J:AQ}{l:List PT}(h:QU I v l)(CH:Le I J):QU J v l:=by
 induction h with
 |mk v L h hw ih=>exact .mk v L (h.mono CH) ih
theorem QU.un{I:AQ}{l:List PT}(h:QU I v l):∃L:List PE,l=L.map PE.pt/\Sl I 5 v (L.map Aa)/\∀x∈L,QU I x.wv x.word:=by
 cases h with
 |mk v L h hw=>exact⟨L,O,h,hw⟩
theorem Be(I:AQ):QU I As []:=.mk As [] (E3 (fun _ h=>by cases h)) (fun _ h=>by cases h)
theorem QU.one{I:AQ}{l:List PT}(h:QU I v l):JS v:=by
 obtain⟨L,_,h1,_⟩:=h.un
 exact h1.one
def Cg(I:AQ)(L:List PE):Prop:=∀x∈L,QU I x.wv x.word
theorem Cg.mono{I J:AQ}{L:List PE}(h:Cg I L)(CH:Le I J):Cg J L:=fun x hx=>(h x hx).mono CH
theorem Cg.app{I:AQ}{L M:List PE}(h:Cg I L)(k:Cg I M):Cg I (L++M):=fun x hx=>by
 rcases Ic.1 hx with hx|hx
 ·exact h x hx
 exact k x hx
theorem Ur(I:AQ):Cg I []:=fun _ h=>by cases h
theorem Eo{I:AQ}{x:PE}(h:QU I x.wv x.word):Cg I [x]:=fun y hy=>by
 rw[FK]at hy;subst hy;exact h
def ES(L:List PE)(t:List UInt8)(q:Bool):List PE:=
 if L≠[]/\(AG L (L.length-1) Ct).kind=1/\(AG L (L.length-1) Ct).q=q then L.set (L.length-1) {AG L (L.length-1) Ct with text:=(AG L (L.length-1) Ct).text++t}
 else L++[⟨1,t,[],As,[],q⟩]
theorem AXG{L:List PE}(h:i<L.length):AG (L.map PE.pt) i Sh=(AG L i Ct).pt:=by
 rw[CT (by rw[Af];exact h),CT h,List.getElem_map]
theorem Fz(L:List PE)(t:List UInt8)(q:Bool):(ES L t q).map PE.pt=G2 (L.map PE.pt) t q:=by
 unfold ES G2
 cases L with
 |nil=>simp[PE.pt]
 |cons a r=>
  have Eg:(a::r).length-1<(a::r).length:=by simp
  have hn:AG ((a::r).map PE.pt) (((a::r).map PE.pt).length-1) Sh=(AG (a::r) ((a::r).length-1) Ct).pt:=by
   rw[Af];exact AXG Eg
  rw[hn]
  generalize AG (a::r) ((a::r).length-1) Ct=y
  have e1:y.pt.kind=y.kind:=rfl
  have e2:y.pt.q=y.q:=rfl
  rw[e1,e2]
  by_cases h1:y.kind=1/\y.q=q
  ·rw[AI ⟨by simp,h1⟩,AI ⟨by simp,h1⟩,List.map_set,Af]
   congr 1
   show PT.mk y.kind (y.text++t) y.op y.word y.q=PT.mk 1 (y.text++t) y.op y.word q
   rw[h1.1,h1.2]
  rw[AB (fun h=>h1 h.2),AB (fun h=>h1 h.2),Gm]
  rfl
theorem WE(L:List PE)(t:List UInt8)(q:Bool):(ES L t q).length<=L.length+1:=by
 unfold ES;split<;>simp
theorem Dj{I:AQ}{L:List PE}{t:List UInt8}{q:Bool}(h:Cg I L):Cg I (ES L t q):=by
 unfold ES
 split
 ·rename_i h1
  intro x hx
  have hp:=BV.2 h1.1
  rcases List.mem_or_eq_of_mem_set hx with hx|rfl
  ·exact h x hx
  show QU I (AG L (L.length-1) Ct).wv (AG L (L.length-1) Ct).word
  exact h _ (BE (by omega))
 exact h.app (Eo (Be I))
def FZ(L:List PE):List PE->List PE
 | []=>L
 |p::m=>FZ (if p.kind=1 then ES L p.text p.q else L++[p]) m
theorem Q4:∀(m L:List PE),(FZ L m).map PE.pt=Jk (L.map PE.pt) (m.map PE.pt)
 | [],L=>rfl
 |p::m,L=>by
  rw[FZ,EN,Jk,Q4 m]
  congr 1
  have e1:p.pt.kind=p.kind:=rfl
  rw[e1]
  split
  ·exact Fz L p.text p.q
  rw[Gm];rfl
theorem GA{I:AQ}:∀(m L:List PE),Cg I L->Cg I m->Cg I (FZ L m)
 | [],L,h,_=>h
 |p::m,L,h,k=>by
  rw[FZ]
  refine GA m _ ?_ (fun x hx=>k x (List.mem_cons_of_mem _ hx))
  split
  ·exact Dj h
  exact h.app (Eo (k p (CQ)))
theorem WH:∀(m L:List PE),(FZ L m).length<=L.length+m.length
 | [],L=>A5 _
 |p::m,L=>by
  rw[FZ]
  refine Ky (WH m _) ?_
  have:=WE L p.text p.q
  split<;>simp<;>omega
theorem Xx:∀(m L:List PE) (p:PE),FZ L (m++[p])=if p.kind=1 then ES (FZ L m) p.text p.q else FZ L m++[p]
 | [],L,p=>by simp only[PK,FZ]
 |a::m,L,p=>by rw[NA,FZ,Xx m];rfl
theorem A9{I:AQ}{x:PE}(h:QU I x.wv x.word):∀u∈Aa x,u.oneCell'=true:=fun u hu=>by
 simp only[Aa,Ci,List.not_mem_nil,or_false]at hu
 rcases hu with rfl|rfl|rfl|rfl|rfl
 ·rfl
 ·rfl
 ·rfl
 ·exact h.one.2
 rfl
def GZ(l:List PT):Nat:=(l.map (fun p=>p.text.length)).sum
def Gl(L:List PE):Nat:=(L.map (fun x=>x.text.length)).sum
theorem IW(L:List PE):GZ (L.map PE.pt)=Gl L:=by
 unfold GZ Gl;rw[List.map_map];rfl
theorem APK(L M:List PE):Gl (L++M)=Gl L+Gl M:=by
 unfold Gl;rw[Gm,List.sum_append]
theorem MB(L M:List PT):GZ (L++M)=GZ L+GZ M:=by
 unfold GZ;rw[Gm,List.sum_append]
theorem D4{L:List PE}{x:PE}(h:x∈L):x.text.length<=Gl L:=by
 induction L with
 |nil=>cases h
 |cons a L ih=>
  unfold Gl at ih ⊢
  rw[EN,List.sum_cons]
  rcases Ci.1 h with rfl|h
  ·omega
  have:=ih h;omega
theorem AIU{α:Type}{g:α->Nat}:∀{l:List α} {i:Nat} {d e:α},i<l.length->((l.set i e).map g).sum+g (AG l i d)=(l.map g).sum+g e
 | [],_,_,_,h=>Ac h (Nat.not_lt_zero _)
 |a::l,0,d,e,_=>by
  show(g e+(l.map g).sum)+g a=g a+(l.map g).sum+g e
  omega
 |a::l,i+1,d,e,h=>by
  have ih:=AIU (g:=g) (l:=l) (i:=i) (d:=d) (e:=e) (by simpa using h)
  show(g a+((l.set i e).map g).sum)+g (AG l i d)=g a+(l.map g).sum+g e
  omega
theorem Hi(l:List PT)(t:List UInt8)(q:Bool):GZ (G2 l t q)=GZ l+t.length:=by
 unfold G2
 split
 ·rename_i h
  have hp:=BV.2 h.1
  have:=AIU (g:=fun p:PT=>p.text.length) (l:=l) (i:=l.length-1) (d:=Sh) (e:=.mk 1 ((AG l (l.length-1) Sh).text++t) (AG l (l.length-1) Sh).op (AG l (l.length-1) Sh).word q) (by omega)
  simp only[PT.text,Bh]at this
  unfold GZ
  have e1:(AG l (l.length-1) Sh).text.length=(match AG l (l.length-1) Sh with| .mk _ t _ _ _=>t).length:=by cases AG l (l.length-1) Sh;rfl
  simp only[PT.text]at e1 ⊢
  omega
 rw[MB];simp[GZ,PT.text]
theorem Ir(l:List PT)(t:List UInt8)(q:Bool):(G2 l t q).length<=l.length+1:=by
 unfold G2;split<;>simp
theorem WD:∀(m l:List PT),GZ (Jk l m)=GZ l+GZ m
 | [],l=>by simp[Jk,GZ]
 |p::m,l=>by
  rw[Jk,WD m]
  have e:GZ (p::m)=p.text.length+GZ m:=by simp[GZ]
  split
  ·rw[Hi,e];omega
  rw[MB,e];simp[GZ];omega
theorem ACX:∀(m l:List PT),(Jk l m).length<=l.length+m.length
 | [],l=>A5 _
 |p::m,l=>by
  rw[Jk]
  refine Ky (ACX m _) ?_
  have:=Ir l p.text p.q
  split<;>simp<;>omega
theorem ANm{n:Nat}(h:(lv n).1 l=.ok k):2<=k:=by
 cases n with
 |zero=>cases h
 |succ n=>
  change AHJ (lv n).2 l=.ok k at h
  unfold AHJ at h
  obtain⟨m,hm,rfl⟩:=ADP h
  have:=VW (GM n).2 l.length (l.drop 1)
  rw[hm]at this
  have h1:1<=m:=this.1
  omega
theorem Nu{n:Nat}{q:Bool}(h:(lv n).2 q l=.ok k):3<=k:=by
 cases n with
 |zero=>cases h
 |succ n=>
  change AEv (lv n).1 (lv n).2 q l=.ok k at h
  unfold AEv at h
  obtain⟨m,hm,rfl⟩:=ADP h
  have:=RE (brace:=Mr l) (q:=q&&Mr l) (GM n).1 (GM n).2 l.length 0 (l.drop 2)
  rw[hm]at this
  have h1:1<=m:=this.1
  omega
theorem Yy(h:CM l=.ok k):2<=k:=by
 unfold CM at h
 split at h
 ·cases h
 injection h with h;omega
def WB(W:Nat->List UInt8->PR):Prop:=∀kind s l,W kind s=.ok l->l.length<=s.length/\GZ l<=s.length
theorem Lj(s:List UInt8):Ag s<=s.length:=by
 have hn:∀(f n:Nat),n<=s.length->Dc f n s<=s.length:=by
  intro f
  induction f with
  |zero=>intro n h;exact h
  |succ f ih=>
   intro n h
   rw[Dc]
   split
   ·rename_i h1;exact ih (n+1) h1.1
   exact h
 unfold Ag
 have h1:=hn s.length 0 (Aw _)
 simp only
 split
 ·exact h1
 split
 ·omega
 split
 ·rename_i h2
  have:=BV.2 h2.1
  omega
 exact Aw _
theorem AFa{W:Nat->List UInt8->PR}{kind:Nat}{p:PT}(h:Dm W kind s=.ok p):p.text.length<=s.length:=by
 unfold Dm at h
 split at h
 ·cases h;show(s.drop 1).length<=_;rw[BA];omega
 split at h
 ·cases h
 split at h
 ·cases h;show(s.take _).length<=_;rw[BL];omega
 split at h
 ·cases h
 split at h
 ·cases h
 cases h;show(s.take _).length<=_;rw[BL];omega
theorem NP(p:PT):GZ [p]=p.text.length:=by simp[GZ]
theorem GB{n:Nat}{W:Nat->List UInt8->PR}(hW:WB W){kind:Nat}{acc acc':List PT}(hl:l≠[])(h:DI n W kind l acc=.ok acc' k):
  1<=k/\k<=l.length/\acc'.length<=acc.length+k/\GZ acc'<=GZ acc+k:=by
 have hp:=BV.2 hl
 unfold DI at h
 split at h
 ·unfold Sg at h
  split at h
  ·cases h
   have:=Ir acc [92] true
   rw[Hi];exact⟨by omega,by omega,by omega,by simp⟩
  split at h
  ·cases h
   exact⟨by omega,by omega,by omega,by omega⟩
  split at h
  ·cases h
   have:=Ir acc ((l.take 2).drop 1) true
   rw[Hi];exact⟨by omega,by omega,by omega,by rw[BA,BL];omega⟩
  cases h
  have:=Ir acc [92] true
  rw[Hi];exact⟨by omega,by omega,by omega,by simp⟩
 split at h
 ·unfold Iv at h
  split at h
  ·cases h
  rename_i r j hr
  have hj:2<=j/\j<=l.length:=by
   split at hr
   ·refine⟨ANm hr,?_⟩
    have:=(GM n).1 l hl
    rw[hr]at this;exact this.2
   refine⟨Yy hr,?_⟩
   have:=Pf l hl
   rw[hr]at this;exact this.2
  have KM:((l.take (j-1)).drop 1).length=j-2:=by rw[BA,BL];omega
  split at h
  ·cases h
   have:=Ir acc ((l.take (k-1)).drop 1) true
   rw[Hi]
   exact⟨by omega,by omega,by omega,by omega⟩
  split at h
  ·cases h
  rename_i m hm
  cases h
  obtain⟨h1,h2⟩:=hW _ _ _ hm
  have h3:=ACX m (if m=[]then G2 acc [] true else acc)
  rw[WD]
  refine⟨by omega,by omega,?_,?_⟩
  ·refine Ky h3 ?_
   have:=Ir acc [] true
   split
   ·rename_i hm0;subst hm0;simp;omega
   omega
  split
  ·rw[Hi];simp;omega
  omega
 split at h
 ·unfold Ks at h
  split at h
  ·rename_i hb
   have h2l:2<=l.length:=by
    unfold Hv at hb
    rw[C4]at hb
    rcases hb with hb|hb<;>exact Hq hb
   split at h
   ·cases h
   rename_i r j hr
   have hj:3<=j/\j<=l.length:=by
    refine⟨Nu hr,?_⟩
    have:=(GM n).2 (decide (kind≠0)) l h2l
    rw[hr]at this;exact this.2
   have KM:((l.take (j-1)).drop 2).length=j-3:=by rw[BA,BL];omega
   split at h
   ·split at h
    ·cases h
    rename_i p hp
    cases h
    have:=AFa hp
    rw[MB,NP,Bh]
    exact⟨by omega,by omega,by simp;omega,by omega⟩
   split at h
   ·split at h
    ·cases h
    cases h
    rw[MB,NP,Bh]
    exact⟨by omega,by omega,by simp;omega,by simp[PT.text]⟩
   cases h
   rw[MB,NP,Bh]
   exact⟨by omega,by omega,by simp;omega,by show _+((l.take (k-1)).drop 2).length<=_;omega⟩
  split at h
  ·cases h
   have:=Ir acc [36] (decide (kind≠0))
   rw[Hi];exact⟨by omega,by omega,by omega,by simp⟩
  rename_i hpn
  have CH:=Lj (l.drop 1)
  rw[BA]at CH
  have AnH:1<=Ag (l.drop 1):=by omega
  have hx:∀x:Nat,1<=x->x<=Ag (l.drop 1)->SP.ok (acc++[.mk 2 ((l.drop 1).take x) [] [] (decide (kind≠0))]) (x+1)=.ok acc' k->1<=k/\k<=l.length/\acc'.length<=acc.length+k/\GZ acc'<=GZ acc+k:=fun x h1 h2 h=>by
   cases h
   rw[MB,NP,Bh]
   refine⟨by omega,by omega,by simp only[CD,Bb];omega,?_⟩
   show _+((l.drop 1).take x).length<=_
   rw[BL];omega
  refine hx _ ?_ ?_ h
  ·split<;>omega
  split<;>omega
 split at h
 ·cases h
 cases h
 have:=Ir acc (l.take 1) (decide (kind≠0))
 rw[Hi,BL]
 exact⟨by omega,by omega,by omega,by omega⟩
theorem PX{n:Nat}{W:Nat->List UInt8->PR}(hW:WB W){kind:Nat}:∀(f:Nat) (l:List UInt8) (acc r:List PT),HJ n W kind f l acc=.ok r->r.length<=acc.length+l.length/\GZ r<=GZ acc+l.length
 |0,l,acc,r,h=>by cases h;omega
 |f+1,l,acc,r,h=>by
  rw[HJ]at h
  split at h
  ·cases h;omega
  rename_i hl
  cases hs:DI n W kind l acc with
  |bad e=>simp only[hs]at h;cases h
  |ok acc' k=>
   simp only[hs]at h
   obtain⟨h1,h2,h3,h4⟩:=GB hW hl hs
   have:=PX hW f _ _ _ h
   rw[BA]at this
   omega
theorem Tm{n:Nat}{W:Nat->List UInt8->PR}(hW:WB W):WB (Hr n W):=fun kind s l h=>by
 unfold Hr at h
 split at h
 ·rename_i ht
  have hs:1<=s.length:=by
   unfold JH at ht
   rw[Ay,C4]at ht
   rcases ht.2 with h|h
   ·rw[BM h];decide
   have:=Hq h;simp at this;omega
  have:=PX hW _ _ _ _ h
  rw[BA,NP]at this
  have e:(PT.mk 5 [126] [] [] false).text.length=1:=rfl
  rw[e]at this
  simp only[CD,Bb]at this
  omega
 have:=PX hW _ _ _ _ h
 simpa[GZ]using this
theorem N9:∀n,WB (wP n)
 |0=>Tm (fun _ _ _ h=>by cases h)
 |n+1=>Tm (N9 n)
def Wn:Nat->Nat->List UInt8->PR
 |0=>fun _ _=>.bad 52
 |m+1=>wP m
theorem RI(n:Nat):wP n=Hr n (Wn n):=by cases n<;>rfl
theorem QC(n:Nat):WB (Wn n):=by
 cases n with
 |zero=>exact fun _ _ _ h=>by cases h
 |succ m=>exact N9 m
theorem Rr(s:List UInt8)(i k:Nat):((s.drop i).take (k-1)).drop 1=(s.drop (i+1)).take (k-2):=by
 rw[List.drop_take,Cp,show k-1-1=k-2 by omega]
theorem X3(s:List UInt8)(i k:Nat):((s.drop i).take (k-1)).drop 2=(s.drop (i+2)).take (k-3):=by
 rw[List.drop_take,Cp,show k-1-2=k-3 by omega]
theorem AGN(l:List UInt8):(l.take 2).drop 1=(l.drop 1).take 1:=by rw[List.drop_take]
def Fh(n:Nat)(l:List UInt8):SR:=if AG l 0 0=34 then(lv n).1 l else CM l
theorem MX(n:Nat)(l:List UInt8):Fv (Fh n l):=by
 unfold Fh;split
 ·exact(HH n).1 l
 exact LW l
theorem N0{n:Nat}(hl:l≠[])(h:Fh n l=.ok k):2<=k/\k<=l.length:=by
 unfold Fh at h
 split at h
 ·refine⟨ANm h,?_⟩
  have:=(GM n).1 l hl
  rw[h]at this;exact this.2
 refine⟨Yy h,?_⟩
 have:=Pf l hl
 rw[h]at this;exact this.2
theorem AJZ(hi:i<s.length)(hd:d<=24)(hc:AG s i 0=39\/AG s i 0=34):Ql s i d false=(Ob i (Fh (24-d) (s.drop i)),Sb i (Fh (24-d) (s.drop i)),JP (Fh (24-d) (s.drop i))):=by
 unfold Ql
 rw[AB (by omega),Int.toNat_natCast,Int.toNat_natCast]
 unfold Fh
 rw[D0]
 rcases hc with h|h
 ·rw[AEL h O,AB (by rw[h];decide)];rfl
 rw[ACr h,AI h];rfl
theorem ACi{q:Bool}(hi:i<s.length)(hd:d<=24)(hc:AG s i 0=36):
  (Dr s i=true->Ql s i d q=(Ob i ((lv (24-d)).2 q (s.drop i)),Sb i ((lv (24-d)).2 q (s.drop i)),JP ((lv (24-d)).2 q (s.drop i))))/\(Dr s i=false->Ql s i d q=(0,0,0)):=by
 unfold Ql
 rw[AB (by omega),Int.toNat_natCast,Int.toNat_natCast]
 have h1:AG s i 0≠34:=by rw[hc];decide
 have h2:¬(AG s i 0=39/\q=false):=fun h=>by rw[hc]at h;exact Ac h.1 (by decide)
 exact⟨fun hb=>by rw[AEV h1 h2 hb];rfl,fun hb=>by rw[YG h1 h2 hb];rfl⟩
theorem AOT{q:Bool}(h:Dl s [40]=true):Ql (36::s) 0 0 q=(Ob 0 ((lv 24).2 q (36::s)),Sb 0 ((lv 24).2 q (36::s)),JP ((lv 24).2 q (36::s))):=by
 refine(ACi (s:=36::s) (i:=0) (d:=0) (q:=q) (by simp) (by omega) O).1 ?_
 unfold Dr
 rw[C4];left
 have h1:=BM h
 unfold Dl
 apply BK
 cases s with
 |nil=>simp at h1
 |cons c r=>simp at h1;simp[h1]
theorem Uy{q:Bool}(h:Dl s [40]=true):(decide ((JP ((lv 24).2 q (36::s)):Int)=0)&&decide ((Ob 0 ((lv 24).2 q (36::s)):Int)=(s.length:Int)+1))=H4 s q:=by
 unfold H4
 rw[h,Bool.true_and]
 have hf:=(HH 24).2 q (36::s)
 cases hr:(lv 24).2 q (36::s)with
 |ok k=>
  have e1:decide ((JP (SR.ok k):Int)=0)=true:=BK O
  have e0:Ob 0 (SR.ok k)=k:=Nat.zero_add k
  have e2:decide ((Ob 0 (SR.ok k):Int)=(s.length:Int)+1)=decide (k=s.length+1):=by
   by_cases h1:k=s.length+1
   ·rw[BK h1];exact BK (by omega)
   rw[DC h1];exact DC (by omega)
  rw[e1,e2];rfl
 |bad a e=>
  rw[hr]at hf
  have he:e≠0:=hf
  have e0:JP (SR.bad a e)=e:=rfl
  have e1:decide ((JP (SR.bad a e):Int)=0)=false:=DC (by omega)
  rw[e1];rfl
theorem Yh:∀(l:List (List UInt8)) (k:Nat) (op:List UInt8),k<=l.length->(op=((l.take k).find? (fun o=>Dl s o)).getD [])->(∀o∈l,o≠[])->k<l.length→
  ((l.take (k+1)).find? (fun o=>Dl s o)).getD []=if op=[]/\Dl s (AG l k [])=true then AG l k []else op:=fun l k op hk ho Dk Eg=>by
 rw[C6 [] Eg,List.find?_append]
 cases hf:(l.take k).find? (fun o=>Dl s o)with
 |some o=>
  rw[hf]at ho
  have h1:op=o:=ho
  have h2:=List.mem_of_find?_eq_some hf
  have h3:o≠[]:=Dk o (List.mem_of_mem_take h2)
  rw[AB (by rw[h1];exact fun h=>h3 h.1),h1];rfl
 |none=>
  rw[hf]at ho
  have h1:op=[]:=ho
  rw[Option.none_or,List.find?_singleton]
  by_cases h:Dl s (AG l k [])=true
  ·rw[AI h,AI ⟨h1,h⟩];rfl
  rw[AB h,AB (fun h'=>h h'.2),h1];rfl
theorem Sx{n:Nat}{W:Nat->List UInt8->PR}{acc:List PT}{a:Nat}(h:Fh n l=.bad a e):Iv n W l acc=.bad e:=by
 unfold Iv
 unfold Fh at h
 rw[h]
theorem Rq{n:Nat}{W:Nat->List UInt8->PR}{acc:List PT}(h:Fh n l=.ok k)(hi:inner=(l.take (k-1)).drop 1)(hc:AG l 0 0=39\/inner=[]):Iv n W l acc=.ok (G2 acc inner true) k:=by
 unfold Iv
 unfold Fh at h
 rw[h]
 subst hi
 show(if _ then _ else _:SP)=_
 rw[AI hc]
theorem ACE{n:Nat}{W:Nat->List UInt8->PR}{acc:List PT}(h:Fh n l=.ok k)(hi:inner=(l.take (k-1)).drop 1)(hc:¬(AG l 0 0=39\/inner=[])):
  (∀e,W 1 inner=.bad e->Iv n W l acc=.bad e)/\∀m,W 1 inner=.ok m->Iv n W l acc=.ok (Jk (if m=[]then G2 acc [] true else acc) m) k:=by
 unfold Iv
 unfold Fh at h
 rw[h]
 subst hi
 refine⟨fun e he=>?_,fun m hm=>?_⟩
 ·show(if _ then _ else _:SP)=_
  rw[AB hc,he]
 show(if _ then _ else _:SP)=_
 rw[AB hc,hm]
theorem AAK{r:SR}(h:JP r≠0):∃a,r=.bad a (JP r):=by
 cases r with
 |ok k=>exact Ac O h
 |bad a e=>exact⟨a,O⟩
theorem AIt{r:SR}(hf:Fv r)(h:JP r=0):∃k,r=.ok k:=by
 cases r with
 |ok k=>exact⟨k,O⟩
 |bad a e=>exact Ac h hf
theorem AJB{n:Nat}(h:(lv n).1 l=.ok k):∃m,n=m+1:=by
 cases n with
 |zero=>cases h
 |succ m=>exact⟨m,O⟩
theorem AEW{n:Nat}{q:Bool}(h:(lv n).2 q l=.ok k):∃m,n=m+1:=by
 cases n with
 |zero=>cases h
 |succ m=>exact⟨m,O⟩
theorem ARu{q:Bool}(hi:i<s.length)(hd:d<=24)(hc:AG s i 0=36):Ql s i d q=(dl (Dr s i) (Ob i ((lv (24-d)).2 q (s.drop i))),dl (Dr s i) (Sb i ((lv (24-d)).2 q (s.drop i))),dl (Dr s i) (JP ((lv (24-d)).2 q (s.drop i)))):=by
 have h:=ACi (q:=q) hi hd hc
 cases hb:Dr s i with
 |true=>rw[h.1 hb];rfl
 |false=>rw[h.2 hb];rfl
theorem ACJ{n:Nat}{W:Nat->List UInt8->PR}{acc:List PT}{a:Nat}(hb:Hv l=true)(h:(lv n).2 (decide (kd≠0)) l=.bad a e):Ks n W kd l acc=.bad e:=by
 unfold Ks
 rw[AI hb,h]
theorem ACM{n:Nat}{W:Nat->List UInt8->PR}{acc:List PT}(hb:Hv l=false):
  (Ag (l.drop 1)=0->Ks n W kd l acc=.ok (G2 acc [36] (decide (kd≠0))) 1)∧
  (∀x,¬Ag (l.drop 1)=0->x=(if 48<=(AG l 1 0).toNat/\(AG l 1 0).toNat<=57 then 1 else Ag (l.drop 1))->Ks n W kd l acc=.ok (acc++[.mk 2 ((l.drop 1).take x) [] [] (decide (kd≠0))]) (x+1)):=by
 unfold Ks
 rw[AB (by rw[hb];simp)]
 refine⟨fun h=>by rw[AI h],fun x h hx=>by rw[AB h,<-hx]⟩
def Ko(W:Nat->List UInt8->PR)(kd:Nat)(c:UInt8)(inner:List UInt8):BR:=
 if c=123 then Dm W kd inner
 else if H4 inner (decide (kd≠0))=true then match W 2 ((inner.take (inner.length-1)).drop 1)with
  | .bad e=>.bad e
  | .ok w=>.ok (.mk 4 [] [] w (decide (kd≠0)))
 else .ok (.mk 3 inner [] [] (decide (kd≠0)))
theorem AED{n:Nat}{W:Nat->List UInt8->PR}{acc:List PT}(hb:Hv l=true)(h:(lv n).2 (decide (kd≠0)) l=.ok k)(hi:inner=(l.take (k-1)).drop 2):
  (∀e,Ko W kd (AG l 1 0) inner=.bad e->Ks n W kd l acc=.bad e)/\∀p,Ko W kd (AG l 1 0) inner=.ok p->Ks n W kd l acc=.ok (acc++[p]) k:=by
 unfold Ks Ko
 rw[AI hb,h]
 subst hi
 constructor
 ·intro e he
  show(if _ then _ else _:SP)=_
  split at he
  ·rename_i h1;rw[AI h1,he]
  rename_i h1
  rw[AB h1]
  split at he
  ·rename_i h2
   rw[AI h2]
   cases hw:W 2 ((((l.take (k-1)).drop 2).take (((l.take (k-1)).drop 2).length-1)).drop 1)with
   |bad e2=>rw[hw]at he;cases he;rfl
   |ok w=>rw[hw]at he;cases he
  cases he
 intro p hp
 show(if _ then _ else _:SP)=_
 split at hp
 ·rename_i h1;rw[AI h1,hp]
 rename_i h1
 rw[AB h1]
 split at hp
 ·rename_i h2
  rw[AI h2]
  cases hw:W 2 ((((l.take (k-1)).drop 2).take (((l.take (k-1)).drop 2).length-1)).drop 1)with
  |bad e2=>rw[hw]at hp;cases hp
  |ok w=>rw[hw]at hp;cases hp;rfl
 rename_i h2
 rw[AB h2]
 cases hp;rfl
theorem Ti(s:List UInt8):(s.take (s.length-1)).drop 1=(s.drop 1).take (s.length-2):=by
 rw[List.drop_take,show s.length-1-1=s.length-2 by omega]
theorem Xr{q:Bool}(h:H4 s q=true):2<=s.length:=by
 unfold H4 at h
 rw[Ay]at h
 cases hr:(lv 24).2 q (36::s)with
 |ok k=>
  rw[hr]at h
  have h1:=Nu hr
  have h2:k=s.length+1:=BM h.2
  omega
 |bad a e=>rw[hr]at h;cases h.2
theorem Kz(h:Hv l=true):2<=l.length:=by
 unfold Hv at h
 rw[C4]at h
 rcases h with h|h<;>exact Hq h
theorem AIc{r:SR}(hx:dl b (JP r)=0)(hf:Fv r)(h3:∀k,r=.ok k->1<=k):(dl b (Ob i r)=0->b=false)/\(dl b (Ob i r)≠0->b=true/\∃k,r=.ok k):=by
 cases b with
 |false=>exact⟨fun _=>rfl,fun h=>Ac O h⟩
 |true=>
  obtain⟨k,hk⟩:=AIt hf hx
  refine⟨fun h=>?_,fun _=>⟨O,k,hk⟩⟩
  rw[hk]at h
  have:=h3 k hk
  have h':i+k=0:=h
  omega
theorem ABu{r:SR}(hx:dl b (JP r)≠0):b=true/\∃a,r=.bad a (dl b (JP r)):=by
 cases b with
 |false=>exact Ac O hx
 |true=>exact⟨O,AAK hx⟩
theorem SH{n:Nat}{W:Nat->List UInt8->PR}{acc:List PT}{r:PR}(h:r=HJ n W kd g l acc)(hl:l≠[])(hg:l.length<=g):
  (∀e,DI n W kd l acc=.bad e->r=.bad e)/\∀acc' k,DI n W kd l acc=.ok acc' k->r=HJ n W kd (g-1) (l.drop k) acc':=by
 have hp:=BV.2 hl
 obtain⟨f,rfl⟩:∃f,g=f+1:=⟨g-1,by omega⟩
 refine⟨fun e he=>?_,fun acc' k hk=>?_⟩
 ·rw[h,HJ,AB hl,he]
 rw[h,HJ,AB hl,hk];rfl
theorem AEE{n:Nat}{W:Nat->List UInt8->PR}{acc:List PT}:HJ n W kd g [] acc=.ok acc:=by
 cases g with
 |zero=>rfl
 |succ f=>rw[HJ,AI O]
mutual
def PT.cnt:PT->Nat
 | .mk _ _ _ w _=>1+C5 w
def C5:List PT->Nat
 | []=>0
 |p::r=>p.cnt+C5 r
end
theorem Ix:∀(a b:List PT),C5 (a++b)=C5 a+C5 b
 | [],b=>by simp[C5]
 |p::a,b=>by rw[NA,C5,C5,Ix a b];omega
theorem ACB:∀(l:List PT) (i:Nat) (e:PT),i<l.length->(AG l i Sh).cnt=e.cnt->C5 (l.set i e)=C5 l
 | [],_,_,h,_=>Ac h (Nat.not_lt_zero _)
 |p::l,0,e,_,he=>by
  have he':p.cnt=e.cnt:=he
  rw[DS,C5,C5,he']
 |p::l,i+1,e,h,he=>by
  rw[Iw,C5,C5,ACB l i e (by simpa using h) he]
theorem OA(k:Nat)(t o:List UInt8)(w:List PT)(q:Bool):C5 [.mk k t o w q]=1+C5 w:=by
 rw[C5,C5,PT.cnt];omega
theorem Is(l:List PT)(t:List UInt8)(q:Bool):C5 (G2 l t q)<=C5 l+1:=by
 unfold G2
 split
 ·rename_i h
  have hp:=BV.2 h.1
  rw[ACB _ _ _ (by omega)]
  ·omega
  cases AG l (l.length-1) Sh;rfl
 rw[Ix,OA];simp[C5]
theorem AIN:∀p:PT,1<=p.cnt
 | .mk _ _ _ _ _=>by rw[PT.cnt];omega
theorem AEK:∀(m l:List PT),C5 (Jk l m)<=C5 l+C5 m
 | [],l=>by simp[Jk,C5]
 |p::m,l=>by
  rw[Jk]
  refine Ky (AEK m _) ?_
  rw[C5]
  have h1:=Is l p.text p.q
  have h2:=AIN p
  split
  ·omega
  rw[Ix];simp[C5];omega
def WC(W:Nat->List UInt8->PR):Prop:=∀kind s l,W kind s=.ok l->C5 l<=s.length
theorem AGb{W:Nat->List UInt8->PR}(hW:WC W){kind:Nat}{p:PT}(h:Dm W kind s=.ok p):p.cnt<=s.length+1:=by
 unfold Dm at h
 split at h
 ·cases h;rw[PT.cnt,C5];omega
 split at h
 ·cases h
 split at h
 ·cases h;rw[PT.cnt,C5];omega
 split at h
 ·cases h
 split at h
 ·cases h
 rename_i w hw
 cases h
 have:=hW _ _ _ hw
 rw[BA,BA]at this
 rw[PT.cnt];omega
theorem AMk{n:Nat}{W:Nat->List UInt8->PR}(hB:WB W)(hW:WC W){kind:Nat}{acc acc':List PT}(hl:l≠[])(h:DI n W kind l acc=.ok acc' k):C5 acc'<=C5 acc+k:=by
 have hk:=(GB hB hl h).1
 unfold DI at h
 split at h
 ·unfold Sg at h
  split at h
  ·cases h;exact Is _ _ _
  split at h
  ·cases h;omega
  split at h
  ·cases h;have:=Is acc ((l.take 2).drop 1) true;omega
  cases h;exact Is _ _ _
 split at h
 ·unfold Iv at h
  split at h
  ·cases h
  rename_i r j hr
  have hj:2<=j/\j<=l.length:=N0 (n:=n) hl (by unfold Fh;exact hr)
  have KM:((l.take (j-1)).drop 1).length=j-2:=by rw[BA,BL];omega
  split at h
  ·cases h
   have:=Is acc ((l.take (k-1)).drop 1) true
   omega
  split at h
  ·cases h
  rename_i m hm
  cases h
  have h1:=hW _ _ _ hm
  have h3:=AEK m (if m=[]then G2 acc [] true else acc)
  have h4:=Is acc [] true
  refine Ky h3 ?_
  split
  ·rename_i h0;rw[h0];simp[C5];omega
  omega
 split at h
 ·unfold Ks at h
  split at h
  ·rename_i hb
   split at h
   ·cases h
   rename_i r j hr
   have hj:3<=j/\j<=l.length:=by
    refine⟨Nu hr,?_⟩
    have:=(GM n).2 (decide (kind≠0)) l (Kz hb)
    rw[hr]at this;exact this.2
   have KM:((l.take (j-1)).drop 2).length=j-3:=by rw[BA,BL];omega
   split at h
   ·split at h
    ·cases h
    rename_i p hp
    cases h
    have:=AGb hW hp
    rw[Ix,C5,C5];omega
   split at h
   ·split at h
    ·cases h
    rename_i w hw
    cases h
    have:=hW _ _ _ hw
    rw[BA,BL]at this
    rw[Ix,OA];omega
   cases h
   rw[Ix,OA,C5];omega
  split at h
  ·cases h;exact Is _ _ _
  cases h
  rw[Ix,OA,C5];omega
 split at h
 ·cases h
 cases h;exact Is _ _ _
theorem Vl{n:Nat}{W:Nat->List UInt8->PR}(hB:WB W)(hW:WC W){kind:Nat}:∀(f:Nat) (l:List UInt8) (acc r:List PT),HJ n W kind f l acc=.ok r->C5 r<=C5 acc+l.length
 |0,l,acc,r,h=>by cases h;omega
 |f+1,l,acc,r,h=>by
  rw[HJ]at h
  split at h
  ·cases h;omega
  rename_i hl
  cases hs:DI n W kind l acc with
  |bad e=>simp only[hs]at h;cases h
  |ok acc' k=>
   simp only[hs]at h
   have h1:=GB hB hl hs
   have h2:=AMk hB hW hl hs
   have:=Vl hB hW f _ _ _ h
   rw[BA]at this
   omega
theorem Xc{n:Nat}{W:Nat->List UInt8->PR}(hB:WB W)(hW:WC W):WC (Hr n W):=fun kind s l h=>by
 unfold Hr at h
 split at h
 ·rename_i ht
  have hs:1<=s.length:=by
   unfold JH at ht
   rw[Ay,C4]at ht
   rcases ht.2 with h|h
   ·have h2:=BM h
    subst h2;decide
   have:=Hq h;simp at this;omega
  have:=Vl hB hW _ _ _ _ h
  rw[BA,OA,C5]at this
  omega
 have:=Vl hB hW _ _ _ _ h
 simpa[C5]using this
theorem AQd:∀n,WC (wP n)
 |0=>Xc (fun _ _ _ h=>by cases h) (fun _ _ _ h=>by cases h)
 |n+1=>Xc (N9 n) (AQd n)
theorem AKz{k:Int}{l:List PT}(h:Di s k=.ok l):C5 l<=s.length:=by
 unfold Di at h
 split at h
 ·cases h
 split at h
 ·cases h
 exact AQd 24 _ _ _ h
end Go.Tri
