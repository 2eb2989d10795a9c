/-
 The paths that a pattern matches, in plain words.
-/
import Derived.Test.YtbndcpjklngfhaaGreatDoorPExV
namespace Go.Tri
open Go.RowKit
variable {d:Int} {p:List UInt8}
def SB(fs:List Nd):Prop:=∀x∈fs,∀n∈x.names,n≠[]/\n.length<=32
theorem ANj(p:List UInt8):∀i,i<=p.length+1->(KP p i).2<=i/\∀x∈(KP p i).1,x≠[]
 |0,_=>⟨A5 _,fun x h=>by cases h⟩
 |i+1,hi=>by
  have ih:=ANj p i (by omega)
  rw[KP]
  split
  ·refine⟨A5 _,fun x hx=>?_⟩
   show x≠[]
   dsimp only at hx
   split at hx
   ·rename_i h2
    rcases Ic.1 hx with h|h
    ·exact ih.2 x h
    rw[FK.1 h]
    intro h9
    have h10:=B3 List.length h9
    rw[BL,BA,Bb]at h10
    omega
   exact ih.2 x hx
  exact⟨by have:=ih.1;omega,ih.2⟩
theorem AOb{fs:List Nd}(h:(B7 fs d p).2.2=0):(B7 fs d p).2.1≠[]/\(B7 fs d p).2.1.length<=32:=by
 rw[HG]at *
 by_cases h1:(Cv fs d p).2≠0
 ·rw[AI h1]at h;exact Ac h h1
 rw[AB h1]at *
 by_cases h2:(QM fs d p).2≠0
 ·rw[AI h2]at h;exact Ac h h2
 rw[AB h2]at *
 by_cases h3:(AG fs (QM fs d p).1.toNat JI).kind≠2
 ·rw[AI h3]at h;cases h
 rw[AB h3]at *
 by_cases h4:RP fs (QM fs d p).1 1=false
 ·rw[AI h4]at h;cases h
 rw[AB h4]at *
 by_cases h5:BQ p=[]\/G9 (BQ p)=[46]\/G9 (BQ p)=[46,46]
 ·rw[AI h5]at h;cases h
 rw[AB h5]at *
 by_cases h6:32<(G9 (BQ p)).length
 ·rw[AI h6]at h;cases h
 rw[AB h6]at *
 refine⟨?_,by show(G9 (BQ p)).length<=32;omega⟩
 have Dk:BQ p≠[]:=fun h9=>h5 (.inl h9)
 have hl:=BV.2 Dk
 exact(ANj p (p.length+1) (A5 _)).2 _ (BE (d:=[]) (show(BQ p).length-1<(BQ p).length by omega))
theorem AVF{fs:List Nd}(h:SB fs){d:Nat}{n:List UInt8}{k:Int}(hn:n≠[]/\n.length<=32):SB (Ox fs d n k):=by
 intro x hx m hm
 unfold Ox at hx
 dsimp only at hx
 rcases List.mem_or_eq_of_mem_set hx with hx|rfl
 ·exact h x hx m hm
 have key:∀m∈(AG fs d JI).names,m≠[]/\m.length<=32:=fun m hm=>by
  rcases Nat.lt_or_ge d fs.length with h9|h9
  ·exact h _ (BE h9) m hm
  unfold AG at hm
  rw[Cy,List.getElem?_eq_none h9]at hm
  cases hm
 simp only[Ic,FK]at hm
 rcases hm with (hm|rfl)|hm
 ·exact key m (List.mem_of_mem_take hm)
 ·exact hn
 exact key m (List.mem_of_mem_drop hm)
theorem AOn{fs:List Nd}(h:SB fs)(d:Int)(p:List UInt8)(kind mode:Int):SB (Fk fs d p kind mode).2.2:=by
 unfold Fk
 dsimp only
 by_cases h1:(B7 fs d p).2.2≠0
 ·rw[AI h1];exact h
 rw[AB h1]
 have hn:=AOb (Decidable.not_not.1 h1)
 repeat' split
 all_goals first |exact h|skip
 unfold mkE
 dsimp only
 refine AVF (fun x hx m hm=>?_) hn
 rcases List.mem_or_eq_of_mem_set hx with hx|rfl
 ·split at hx
  ·rcases Ic.1 hx with hx|hx
   ·exact h x hx m hm
   rw[FK.1 hx]at hm;cases hm
  exact h x hx m hm
 cases hm
theorem AHQ(ps:List (List UInt8)):SB (GF ps):=by
 have key:∀(ps:List (List UInt8)) (fs:List Nd),SB fs->SB (ps.foldl Ol fs):=by
  intro ps
  induction ps with
  |nil=>intro fs h;exact h
  |cons p ps ih=>
   intro fs h
   refine ih _ ?_
   unfold Ol
   split<;>exact AOn h _ _ _ _
 refine key ps fs0 (fun x hx n hn=>?_)
 simp only[fs0,Ci,List.not_mem_nil,or_false]at hx
 rcases hx with rfl|rfl<;>cases hn
def JK(fs:List Nd)(d:Int)(p:List UInt8):Int×Int:=
 if(Cv fs d p).2≠0 then(0,(Cv fs d p).2)else if(EJ fs (Cv fs d p).1 (BQ p)).2≠0 then(0,(EJ fs (Cv fs d p).1 (BQ p)).2)
 else if OD p=true/\(AG fs (EJ fs (Cv fs d p).1 (BQ p)).1.toNat JI).kind≠2 then(0,20)else((EJ fs (Cv fs d p).1 (BQ p)).1,0)
theorem AHy{fs:List Nd}(hw:NG fs)(h:(JK fs d p).2=0):(0<=(JK fs d p).1/\(JK fs d p).1<fs.length)/\p≠[]/\p.length<=256:=by
 unfold JK at *
 by_cases h1:(Cv fs d p).2≠0
 ·rw[AI h1]at h;exact Ac h h1
 rw[AB h1]at *
 have hb:=QZ hw (Decidable.not_not.1 h1)
 have hp:p≠[]/\p.length<=256:=by
  unfold Cv at h1
  split at h1
  ·exact Ac (by decide) h1
  split at h1
  ·exact Ac (by decide) h1
  rename_i h3
  split at h1
  ·exact Ac (by decide) h1
  exact⟨h3,by omega⟩
 have hs:=Uh hw (BQ p) _ hb
 refine⟨?_,hp⟩
 by_cases h2:(EJ fs (Cv fs d p).1 (BQ p)).2≠0
 ·rw[AI h2]at h;exact Ac h h2
 rw[AB h2]at *
 split
 ·have:=hw.two;exact⟨Int.le_refl _,by show(0:Int)<_;omega⟩
 exact hs
def Ip(p:List Ch):Nat:=(p.takeWhile fun c=>decide (c.b≠47)).length
def UZ(p:List Ch):Nat:=Ip p+((p.drop (Ip p)).takeWhile fun c=>decide (c.b=47)).length
theorem AIw{α:Type}{q:α->Bool}{l:List α}{i:Nat}{d:α}(hi:i<=l.length)(Eg:∀k,k<i->q (AG l k d)=true)(CS:i<l.length->q (AG l i d)=false):(l.takeWhile q).length=i:=by
 have h1:l.takeWhile q=l.take i:=by
  conv=>lhs;rw[<-Iu i l]
  rw[List.takeWhile_append_of_pos]
  ·rcases Nat.lt_or_ge i l.length with h|h
   ·rw[Bg d h,List.takeWhile_cons,CS h];simp
   rw[E4 h];simp
  intro x hx
  obtain⟨k,hk,rfl⟩:=List.getElem_of_mem hx
  rw[BL]at hk
  have:=Eg k (by omega)
  rw[CT (by omega)]at this
  rw[List.getElem_take];exact this
 rw[h1,BL];omega
theorem AHe(p:List Ch):Ip p<=p.length:=(List.takeWhile_prefix _).length_le
theorem AOl(p:List Ch):Ip p<=UZ p/\UZ p<=p.length:=by
 have h1:=(List.takeWhile_prefix (l:=p.drop (Ip p)) fun c=>decide (c.b=47)).length_le
 have h2:=AHe p
 rw[BA]at h1
 unfold UZ
 omega
theorem ASt{p:List Ch}(h:p≠[]):0<UZ p:=by
 cases p with
 |nil=>exact Ac O h
 |cons c r=>
  by_cases hc:c.b=47
  ·have h1:Ip (c::r)=0:=by unfold Ip;rw[List.takeWhile_cons];simp[hc]
   unfold UZ
   rw[h1,PB,List.takeWhile_cons]
   simp[hc]
  have h1:0<Ip (c::r):=by unfold Ip;rw[List.takeWhile_cons];simp[hc]
  have:=(AOl (c::r)).1
  omega
def AQs(pc:List Ch)(n:List UInt8):Bool:=decide (AG n 0 0≠46)||decide ((AG pc 0 Ft).b=46)
def atD(fs:List Nd)(d:Int)(far:List UInt8):Int×Int:=if far=[]then(d,0)else JK fs d far
def PV(fs:List Nd)(d:Int)(far:List UInt8)(pc:List Ch):Option (List (List UInt8)):=
 if Fa pc=false then some [Cj pc]
 else if(atD fs d far).2≠0\/(AG fs (atD fs d far).1.toNat JI).kind≠2\/RP fs (atD fs d far).1 5=false then none
 else some ((AG fs (atD fs d far).1.toNat JI).names.filter fun n=>Mt pc n&&AQs pc n)
def P8(B:List UInt8->Nat->List (List UInt8)×Nat)(fs:List Nd)(d:Int)(far sl:List UInt8):List (List UInt8)->List (List UInt8)->Nat->List (List UInt8)×Nat
 | [],acc,t=>(acc,t)
 |n::r,acc,t=>if 1000<t+1 then([],t+1)else if(JK fs d (far++n++sl)).2≠0 then P8 B fs d far sl r acc (t+1)
  else P8 B fs d far sl r (acc++(B (far++n++sl) (t+1)).1) (B (far++n++sl) (t+1)).2
def D1(fs:List Nd)(d:Int):Nat->List UInt8->List Ch->Nat->List (List UInt8)×Nat
 |0,_,_,t=>([],t)
 |f+1,far,p,t=>if p=[]then((if far.length<=256 then[far]else[]),t)else match PV fs d far (p.take (Ip p))with
  |none=>([],t)
  |some l=>P8 (fun far' t'=>D1 fs d f far' (p.drop (UZ p)) t') fs d far (Cj ((p.drop (Ip p)).take (UZ p-Ip p))) l [] t
def atP(out:List (List UInt8))(x:List UInt8):Nat:=(out.takeWhile fun y=>Op.bytesLess y x).length
def W3(out:List (List UInt8))(x:List UInt8):List (List UInt8):=if atP out x=out.length\/AG out (atP out x) []≠x then out.take (atP out x)++[x]++out.drop (atP out x)else out
def CG(fs:List Nd)(d:Int)(p:List Ch):List (List UInt8):=
 if(d<1\/(fs.length:Int)<=d)\/(AG fs d.toNat JI).kind≠2\/Fa p=false then[]
 else if 1000<(D1 fs d (p.length+1) [] p 0).2 then[]else(((D1 fs d (p.length+1) [] p 0).1).foldl W3 []).take 200
theorem AEy{B:List UInt8->Nat->List (List UInt8)×Nat}{c:Nat}(hB:∀far t,(B far t).1.length+t<=(B far t).2+1/\t<=(B far t).2/\(B far t).2<=max t 1000+c){fs:List Nd}{d:Int}{far sl:List UInt8}:
  ∀(l acc:List (List UInt8)) (t t0:Nat),acc.length+t0<=t->(P8 B fs d far sl l acc t).1.length+t0<=(P8 B fs d far sl l acc t).2/\t<=(P8 B fs d far sl l acc t).2/\(P8 B fs d far sl l acc t).2<=max t (1000+c)+1
 | [],acc,t,t0,h=>⟨h,A5 _,by show t<=_;omega⟩
 |n::r,acc,t,t0,h=>by
  rw[P8]
  split
  ·exact⟨by show 0+t0<=t+1;omega,by show t<=t+1;omega,by show t+1<=_;omega⟩
  split
  ·have:=AEy hB (fs:=fs) (d:=d) (far:=far) (sl:=sl) r acc (t+1) t0 (by omega)
   exact⟨this.1,by omega,by omega⟩
  have h1:=hB (far++n++sl) (t+1)
  have:=AEy hB (fs:=fs) (d:=d) (far:=far) (sl:=sl) r (acc++(B (far++n++sl) (t+1)).1) (B (far++n++sl) (t+1)).2 t0 (by rw[Bh];omega)
  exact⟨this.1,by omega,by omega⟩
theorem VH(fs:List Nd)(d:Int):∀(f:Nat) (far:List UInt8) (p:List Ch) (t:Nat),(D1 fs d f far p t).1.length+t<=(D1 fs d f far p t).2+1/\t<=(D1 fs d f far p t).2/\(D1 fs d f far p t).2<=max t 1000+f
 |0,_,_,t=>⟨by show 0+t<=t+1;omega,A5 _,by show t<=_;omega⟩
 |f+1,far,p,t=>by
  rw[D1]
  split
  ·refine⟨?_,A5 _,by show t<=_;omega⟩
   show(if far.length<=256 then[far]else[]).length+t<=t+1
   split
   ·simp;omega
   simp
  split
  ·exact⟨by show 0+t<=t+1;omega,A5 _,by show t<=_;omega⟩
  rename_i l _
  have:=AEy (B:=fun far' t'=>D1 fs d f far' (p.drop (UZ p)) t') (c:=f) (fun far t=>VH fs d f far (p.drop (UZ p)) t) (fs:=fs) (d:=d) (far:=far) (sl:=Cj ((p.drop (Ip p)).take (UZ p-Ip p))) l [] t t (by simp)
  exact⟨by omega,this.2.1,by omega⟩
end Go.Tri
