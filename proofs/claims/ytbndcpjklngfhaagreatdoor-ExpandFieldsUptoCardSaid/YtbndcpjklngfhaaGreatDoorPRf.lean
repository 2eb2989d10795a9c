/-
 The reference's expressions in plain words: its signs, its numbers, its blanks, its ranks.
-/
import Derived.Test.YtbndcpjklngfhaaGreatDoorPExW
namespace Go.Tri
open Go.RowKit
variable {i v m:Nat} {op o:List UInt8}
def D3:List (List UInt8):=[[60,60,61],[62,62,61],[42,61],[47,61],[37,61],[43,61],[45,61],[38,61],[94,61],[124,61],[124,124],[38,38],[61,61],[33,61],[60,61],[62,61],[60,60],[62,62],[61],[63],[58],[124],[94],[38],[60],[62],[43],[45],[42],[47],[37],[33],[126],[40],[41]]
theorem AaQ{s sub:List UInt8}(h:Lib.contains s sub=true):∃i,i+sub.length<=s.length/\(s.drop i).take sub.length=sub:=by
 unfold Lib.contains at h
 have h0:=BM h
 rcases Lib.index_spec s sub with ⟨h1,_⟩|⟨i,h1,h2,h3,_⟩
 ·omega
 refine⟨i,?_⟩
 unfold Lib.occAt at h3
 obtain⟨r,hr⟩:=List.isPrefixOf_iff_prefix.1 h3
 have hl:=B3 List.length hr
 rw[Bh,BA]at hl
 exact⟨by omega,by rw[<-hr,List.take_left'];rfl⟩
theorem APH{t:List UInt8}(h:Lib.contains t [32]=false):(32:UInt8) ∉ t:=fun hm=>by rw[VC hm]at h;cases h
theorem AUC:((List.range 91).all fun i=>(List.range 4).all fun n=> !(decide (AG WO i 0=32)&&decide (AG WO (i+n+1) 0=32)&& !((WO.drop (i+1)).take n).contains 32)||D3.contains ((WO.drop (i+1)).take n))=true:=by decide+kernel
theorem AAS:∀t∈D3,VZ t=true/\1<=t.length/\t.length<=3:=by decide+kernel
theorem AJG{t:List UInt8}(hl:t.length<=3)(h:VZ t=true):t∈D3:=by
 unfold VZ at h
 rw[Ay,FJ]at h
 obtain⟨i,h1,h2⟩:=AaQ h.1
 have hL:([32]++t++[32]:List UInt8).length=t.length+2:=by simp
 rw[hL]at h1 h2
 have h3:WO.length=91:=by decide+kernel
 have ZB:∀j,j<t.length+2->AG WO (i+j) 0=AG ([32]++t++[32]) j 0:=fun j hj=>by
  have:=B3 (fun l=>l.getD j 0) h2
  simp only[Cy,List.getElem?_take,List.getElem?_drop,AI hj]at this
  unfold AG
  rw[Cy,Cy]
  exact this
 have ht:(WO.drop (i+1)).take t.length=t:=by
  have:=B3 (fun l=>(l.drop 1).take t.length) h2
  simp only[List.drop_take,Cp,List.take_take]at this
  rw[show min t.length (t.length+2-1)=t.length by omega]at this
  rw[this]
  simp
 have h4:=List.all_eq_true.1 (List.all_eq_true.1 AUC i (List.mem_range.2 (by omega))) t.length (List.mem_range.2 (by omega))
 have e1:AG WO i 0=32:=ZB 0 (by omega)
 have e2:AG WO (i+t.length+1) 0=32:=by
  rw[show i+t.length+1=i+(t.length+1) by omega,ZB _ (by omega)];unfold AG;rw[Cy,List.getElem?_append_right (by simp)];simp
 have e3:t.contains 32=false:=by
  rw[Bool.eq_false_iff,ne_eq,List.contains_iff_mem];exact APH h.2
 rw[ht,BK e1,BK e2,e3]at h4
 simpa using h4
theorem AGP:D3.Pairwise (fun a b=>b.length<=a.length):=by decide+kernel
theorem ABH(s:List UInt8):Fq s (min 3 s.length)=((D3.find? (fun o=>Dl s o)).getD []).length/\s.take (Fq s (min 3 s.length))=(D3.find? (fun o=>Dl s o)).getD []:=by
 have hup:∀n,n<=min 3 s.length->(∀m,Fq s n<m->m<=n->VZ (s.take m)=false)/\(Fq s n=0\/VZ (s.take (Fq s n))=true):=by
  intro n
  induction n with
  |zero=>exact fun _=>⟨fun m h1 h2=>by omega,.inl O⟩
  |succ n ih=>
   intro hn
   obtain⟨ih1,ih2⟩:=ih (by omega)
   rw[Fq]
   split
   ·rename_i h;exact⟨fun m h1 h2=>by omega,.inr h⟩
   rename_i h
   refine⟨fun m h1 h2=>?_,ih2⟩
   rcases Nat.lt_or_ge m (n+1)with h3|h3
   ·exact ih1 m h1 (by omega)
   rw[show m=n+1 by omega];simpa using h
 obtain⟨h1,h2⟩:=hup _ (A5 _)
 have CH:=AAV s (min 3 s.length)
 cases hf:D3.find? (fun o=>Dl s o)with
 |none=>
  rw[List.find?_eq_none]at hf
  have h0:Fq s (min 3 s.length)=0:=by
   rcases h2 with h2|h2
   ·exact h2
   have hm:=AJG (t:=s.take (Fq s (min 3 s.length))) (by rw[BL];omega) h2
   have:=hf _ hm
   exact Ac (by unfold Dl;rw[BL,Nat.min_eq_left (by omega)];exact BK O) this
  rw[h0];exact⟨O,O⟩
 |some o=>
  obtain⟨hp,qs,bs,hab,Cz⟩:=List.find?_eq_some_iff_append.1 hf
  have LS:s.take o.length=o:=BM hp
  have hom:o∈D3:=by rw[hab];simp
  obtain⟨ho1,ho2,ho3⟩:=AAS o hom
  have hol:o.length<=s.length:=by have:=B3 List.length LS;rw[BL]at this;omega
  have Ua:o.length<=Fq s (min 3 s.length):=by
   rcases Nat.lt_or_ge (Fq s (min 3 s.length)) o.length with h|h
   ·have:=h1 o.length h (by omega)
    rw[LS,ho1]at this;cases this
   exact h
  have Ahv:Fq s (min 3 s.length)<=o.length:=by
   have h3:VZ (s.take (Fq s (min 3 s.length)))=true:=by
    rcases h2 with h2|h2
    ·omega
    exact h2
   have hm:=AJG (by rw[BL];omega) h3
   have hml:(s.take (Fq s (min 3 s.length))).length=Fq s (min 3 s.length):=by rw[BL];omega
   have CS:Dl s (s.take (Fq s (min 3 s.length)))=true:=by unfold Dl;rw[hml];exact BK O
   rw[hab,Ic,Ci]at hm
   rcases hm with hm|hm|hm
   ·exact Ac CS (by simpa using Cz _ hm)
   ·have:=B3 List.length hm;omega
   have hs:=AGP
   rw[hab,List.pairwise_append,List.pairwise_cons]at hs
   have:=hs.2.1.1 _ hm;omega
  have he:Fq s (min 3 s.length)=o.length:=by omega
  rw[he];exact⟨O,LS⟩
def Es(c:UInt8):Int:=if BO c=true then(c.toNat:Int)-48 else if 97<=c.toNat/\c.toNat<=102 then(c.toNat:Int)-87 else if 65<=c.toNat/\c.toNat<=70 then(c.toNat:Int)-55 else 99
theorem ACo{u:Nat}(hu:u=16\/u=8\/u=10):∀c:UInt8,(S5 u c<0↔(u:Int)<=Es c)/\(Es c<(u:Int)->S5 u c=Es c)/\0<=Es c:=by
 rcases hu with rfl|rfl|rfl<;>exact G7 (by decide+kernel)
theorem AWP:∀c:UInt8,(c|||32=120)↔(c=120\/c=88):=G7 (by decide+kernel)
theorem APd(c:UInt8):CF ([95]++[c])=(CV c||BO c):=by
 have:∀c:UInt8,CF ([95]++[c])=(CV c||BO c):=G7 (by decide+kernel)
 exact this c
theorem YI{s:List UInt8}(h:i<s.length):CF ([95]++(s.drop i).take 1)=(CV (AG s i 0)||BO (AG s i 0)):=by
 rw[Bg 0 h,List.take_succ_cons,Qo,APd]
theorem Xa(p:UInt8->Bool):∀s:List UInt8,((s.reverse.dropWhile p).reverse).dropWhile p=((s.dropWhile p).reverse.dropWhile p).reverse
 | []=>rfl
 |c::r=>by
  by_cases hr:r.all p=true
  ·have h1:r.reverse.dropWhile p=[]:=by
    rw[KG];intro x hx;exact List.all_eq_true.1 hr x (List.mem_reverse.1 hx)
   have h2:r.dropWhile p=[]:=by
    rw[KG];intro x hx;exact List.all_eq_true.1 hr x hx
   have h3:(r.reverse++[c]).dropWhile p=[c].dropWhile p:=by rw[List.dropWhile_append,h1];rfl
   rw[List.reverse_cons,h3]
   by_cases hc:p c=true
   ·rw[List.dropWhile_cons_of_pos hc,List.dropWhile_cons_of_pos hc,h2];rfl
   rw[List.dropWhile_cons_of_neg hc,List.reverse_singleton,List.dropWhile_cons_of_neg hc,List.dropWhile_cons_of_neg hc,List.reverse_cons,h3,List.dropWhile_cons_of_neg hc]
   rfl
  have h1:(r.reverse.dropWhile p).isEmpty=false:=by
   rw[Bool.eq_false_iff,ne_eq,List.isEmpty_iff,KG]
   intro h;exact hr (List.all_eq_true.2 fun x hx=>h x (List.mem_reverse.2 hx))
  have ih:=Xa p r
  rw[List.reverse_cons,List.dropWhile_append,h1]
  simp only[RZ,O9]
  rw[List.reverse_append,List.reverse_singleton,List.singleton_append]
  by_cases hc:p c=true
  ·rw[List.dropWhile_cons_of_pos hc,List.dropWhile_cons_of_pos hc,ih]
  rw[List.dropWhile_cons_of_neg hc,List.dropWhile_cons_of_neg hc,List.reverse_cons,List.dropWhile_append,h1]
  simp
theorem ALh(s:List UInt8):Lib.trimS s C1=Lib.trimRightS (Lib.trimLeftS s C1) C1:=by
 unfold Lib.trimS Lib.trimLeftS Lib.trimRightS
 exact Xa _ s
def NV(t:List UInt8):Nat:=
 if[124,124]=t then 3 else if[38,38]=t then 4 else if[124]=t then 5 else if[94]=t then 6 else if[38]=t then 7 else if[61,61]=t then 8 else if[33,61]=t then 8
 else if[60]=t then 9 else if[60,61]=t then 9 else if[62]=t then 9 else if[62,61]=t then 9 else if[60,60]=t then 10 else if[62,62]=t then 10 else if[43]=t then 11 else if[45]=t then 11
 else if[42]=t then 12 else if[47]=t then 12 else if[37]=t then 12 else 0
def AFP:List (List UInt8):=[[61],[42,61],[47,61],[37,61],[43,61],[45,61],[60,60,61],[62,62,61],[38,61],[94,61],[124,61]]
theorem AHc:∀t∈D3,(∀v,v<10->Lib.contains (lvS v) ([32]++t++[32])=decide (NV t=v+3))/\Lib.contains AUN ([32]++t++[32])=decide (t∈AFP):=by decide+kernel
def T8(x:Lx):Prop:=(x.what=0->x.text=[])/\(x.what=4->x.text=[])/\(x.what=2->x.text≠[]/\CV (AG x.text 0 0)=true)/\(x.what=3->x.text∈D3)/\x.what<=4
def tkT(x:Lx):List UInt8:=if x.what=1 then[48]else x.text
def Qb(x:Lx):List Value:=[Au (tkT x),.int .i64 x.worth,.bool (decide (x.what=4))]
def JA(x:Lx):List UInt8:=if x.what=4 then[0]else tkT x
theorem GE(x:Lx):∀u∈Qb x,u.oneCell'=true:=fun u hu=>by
 simp only[Qb,Ci,List.not_mem_nil,or_false]at hu
 rcases hu with rfl|rfl|rfl<;>rfl
theorem AFX{s:List UInt8}(h:CF s=true):s≠[]/\CV (AG s 0 0)=true:=by
 obtain⟨h1,h2⟩:=Sc.1 h
 have:=h2 0 (BV.2 h1)
 unfold XJ at this
 exact⟨h1,by simpa using this⟩
theorem AIk(t:List UInt8):T8 (Bp t).1:=by
 have z:T8 JF:=⟨fun _=>rfl,fun _=>rfl,fun h=>(by cases h),fun h=>(by cases h),by decide⟩
 have o:T8 Mg:=⟨fun _=>rfl,fun _=>rfl,fun h=>(by cases h),fun h=>(by cases h),by decide⟩
 unfold Bp
 split
 ·exact z
 rename_i h0
 split
 ·cases Ck t with
  |none=>exact o
  |some r=>exact⟨fun h=>(by cases h),fun h=>(by cases h),fun h=>(by cases h),fun h=>(by cases h),(by decide:(1:Nat)<=4)⟩
 split
 ·rename_i h2
  have hg:=QN (s:=t) t.length 1 (BV.2 h0)
  have hh:=(AFX h2).2
  refine⟨fun h=>(by cases h),fun h=>(by cases h),fun _=>?_,fun h=>(by cases h),(by decide:(2:Nat)<=4)⟩
  have hp:=BV.2 h0
  refine⟨BV.1 (by show 0<(t.take _).length;rw[BL];omega),?_⟩
  show CV (AG (t.take (Dc t.length 1 t)) 0 0)=true
  cases t with
  |nil=>exact Ac O h0
  |cons c r=>
   obtain⟨m,hm⟩:∃m,Dc (c::r).length 1 (c::r)=m+1:=⟨_,(Nat.succ_pred (by omega)).symm⟩
   rw[hm];exact hh
 split
 ·exact o
 rename_i h3
 have h4:=ABH t
 refine⟨fun h=>(by cases h),fun h=>(by cases h),fun h=>(by cases h),fun _=>?_,(by decide:(3:Nat)<=4)⟩
 show t.take (Fq t (min 3 t.length))∈D3
 rw[h4.2]
 cases hf:D3.find? (fun o=>Dl t o)with
 |none=>rw[h4.1,hf]at h3;exact Ac O h3
 |some o=>exact List.mem_of_find?_eq_some hf
theorem ANQ:∀(f:Nat) (t:List UInt8),∀x∈Li f t,T8 x
 |0,_,_,h=>by cases h
 |f+1,t,x,h=>by
  rw[Li]at h
  rcases Ci.1 h with rfl|h
  ·exact AIk t
  split at h
  ·cases h
  exact ANQ f _ x h
theorem MK:∀t∈D3,t≠[]/\t≠[48]/\t≠[0]/\CV (AG t 0 0)=false:=by decide+kernel
theorem Of{x:Lx}(hx:T8 x){t:List UInt8}(ht:t∈D3):(JA x=t)↔(x.what=3/\x.text=t):=by
 obtain⟨h0,h4,h2,h3,hw⟩:=hx
 obtain⟨p1,p2,p3,p4⟩:=MK t ht
 unfold JA tkT
 constructor
 ·intro h
  split at h
  ·exact Ac h.symm p3
  split at h
  ·exact Ac h.symm p2
  rename_i a1 a2
  refine⟨?_,h⟩
  have b0:x.what≠0:=fun hc=>p1 (h.symm.trans (h0 hc))
  have b2:x.what≠2:=fun hc=>by have:=(h2 hc).2;rw[h,p4]at this;cases this
  omega
 rintro⟨a,b⟩
 rw[AB (by omega),AB (by omega),b]
theorem I9{L:List Lx}(hx:T8 (Ar L)){t:List UInt8}(ht:t∈D3):G3 L t=decide (JA (Ar L)=t):=by
 unfold G3
 rw[<-Bool.decide_and]
 exact decide_eq_decide.2 (Of hx ht).symm
theorem ARO{x:Lx}(hx:T8 x):(JA x=[48])↔x.what=1:=by
 obtain⟨h0,h4,h2,h3,hw⟩:=hx
 unfold JA tkT
 constructor
 ·intro h
  split at h
  ·cases h
  split at h
  ·assumption
  exfalso
  rename_i a1 a2
  have b0:x.what≠0:=fun hc=>by rw[h0 hc]at h;cases h
  have b2:x.what≠2:=fun hc=>by have:=(h2 hc).2;rw[h]at this;revert this;decide
  have b3:x.what≠3:=fun hc=>by have:=MK _ (h3 hc);exact this.2.1 h
  omega
 intro h;rw[AB (by omega),AI h]
theorem Oa{x:Lx}(hx:T8 x):(decide (JA x≠[])&&CV (AG (JA x) 0 0))=decide (x.what=2)/\(x.what=2->JA x=x.text):=by
 obtain⟨h0,h4,h2,h3,hw⟩:=hx
 unfold JA tkT
 refine⟨?_,fun h=>by rw[AB (by omega),AB (by omega)]⟩
 rcases Nat.lt_or_ge x.what 4 with Eg|Ua
 ·rw[AB (by omega)]
  by_cases h1:x.what=1
  ·rw[AI h1,DC (p:=x.what=2) (by omega)];rfl
  rw[AB h1]
  by_cases b2:x.what=2
  ·rw[BK (h2 b2).1,(h2 b2).2,BK b2];rfl
  rw[DC b2]
  by_cases b3:x.what=3
  ·rw[(MK _ (h3 b3)).2.2.2,Bool.and_false]
  rw[h0 (by omega)];rfl
 rw[AI (by omega),DC (p:=x.what=2) (by omega)];rfl
theorem AAX{x:Lx}(hx:T8 x):(JA x=[])↔x.what=0:=by
 obtain⟨h0,h4,h2,h3,hw⟩:=hx
 unfold JA tkT
 constructor
 ·intro h
  split at h
  ·cases h
  split at h
  ·cases h
  have b2:x.what≠2:=fun hc=>(h2 hc).1 h
  have b3:x.what≠3:=fun hc=>(MK _ (h3 hc)).1 h
  omega
 intro h;rw[AB (by omega),AB (by omega)];exact h0 h
theorem AGa:∀t:List UInt8,t ∉ D3->NV t=0:=fun t h=>by
 have hm:∀o∈D3,o≠t:=fun o ho he=>h (he ▸ ho)
 unfold NV
 repeat' (first |rfl|rw[AB (hm _ (by decide))])
theorem Y9{L:List Lx}(hx:T8 (Ar L))(hv:v<10):HQ v L=decide (NV (JA (Ar L))=v+3):=by
 unfold HQ
 by_cases h3:(Ar L).what=3
 ·have hm:=hx.2.2.2.1 h3
  rw[(Of hx hm).2 ⟨h3,O⟩,BK h3,Bool.true_and]
  exact(AHc _ hm).1 v hv
 rw[DC h3,Bool.false_and,AGa _ (fun hm=>h3 ((Of hx hm).1 O).1)]
 exact(DC (by omega)).symm
theorem ALx:∀t∈AFP,t∈D3:=by decide+kernel
theorem AVV{L:List Lx}(h1:T8 (Ar L))(h2:T8 (BP L)):HL L=(decide ((Ar L).what=2)&&decide (tkT (BP L)∈AFP)):=by
 unfold HL
 cases hd:decide ((Ar L).what=2)with
 |false=>rfl
 |true=>
  rw[Bool.true_and,Bool.true_and]
  by_cases h3:(BP L).what=3
  ·have hm:=h2.2.2.2.1 h3
   rw[BK h3,Bool.true_and,(AHc _ hm).2]
   unfold tkT;rw[AB (by omega)]
  rw[DC h3,Bool.false_and]
  refine(DC fun hm=>h3 ?_).symm
  have ho:=ALx _ hm
  have h4:(BP L).what≠4:=fun hc=>by
   have:=(MK _ ho).1
   unfold tkT at this;rw[AB (by omega),h2.2.1 hc]at this;exact this O
  have he:JA (BP L)=tkT (BP L):=by unfold JA;rw[AB h4]
  exact((Of h2 (he ▸ ho)).1 O).1
def asV(a:Dw):Vr:=⟨a.1,Lib.itoa a.2,false,false,false⟩
def Jx(S:List Dw)(vs:List Vr):List Vr:=S.reverse.map asV++vs
theorem ALs(S:List Dw)(vs:List Vr)(a:Dw):Jx (S++[a]) vs=asV a::Jx S vs:=by simp[Jx]
theorem ABs(S:List Dw)(vs:List Vr):(Jx S vs).length=S.length+vs.length:=by simp[Jx]
def atV(l:List Vr)(n:List UInt8):Int×Nat:=match l.find? (fun v=>decide (v.name=n))with
 |some v=>HM v.value
 |none=>(0,0)
theorem Y6{S:List Dw}(h:SU m S)(vs:List Vr)(n:List UInt8):atV (Jx S vs) n=Bt (vs.map Vr.nv) S n:=by
 unfold atV Jx Bt
 rw[List.find?_append,List.find?_map]
 show(match((S.reverse.find? (fun a=>decide (a.1=n))).map asV).or _ with|some v=>HM v.value|none=>(0,0))=_
 cases hf:S.reverse.find? (fun a=>decide (a.1=n))with
 |some a=>
  have:=h a (List.mem_reverse.1 (List.mem_of_find?_eq_some hf))
  exact AKM this.1
 |none=>
  rw[Uc]
  show(match vs.find? (fun v=>decide (v.name=n))with|some v=>HM v.value|none=>(0,0))=_
  cases vs.find? (fun v=>decide (v.name=n))<;>rfl
theorem ARy{l:List Vr}{n:List UInt8}(hi:i<l.length)(Cz:∀k,k<i->(AG l k Ez).name≠n)(h:(AG l i Ez).name=n):atV l n=HM (AG l i Ez).value:=by
 unfold atV
 rw[List.find?_eq_some_iff_getElem.2 ⟨by simpa using h,i,hi,(CT hi).symm,fun j hj=>by have:=Cz j hj;rw[CT (by omega)]at this;simpa using this⟩]
theorem ANl{l:List Vr}{n:List UInt8}(Cz:∀k,k<l.length->(AG l k Ez).name≠n):atV l n=(0,0):=by
 unfold atV
 rw[List.find?_eq_none.2]
 intro x hx
 obtain⟨j,hj,rfl⟩:=List.getElem_of_mem hx
 have:=Cz j hj
 rw[CT hj]at this
 simpa using this
theorem ANL(a:Int):F4 (F4 (-a)-1)=AFQ (-1) a:=by
 unfold AFQ
 have h1:(BitVec.ofInt 64 (-1)) ^^^ (BitVec.ofInt 64 a)= ~~~(BitVec.ofInt 64 a):=by
  rw[show BitVec.ofInt 64 (-1)=BitVec.allOnes 64 by decide,BitVec.allOnes_xor]
 rw[h1,BitVec.toNat_not]
 have h2:((BitVec.ofInt 64 a).toNat:Int)=a % 18446744073709551616:=by rw[BitVec.toNat_ofInt];omega
 refine AGT ?_
 have h3:=AAN (-a)
 have h4:(BitVec.ofInt 64 a).toNat<18446744073709551616:=(BitVec.ofInt 64 a).isLt
 omega
def ASB:List (List UInt8):=[[124],[94],[38],[60,60],[62,62],[43],[45],[42],[47],[37],[61,61],[33,61],[60],[60,61],[62],[62,61]]
theorem AUn(a:Int):F4 (-a)=if a= -9223372036854775808 then a else F4 (a.tdiv (-1)):=by
 split
 ·rename_i h;subst h;decide
 rw[Int.tdiv_neg,Int.tdiv_one]
structure Rw(live:Bool)(P:PA)(vs:List (List UInt8×List UInt8))(S:List Dw)(T:List Lx)(k:Nat)(S1:List Dw)(e:Nat)(a:Int):Prop where
 ok:e=0->∃x L,P=.ok x L/\T.drop k=L/\(live=true->A1 vs x S=.ok a S1)/\(live=false->S1=S)
 no:e≠0->(live=false->P=.bad e)/\(live=true->∃x L,P=.ok x L/\A1 vs x S=.bad e)
def M9(P:PA):Prop:= ∃x L,P=.ok x L
section
variable {live:Bool} {P:PA} {vs:List (List UInt8×List UInt8)} {S S1 S2:List Dw} {T L:List Lx} {k e e1:Nat} {a b:Int} {R:Kl}
theorem HW(h:P=.bad e)(he:e≠0)(hl:live=true->M9 P):Rw live P vs S T k S1 e a:=
 ⟨fun h0=>Ac h0 he,fun _=>⟨fun _=>h,fun h1=>by obtain⟨x,L,h2⟩:=hl h1;rw[h]at h2;cases h2⟩⟩
theorem RN{x:Ex}(h:P=.ok x L)(hk:T.drop k=L)(h1:live=true->A1 vs x S=.ok a S1)(h2:live=false->S1=S):Rw live P vs S T k S1 0 a:=
 ⟨fun _=>⟨x,L,h,hk,h1,h2⟩,fun h0=>Ac O h0⟩
theorem I6{x:Ex}(hv:live=true)(h:P=.ok x L)(he:e≠0)(hw:A1 vs x S=.bad e):Rw live P vs S T k S1 e a:=
 ⟨fun h0=>Ac h0 he,fun _=>⟨fun h1=>(by rw[hv]at h1;cases h1),fun _=>⟨x,L,h,hw⟩⟩⟩
theorem ZL(h:HL L=true):Gn R L=(match R.asg (Am (Am L))with| .bad e=>.bad e| .ok x L1=>.ok (.asg (BP L).text (Ar L).text x) L1):=by unfold Gn;exact AI h
theorem ACR(h:HL L=false):Gn R L=ED R L:=by unfold Gn;rw[AB (by rw[h];simp)]
theorem AIh(h:HL L=true)(hl:live=true->M9 (Gn R L)):live=true->M9 (R.asg (Am (Am L))):=fun hv=>by
 obtain⟨x,M,h1⟩:=hl hv
 rw[ZL h]at h1
 cases hr:R.asg (Am (Am L))with
 |bad e=>rw[hr]at h1;cases h1
 |ok y N=>exact⟨y,N,O⟩
theorem Vk(h:HL L=true){x:Ex}{M:List Lx}(hr:R.asg (Am (Am L))=.ok x M):Gn R L=.ok (.asg (BP L).text (Ar L).text x) M:=by rw[ZL h,hr]
theorem AJk{nm:List UInt8}{x:Ex}(hw:op≠[61]->(Bt vs S nm).2=0)(h:A1 vs x S=.bad e):A1 vs (.asg op nm x) S=.bad e:=by
 rw[A1]
 by_cases ho:op=[61]
 ·rw[AI ho,h]
 rw[AB ho,AI (hw ho),h]
theorem AKb(h:HL L=true)(hv:live=true)(ho:(BP L).text≠[61])(hw:(Bt vs S (Ar L).text).2=e)(he:e≠0)(hl:live=true->M9 (Gn R L)):Rw live (Gn R L) vs S T k S1 e a:=by
 obtain⟨x,M,h1⟩:=AIh h hl hv
 refine I6 hv (Vk h h1) he ?_
 rw[A1,AB ho,AB (by omega),hw]
theorem AKA(h:HL L=true)(h1:Rw live (R.asg (Am (Am L))) vs S T k S1 e b)(he:e≠0)(hw:live=true->(BP L).text≠[61]->(Bt vs S (Ar L).text).2=0)(hl:live=true->M9 (Gn R L)):Rw live (Gn R L) vs S T k S2 e a:=by
 obtain⟨h2,h3⟩:=h1.no he
 cases live with
 |false=>exact HW (by rw[ZL h,h2 O]) he (fun h=>by cases h)
 |true=>
  obtain⟨x,M,h4,h5⟩:=h3 rfl
  exact I6 O (Vk h h4) he (AJk (hw O) h5)
theorem AQo(h:HL L=true)(h1:Rw live (R.asg (Am (Am L))) vs S T k S1 0 b)(hv:live=false):Rw live (Gn R L) vs S T k S1 0 a:=by
 obtain⟨x,M,h2,h3,_,h5⟩:=h1.ok rfl
 exact RN (Vk h h2) h3 (fun h=>by rw[hv]at h;cases h) h5
theorem AUl(h:HL L=true)(h1:Rw live (R.asg (Am (Am L))) vs S T k S1 0 b)(hv:live=true)(hc:((BP L).text=[61]/\a=b)\/((BP L).text≠[61]/\(Bt vs S (Ar L).text).2=0/\CO (Lib.trimSuffix (BP L).text [61]) (Bt vs S (Ar L).text).1 b=(a,0))):
  Rw live (Gn R L) vs S T k (S1++[((Ar L).text,a)]) 0 a:=by
 obtain⟨x,M,h2,h3,h4,_⟩:=h1.ok rfl
 refine RN (Vk h h2) h3 (fun _=>?_) (fun h=>by rw[hv]at h;cases h)
 have h5:=h4 hv
 rw[A1]
 rcases hc with ⟨ho,rfl⟩|⟨ho,hw,ht⟩
 ·rw[AI ho,h5]
 rw[AB ho,AI hw,h5]
 show(if _ then _ else _:WR)=_
 rw[ht,AI O]
theorem ARQ(h:HL L=true)(h1:Rw live (R.asg (Am (Am L))) vs S T k S1 0 b)(hv:live=true)(ho:(BP L).text≠[61])(hw:(Bt vs S (Ar L).text).2=0)(ht:(CO (Lib.trimSuffix (BP L).text [61]) (Bt vs S (Ar L).text).1 b).2=e)(he:e≠0):Rw live (Gn R L) vs S T k S2 e a:=by
 obtain⟨x,M,h2,h3,h4,_⟩:=h1.ok rfl
 refine I6 hv (Vk h h2) he ?_
 rw[A1,AB ho,AI hw,h4 hv]
 show(if _ then _ else _:WR)=_
 rw[AB (by omega),ht]
theorem UK(h:IB L=true):EH R L=(match R.opd (Am L)with| .bad e=>.bad e| .ok x L1=>.ok (.una ([49]++(Ar L).text) x) L1):=by unfold EH;exact AI h
theorem N5(h:IB L=false)(h2:G3 L [40]=true):EH R L=(match R.asg (Am L)with| .bad e=>.bad e| .ok x L1=>if G3 L1 [41]=true then .ok x (Am L1)else .bad 60):=by
 unfold EH;exact(AB (by rw[h];simp)).trans (AI h2)
theorem WQ(h:IB L=false)(h2:G3 L [40]=false):EH R L=if(Ar L).what=1 then .ok (.num (Ar L).worth) (Am L)else if(Ar L).what=2 then .ok (.var (Ar L).text) (Am L)else .bad 60:=by
 unfold EH;rw[AB (by rw[h];simp),AB (by rw[h2];simp)]
theorem ARv(h:IB L=true)(hl:live=true->M9 (EH R L)):live=true->M9 (R.opd (Am L)):=fun hv=>by
 obtain⟨x,M,h1⟩:=hl hv
 rw[UK h]at h1
 cases hr:R.opd (Am L)with
 |bad e=>rw[hr]at h1;cases h1
 |ok y N=>exact⟨y,N,O⟩
theorem Uj(h:IB L=true)(h1:Rw live (R.opd (Am L)) vs S T k S1 e b)(ha:a=APr ([49]++(Ar L).text) b):Rw live (EH R L) vs S T k S1 e a:=by
 by_cases he:e=0
 ·subst he
  obtain⟨x,M,h2,h3,h4,h5⟩:=h1.ok rfl
  exact RN (by rw[UK h,h2]) h3 (fun hv=>by rw[A1,h4 hv,ha]) h5
 obtain⟨h2,h3⟩:=h1.no he
 cases live with
 |false=>exact HW (by rw[UK h,h2 O]) he (fun h=>by cases h)
 |true=>
  obtain⟨x,M,h4,h5⟩:=h3 rfl
  exact I6 O (by rw[UK h,h4]) he (by rw[A1,h5])
theorem ATf(h:IB L=false)(h2:G3 L [40]=true)(hl:live=true->M9 (EH R L)):live=true->M9 (R.asg (Am L)):=fun hv=>by
 obtain⟨x,M,h1⟩:=hl hv
 rw[N5 h h2]at h1
 cases hr:R.asg (Am L)with
 |bad e=>rw[hr]at h1;cases h1
 |ok y N=>exact⟨y,N,O⟩
theorem ATx(h:IB L=false)(h2:G3 L [40]=true)(h1:Rw live (R.asg (Am L)) vs S T k S1 e b)(he:e≠0)(hl:live=true->M9 (EH R L)):Rw live (EH R L) vs S T k S2 e a:=by
 obtain⟨h3,h4⟩:=h1.no he
 cases live with
 |false=>exact HW (by rw[N5 h h2,h3 O]) he (fun h=>by cases h)
 |true=>
  obtain⟨x,M,h5,h6⟩:=h4 rfl
  obtain⟨y,N,h7⟩:=hl rfl
  refine I6 O h7 he ?_
  rw[N5 h h2,h5]at h7
  simp only at h7
  split at h7
  ·cases h7;exact h6
  cases h7
theorem AVd(h:IB L=false)(h2:G3 L [40]=true)(h1:Rw live (R.asg (Am L)) vs S T k S1 0 a){M:List Lx}(hM:T.drop k=M)(hl:live=true->M9 (EH R L)):
  (G3 M [41]=true->∀j,T.drop j=Am M->Rw live (EH R L) vs S T j S1 0 a)/\(G3 M [41]=false->Rw live (EH R L) vs S T k S2 60 b):=by
 obtain⟨x,N,h3,h4,h5,h6⟩:=h1.ok rfl
 rw[hM]at h4;subst h4
 refine⟨fun hc j hj=>RN (by rw[N5 h h2,h3];exact AI hc) hj h5 h6,fun hc=>HW ?_ (by decide) hl⟩
 rw[N5 h h2,h3];exact AB (by rw[hc];simp)
theorem AYu(h:IB L=false)(h2:G3 L [40]=false)(h1:(Ar L).what=1)(hk:T.drop k=Am L):Rw live (EH R L) vs S T k S 0 (Ar L).worth:=
 RN (by rw[WQ h h2,AI h1]) hk (fun _=>rfl) (fun _=>rfl)
theorem ANX(h:IB L=false)(h2:G3 L [40]=false)(h1:(Ar L).what=2)(hk:T.drop k=Am L)(hw:live=true->Bt vs S (Ar L).text=(a,e))(he:live=false->e=0):Rw live (EH R L) vs S T k S e a:=by
 have hp:EH R L=.ok (.var (Ar L).text) (Am L):=by rw[WQ h h2,AB (by omega),AI h1]
 by_cases h0:e=0
 ·subst h0
  exact RN hp hk (fun hv=>by rw[A1,hw hv,AI O]) (fun _=>rfl)
 cases live with
 |false=>exact Ac (he O) h0
 |true=>exact I6 O hp h0 (by rw[A1,hw O,AB h0])
theorem ARz(h:IB L=false)(h2:G3 L [40]=false)(h1:(Ar L).what≠1)(h3:(Ar L).what≠2)(hl:live=true->M9 (EH R L)):Rw live (EH R L) vs S T k S1 60 a:=
 HW (by rw[WQ h h2,AB h1,AB h3]) (by decide) hl
theorem AQS(hl:live=true->M9 (ED R L)):live=true->M9 (CJ R 10 L):=fun hv=>by
 obtain⟨x,M,h1⟩:=hl hv
 unfold ED at h1
 cases hr:CJ R 10 L with
 |bad e=>rw[hr]at h1;cases h1
 |ok y N=>exact⟨y,N,O⟩
theorem AQf(h1:Rw live (CJ R 10 L) vs S T k S1 e a)(he:e≠0)(hl:live=true->M9 (ED R L)):Rw live (ED R L) vs S T k S1 e a:=by
 obtain⟨h3,h4⟩:=h1.no he
 cases live with
 |false=>exact HW (by unfold ED;rw[h3 rfl]) he (fun h=>by cases h)
 |true=>
  obtain⟨x,M,h5,h6⟩:=h4 rfl
  obtain⟨y,N,h7⟩:=hl rfl
  refine I6 O h7 he ?_
  unfold ED at h7
  rw[h5]at h7
  simp only at h7
  split at h7
  ·cases hr:R.asg (Am M)with
   |bad e=>rw[hr]at h7;cases h7
   |ok y N=>
    rw[hr]at h7
    simp only at h7
    split at h7
    ·cases hr2:R.cho (Am N)with
     |bad e=>rw[hr2]at h7;cases h7
     |ok z K=>rw[hr2]at h7;cases h7;rw[A1,h6]
    cases h7
  cases h7;exact h6
theorem ARn(h1:Rw live (CJ R 10 L) vs S T k S1 0 a){M:List Lx}(hM:T.drop k=M)(hq:G3 M [63]=false):Rw live (ED R L) vs S T k S1 0 a:=by
 obtain⟨x,N,h3,h4,h5,h6⟩:=h1.ok rfl
 rw[hM]at h4;subst h4
 exact RN (by unfold ED;rw[h3];exact AB (by rw[hq];simp)) hM h5 h6
theorem Ux{x:Ex}{M:List Lx}(h:CJ R 10 L=.ok x M)(hq:G3 M [63]=true):ED R L=(match R.asg (Am M)with
      | .bad e=>.bad e
      | .ok y L2=>if G3 L2 [58]=true then(match R.cho (Am L2)with| .bad e=>.bad e| .ok z L3=>.ok (.cho x y z) L3)else .bad 60):=by unfold ED;rw[h];exact AI hq
theorem ANg{x:Ex}{M:List Lx}(h:CJ R 10 L=.ok x M)(hq:G3 M [63]=true)(hl:live=true->M9 (ED R L)):live=true->M9 (R.asg (Am M)):=fun hv=>by
 obtain⟨y,N,h1⟩:=hl hv
 rw[Ux h hq]at h1
 cases hr:R.asg (Am M)with
 |bad e=>rw[hr]at h1;cases h1
 |ok y N=>exact⟨y,N,O⟩
variable {x y:Ex} {M N:List Lx}
theorem AXi(h:CJ R 10 L=.ok x M)(hq:G3 M [63]=true)(hx:live=true->A1 vs x S=.ok a S1)(h1:Rw (live&&decide (a≠0)) (R.asg (Am M)) vs S1 T k S2 e b)(he:e≠0)(hl:live=true->M9 (ED R L)){c:Int}{S3:List Dw}:Rw live (ED R L) vs S T k S3 e c:=by
 obtain⟨h3,h4⟩:=h1.no he
 by_cases hd:(live&&decide (a≠0))=true
 ·obtain⟨y,N,h5,h6⟩:=h4 hd
  rw[Ay,BC]at hd
  obtain⟨z,K,h7⟩:=hl hd.1
  refine I6 hd.1 h7 he ?_
  rw[Ux h hq,h5]at h7
  simp only at h7
  split at h7
  ·cases hr2:R.cho (Am N)with
   |bad e=>rw[hr2]at h7;cases h7
   |ok z K=>rw[hr2]at h7;cases h7;rw[A1,hx hd.1];exact(AI hd.2).trans h6
  cases h7
 have h5:=h3 (by simpa using hd)
 exact HW (by rw[Ux h hq,h5]) he hl
theorem ALM(h:CJ R 10 L=.ok x M)(hq:G3 M [63]=true)(h2:R.asg (Am M)=.ok y N)(hc:G3 N [58]=false)(hl:live=true->M9 (ED R L)):Rw live (ED R L) vs S T k S2 60 b:=
 HW (by rw[Ux h hq,h2];exact AB (by rw[hc];simp)) (by decide) hl
theorem RQ(h:CJ R 10 L=.ok x M)(hq:G3 M [63]=true)(h2:R.asg (Am M)=.ok y N)(hc:G3 N [58]=true):ED R L=(match R.cho (Am N)with| .bad e=>.bad e| .ok z L3=>.ok (.cho x y z) L3):=by
 rw[Ux h hq,h2];exact AI hc
theorem AOG(h:CJ R 10 L=.ok x M)(hq:G3 M [63]=true)(h2:R.asg (Am M)=.ok y N)(hc:G3 N [58]=true)(hl:live=true->M9 (ED R L)):live=true->M9 (R.cho (Am N)):=fun hv=>by
 obtain⟨z,K,h1⟩:=hl hv
 rw[RQ h hq h2 hc]at h1
 cases hr:R.cho (Am N)with
 |bad e=>rw[hr]at h1;cases h1
 |ok y N=>exact⟨y,N,O⟩
theorem AJO{S3:List Dw}{c r:Int}(h:CJ R 10 L=.ok x M)(hq:G3 M [63]=true)(h2:R.asg (Am M)=.ok y N)(hc:G3 N [58]=true)(hx:live=true->A1 vs x S=.ok a S1)(hx0:live=false->S1=S)
  (hy:(live&&decide (a≠0))=true->A1 vs y S1=.ok b S2) (Zw:(live&&decide (a≠0))=false->S2=S1) (h3:Rw (live&&decide (a=0)) (R.cho (Am N)) vs S2 T k S3 e c) (hr:live=true->r=if a≠0 then b else c) (hl:live=true->M9 (ED R L)):Rw live (ED R L) vs S T k S3 e r:=by
 by_cases he:e=0
 ·subst he
  obtain⟨z,K,h4,h5,h6,h7⟩:=h3.ok rfl
  refine RN (by rw[RQ h hq h2 hc,h4]) h5 (fun hv=>?_) (fun hv=>?_)
  ·rw[A1,hx hv,hr hv]
   by_cases ha:a=0
   ·rw[AB (by simpa using ha)]
    show(if a≠0 then _ else _:WR)=_
    rw[AB (by simpa using ha),<-Zw (by simp[ha])]
    exact h6 (by simp[hv,ha])
   rw[AI ha]
   show(if a≠0 then _ else _:WR)=_
   rw[AI ha,h7 (by simp[ha])]
   exact hy (by simp[hv,ha])
  rw[h7 (by simp[hv]),Zw (by simp[hv]),hx0 hv]
 obtain⟨h4,h5⟩:=h3.no he
 by_cases hd:(live&&decide (a=0))=true
 ·obtain⟨z,K,h6,h7⟩:=h5 hd
  rw[Ay,BC]at hd
  refine I6 hd.1 (by rw[RQ h hq h2 hc,h6]) he ?_
  rw[A1,hx hd.1]
  show(if a≠0 then _ else _:WR)=_
  rw[AB (by simpa using hd.2),<-Zw (by simp[hd.2])];exact h7
 exact HW (by rw[RQ h hq h2 hc,h4 (by simpa using hd)]) he hl
theorem QV{f:Nat}{next:List Lx->PA}(hf:L.length<=f)(hp:1<=L.length)(h:HQ v L=true):KS v next f x L=(match next (Am L)with| .bad e=>.bad e| .ok y L1=>KS v next (f-1) (.bin (Ar L).text x y) L1):=by
 obtain⟨g,rfl⟩:∃g,f=g+1:=⟨f-1,by omega⟩
 rw[KS,AI h];rfl
theorem AMV{f:Nat}{next:List Lx->PA}(h:HQ v L=false):KS v next f x L=.ok x L:=by
 cases f with
 |zero=>rfl
 |succ f=>rw[KS,AB (by rw[h];simp)]
theorem OX{v:Nat}{next:List Lx->PA}:∀(f:Nat) (x:Ex) (L:List Lx) (z:Ex) (M:List Lx),KS v next f x L=.ok z M->A1 vs x S=.bad e->A1 vs z S=.bad e
 |0,x,L,z,M,h,hw=>by cases h;exact hw
 |f+1,x,L,z,M,h,hw=>by
  rw[KS]at h
  split at h
  ·cases hr:next (Am L)with
   |bad e=>rw[hr]at h;cases h
   |ok y N=>rw[hr]at h;exact OX f _ N z M h (by rw[A1,hw])
  cases h;exact hw
theorem ALu{n:Nat}(hl:live=true->M9 (CJ R (n+1) L)):live=true->M9 (CJ R n L):=fun hv=>by
 obtain⟨z,K,h1⟩:=hl hv
 rw[CJ]at h1
 cases hr:CJ R n L with
 |bad e=>rw[hr]at h1;cases h1
 |ok y N=>exact⟨y,N,O⟩
theorem APt{n:Nat}(h1:Rw live (CJ R n L) vs S T k S1 e b)(he:e≠0)(hl:live=true->M9 (CJ R (n+1) L)):Rw live (CJ R (n+1) L) vs S T k S2 e a:=by
 obtain⟨h3,h4⟩:=h1.no he
 cases live with
 |false=>exact HW (by rw[CJ,h3 O]) he (fun h=>by cases h)
 |true=>
  obtain⟨x,M,h5,h6⟩:=h4 rfl
  obtain⟨y,N,h7⟩:=hl rfl
  refine I6 O h7 he ?_
  rw[CJ,h5]at h7
  exact OX _ _ _ _ _ h7 h6
structure Sl3(live:Bool)(n:Nat)(R:Kl)(P:PA)(vs:List (List UInt8×List UInt8))(S:List Dw)(x:Ex)(M:List Lx)(g:Nat)(S1:List Dw)(a:Int):Prop where
 tot:P=KS (9-n) (CJ R n) g x M
 fu:M.length<=g
 li:live=true->A1 vs x S=.ok a S1
 de:live=false->S1=S
theorem AQh{n g:Nat}(h:Sl3 live n R P vs S x M g S1 a)(hp:1<=M.length)(hb:HQ (9-n) M=true)(hl:live=true->M9 P):live=true->M9 (CJ R n (Am M)):=fun hv=>by
 obtain⟨z,K,h1⟩:=hl hv
 rw[h.tot,QV h.fu hp hb]at h1
 cases hr:CJ R n (Am M)with
 |bad e=>rw[hr]at h1;cases h1
 |ok y N=>exact⟨y,N,O⟩
theorem ATF{n g:Nat}{now:Bool}(h:Sl3 live n R P vs S x M g S1 a)(hp:1<=M.length)(hb:HQ (9-n) M=true)(hl:live=true->M9 P)(h1:Rw now (CJ R n (Am M)) vs S1 T k S2 e b)(he:e≠0)
  (AjZ:now=true->live=true/\(((Ar M).text=[38,38]\/(Ar M).text=[124,124])->¬decide (a≠0)=decide ((Ar M).text=[124,124]))) {S3:List Dw} {c:Int}:Rw live P vs S T k S3 e c:=by
 obtain⟨h3,h4⟩:=h1.no he
 cases hn:now with
 |true=>
  obtain⟨y,N,h5,h6⟩:=h4 hn
  obtain⟨h7,h8⟩:=AjZ hn
  obtain⟨z,K,h9⟩:=hl h7
  refine I6 h7 h9 he ?_
  rw[h.tot,QV h.fu hp hb,h5]at h9
  refine OX _ _ _ _ _ h9 ?_
  rw[A1,h.li h7]
  simp only
  split
  ·rename_i ho;rw[AB (h8 ho),h6]
  rw[h6]
 |false=>
  refine HW ?_ he hl
  rw[h.tot,QV h.fu hp hb,h3 hn]
theorem VT{n g:Nat}{now:Bool}(h:Sl3 live n R P vs S x M g S1 a)(hp:1<=M.length)(hb:HQ (9-n) M=true)(hN:CJ R n (Am M)=.ok y N)(Dg:N.length<=(Am M).length)(CS:(Am M).length+1=M.length){S3:List Dw}{c:Int}
  (hw:live=true->A1 vs (.bin (Ar M).text x y) S=.ok c S3) (hd:live=false->S3=S):Sl3 live n R P vs S (.bin (Ar M).text x y) N (g-1) S3 c:=by
 have:=h.fu
 exact⟨by rw[h.tot,QV h.fu hp hb,hN],by omega,hw,hd⟩
theorem AVN{n g:Nat}(h:Sl3 live n R P vs S x M g S1 a)(hp:1<=M.length)(hb:HQ (9-n) M=true)(hN:CJ R n (Am M)=.ok y N)(hv:live=true)(he:e≠0)(hw:A1 vs (.bin (Ar M).text x y) S=.bad e)(hl:live=true->M9 P){S3:List Dw}{c:Int}:Rw live P vs S T k S3 e c:=by
 obtain⟨z,K,h9⟩:=hl hv
 refine I6 hv h9 he ?_
 rw[h.tot,QV h.fu hp hb,hN]at h9
 exact OX _ _ _ _ _ h9 hw
theorem AUP{n g:Nat}(h:Sl3 live n R P vs S x M g S1 a)(hk:T.drop k=M)(hb:HQ (9-n) M=false):Rw live P vs S T k S1 0 a:=
 RN (by rw[h.tot,AMV hb]) hk h.li h.de
end
def Kt(t:List UInt8):Lx×Nat:=(if Ck t=none then Mg else⟨[48],(FG (DH t).1 t t.length 0 (DH t).2).1,1⟩,(FG (DH t).1 t t.length 0 (DH t).2).2)
structure Wu(t:List UInt8)(u j g:Nat)(n:Int):Prop where
 hu:u=16\/u=8\/u=10
 hj:j<=t.length
 go:FG (DH t).1 t t.length 0 (DH t).2=FG u t g n j
 fu:t.length-j<=g
 ne:(FG (DH t).1 t t.length 0 (DH t).2).2≠(DH t).2
section
variable {t:List UInt8} {u j g:Nat} {n:Int}
theorem UP(hu:u=16\/u=8\/u=10)(hj:j<t.length)(hb:Es (AG t j 0)<(u:Int))(hf:t.length-j<=g):FG u t g n j=FG u t (g-1) (F4 (F4 (n * (u:Int))+Es (AG t j 0))) (j+1):=by
 obtain⟨h1,h2,_⟩:=ACo hu (AG t j 0)
 rw[Y8 hf hj (fun h=>by have:=h1.1 h;omega),h2 hb]
theorem ACH(hu:u=16\/u=8\/u=10)(h:¬(j<t.length/\Es (AG t j 0)<(u:Int))):FG u t g n j=(n,j):=by
 by_cases hj:j<t.length
 ·exact Xw ((ACo hu (AG t j 0)).1.2 (by have:¬Es (AG t j 0)<(u:Int):=fun h2=>h ⟨hj,h2⟩;omega))
 exact ADT hj
theorem AQj(h0:¬AG t 0 0=48)(Dk:0<t.length)(hd:BO (AG t 0 0)=true):Wu t 10 0 t.length 0:=by
 have hu:=Uv h0
 have hb:Es (AG t 0 0)<10:=(show ∀c:UInt8,BO c=true->Es c<10 from G7 (by decide+kernel)) _ hd
 refine⟨.inr (.inr O),Aw _,by rw[hu],by omega,?_⟩
 rw[hu]
 show(FG 10 t t.length 0 0).2≠0
 rw[UP (.inr (.inr O)) Dk hb (by omega)]
 have:=Qt (u:=10) (s:=t) (t.length-1) (F4 (F4 (0 * ((10:Nat):Int))+Es (AG t 0 0))) (0+1) Dk
 omega
theorem AQb(h0:AG t 0 0=48)(Dk:0<t.length)(hx:¬(1<t.length/\(AG t 1 0=120\/AG t 1 0=88))):Wu t 8 1 (t.length-1) 0:=by
 have hu:DH t=(8,0):=by
  unfold DH
  rw[AI h0,AB (fun h=>hx ⟨h.1,(AWP _).1 h.2⟩)]
 have hb:Es (AG t 0 0)<((8:Nat):Int):=by rw[h0];decide
 have h1:FG 8 t t.length 0 0=FG 8 t (t.length-1) 0 1:=by
  rw[UP (.inr (.inl O)) Dk hb (by omega),h0];rfl
 refine⟨.inr (.inl O),Dk,by rw[hu];exact h1,A5 _,?_⟩
 rw[hu]
 show(FG 8 t t.length 0 0).2≠0
 rw[h1]
 have:=Qt (u:=8) (s:=t) (t.length-1) 0 1 Dk
 omega
theorem ARA(h0:AG t 0 0=48)(hx:1<t.length/\(AG t 1 0=120\/AG t 1 0=88)):DH t=(16,2):=by
 unfold DH
 rw[AI h0,AI ⟨hx.1,(AWP _).2 hx.2⟩]
theorem AQv(h0:AG t 0 0=48)(hx:1<t.length/\(AG t 1 0=120\/AG t 1 0=88))(hb:2<t.length/\Es (AG t 2 0)<16):Wu t 16 2 t.length 0:=by
 have hu:=ARA h0 hx
 refine⟨.inl O,by omega,by rw[hu],by omega,?_⟩
 rw[hu]
 show(FG 16 t t.length 0 2).2≠2
 rw[UP (.inl O) hb.1 hb.2 (by omega)]
 have:=Qt (u:=16) (s:=t) (t.length-1) (F4 (F4 (0 * ((16:Nat):Int))+Es (AG t 2 0))) (2+1) hb.1
 omega
theorem AFs(h0:AG t 0 0=48)(hx:1<t.length/\(AG t 1 0=120\/AG t 1 0=88))(hb:¬(2<t.length/\Es (AG t 2 0)<16)):Kt t=(Mg,2):=by
 have hu:=ARA h0 hx
 have h1:FG (DH t).1 t t.length 0 (DH t).2=(0,2):=by rw[hu];exact ACH (.inl O) hb
 unfold Kt Ck
 simp only[h1]
 rw[AI (by rw[AI (.inl (by rw[hu]))])]
theorem Wu.step(h:Wu t u j g n)(hj:j<t.length)(hb:Es (AG t j 0)<(u:Int)):Wu t u (j+1) (g-1) (F4 (F4 (n * (u:Int))+Es (AG t j 0))):=by
 have h4:=h.fu
 exact⟨h.hu,hj,by rw[h.go,UP h.hu hj hb h.fu],by omega,h.ne⟩
theorem Wu.stop(h:Wu t u j g n)(hs:¬(j<t.length/\Es (AG t j 0)<(u:Int))):FG (DH t).1 t t.length 0 (DH t).2=(n,j)/\j≠(DH t).2:=by
 have h1:=h.go.trans (ACH h.hu hs)
 exact⟨h1,fun h2=>h.ne (by rw[h1];exact h2)⟩
theorem AUB(h:FG (DH t).1 t t.length 0 (DH t).2=(n,j))(Dk:j≠(DH t).2):(j<t.length/\(CV (AG t j 0)||BO (AG t j 0))=true->Kt t=(Mg,j))/\(¬(j<t.length/\(CV (AG t j 0)||BO (AG t j 0))=true)->Kt t=(⟨[48],n,1⟩,j)):=by
 unfold Kt Ck
 simp only[h]
 refine⟨fun⟨h1,h2⟩=>?_,fun h1=>?_⟩
 ·rw[AI (by rw[AI (.inr ⟨h1,by rw[YI h1];exact h2⟩)])]
 rw[AB]
 rw[AB]
 ·simp
 rintro(h2|⟨h2,h3⟩)
 ·exact Dk h2
 exact h1 ⟨h2,by rw[<-YI h2];exact h3⟩
end
def Nn(t:List UInt8):Nat:=if t≠[]/\BO (AG t 0 0)=true then(Kt t).2 else(Bp t).2
theorem AJz{t:List UInt8}(Dk:t≠[])(hd:BO (AG t 0 0)=true):Qb (Bp t).1=Qb (Kt t).1/\Nn t=(Kt t).2:=by
 refine⟨?_,by unfold Nn;rw[AI ⟨Dk,hd⟩]⟩
 rw[SA Dk hd]
 unfold Kt Ck
 simp only
 split
 ·rename_i h;rw[AI (by rw[h])]
 rename_i r h
 rw[AB (by rw[h];simp)]
 split at h
 ·cases h
 cases h;rfl
theorem AFO{t:List UInt8}(h:¬(t≠[]/\BO (AG t 0 0)=true)):Nn t=(Bp t).2:=by unfold Nn;rw[AB h]
theorem AGR{t:List UInt8}(h:Ed (Bp t).1=false):Nn t=(Bp t).2:=by
 unfold Nn
 split
 ·rename_i hc
  rw[SA hc.1 hc.2]at h ⊢
  unfold Kt
  cases hn:Ck t with
  |none=>rw[hn]at h;cases h
  |some r=>
   unfold Ck at hn
   simp only at hn
   split at hn
   ·cases hn
   cases hn;rfl
 rfl
theorem X6{t:List UInt8}(hm:1<=m)(hl:m<t.length)(h:CF (t.take m)=true):CF (t.take (m+1))=(CV (AG t m 0)||BO (AG t m 0)):=by
 obtain⟨h1,h2⟩:=Sc.1 h
 have hl2:(t.take m).length=m:=by rw[BL];omega
 have hl3:(t.take (m+1)).length=m+1:=by rw[BL];omega
 have hn:∀i k,i<k->AG (t.take k) i 0=AG t i 0:=fun i k hk=>by
  unfold AG;rw[Cy,Cy,List.getElem?_take,AI hk]
 have hk:XJ (t.take (m+1)) m=(CV (AG t m 0)||BO (AG t m 0)):=by
  unfold XJ;rw[hn m (m+1) (by omega),DC (show ¬(m:Int)=0 by omega)];simp
 rw[Bool.eq_iff_iff,Sc,<-hk]
 constructor
 ·intro h3;exact h3.2 m (by omega)
 intro h3
 refine⟨BV.1 (by omega),fun i hi=>?_⟩
 rcases Nat.lt_or_ge i m with h4|h4
 ·have:=h2 i (by omega)
  unfold XJ at this ⊢
  rw[hn i m h4]at this;rw[hn i (m+1) (by omega)];exact this
 rw[show i=m by omega];exact h3
theorem Pg{t:List UInt8}(h:0<t.length):CF (t.take 1)=CV (AG t 0 0):=by
 cases t with
 |nil=>simp at h
 |cons c r=>exact(show ∀c:UInt8,CF [c]=CV c from G7 (by decide+kernel)) c
theorem AFl{t:List UInt8}(Dk:t≠[])(hd:BO (AG t 0 0)=false)(hl:CV (AG t 0 0)=true):Bp t=(⟨t.take (Dc t.length 1 t),0,2⟩,Dc t.length 1 t):=by
 rw[Rv Dk hd,AI (by rw[Pg (BV.2 Dk)];exact hl)]
theorem AFE{t:List UInt8}(Dk:t≠[])(hd:BO (AG t 0 0)=false)(hl:CV (AG t 0 0)=false):
  (D3.find? (fun o=>Dl t o)=none->Bp t=(Mg,0))/\∀o,D3.find? (fun o=>Dl t o)=some o->Bp t=(⟨o,0,3⟩,o.length):=by
 have h1:=ABH t
 rw[Rv Dk hd,AB (by rw[Pg (BV.2 Dk),hl];simp)]
 refine⟨fun h=>?_,fun o h=>?_⟩
 ·rw[h]at h1;exact AI h1.1
 rw[h]at h1
 have h2:=AAS o (List.mem_of_find?_eq_some h)
 have h3:Fq t (min 3 t.length)=o.length:=h1.1
 rw[AB (by omega),h1.2,h3];rfl
theorem ASQ{t:List UInt8}{k:Nat}(hk:k<35)(Cz:(D3.take k).find? (fun o=>Dl t o)=none)(h:Dl t (AG D3 k [])=true):D3.find? (fun o=>Dl t o)=some (AG D3 k []):=by
 have hl:D3.length=35:=rfl
 conv=>lhs;rw[<-Iu k D3,Bg [] (by omega),List.find?_append,Cz]
 rw[Option.none_or,List.find?_cons_of_pos h]
theorem AMy{t:List UInt8}{k:Nat}(hk:k<35)(Cz:(D3.take k).find? (fun o=>Dl t o)=none)(h:Dl t (AG D3 k [])=false):(D3.take (k+1)).find? (fun o=>Dl t o)=none:=by
 have hl:D3.length=35:=rfl
 rw[C6 [] (by omega),List.find?_append,Cz,Option.none_or,List.find?_singleton,AB (by rw[h];simp)]
theorem ATy{s:List UInt8}{a:Nat}(ha:a<s.length)(h:C1.contains (AG s a 0)=true):Lib.trimLeftS (s.drop (a+1)) C1=Lib.trimLeftS (s.drop a) C1:=by
 conv=>rhs;rw[Bg 0 ha]
 unfold Lib.trimLeftS
 rw[List.dropWhile_cons_of_pos h]
theorem AIB{s:List UInt8}{a:Nat}(h:¬(a<s.length/\C1.contains (AG s a 0)=true)):Lib.trimLeftS (s.drop a) C1=s.drop a:=by
 unfold Lib.trimLeftS
 rcases Nat.lt_or_ge a s.length with ha|ha
 ·rw[Bg 0 ha,List.dropWhile_cons_of_neg (fun h2=>h ⟨ha,h2⟩)]
 rw[NR ha];rfl
theorem AZH{s:List UInt8}{a:Nat}(h:(decide ((a:Int)+(o.length:Int)<=(s.length:Int))&&decide ((s.drop a).take o.length=o))=true):Dl (s.drop a) o=true:=by
 rw[Ay]at h;exact h.2
theorem AYQ{s:List UInt8}{a:Nat}(ho:1<=o.length)(h:(decide ((a:Int)+(o.length:Int)<=(s.length:Int))&&decide ((s.drop a).take o.length=o))=false):Dl (s.drop a) o=false:=by
 rw[Bool.eq_false_iff]
 intro h2
 have h3:(s.drop a).take o.length=o:=BM h2
 have h4:=B3 List.length h3
 rw[BL,BA]at h4
 rw[BK (show(a:Int)+(o.length:Int)<=(s.length:Int) by omega),BK h3]at h
 cases h
theorem ARZ{s:List UInt8}{D:List Lx}{a g:Nat}(h:DM s=D++Li g (Lib.trimLeftS (s.drop a) C1))(hg:(Lib.trimLeftS (s.drop a) C1).length<g)(ha:a<=s.length):
  (Ed (Bp (Lib.trimLeftS (s.drop a) C1)).1=true->DM s=D++[(Bp (Lib.trimLeftS (s.drop a) C1)).1])∧
  (Ed (Bp (Lib.trimLeftS (s.drop a) C1)).1=false->∀p,p=s.length-(Lib.trimLeftS (s.drop a) C1).length+Nn (Lib.trimLeftS (s.drop a) C1)->DM s=(D++[(Bp (Lib.trimLeftS (s.drop a) C1)).1])++Li (g-1) (Lib.trimLeftS (s.drop p) C1)/\(Lib.trimLeftS (s.drop p) C1).length<g-1/\p<=s.length/\a<p):=by
 obtain⟨f,rfl⟩:∃f,g=f+1:=⟨g-1,by omega⟩
 have h1:∃b,Lib.trimLeftS (s.drop a) C1=s.drop b/\a<=b/\b<=s.length:=by
  obtain⟨r,hr⟩:=List.dropWhile_suffix (l:=s.drop a) (fun c=>C1.contains c)
  have hl:=B3 List.length hr
  rw[Bh,BA]at hl
  have MG:(Lib.trimLeftS (s.drop a) C1).length=((s.drop a).dropWhile fun c=>C1.contains c).length:=rfl
  refine⟨s.length-(Lib.trimLeftS (s.drop a) C1).length,?_,by omega,by omega⟩
  have h2:s.drop (s.length-(Lib.trimLeftS (s.drop a) C1).length)=(s.drop a).drop r.length:=by
   rw[Cp];congr 1;omega
  have h3:=B3 (List.drop r.length) hr
  rw[List.drop_left]at h3
  rw[h2,<-h3];rfl
 obtain⟨b,hb,hab,hbl⟩:=h1
 rw[hb]at h hg ⊢
 rw[Li]at h
 have Dg:(s.drop b).length=s.length-b:=BA
 refine⟨fun hs=>by rw[h,AI hs],fun hs p hp=>?_⟩
 rw[AGR hs]at hp
 have h3:=Lr hs
 have h4:s.drop p=(s.drop b).drop (Bp (s.drop b)).2:=by rw[Cp];congr 1;omega
 have h5:=E6 (s.drop p) C1
 rw[BA]at h5
 refine⟨by rw[h,AB (by rw[hs];simp),h4];simp,by omega,by omega,by omega⟩
theorem Xp(s:List UInt8):DM s=[]++Li (s.length+1) (Lib.trimLeftS (s.drop 0) C1)/\(Lib.trimLeftS (s.drop 0) C1).length<s.length+1:=by
 have:=E6 s C1
 exact⟨O,by rw[PB];omega⟩
theorem AIJ{x:Lx}(hx:T8 x):(decide (x.what=4)||decide (tkT x=[]))=Ed x:=by
 unfold Ed
 by_cases h4:x.what=4
 ·rw[BK h4];simp
 rw[DC h4,Bool.false_or,Bool.or_false]
 have h1:=AAX hx
 unfold JA at h1
 rw[AB h4]at h1
 exact decide_eq_decide.2 h1
theorem AIl{t:List UInt8}(h:(decide (t≠[])&&C1.contains (AG t 0 0))=true):Lib.trimLeftS (t.drop 1) C1=Lib.trimLeftS t C1/\0<t.length:=by
 rw[Ay,BC]at h
 cases t with
 |nil=>exact Ac O h.1
 |cons c r=>exact⟨(List.dropWhile_cons_of_pos (p:=fun c=>C1.contains c) h.2).symm,Nat.succ_pos _⟩
theorem AaF{t:List UInt8}(h:(decide (t≠[])&&C1.contains (AG t 0 0))=false):Lib.trimLeftS t C1=t:=by
 cases t with
 |nil=>rfl
 |cons c r=>
  have h:(true&&C1.contains c)=false:=h
  exact List.dropWhile_cons_of_neg (p:=fun c=>C1.contains c) (by rw[Bool.true_and]at h;rw[h];simp)
theorem IR{t:List UInt8}(h:t≠[]):t=t.take (t.length-1)++[AG t (t.length-1) 0]:=by
 have hp:=BV.2 h
 conv=>lhs;rw[<-Iu (t.length-1) t,Bg 0 (by omega)]
 rw[show t.length-1+1=t.length by omega,K7]
theorem AJK{t:List UInt8}{k:Nat}(hk:k=t.length-1)(h:(decide (t≠[])&&C1.contains (AG t k 0))=true):Lib.trimRightS (t.take k) C1=Lib.trimRightS t C1/\0<t.length:=by
 subst hk
 rw[Ay,BC]at h
 refine⟨?_,BV.2 h.1⟩
 conv=>rhs;rw[IR h.1]
 unfold Lib.trimRightS
 rw[List.reverse_append,List.reverse_singleton,List.singleton_append,List.dropWhile_cons_of_pos (p:=fun c=>C1.contains c) h.2]
theorem AYl{t:List UInt8}{k:Nat}(hk:k=t.length-1)(h:(decide (t≠[])&&C1.contains (AG t k 0))=false):Lib.trimRightS t C1=t:=by
 subst hk
 by_cases hn:t=[]
 ·subst hn;rfl
 rw[BK hn,Bool.true_and]at h
 conv=>lhs;rw[IR hn]
 unfold Lib.trimRightS
 rw[List.reverse_append,List.reverse_singleton,List.singleton_append,List.dropWhile_cons_of_neg (p:=fun c=>C1.contains c) (by rw[h];simp),List.reverse_cons,List.reverse_reverse]
 exact(IR hn).symm
def AJy(s:List UInt8):List UInt8:=if AG s 0 0=45\/AG s 0 0=43 then s.drop 1 else s
theorem AOJ{s:List UInt8}{b:Bool}(h:(decide (AG s 0 0=45)||decide (AG s 0 0=43))=b):AJy s=if b=true then s.drop 1 else s:=by
 rw[<-h];unfold AJy
 by_cases h1:AG s 0 0=45<;>by_cases h2:AG s 0 0=43<;>simp[h1,h2]
section
variable {t s r:List UInt8}
theorem AXD(h:Lib.trimS t C1=[]):HM t=(0,0):=by
 unfold HM;simp only;rw[AI h]
theorem AWV(hs:s=Lib.trimS t C1)(Dk:s≠[])(hr:r=AJy s):HM t=if r=[]\/BO (AG r 0 0)=false then(0,60)else match Ck r with
      |none=>(0,60)
      |some q=>if q.2=r.length then(if AG s 0 0=45 then F4 (-q.1)else q.1,0)else(0,60):=by
  subst hs hr
  unfold HM;simp only;rw[AB Dk];rfl
theorem AcX(hs:s=Lib.trimS t C1)(Dk:s≠[])(hr:r=AJy s)(h:(decide (r=[])|| !BO (AG r 0 0))=true):HM t=(0,60):=by
 rw[AWV hs Dk hr,AI]
 rw[C4,BC,FJ]at h;exact h
theorem AYO(h:(decide (r=[])|| !BO (AG r 0 0))=false):r≠[]/\BO (AG r 0 0)=true:=by
 rw[Bool.or_eq_false_iff,CA,Bool.not_eq_false']at h;exact h
theorem ANh(hs:s=Lib.trimS t C1)(Dk:s≠[])(hr:r=AJy s)(h:r≠[]/\BO (AG r 0 0)=true){b:Bool}(hb:(decide ((Kt r).1.what=4)||decide (((0+(Kt r).2:Nat):Int)≠(r.length:Int)))=b):HM t=if b=true then(0,60)else(if AG s 0 0=45 then F4 (-(Kt r).1.worth)else(Kt r).1.worth,0):=by
 rw[AWV hs Dk hr,AB (by rintro(h1|h1);exact h.1 h1;rw[h.2]at h1;cases h1)]
 rw[Nat.zero_add]at hb
 rw[<-hb]
 cases hn:Ck r with
 |none=>
  have hK:(Kt r).1=Mg:=by unfold Kt;rw[hn];rfl
  rw[hK];simp[Mg]
 |some q=>
  have hq:q=FG (DH r).1 r r.length 0 (DH r).2:=by
   unfold Ck at hn
   simp only at hn
   split at hn
   ·cases hn
   exact(O3 hn).symm
  have hK:Kt r=(⟨[48],q.1,1⟩,q.2):=by unfold Kt;rw[hn,<-hq];rfl
  rw[hK]
  simp only
  by_cases h2:q.2=r.length
  ·rw[AI h2,AB (c:=(decide ((1:Nat)=4)||decide ((q.2:Int)≠(r.length:Int)))=true) (by simp[h2])]
  rw[AB h2,AI (c:=(decide ((1:Nat)=4)||decide ((q.2:Int)≠(r.length:Int)))=true) (by simp;omega)]
end
def KT:List (List UInt8):=[[124,124],[38,38],[124],[94],[38],[61,61,32,33,61],[60,32,60,61,32,62,32,62,61],[60,60,32,62,62],[43,32,45],[42,32,47,32,37]]
def H1(l op:List UInt8):Nat->Nat->Nat->Bool
 |0,_,_=>false
 |f+1,k,m=>if k<l.length then(if AG l k 0=32 then(if(l.drop m).take (k-m)=op then true else H1 l op f (k+1) (k+1))else H1 l op f (k+1) m)else false
def RF(i:Nat):List UInt8:=AG KT i []++[32]
theorem AOm(op:List UInt8):H1 (RF 0) op 12 0 0=(if[124,124]=op then true else false)/\H1 (RF 1) op 12 0 0=(if[38,38]=op then true else false)/\H1 (RF 2) op 12 0 0=(if[124]=op then true else false)/\H1 (RF 3) op 12 0 0=(if[94]=op then true else false)/\H1 (RF 4) op 12 0 0=(if[38]=op then true else false)
  /\H1 (RF 5) op 12 0 0=(if[61,61]=op then true else if[33,61]=op then true else false)/\H1 (RF 6) op 12 0 0=(if[60]=op then true else if[60,61]=op then true else if[62]=op then true else if[62,61]=op then true else false)/\H1 (RF 7) op 12 0 0=(if[60,60]=op then true else if[62,62]=op then true else false)
  /\H1 (RF 8) op 12 0 0=(if[43]=op then true else if[45]=op then true else false)/\H1 (RF 9) op 12 0 0=(if[42]=op then true else if[47]=op then true else if[37]=op then true else false):=⟨O,O,O,O,O,O,O,O,O,O⟩
theorem Fu{c:Prop}[Decidable c]{b:Bool}(h:(if c then true else b)=false):¬c/\b=false:=by
 by_cases hc:c
 ·rw[AI hc]at h;cases h
 rw[AB hc]at h;exact⟨hc,h⟩
theorem AMf(hi:i<10)(Cz:∀j,j<i->H1 (RF j) op 12 0 0=false)(h:H1 (RF i) op 12 0 0=true):NV op=i+3:=by
 obtain⟨r0,r1,r2,r3,r4,r5,r6,r7,r8,r9⟩:=AOm op
 unfold NV
 match i,hi with
 |0,_=>rw[r0]at h;repeat' (split at h);all_goals first | (cases h;done)|simp[*]
 |1,_=>
  have n0:=r0.symm.trans (Cz 0 (by omega))
  rw[r1]at h;repeat' (split at h);all_goals first | (cases h;done)|simp_all
 |2,_=>
  have n0:=r0.symm.trans (Cz 0 (by omega));have n1:=r1.symm.trans (Cz 1 (by omega))
  rw[r2]at h;repeat' (split at h);all_goals first | (cases h;done)|simp_all
 |3,_=>
  have n0:=r0.symm.trans (Cz 0 (by omega));have n1:=r1.symm.trans (Cz 1 (by omega));have n2:=r2.symm.trans (Cz 2 (by omega))
  rw[r3]at h;repeat' (split at h);all_goals first | (cases h;done)|simp_all
 |4,_=>
  rw[r4]at h
  by_cases hc:[38]=op
  ·subst hc;rfl
  rw[AB hc]at h;cases h
 |5,_=>
  rw[r5]at h;repeat' (split at h)
  all_goals first | (cases h;done)| (rename_i hc;subst hc;rfl)
 |6,_=>
  rw[r6]at h;repeat' (split at h)
  all_goals first | (cases h;done)| (rename_i hc;subst hc;rfl)
 |7,_=>
  rw[r7]at h;repeat' (split at h)
  all_goals first | (cases h;done)| (rename_i hc;subst hc;rfl)
 |8,_=>
  rw[r8]at h;repeat' (split at h)
  all_goals first | (cases h;done)| (rename_i hc;subst hc;rfl)
 |9,_=>
  rw[r9]at h;repeat' (split at h)
  all_goals first | (cases h;done)| (rename_i hc;subst hc;rfl)
theorem AKU(Cz:∀j,j<10->H1 (RF j) op 12 0 0=false):NV op=0:=by
 obtain⟨r0,r1,r2,r3,r4,r5,r6,r7,r8,r9⟩:=AOm op
 have n0:=Fu (r0.symm.trans (Cz 0 (by omega)))
 have n1:=Fu (r1.symm.trans (Cz 1 (by omega)))
 have n2:=Fu (r2.symm.trans (Cz 2 (by omega)))
 have n3:=Fu (r3.symm.trans (Cz 3 (by omega)))
 have n4:=Fu (r4.symm.trans (Cz 4 (by omega)))
 have n5:=Fu (r5.symm.trans (Cz 5 (by omega)))
 have n5':=Fu n5.2
 have n6:=Fu (r6.symm.trans (Cz 6 (by omega)))
 have n6':=Fu n6.2
 have n6a:=Fu n6'.2
 have n6b:=Fu n6a.2
 have n7:=Fu (r7.symm.trans (Cz 7 (by omega)))
 have n7':=Fu n7.2
 have n8:=Fu (r8.symm.trans (Cz 8 (by omega)))
 have n8':=Fu n8.2
 have n9:=Fu (r9.symm.trans (Cz 9 (by omega)))
 have n9':=Fu n9.2
 have n9a:=Fu n9'.2
 unfold NV
 rw[AB n0.1,AB n1.1,AB n2.1,AB n3.1,AB n4.1,AB n5.1,AB n5'.1,AB n6.1,AB n6'.1,AB n6a.1,AB n6b.1,AB n7.1,AB n7'.1,AB n8.1,AB n8'.1,AB n9.1,AB n9'.1,AB n9a.1]
def PY(live:Bool)(op:List UInt8)(a:Int):Bool:=if op=[38,38]then live&&decide (a≠0)else if op=[124,124]then live&&decide (a=0)else live
section
variable {live:Bool} {P:PA} {vs:List (List UInt8×List UInt8)} {S S1 S2:List Dw} {T M:List Lx} {k e g n:Nat} {a b:Int} {R:Kl} {x:Ex} {L:List Lx}
theorem Wb(h:PY live op a=true):live=true:=by
 unfold PY at h
 split at h
 ·rw[Ay]at h;exact h.1
 split at h
 ·rw[Ay]at h;exact h.1
 exact h
theorem ANr(h:PY live op a=true):(op=[38,38]\/op=[124,124])->¬decide (a≠0)=decide (op=[124,124]):=by
 unfold PY at h
 rintro(rfl|rfl)
 ·simp at h;simp[h.2]
 simp at h;simp[h.2]
theorem ALo(hl:live=true->M9 (CJ R (n+1) L))(h:Rw live (CJ R n L) vs S T k S1 e a):(e≠0->Rw live (CJ R (n+1) L) vs S T k S1 e a)/\∃x,e=0->Sl3 live n R (CJ R (n+1) L) vs S x (T.drop k) (T.drop k).length S1 a:=by
 refine⟨fun he=>APt h he hl,?_⟩
 by_cases he:e=0
 ·subst he
  obtain⟨x,M,h1,h2,h3,h4⟩:=h.ok rfl
  exact⟨x,fun _=>⟨by rw[CJ,h1,h2],A5 _,h3,h4⟩⟩
 exact⟨.num 0,fun h0=>Ac h0 he⟩
theorem UX(hg:Ni (Am M) (CJ R n (Am M)))(h1:Rw live (CJ R n (Am M)) vs S T k S2 0 b):∃y N,CJ R n (Am M)=.ok y N/\T.drop k=N/\N.length<=(Am M).length/\1<=N.length/\(live=true->A1 vs y S=.ok b S2)/\(live=false->S2=S):=by
 obtain⟨y,N,h2,h3,h4,h5⟩:=h1.ok rfl
 have:=hg y N h2
 exact⟨y,N,h2,h3,this.2,this.1.pos,h4,h5⟩
theorem ZI(h:Sl3 live n R P vs S x M g S1 a)(hp:1<=M.length)(CS:(Am M).length+1=M.length)(hb:HQ (9-n) M=true)(hg:Ni (Am M) (CJ R n (Am M)))(LS:(Ar M).text=op)(ho:op=[38,38]\/op=[124,124])
  (h1:Rw (PY live op a) (CJ R n (Am M)) vs S1 T k S2 0 b) {y:Bool} (hy:y=if op=[124,124]then decide (a≠0)||decide (b≠0)else decide (a≠0)&&decide (b≠0)):∃x',Sl3 live n R P vs S x' (T.drop k) (g-1) S2 (Zy y):=by
 obtain⟨z,N,h2,h3,h4,h5,h6,h7⟩:=UX hg h1
 rw[h3]
 refine⟨_,VT (now:=live) h hp hb h2 h4 CS (fun hv=>?_) (fun hv=>?_)⟩
 ·rw[A1,h.li hv]
  simp only
  rw[LS,AI ho]
  rcases ho with rfl|rfl
  ·by_cases ha:a=0
   ·rw[AI (by simp[ha]),h7 (by unfold PY;simp[ha]),hy];simp[ha]
   rw[AB (by simp[ha]),h6 (by unfold PY;simp[ha,hv]),hy];simp[ha]
  by_cases ha:a=0
  ·rw[AB (by simp[ha]),h6 (by unfold PY;simp[ha,hv]),hy];simp[ha]
  rw[AI (by simp[ha]),h7 (by unfold PY;simp[ha]),hy];simp[ha]
 rw[h7 (by cases hn:PY live op a with
  |false=>rfl
  |true=>rw[Wb hn]at hv;cases hv),h.de hv]
theorem AMB(h:Sl3 live n R P vs S x M g S1 a)(hp:1<=M.length)(CS:(Am M).length+1=M.length)(hb:HQ (9-n) M=true)(hg:Ni (Am M) (CJ R n (Am M)))(LS:(Ar M).text=op)(ho:¬(op=[38,38]\/op=[124,124]))
  (h1:Rw live (CJ R n (Am M)) vs S1 T k S2 0 b) (hv:live=true) (hl:live=true->M9 P):((CO op a b).2≠0->Rw live P vs S T k S2 (CO op a b).2 (CO op a b).1)/\∃x',(CO op a b).2=0->Sl3 live n R P vs S x' (T.drop k) (g-1) S2 (CO op a b).1:=by
 obtain⟨z,N,h2,h3,h4,h5,h6,h7⟩:=UX hg h1
 have hw:A1 vs (.bin (Ar M).text x z) S=if(CO op a b).2=0 then .ok (CO op a b).1 S2 else .bad (CO op a b).2:=by
  rw[A1,h.li hv]
  simp only
  rw[LS,AB ho,h6 hv]
 rw[h3]
 refine⟨fun he=>?_,_,fun he=>VT (now:=live) h hp hb h2 h4 CS (fun _=>by rw[hw,AI he]) (fun h=>by rw[hv]at h;cases h)⟩
 exact AVN h hp hb h2 hv he (by rw[hw,AB he]) hl
theorem AQY(h:Sl3 live n R P vs S x M g S1 a)(hp:1<=M.length)(CS:(Am M).length+1=M.length)(hb:HQ (9-n) M=true)(hg:Ni (Am M) (CJ R n (Am M)))(h1:Rw live (CJ R n (Am M)) vs S1 T k S2 0 b)(hv:live=false):∃x',Sl3 live n R P vs S x' (T.drop k) (g-1) S2 a:=by
 obtain⟨z,N,h2,h3,h4,h5,h6,h7⟩:=UX hg h1
 rw[h3]
 exact⟨_,VT (now:=live) h hp hb h2 h4 CS (fun h=>by rw[hv]at h;cases h) (fun _=>by rw[h7 hv,h.de hv])⟩
theorem AOw(ho:¬(op=[38,38]\/op=[124,124])):PY live op a=live:=by
 unfold PY
 rw[AB (fun h=>ho (.inl h)),AB (fun h=>ho (.inr h))]
theorem ASd:∀t∈D3,∀v,v<10->NV t=v+3->t=[38,38]\/t=[124,124]\/t∈ASB:=by decide+kernel
end
theorem Xn(s:List UInt8):(Ar (DM s)).what=0↔Lib.trimS s C1=[]:=by
 have h1:Ar (DM s)=(Bp (Lib.trimLeftS s C1)).1:=rfl
 have h2:Lib.trimS s C1=[]↔Lib.trimLeftS s C1=[]:=by
  rw[AFn]
  unfold Lib.trimLeftS
  rw[KG,List.all_eq_true]
 rw[h1,h2]
 constructor
 ·intro h;exact Classical.byContradiction fun hn=>AFU hn h
 intro h;rw[h];rfl
theorem ACW{x:Lx}(hx:T8 x){b:Bool}(h:(decide (tkT x=[])&& !decide (x.what=4))=b):decide (x.what=0)=b:=by
 rw[<-h]
 have h1:=AAX hx
 unfold JA at h1
 by_cases h4:x.what=4
 ·rw[BK h4,DC (by omega)];simp
 rw[AB h4]at h1
 rw[DC h4,Bool.not_false,Bool.and_true]
 exact decide_eq_decide.2 h1.symm
def ADf(live:Bool)(s:List UInt8)(vs:List (List UInt8×List UInt8))(a:Int)(S:List Dw)(e:Nat):Prop:=(live=false->Dy s=.bad e\/(e=0/\∃x,Dy s=.ok x))/\(live=true->Fc s vs=(a,S,e))
section
variable {live:Bool} {s:List UInt8} {vs:List (List UInt8×List UInt8)} {a b:Int} {S1:List Dw} {e k:Nat}
theorem AKN(h:Lib.trimS s C1=[]):ADf live s vs 0 [] 0:=by
 have hr:Dy s=.ok (.num 0):=by unfold Dy;rw[AI h]
 exact⟨fun _=>.inr ⟨O,_,hr⟩,fun _=>by unfold Fc;rw[hr];rfl⟩
theorem OE(h:¬Lib.trimS s C1=[]):Dy s=match(FM 25).asg (DM s)with
  | .bad e=>.bad e
  | .ok x L=>if(Ar L).what=0 then .ok x else .bad 60:=by
 unfold Dy;exact AB h
theorem ASI(h:¬Lib.trimS s C1=[])(hl:live=true->∃x,Dy s=.ok x):live=true->M9 ((FM 25).asg (DM s)):=fun hv=>by
 obtain⟨x,hx⟩:=hl hv
 rw[OE h]at hx
 cases hr:(FM 25).asg (DM s)with
 |bad e=>rw[hr]at hx;cases hx
 |ok y L=>exact⟨y,L,O⟩
theorem ARm(h:¬Lib.trimS s C1=[])(hl:live=true->∃x,Dy s=.ok x)(hr:Rw live ((FM 25).asg (DM s)) vs [] (DM s) k S1 e b)(he:e≠0):ADf live s vs 0 [] e:=by
 obtain⟨h1,h2⟩:=hr.no he
 refine⟨fun hv=>.inl (by rw[OE h,h1 hv]),fun hv=>?_⟩
 obtain⟨x,L,h3,h4⟩:=h2 hv
 obtain⟨y,hy⟩:=hl hv
 have h5:=hy
 rw[OE h,h3]at h5
 simp only at h5
 split at h5
 ·cases h5;unfold Fc;rw[hy];simp only;rw[h4]
 cases h5
theorem ANG(h:¬Lib.trimS s C1=[])(hl:live=true->∃x,Dy s=.ok x)(hr:Rw live ((FM 25).asg (DM s)) vs [] (DM s) k S1 0 b)(hk:¬(Ar ((DM s).drop k)).what=0):ADf live s vs 0 [] 60:=by
 obtain⟨x,L,h1,h2,_⟩:=hr.ok rfl
 have hb:Dy s=.bad 60:=by rw[OE h,h1,<-h2];exact AB hk
 exact⟨fun _=>.inl hb,fun hv=>by obtain⟨y,hy⟩:=hl hv;rw[hb]at hy;cases hy⟩
theorem AYA(h:¬Lib.trimS s C1=[])(hr:Rw live ((FM 25).asg (DM s)) vs [] (DM s) k S1 0 a)(hk:(Ar ((DM s).drop k)).what=0):ADf live s vs a S1 0:=by
 obtain⟨x,L,h1,h2,h3,_⟩:=hr.ok rfl
 have hb:Dy s=.ok x:=by rw[OE h,h1,<-h2];exact AI hk
 exact⟨fun _=>.inr ⟨O,x,hb⟩,fun hv=>by unfold Fc;rw[hb];simp only;rw[h3 hv]⟩
theorem AJX{v:Int}{S:List Dw}(h:ADf false s vs v S e)(he:e≠0)(vs':List (List UInt8×List UInt8)):Fc s vs'=(0,[],e):=by
 rcases h.1 rfl with h1|h1
 ·unfold Fc;rw[h1]
 exact Ac h1.1 he
theorem AOH{v:Int}{S:List Dw}(h:ADf false s vs v S 0):∃x,Dy s=.ok x:=by
 rcases h.1 rfl with h1|h1
 ·exact Ac O (APE h1)
 exact h1.2
end
end Go.Tri
