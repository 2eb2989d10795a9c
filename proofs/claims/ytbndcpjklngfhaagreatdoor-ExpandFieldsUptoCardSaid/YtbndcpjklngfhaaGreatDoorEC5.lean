/-
 Pieces: made, as a text, as bytes.
-/
import Derived.Test.YtbndcpjklngfhaaGreatDoorEC4
namespace Go.Tri
open Go.Proofs.Tryz
open Go.Proofs Go.RowKit
set_option maxRecDepth 10000
variable {w0:World} {v:Value} {i n:Nat}
def Xk(p:HP)(m:List UInt8)(e:Nat):List Value:=[.iface 33 (.pointer (some ⟨p.hb,0,none⟩)),Au m,.int .i64 (e:Int)]
@[reducible] def EO(mb:Nat)(m:List UInt8)(e:Nat)(p:HP)(lv av:Value)(h:Hx)(F:List HA):List HA:=row mb 101 (Xk p m e)::DW p lv av h F
theorem HT{H:List HA}{I:AQ}{w:World}{F:List HA}{mb e:Nat}{m:List UInt8}{p:HP}{lv av:Value}{h:Hx}[hq:K3 [row mb 101 (Xk p m e),row p.hb 35 [.pointer (some ⟨p.eb,0,none⟩)],row p.eb 41 (Js p av),row p.vb 49 [lv,p.gv],Ap 9 1 Ce av h.asked] F H](hw:St w0 I H w):St w0 I (EO mb m e p lv av h F) w:=hw.perm hq.perm
def Wt(I:AQ)(v:Value)(l:List Px):Prop:=Sl I 4 v (l.map Hz)
theorem Wt.mono{I J:AQ}{l:List Px}(h:Wt I v l)(CH:Le I J):Wt J v l:=Sl.mono h CH
theorem Wt.one{I:AQ}{l:List Px}(h:Wt I v l):JS v:=Sl.one h
theorem HY(x:Px):∀u∈Hz x,u.oneCell'=true:=fun u hu=>by
 simp only[Hz,Ci,List.not_mem_nil,or_false]at hu
 rcases hu with rfl|rfl|rfl|rfl<;>rfl
theorem ZV{I:AQ}{H:List HA}{l:List Px}(h:Sl I 4 v (l.map Hz))(hi:i<l.length):Rds w0 I H (Eb v).block ((Eb v).off+i * 4) (Hz (AG l i FD)):=h.rds (CN l Hz FD hi)
theorem PD(l:List Px)(k:Nat):(BN (l.take k)).length<=(BN l).length:=by
 conv=>rhs;rw[<-Iu k l]
 rw[Lo,Bh];omega
theorem Aai{l:List Px}(h:i<l.length):(AG l i FD).p.t.length<=(BN l).length:=by
 have:=PD l (i+1)
 rw[Mh h,Bh]at this;omega
def AOR(x:Px):List Ch:=(if x.st then[(⟨32,false⟩:Ch)]else[])++x.p.t.map fun b=>⟨b,x.p.q⟩
theorem TJ{l:List Px}(h:i<l.length):Cr (l.drop i)=AOR (AG l i FD)++Cr (l.drop (i+1)):=by
 rw[Bg FD h];try rfl
def chV(c:Ch):List Value:=[.agg (D5 c).toArray]
theorem APP{xs r:List Ch}{c:Ch}(h:xs.drop n=c::r):(xs.map chV)[n]? =some [.agg (D5 c).toArray]:=by
 rw[List.getElem?_map,(C2 h).2.1];try rfl
theorem AVH{xs:List Ch}{vs:List Value}(h:(xs.map chV)[n]? =some vs):n<xs.length/\vs=[.agg (D5 (AG xs n Ft)).toArray]:=by
 rw[List.getElem?_map]at h;obtain⟨x,hx,rfl⟩:=Option.map_eq_some_iff.1 h;obtain⟨hn,hx'⟩:=List.getElem?_eq_some_iff.1 hx;exact⟨hn,by rw[CT hn,hx'];try rfl⟩
theorem ANT{xs:List Ch}:∀vs∈xs.map chV,vs.length=1:=fun vs h=>by
 obtain⟨x,_,rfl⟩:=FL.1 h;rfl
theorem Kj(l:List Px):(Cr l).length=(BN l).length:=by
 induction l with
 |nil=>rfl
 |cons x l ih=>
  show(AOR x++Cr l).length=((stS x++x.p.t)++BN l).length
  rw[Bh,Bh,ih]
  congr 1
  unfold AOR stS
  cases x.st<;>simp
theorem T7(s p:List UInt8)(w:World):B2 prog 113 [Au s,Au p] w (Au (Lib.trimPrefix s p)):=by
 refine(Tryz.strings_TrimPrefix ⟨s.toArray⟩ ⟨p.toArray⟩ w).mono fun e w' ⟨h1,h2⟩=>?_
 subst h2;exact⟨by simpa[Au]using h1,Below.refl _ _⟩
theorem ADN(s:List UInt8)(w:World)(hs:s.length<=1000000000):B2 prog 84 [Au s,Au [10]] w (Au (Gc s)):=by
 have MG:=Ee s
 refine(Tryz.strings_TrimRight_one ⟨s.toArray⟩ 10 (by decide) w (by omega)).mono fun e w' ⟨h1,h2⟩=>?_
 subst h2;refine⟨?_,Below.refl _ _⟩;unfold Gc;rw[Lib.trimRightS_one]
 simpa[Au]using h1
theorem Uf(v:Value)(ws:List (List UInt8))(sep:List UInt8)(w:World)(hn:ws.length<=1000000000)(h:Sl (Ao w) 1 v (ws.map Ce))(hl:(Lib.join ws sep).length<=1000000000):B2 prog 108 [v,Au sep] w (Au (Lib.join ws sep)):=by
 obtain⟨⟨Ad,c,rfl,hc,UT,hAd⟩,AGx⟩:=h
 by_cases Dk:ws=[]
 ·subst Dk
  exact(Tryz.strings_Join_none Ad c ⟨sep.toArray⟩ w).mono fun e w' ⟨h1,h2⟩=>⟨h1,h2 ▸ Below.refl _ _⟩
 have AeL:ws.map Ce≠[]:=fun h=>Dk (List.map_eq_nil_iff.1 h)
 cases Ad with
 |none=>exact Ac O (hAd AeL)
 |some ad=>
  obtain⟨bk,o,sp⟩:=ad
  have OL:sp=none:=UT AeL _ O
  subst OL
  have AfV:∀(j:Nat) x,(ws.map fun l=>(⟨l.toArray⟩:ByteArray))[j]? =some x->w.cell? ⟨bk,o+j,none⟩=some (.string x):=fun j x hj=>by
   rw[List.getElem?_map]at hj
   cases W7:ws[j]? with
   |none=>rw[W7]at hj;cases hj
   |some t=>
    rw[W7]at hj
    cases hj
    have:=AGx j 0 (Ce t) (Au t) (by rw[List.getElem?_map,W7];try rfl) O
    obtain⟨cur,U,fr,h1,h2⟩:=this
    have h1:w.heap[bk]? =some (.cells cur U fr):=h1
    unfold World.cell?;rw[h1]
    have e:o+j * 1+0=o+j:=by omega
    rw[show(Eb (Value.slice (some ⟨bk,o,none⟩) (ws.map Ce).length c)).off=o from O,e]at h2
    simpa[Au]using h2
  have hbk:bk<w.heap.size:=by
   obtain⟨t,r,rfl⟩:=List.exists_cons_of_ne_nil Dk
   have:=AfV 0 _ O
   unfold World.cell? at this
   cases hb:w.heap[bk]? with
   |none=>rw[hb]at this;cases this
   |some _=>exact GN hb
  have hm:(ws.map fun l=>(⟨l.toArray⟩:ByteArray)).map (fun y=>y.data.toList)=ws:=by
   rw[List.map_map]
   conv=>rhs;rw[<-List.map_id ws]
   refine List.map_congr_left fun l _=>?_
   simp
  have hJ:=Tryz.strings_Join bk o c (ws.map fun l=>(⟨l.toArray⟩:ByteArray)) ⟨sep.toArray⟩ w AfV hbk (by rw[Af];omega) (by rw[Af];rw[Af]at hc;exact hc) (by rw[hm];exact Ky hl (by decide))
  rw[hm,Af]at hJ;rw[Af]
  exact hJ.mono fun e w' ⟨h1,h2⟩=>⟨h1,h2⟩
theorem DV(s:List UInt8)(q:Bool)(I:AQ)(F:List HA)(w0 w:World)(BZ:St w0 I F w):Calls prog 83 [Au s,.bool q].toArray w (ER w fun v I' H'=>Le I I'/\F=H'/\Wt I' v (B0 s q)):=by
 refine enter func83 O ntmps83 O (BZ.self) (AK O (tr (Em [_,_,_] O (Em [_,_,_,_] O (NF _ O (fun b9=>?_) (by rfl))))));refine CU b9 (fun J hJ hk=>?_)
 have Ey:=Kd (f:=Hz) (sz:=4) (B0 s q) hk O O (fun _=>rfl)
 refine AH O (AX (AP O O (fun w' hw=>?_)));exact⟨_,O,J,F,⟨hJ,O,Ey⟩,AD hw⟩
theorem Ss(n:List UInt8)(w:World):B2 prog 106 [Au n] w (.bool (JN n)):=by
 refine enter func106 O ntmps106 O (St.start w (Ao w) (Le.refl _)) (AK O (tq (zq O (AR O O O) ?_)))
 refine zO 2 O (fun h8=>by
   simp at h8
   refine zq O (AR O O O) ?_;exact zv O
  ) ?_
 refine De O (AX (AP O O (fun w' hw=>?_)));exact⟨O,hw.below⟩
theorem GP(mb:Nat)(p:HP)(m:List UInt8)(e:Nat)(I:AQ)(F:List HA)(w0 w:World)(BZ:St w0 I (row mb 101 (Xk p m 0)::F) w):Calls prog 82 [.pointer (some ⟨mb,0,none⟩),.int .i64 (e:Int)].toArray w (fun e1 w'=> ∃v0,e1=.returned v0/\∃I' H',(I=I'/\v0=As/\H'=row mb 101 (Xk p m e)::F)/\St w I' H' w'):=by
 refine enter func82 O ntmps82 O (BZ.self) (AK O (AF (tr (DE O ?_))));refine AH O (AA O (fun Ab=>?_) (fun Ab=>?_))
 ·refine AC (Eu (Xk p m e) O ?_ (by exact⟨O,O⟩));refine DL (AH O (AX (AP O O (fun w' hw=>?_))));exact⟨_,O,I,row mb 101 (Xk p m e)::F,⟨O,O,O⟩,AD hw⟩
 cases Ab
theorem P1(v:Value)(l:List Px)(w:World)(hl:l.length<=1000000000000)(hx:(BN l).length<=1000000000000)(hv:Wt (Ao w) v l):B2 prog 116 [v] w (Au (BN l)):=by
 have QO:=PD l
 refine enter func116 O ntmps116 O (St.start w (Ao w) (Le.refl _)) (AK O (tr (HO _ O fun b3=>?_)));refine XN ?_;refine yq O ((by exact BH O AAk O (Sl.lenOf hv (Af _)))) ?_;refine AH O (AJ (EB (ι:=Nat×Option Addr×Value) [0,2,3,6,7] (fun zz=>zz.1<=l.length/\(zz.2.1=none\/zz.2.1=some ⟨b3,0,none⟩)/\L7 zz.2.2 (BN (l.take zz.1))) (fun zz=>l.length-zz.1) (fun zz=>[(8,.int .i64 (zz.1:Int))]) (fun zz=>Ao w) (fun zz=>[row b3 121 [.pointer zz.2.1,zz.2.2],Ap 5 1 Km zz.2.2 (BN (l.take zz.1))]) (0,none,.slice none 0 0) O ?_ ?_ (hh:=(fun _ h=>(show St _ _ [row b3 121 [.pointer none,.slice none 0 0],Ap 5 1 Km (.slice none 0 0) []] _ from AD (CI 5 1 Km h))))))
 ·dsimp only;exact⟨Aw _,.inl O,.inl O⟩
 rintro⟨k,p,vb⟩ ⟨hk,hp,DD⟩;dsimp only at *;refine AK rfl (AF (AA rfl (fun Ab=>?_) (fun Ab=>?_)))
 ·simp at Ab
  have Om:k<l.length:=by omega
  refine AV (AF (AJ (tr ?_)));refine yq O ((by exact AN O AAk Qy O O (Sl.shape hv (Af _)) (by omega))) ?_;refine yq O ((by exact Br O APo Qy O O (ZV (i:=k) hv (by omega)))) ?_
  refine HO _ O fun b5=>?_
  refine El (Hz (AG l k FD)) O ?_ (by exact HY _);refine ln (EZ (ι:=Option Addr×Value×List UInt8) [8,0,2,3,6,7,9,5] (fun zz=>(zz.1=none\/zz.1=some ⟨b3,0,none⟩)/\L7 zz.2.1 zz.2.2/\zz.2.2=BN (l.take k)++stS (AG l k FD)) (fun zz=>[]) (fun zz=>Ao w) (fun zz=>[row b3 121 [.pointer zz.1,zz.2.1],Ap 5 1 Km zz.2.1 (zz.2.2),row b5 105 (Hz (AG l k FD))]) O ?_ ?_)
  ·refine tr (DE O ?_);refine ln (AA O (fun An=>?_) (fun An=>?_))
   ·have An:(AG l k FD).st=true:=An
    refine AC (yc O (fun w hw=>NB b3 p vb (BN (l.take k)) 32 _ _ _ w hp (by have:=QO k;omega) (Bm (row b3 121 [.pointer p,vb]) (Ap 5 1 Km vb (BN (l.take k))) hw)) ?_);rintro _ _ _ ⟨rfl,rfl,vb2,rfl⟩;refine C7 (CB ((some ⟨b3,0,none⟩,vb2,BN (l.take k)++[32])) ?_)
    dsimp only;refine⟨.inr O,.inr (by simp),?_⟩
    unfold stS;rw[AI An]
   have An:(AG l k FD).st=false:=An
   refine AY (CB ((p,vb,BN (l.take k))) ?_)
   dsimp only;refine⟨hp,DD,?_⟩
   unfold stS;rw[AB (by rw[An];simp),Nj]
  rintro⟨p1,vb1,tx⟩ ⟨hp1,AkR,htx⟩;dsimp only at *;refine AC (DE rfl ?_);refine yc rfl (fun w hw=>Pk b3 p1 vb1 tx (AG l k FD).p.t _ _ _ w hp1 (by have:=QO (k+1);rw[Mh Om,<-htx,Bh]at this;omega) (Bm (row b3 121 [.pointer p1,vb1]) (Ap 5 1 Km vb1 (tx)) hw)) ?_;rintro _ _ _ ⟨rfl,rfl,vb3,rfl,hbo⟩;refine C7 (AL (AS (AC (yq rfl (AM rfl rfl rfl (by omega)) ?_))));refine AU rfl (DJ ((k+1,some ⟨b3,0,none⟩,vb3)) ?_ ?_ (hh:=(fun _ h=>by dsimp only;rw[Mh Om,<-htx];exact AD h)))
  ·dsimp only;exact⟨(show k+1<=_ by omega),.inr O,by show L7 vb3 (BN (l.take (k+1)));rw[Mh Om,<-htx];exact hbo AkR⟩
  dsimp only
  show l.length-(k+1)<l.length-k;omega
 simp at Ab
 have Om:k=l.length:=by omega
 refine Av (AE (AE (AO (AS (tr (yc O (fun w hw=>JJ b3 (.pointer p) vb (BN (l.take k)) _ _ _ w DD (by have:=QO k;omega) (Bm (row b3 121 [.pointer p,vb]) (Ap 5 1 Km vb (BN (l.take k))) hw)) ?_))))));rintro _ _ _ ⟨rfl,rfl,rfl⟩;refine AH rfl (AX (AP rfl rfl (fun w' hw=>?_)));refine⟨?_,hw.below⟩;rw[LG (by omega)]
theorem AET(vl:Value)(h1:JS vl)(I:AQ)(F:List HA)(w0 w:World)(BZ:St w0 I F w):Calls prog 112 [vl].toArray w (ER w fun v I' H'=>Le I I'/\F=H'/\∃b,v=.func (.func 141) #[] #[.pointer (some ⟨b,0,none⟩)]/\DA I' b 0 vl):=by
 refine enter func112 O ntmps112 O (BZ.self) (tr (JC _ O (fun b1=>?_) (by exact JS.cells (by assumption))));refine AH O (AF (Cw b1 (fun J hJ Oi=>?_)));refine AC (yq O (F8 O O O) (AH O (AX (AP O O (fun w' hw=>?_)))));exact⟨_,O,J,_,⟨hJ,O,b1,O,Oi 0 _ O⟩,hw⟩
theorem AGj(L:List Px)(vl:Value)(b1:Nat)(hL:L.length<=1000000000000)(hx:(BN L).length<=1000000000000):Kk prog 141 [.pointer (some ⟨b1,0,none⟩)] ((Cr L).map chV) (fun I=>DA I b1 0 vl/\Wt I vl L):=by
 intro γ Cd Cx G II lid hY w0 g00 F w SZ Uz BZ;obtain⟨Oi,ALQ⟩:=Uz
 have hJ:=Le.refl (II g00)
 have Ey:=ALQ
 have FW:=Kj L
 refine enter func141 O ntmps141 O (BZ.self) (tr (yq O ((by exact Ai O O (A8 (Oi.mono hJ)))) ?_));refine yq O ((by exact BH O AAk O (Sl.lenOf Ey (Af _)))) ?_;refine AH O (AJ (EB (ι:=Nat×Nat×γ) [0,1,6,7] (fun zz=>zz.1<=L.length/\zz.2.1<=(Cr L).length/\Cd zz.2.1 zz.2.2/\Le (II g00) (II zz.2.2)/\(Cr L).drop zz.2.1=Cr (L.drop zz.1)) (fun zz=>L.length-zz.1) (fun zz=>[(8,.int .i64 (zz.1:Int))]) (fun zz=>(II zz.2.2)) (fun zz=>(F++G zz.2.2)) (0,0,g00) O ?_ ?_))
 ·dsimp only;exact⟨Aw _,Aw _,SZ,Le.refl _,O⟩
 rintro⟨i,n,g⟩ ⟨hi,hn,JD,hJ,I4⟩;dsimp only at *
 have Ey:=ALQ.mono hJ
 refine AK O (AF (AA O (fun Ab=>?_) (fun Ab=>?_)))
 ·simp at Ab
  have Rl:i<L.length:=by omega
  have EU:=Aai Rl
  refine AV (AF (AJ (tr ?_)));refine yq O ((by exact AN O AAk Qy O O (Sl.shape Ey (Af _)) (by omega))) ?_;refine yq O ((by exact Br O APo Qy O O (ZV (i:=i) Ey (by omega)))) ?_
  refine HO _ O fun b4=>?_
  refine El (Hz (AG L i FD)) O ?_ (by exact HY _);refine ln (EZ (ι:=Nat×γ) [8,0,1,6,7,9,4] (fun zz=>zz.1<=(Cr L).length/\Cd zz.1 zz.2/\Le (II g00) (II zz.2)/\(Cr L).drop zz.1=((AG L i FD).p.t.drop 0).map (fun b=>(⟨b,(AG L i FD).p.q⟩:Ch))++Cr (L.drop (i+1))) (fun zz=>[]) (fun zz=>(II zz.2)) (fun zz=>(row b4 105 (Hz (AG L i FD))::(F++G zz.2))) O ?_ ?_)
  ·refine tr (yq O ((by exact Az O O (by rfl))) ?_);refine Tq 1 O (AIC (t:=14) O (fun OL=>?_) (fun OL=>?_))
   ·refine Z7 (GO O O O O) O O (AGM O O) (Z7 (GO O O O O) O O (C0 (pl:=[(_,_),(_,_)]) (cs:=(D5 ⟨32,false⟩).toArray) O Ng Cn ⟨O,⟨_,_,ti5⟩,O,⟨_,_,NL⟩,trivial⟩ O O) ?_)
    have hq:=I4
    rw[TJ Rl,AOR,AI (by simpa using OL)]at hq;refine Mb (i:=n) g (GO O O O O) O O O O O hY (APP (c:=⟨32,false⟩) hq) JD O (fun g JD CH=>?_) (fun g hcx CH=>?_)
    ·replace hJ:=hJ.trans CH
     refine Z7 (GO O O O O) O O (ADE O O) (yq O (Po O O O O) (ln (AA O (fun An=>?_) (fun An=>?_))))
     ·simp at An
     simp at An
     refine AY (CB ((n+1,g)) ?_)
     dsimp only;exact⟨(C2 hq).1,JD,hJ,(C2 hq).2.2⟩
    replace hJ:=hJ.trans CH
    refine Z7 (GO O O O O) O O (ADE O O) (yq O (Po O O O O) (ln (AA O (fun A6=>?_) (fun A6=>?_))))
    ·simp at A6
     refine Ak (I7 O (fun w' hw=>?_));exact⟨_,O,g,.inr ⟨n+1,by rw[Af];exact(C2 hq).1,hcx⟩,hJ,BZ.rebase (AD hw)⟩
    simp at A6
   refine Np O O O O O O O (Np O O O O O O O (Np O O O O O O O (Np O O O O O O O (yq O (Po O O O O) (ln (AA O (fun BJ=>?_) (fun BJ=>?_)))))))
   ·simp at BJ
   simp at BJ
   refine AY (CB ((n,g)) ?_)
   dsimp only;refine⟨hn,JD,hJ,?_⟩
   rw[TJ Rl,AOR,AB (by simpa using OL)]at I4;exact I4
  rintro⟨n,g⟩ ⟨hn,JD,hJ,I4⟩;dsimp only at *;refine tr (yq rfl ((by exact Az rfl rfl (by rfl))) ?_);refine yq rfl (AW rfl BX rfl) (AH rfl (AJ (EB (ι:=Nat×Nat×γ) [8,0,1,6,7,9,4,23] (fun zz=>zz.1<=(AG L i FD).p.t.length/\zz.2.1<=(Cr L).length/\Cd zz.2.1 zz.2.2/\Le (II g00) (II zz.2.2)/\(Cr L).drop zz.2.1=((AG L i FD).p.t.drop zz.1).map (fun b=>(⟨b,(AG L i FD).p.q⟩:Ch))++Cr (L.drop (i+1))) (fun zz=>(AG L i FD).p.t.length-zz.1) (fun zz=>[(24,.int .i64 (zz.1:Int))]) (fun zz=>(II zz.2.2)) (fun zz=>(row b4 105 (Hz (AG L i FD))::(F++G zz.2.2))) (0,n,g) rfl ?_ ?_)))
  ·dsimp only;exact⟨Aw _,hn,JD,hJ,I4⟩
  rintro⟨k,n,g⟩ ⟨hk,hn,JD,hJ,I4⟩;dsimp only at *
  have Ey:=ALQ.mono hJ
  refine AK O (AF (AA O (fun Bj=>?_) (fun Bj=>?_)))
  ·simp at Bj
   have Om:k<(AG L i FD).p.t.length:=by omega
   refine AV (AF (AJ (AK O (AF (Bo [10] [] [row b4 105 (Hz (AG L i FD))] mo (by kernel_rfl) (fun _ _ _ _ _ h=>h) (xr [0,1,2] O O (xq 3 O O ((by exact Az O O (by rfl))) ?_)))))));refine xr [4] O O (xq 5 O O ((by exact AZ O BX O O (by omega))) ?_);refine xr [6,7] O O (xq 8 O O ((by exact Az O O (by rfl))) ?_);refine xq 9 O O (C0 (pl:=[(_,_),(_,_)]) (cs:=(D5 ⟨AG (AG L i FD).p.t k 0,(AG L i FD).p.q⟩).toArray) O Ng Cn ⟨O,⟨_,_,ti5⟩,O,⟨_,_,NL⟩,trivial⟩ O O) ?_
   have hq:=I4
   rw[Bg 0 Om,EN,NA]at hq;refine xe 10 O O (ARr (i:=n) g O O O hY (APP (c:=⟨AG (AG L i FD).p.t k 0,(AG L i FD).p.q⟩) hq) JD O) ?_;rintro _ _ _ ⟨g37,b37,rfl,Adh,Adv,ANw,rfl,rfl⟩;refine⟨ANw,.inr Fs.sub,?_⟩;refine xr [11] rfl rfl (CX (AS (AA rfl (fun B4=>?_) (fun B4=>?_))))
   ·simp at B4
    refine Ak (I7 O (fun w' hw=>?_));exact⟨_,O,g37,.inr ⟨n+1,by rw[Af];exact(C2 hq).1,Adv B4⟩,hJ.trans ANw,BZ.rebase (AD hw)⟩
   simp at B4
   refine AY (AL (AS (AC (yq O (AM O O O (by omega)) ?_))));refine AU O (DJ ((k+1,n+1,g37)) ?_ ?_)
   ·dsimp only;exact⟨(show k+1<=_ by omega),(C2 hq).1,Adh B4,hJ.trans ANw,(C2 hq).2.2⟩
   dsimp only
   show(AG L i FD).p.t.length-(k+1)<(AG L i FD).p.t.length-k;omega
  simp at Bj
  refine Av (AE (AE (AO (AL (AS (AC (yq O (AM O O O (by omega)) ?_)))))));refine AU O (DJ ((i+1,n,g)) ?_ ?_)
  ·dsimp only;refine⟨(show i+1<=_ by omega),hn,JD,hJ,?_⟩
   rw[show(AG L i FD).p.t.drop k=[]from E4 (by omega)]at I4;exact I4
  dsimp only
  show L.length-(i+1)<L.length-i;omega
 simp at Ab
 have Rl:i=L.length:=by omega
 refine Av (AE (AE (AO (EK O (fun w' hw=>?_)))));rw[show L.drop i=[]from E4 (by omega)]at I4;exact⟨_,O,g,.inl (by rw[Af,<-U1 I4 hn];exact JD),hJ,BZ.rebase (AD hw)⟩
theorem Re(L:List Px)(vl:Value)(b:Nat)(I:AQ)(F:List HA)(w0 w:World)(hL:L.length<=1000000000000)(hx:(BN L).length<=1000000000000)(hb:DA I b 0 vl)(Ey:Wt I vl L)(BZ:St w0 I F w):Calls prog 140 [.slice none 0 0,.func (.func 141) #[] #[.pointer (some ⟨b,0,none⟩)]].toArray w (ER w fun v I' H'=>Le I I'/\F=H'/\Sl I' 2 v ((Cr L).map D5)):=by
 have FW:=Kj L
 refine Mw func140 O ntmps140 O (BZ.self) (tr (JC _ O (fun b2=>?_) (by rfl)));refine AH O (AF (AK O (AJ (OO (γ:=Value×List Ch) (AGj L vl b hL hx) O O func141 (by kernel_rfl) O (fun nn zz=>zz.2=(Cr L).take nn) (fun _ _=>False) F (fun zz TT=>(row b2 71 [zz.1]::Ap 113 2 D5 zz.1 zz.2::TT)) (fun _ _=>rfl) (fun zz=>I) [(0,_),(1,_),(2,_),(4,_),(6,_)] (BS O) (.slice none 0 0,[]) ?_ ?_ ?_ ?_ O ?_ ?_ ?_ (fun _ _ _ h=>h.elim)))))
 ·rfl
 ·exact⟨hb,Ey⟩
 ·exact Le.refl _
 ·exact fun _ h=>AD (CI 113 2 D5 h)
 ·exact ANT
 ·intro bl ready busy done dfr nn vs gg w0r FF hi Ek hrs hbz;obtain⟨v1,l1⟩:=gg
  have Ri:=Ek
  dsimp only at *;obtain⟨hnl,rfl⟩:=AVH hi
  have UU:=B3 List.length Ri
  rw[BL]at UU;refine AC (HO _ O fun b5=>?_);refine El _ O ?_ (by exact Hf _);refine C7 (Mn (by rfl) hrs ?_);refine AJ (AC (DE O ?_));refine yq O (A7 O Ng Cn O O O) (NF _ O (fun b10=>?_) (by rfl));refine V4 (f:=D5) (AG (Cr L) nn Ft) O (fun v11=>?_) (by exact Hf _) (by simp only[maxLen];omega) (by omega);refine Un v11 (fun Ma=>?_);refine Eu _ O ?_ (by assumption) O (by(simp only[DS];try rfl));refine C7 (AL (Gy (fun w' hw'=>.inl ⟨O,((v11,l1++[AG (Cr L) nn Ft])),?_,?_,?_⟩)))
  ·dsimp only;rw[Ri,C6 Ft hnl]
  ·exact Le.refl _
  dsimp only;exact AD hw'
 intro bd gg Ek CH;obtain⟨v1,l1⟩:=gg
 have Ri:=Ek
 dsimp only at *;rw[Af,Gb]at Ri;subst Ri;refine AL (AS (AF (Bf (f:=D5) (l:=Cr L) v1 (fun _=>rfl) (fun J hJ hv=>?_))));refine AC (DE rfl ?_);refine AH rfl (AX (Db (AIj (bs:=[bd]) rfl rfl (fun w' hw=>?_))));exact⟨_,rfl,J,F,⟨hJ,rfl,hv⟩,AD hw⟩
theorem Pa(L:List Px)(vl:Value)(b:Nat)(I:AQ)(F:List HA)(w0 w:World)(hL:L.length<=1000000000000)(hx:(BN L).length<=1000000000000)(hb:DA I b 0 vl)(Ey:Wt I vl L)(BZ:St w0 I F w):Calls prog 111 [.func (.func 141) #[] #[.pointer (some ⟨b,0,none⟩)]].toArray w (ER w fun v I' H'=>Le I I'/\F=H'/\Sl I' 2 v ((Cr L).map D5)):=by
 refine enter func111 O ntmps111 O (BZ.self) (AK O (tr (yc O (fun w hw=>Re L vl b _ _ _ w hL hx hb Ey hw) ?_)));rintro v4 J4 _ ⟨hJ4,rfl,hv4⟩;refine AH rfl (AX (AP rfl rfl (fun w' hw=>?_)));exact⟨_,rfl,J4,_,⟨hJ4,rfl,hv4⟩,hw⟩
end Go.Tri
