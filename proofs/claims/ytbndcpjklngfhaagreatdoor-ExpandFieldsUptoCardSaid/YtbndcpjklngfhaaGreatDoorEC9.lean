/-
 Does a text stand unquoted at the beginning?
-/
import Derived.Test.YtbndcpjklngfhaaGreatDoorEB8
import Derived.Test.YtbndcpjklngfhaaGreatDoorPPat2
namespace Go.Tri
open Go.Proofs.Tryz
open Go.Proofs Go.RowKit
set_option maxRecDepth 10000
variable {w0:World} {v vq:Value} {i nn m:Nat} {fi g e lg:Bool} {vs:List Value} {s:List UInt8}
set_option maxRecDepth 100000 in
theorem Agh(c d:Ch)(w:World):(Op.equalIn 10000 113 (.agg (D5 c).toArray) (.agg (D5 d).toArray)).run prog w=.ok (decide (c=d)) w:=by
 rw[run_equalIn_agg w 9999 113 _ _ (by kernel_rfl) (by kernel_rfl)]
 show(Op.eqFields 9999 _ _ [_,_]).run prog w=_
 simp[Op.eqFields,D5,u8,part,EY un5 O,EY un4 O]
 rw[run_equalIn_int (P:=prog) w 9998 5 .u8 .u8 _ _ un5];simp only[PM];rw[run_equalIn_bool' (P:=prog) w 9998 4 _ _ un4];obtain⟨cb,cq⟩:=c;obtain⟨db,dq⟩:=d;simp only[PM,beq_eq_false_iff_ne,ne_eq,AIq,Ch.mk.injEq]
 by_cases h1:cb=db<;>by_cases h2:cq=dq<;>simp[h1,h2]
theorem AJW{I:AQ}{H:List HA}{l:List Ch}(h:Sl I 2 v (l.map D5))(hi:i<l.length):Rds w0 I H (Eb v).block ((Eb v).off+i * 2) (D5 (AG l i Ft)):=APT h hi
theorem Gt{I:AQ}{H:List HA}{l:List Ch}(h:Sl I 2 v (l.map D5))(hi:i<l.length):Rd w0 I H (Eb v).block ((Eb v).off+i * 2+0) (u8 (AG l i Ft).b):=AIb h hi
theorem APM{I:AQ}{H:List HA}{l:List Ch}(h:Sl I 2 v (l.map D5))(hi:i<l.length):Rd w0 I H (Eb v).block ((Eb v).off+i * 2+1) (.bool (AG l i Ft).q):=h.rd (CN l D5 Ft hi) rfl
theorem D6(v:Value)(p:List Ch)(s:List UInt8)(w:World)(hp:p.length<=4611686018427387904)(hs:s.length<=4611686018427387904)(hv:Sl (Ao w) 2 v (p.map D5)):B2 prog 163 [v,Au s] w (.bool (Ax p s)):=by
 refine enter func163 O ntmps163 O (St.start w (Ao w) (Le.refl _)) (AK O (AF (tr ?_)));refine yq O ((by exact BH O DU O (Sl.lenOf hv (Af _)))) ?_;refine yq O (AW O BX O) (AH O (AA O (fun Ab=>?_) (fun Ab=>?_)))
 ·simp at Ab
  refine AK O (Ak (AP O O (fun w' hw=>?_)));refine⟨?_,hw.below⟩;rw[LP p s (by omega)]
 simp at Ab
 refine AV (AF (tr (yq O (AW O BX O) (AH O (AJ (EB (ι:=Nat) [0,1,10,12] (fun i=>i<=s.length/\Ax p s=Ax (p.drop i) (s.drop i)) (fun i=>s.length-i) (fun i=>[(13,.int .i64 (i:Int))]) (fun i=>Ao w) (fun i=>[]) 0 O ?_ ?_))))))
 ·exact⟨Aw _,by simp⟩
 rintro i ⟨hi,CS⟩;refine AK rfl (AF (AA rfl (fun An=>?_) (fun An=>?_)))
 ·simp at An
  refine AV (AF (AJ (AK O (AF (Bd mo (by kernel_rfl) (fun _ _ _ _ _ h=>h) ?_)))));refine zq O ((by exact AN O DU Cn O O (Sl.shape hv (Af _)) (by omega))) ?_;refine zq O ((by exact Br O Ng Cn O O (AJW (i:=i) hv (by omega)))) ?_;refine zq O ((by exact AZ O BX O O (by omega))) ?_;refine zbd (D5 (uq (AG s i 0))) O (zq O (ABG O (by kernel_rfl) O O (Agh _ _)) (Dp (AA O (fun A6=>?_) (fun A6=>?_))))
  ·simp only[FJ,CA]at A6;refine AK O (Ak (AP O O (fun w' hw=>?_)));refine⟨?_,hw.below⟩
   rw[CS,Q8 p s i (by omega) (by omega)];simp[A6]
  simp only[Bool.not_eq_false',BC]at A6;refine AY (AL (AS (AC (yq O (AM O O O (by omega)) ?_))));refine AU O (DJ (i+1) ?_ ?_)
  ·refine⟨by omega,CS.trans ?_⟩;rw[Q8 p s i (by omega) (by omega),A6];simp
  omega
 simp at An
 refine Av (AE (AE (AO (AS (AK O (AX (AP O O (fun w' hw=>?_))))))));refine⟨?_,hw.below⟩;rw[CS,show s.drop i=[]from E4 (by omega),Nv]
theorem ANb(p:List Ch):(Kb p).length<=5:=by
 rcases ML p with ⟨h,_⟩|⟨n,hn,_,h⟩
 ·rw[h];decide
 rw[h,JX hn];decide
theorem TB(m:Mem):∀u∈Sm m,u.oneCell'=true:=fun u hu=>by
 simp only[Sm,Ci,List.not_mem_nil,or_false]at hu
 rcases hu with rfl|rfl|rfl<;>rfl
theorem Te{n:List UInt8}(h:n∈A3):(DZ n).length=9:=by simp[DZ,JX h]
theorem ADL(h:i<A3.length):(AG A3 i []).length=5:=JX (BE h)
theorem ASl{p:List Ch}(h:Kb p≠[]):FT p=(⟨Kb p,0,0⟩,(Kb p).length+4):=AI h
theorem AHo{p:List Ch}(h:Kb p=[])(h2:(decide ((2:Int)<(p.length:Int))&&Ax (p.drop 1) [45]&& !Ax (p.drop 2) [93])=true):FT p=(⟨[],(AG p 0 Ft).b,(AG p 2 Ft).b⟩,3):=by
 unfold FT;rw[AB (by simp[h]),AI h2]
theorem AHx{p:List Ch}(h:Kb p=[])(h2:(decide ((2:Int)<(p.length:Int))&&Ax (p.drop 1) [45]&& !Ax (p.drop 2) [93])=false):FT p=(⟨[],(AG p 0 Ft).b,(AG p 0 Ft).b⟩,1):=by
 unfold FT;rw[AB (by simp[h]),AB (fun h'=>by rw[h']at h2;cases h2)]
theorem AFq(m:Mem)(c:UInt8)(w:World):B2 prog 225 [.agg (Sm m).toArray,u8 c] w (.bool (GI m c)):=by
 refine enter func225 O ntmps225 O (St.start w (Ao w) (Le.refl _)) (tr (JC _ O fun b2=>?_));refine AH O (tq ?_)
 refine zA 2 O (fun h13=>by
   simp at h13
   exact zv O
  ) ?_
 refine zA 2 O (fun h19=>by
   simp at h19
   exact zv O
  ) ?_
 refine zA 2 O (fun h25=>by
   simp at h25
   exact zv O
  ) ?_
 refine De O (AF (tr (DE O ?_)));refine ln (AJ (tr (yq O (AR O O O) (AH O (AA O (fun Ab=>?_) (fun Ab=>?_))))))
 ·simp only[BC]at Ab;refine tq ?_
  refine zO 1 O (fun Tu=>by
    simp at Tu
    exact zv O
   ) ?_
  refine De O (Ak (AP O O (fun w' hw=>?_)));refine⟨?_,hw.below⟩
  simp[GI,Mj,A3,M3,Ml, *]<;>exact Bool.or_comm _ _
 simp only[CA]at Ab;refine tr (yq O (AR O O O) (AH O (AA O (fun An=>?_) (fun An=>?_))))
 ·simp only[BC]at An;refine AK O (Ak (AP O O (fun w' hw=>?_)));refine⟨?_,hw.below⟩
  simp[GI,Mj,A3,Si, *]<;>exact Bool.or_comm _ _
 simp only[CA]at An;refine tr (yq O (AR O O O) (AH O (AA O (fun A6=>?_) (fun A6=>?_))))
 ·simp only[BC]at A6;refine tq ?_
  refine zO 1 O (fun h42=>by
    simp at h42
    exact zv O
   ) ?_
  refine zO 1 O (fun h45=>by
    simp at h45
    exact zv O
   ) ?_
  refine De O (Ak (AP O O (fun w' hw=>?_)));refine⟨?_,hw.below⟩
  simp[GI,Mj,A3,M3,Ml,Si, *]<;>exact Bool.or_comm _ _
 simp only[CA]at A6;refine tr (yq O (AR O O O) (AH O (AA O (fun BJ=>?_) (fun BJ=>?_))))
 ·simp only[BC]at BJ;refine AK O (Ak (AP O O (fun w' hw=>?_)));refine⟨?_,hw.below⟩
  simp[GI,Mj,A3,M3, *]<;>exact Bool.or_comm _ _
 simp only[CA]at BJ;refine tr (yq O (AR O O O) (AH O (AA O (fun Bj=>?_) (fun Bj=>?_))))
 ·simp only[BC]at Bj;refine AK O (Ak (AP O O (fun w' hw=>?_)));refine⟨?_,hw.below⟩
  simp[GI,Mj,A3,Ml, *]<;>exact Bool.or_comm _ _
 simp only[CA]at Bj;refine tr (yq O (AR O O O) (AH O (AA O (fun B4=>?_) (fun B4=>?_))))
 ·simp only[BC]at B4;refine tq (zq O (Ae O O O O) ?_)
  refine zO 6 O (fun MN=>by
    simp at MN
    refine zA 2 O (fun h62=>by
      simp at h62
      exact zv O
     ) ?_
    exact zv O
   ) ?_
  refine De O (Ak (AP O O (fun w' hw=>?_)));refine⟨?_,hw.below⟩
  simp[GI,Mj,A3,AHE, *]<;>exact Bool.or_comm _ _
 simp only[CA]at B4;refine AY (AL (AS (tq (EA O ?_))))
 refine zA 4 O (fun h73=>by
   simp at h73
   refine EA O ?_;exact zv O
  ) ?_
 refine De O (AX (AP O O (fun w' hw=>?_)));refine⟨?_,hw.below⟩
 simp[GI,A3, *]<;>exact Bool.or_comm _ _
theorem Wx(vp:Value)(I:AQ)(F:List HA)(w0 w:World)(hvp:JS vp)(BZ:St w0 I F w):Calls prog 224 [vp].toArray w (ER w fun v I' H'=>Le I I'/\F=H'/\∃b,v=.func (.func 237) #[] #[.pointer (some ⟨b,0,none⟩)]/\DA I' b 0 vp):=by
 refine enter func224 O ntmps224 O (BZ.self) (tr (JC _ O (fun b1=>?_) (by exact JS.cells (by assumption))));refine AH O (AF (Cw b1 (fun J hJ h1=>?_)));refine AC (yq O (F8 O O O) (AH O (AX (AP O O (fun w' hw=>?_)))));exact⟨_,O,J,_,⟨hJ,O,b1,O,h1 0 _ O⟩,hw⟩
theorem AAd(p:List Ch)(vp:Value)(b1:Nat)(hp:p.length<=4611686018427387904):Kk prog 237 [.pointer (some ⟨b1,0,none⟩)] (Kv p.length vp (Kh p true)) (fun I=>DA I b1 0 vp/\Sl I 2 vp (p.map D5)):=by
 intro γ Cd Cx G II lid hY w0 g00 F w SZ ⟨Oi,hv0⟩ BZ
 have hJ:=Le.refl (II g00)
 have PQ:=hv0
 refine enter func237 O ntmps237 O (BZ.self) (AK O (tr ?_));refine yq O ((by exact Ai O O (A8 (Oi.mono hJ)))) ?_;refine AH O (AJ (EB (ι:=List Ch×Value×Bool×Nat×γ) [0,1] (fun zz=>zz.2.2.2.1<=(Kv p.length vp (Kh p true)).length/\Cd zz.2.2.2.1 zz.2.2.2.2/\Le (II g00) (II zz.2.2.2.2)/\(Kv p.length vp (Kh p true)).drop zz.2.2.2.1=Kv zz.1.length zz.2.1 (Kh zz.1 zz.2.2.1)/\Sl (II zz.2.2.2.2) 2 zz.2.1 (zz.1.map D5)/\zz.1.length<=4611686018427387904) (fun zz=>zz.1.length) (fun zz=>[(3,.bool zz.2.2.1),(4,zz.2.1)]) (fun zz=>(II zz.2.2.2.2)) (fun zz=>(F++G zz.2.2.2.2)) (p,vp,true,0,g00) O ?_ ?_))
 ·dsimp only;exact⟨Aw _,SZ,Le.refl _,O,hv0,hp⟩
 rintro⟨q,vq,fi,nn,g⟩ ⟨hn,JD,hJ,I4,PQ,hql⟩;dsimp only at *;refine AF (tq ?_);refine zq rfl ((by exact BH rfl DU rfl (Sl.lenOf PQ (Af _)))) ?_
 refine zA 6 O (fun h21=>by
   simp at h21
   refine zO 3 O (fun h20=>by
     refine zp O ((fun w hw=>D6 vq q [93] w hql (by decide) (PQ.mono hw.le))) ?_;exact zv O
    ) ?_
   exact zv O
  ) ?_
 refine Dp (AA O (fun Ab=>?_) (fun Ab=>?_))
 ·have h0:(decide ((0:Int)<(q.length:Int))&&(fi|| !Ax q [93]))=true:=Ab
  rw[Ay,BC]at h0
  have hq0:0<q.length:=by omega
  have CS:(!fi&&Ax q [93])=false:=by have:=h0.2;cases fi<;>simp_all
  refine AV (AF (AJ (AF (Bo [9,10] [] [] mo (by kernel_rfl) (fun _ _ _ _ _ h=>h) (xr [0] O O ?_)))));refine x0 1 O (Le.refl _) O (fun _ hI=>(by exact AN O DU Cn O O (Sl.shape PQ (Af _)) (by omega))) ?_;refine xr [2] O O ?_;refine x0 3 O (Le.refl _) O (fun _ hI=>(by exact Ai O O (Gt (i:=0) (PQ.mono hI) (by omega)))) ?_;refine xr [4] O O ?_;refine x0 5 O (Le.refl _) O (fun _ hI=>(by exact AN O DU Cn O O (Sl.shape PQ (Af _)) (by omega))) ?_;refine xr [6] O O ?_;refine x0 7 O (Le.refl _) O (fun _ hI=>(by exact Ai O O (Gt (i:=0) (PQ.mono hI) (by omega)))) ?_;refine x0 8 O (Le.refl _) O (fun _ hI=>C0 (pl:=[(_,_),(_,_),(_,_)]) (cs:=(Sm ⟨[],(AG q 0 Ft).b,(AG q 0 Ft).b⟩).toArray) O AQW Xm ⟨O,⟨_,_,Co⟩,O,⟨_,_,ti5⟩,O,⟨_,_,ti5⟩,trivial⟩ O O) (xe 9 O O (Zu O Xm O) ?_);rintro _ _ _ ⟨b5,rfl,rfl,rfl⟩;refine xk ?_;refine FP 10 (by kernel_rfl) (by kernel_rfl) rfl (Le.refl _) rfl rfl (Nl rfl Xm rfl rfl rfl (by exact TB _) rfl) ?_;rintro _ _ _ ⟨rfl,rfl⟩;refine xk (Bx (H':=row b5 328 (Sm ⟨[],(AG q 0 Ft).b,(AG q 0 Ft).b⟩)::_) ?_ (fun _ h=>h))
  refine xr [11] O O (CX (AS (AK O (AF (tr (ye O (Cl (vs:=[_,_,_,_,_,_]) (css:=[P5 (AG A3 0 []),P5 (AG A3 1 []),P5 (AG A3 2 []),P5 (AG A3 3 []),P5 (AG A3 4 []),P5 (AG A3 5 [])]) O BT Co O O O O (O) (by simp[P5])) ?_))))));rintro _ _ _ ⟨b31,rfl,rfl,rfl⟩;refine FB (H':=Ap 9 1 P5 (.slice (some ⟨b31,0,none⟩) 6 6) A3::_) ?_ (fun _ h=>H5 h rfl (by decide));refine yq rfl ((by exact IP rfl BT rfl)) ?_;refine AH rfl (AJ (EB (ι:=Nat×List UInt8) [3,4,0,1,21,5,6,31,32] (fun zz=>zz.1<=A3.length/\zz.2=(A3.take zz.1).foldl (Jc q) []) (fun zz=>A3.length-zz.1) (fun zz=>[(33,.int .i64 (zz.1:Int)),(7,Au zz.2)]) (fun zz=>(II g)) (fun zz=>(Ap 9 1 P5 (.slice (some ⟨b31,0,none⟩) 6 6) A3::row b5 328 (Sm ⟨[],(AG q 0 Ft).b,(AG q 0 Ft).b⟩)::(F++G g))) (0,[]) rfl ?_ ?_))
  ·dsimp only;exact⟨Aw _,O⟩
  rintro⟨i,cl⟩ ⟨hi,FW⟩;dsimp only at *
  have hn6:A3.length=6:=rfl
  refine AK O (AF (AA O (fun An=>?_) (fun An=>?_)))
  ·simp only[BC]at An
   have DK:i<A3.length:=by have:A3.length=6:=rfl;omega
   have AEA:=ADL DK
   refine AV (AF (AJ (tr ?_)));refine yq O ((by exact Fp O BT Co O O (by omega))) ?_;refine yq O ((by exact M0 O BX O O (APS (by omega)))) ?_;refine AH O (tr (yq O (F1 O O O (by(simp only[CD,Bb];omega))) ?_));refine yq O (F1 O O O (by(simp only[Bh,CD,Bb];omega))) ?_;refine yp O ((fun w hw=>D6 vq q (DZ (AG A3 i [])) w hql (by rw[Te (BE (by omega))];decide) (PQ.mono hw.le))) ?_;refine ln (AA O (fun A6=>?_) (fun A6=>?_))
   ·refine AC (AU O (AL (AS (AC (yq O (AM O O O (by omega)) ?_)))));refine AU O (DJ ((i+1,AG A3 i [])) ?_ ?_)
    ·dsimp only
     refine⟨by show i+1<=_;omega,?_⟩;rw[Yg _ _ [] (by omega),<-FW,Jc,AI A6]
    dsimp only
    show A3.length-(i+1)<A3.length-i;omega
   refine AY (AL (AS (AC (yq O (AM O O O (by omega)) ?_))));refine AU O (DJ ((i+1,cl)) ?_ ?_)
   ·dsimp only
    refine⟨by show i+1<=_;omega,?_⟩;rw[Yg _ _ [] (by omega),<-FW,Jc,AB (by rw[A6];simp)]
   dsimp only
   show A3.length-(i+1)<A3.length-i;omega
  simp only[CA]at An
  have FW:cl=Kb q:=by rw[FW,LG (by have:A3.length=6:=rfl;omega)];try rfl
  refine Av (AE (AE (AO (AS (EZ (ι:=Mem×Nat) [33,3,4,0,1,21,5,31,32,34] (fun zz=>(zz.1,zz.2)=FT q) (fun zz=>[(6,.int .i64 (zz.2:Int))]) (fun zz=>(II g)) (fun zz=>(row b5 328 (Sm zz.1)::(F++G g))) O ?_ ?_)))))
  ·refine AJ (tr (yq O (Bs O O O) (AH O (AA O (fun BJ=>?_) (fun BJ=>?_)))))
   ·simp only[ne_eq,decide_not,FJ,CA]at BJ
    have Anw:cl.length<=5:=by rw[FW];exact ANb q
    refine AC (Em (Sm ⟨cl,0,0⟩) O (yq O (AW O BX O) (yq O (AM O O O (by omega)) ?_)));refine El (Sm ⟨cl,0,0⟩) O ?_ (by exact TB _);refine AU O (AL (CB ((⟨cl,0,0⟩,cl.length+4)) ?_))
    dsimp only
    rw[FW]at *;exact(ASl BJ).symm
   simp only[ne_eq,decide_not,Bool.not_eq_false',BC]at BJ;rw[FW]at BJ
   have FW:Kb q=[]:=BJ
   refine tq ?_;refine zq O ((by exact BH O DU O (Sl.lenOf PQ (Af _)))) ?_
   refine zA 3 O (fun h60=>by
     simp at h60
     refine zq O ((by exact CW O DU Cn O O (Sl.lenOf PQ (Af _)) (by omega))) ?_;refine zp O ((fun w hw=>D6 _ (q.drop 1) [45] w (by rw[BA];omega) (by decide) ((PQ.dropM O (show 1<=q.length by omega)).mono hw.le))) ?_;exact zv O
    ) ?_
   refine zA 4 O (fun h66=>by
     simp at h66
     refine zq O ((by exact CW O DU Cn O O (Sl.lenOf PQ (Af _)) (by omega))) ?_;refine zp O ((fun w hw=>D6 _ (q.drop 2) [93] w (by rw[BA];omega) (by decide) ((PQ.dropM O (show 2<=q.length by omega)).mono hw.le))) ?_;exact zv O
    ) ?_
   refine De O (AA O (fun Bj=>?_) (fun Bj=>?_))
   ·have h4:(decide ((2:Int)<(q.length:Int))&&Ax (q.drop 1) [45]&& !Ax (q.drop 2) [93])=true:=Bj
    have h42:2<q.length:=by simp only[Ay,BC]at h4;omega
    refine AC ?_;refine yq O ((by exact AN O DU Cn O O (Sl.shape PQ (Af _)) (by omega))) ?_;refine yq O ((by exact Ai O O (Gt (i:=2) PQ (by omega)))) ?_;refine Eu (Sm ⟨[],(AG q 0 Ft).b,(AG q 2 Ft).b⟩) O ?_ (by exact⟨O,O⟩);refine AU O (AL (CB ((⟨[],(AG q 0 Ft).b,(AG q 2 Ft).b⟩,3)) ?_))
    dsimp only;exact(AHo FW Bj).symm
   refine AY (AL (CB ((⟨[],(AG q 0 Ft).b,(AG q 0 Ft).b⟩,1)) ?_))
   dsimp only;exact(AHx FW Bj).symm
  rintro⟨m,k⟩ hmk;dsimp only at *
  have W6:q≠[]:=List.ne_nil_of_length_pos hq0
  have Rn:k<=q.length:=by have:=Ht W6;rw[<-hmk]at this;exact this
  have PJ:1<=k:=by have:=Hj q;rw[<-hmk]at this;exact this
  have hvr:=PQ.dropM (l:=k) O Rn
  rw[PW W6 fi CS,<-hmk]at I4;refine tr (yq O ((by exact CW O DU Cn O O (Sl.lenOf PQ (Af _)) (by omega))) ?_);refine AH O (tr (yq O (A7 O AQW Xm O O O) (Tq 1 O (Mb (i:=nn) g (Fi O) O O O O O hY ((C2 I4).2.1) JD O (fun g JD CH=>?_) (fun g hcx CH=>?_)))))
  ·have hvr:=hvr.mono CH
   have hJ:=hJ.trans CH
   refine AH O (AA O (fun B4=>?_) (fun B4=>?_))
   ·simp at B4
   simp at B4
   refine AY (AL (AS (AC (AU O (DJ ((q.drop k,F7 2 k q.length vq,false,nn+1,g)) ?_ ?_)))))
   ·dsimp only;exact⟨(C2 I4).1,JD,hJ,(C2 I4).2.2,hvr,by rw[BA];omega⟩
   dsimp only
   show(q.drop k).length<q.length;rw[BA];omega
  have hJ:=hJ.trans CH
  refine AH O (AA O (fun CP=>?_) (fun CP=>?_))
  ·simp at CP
   refine Ak (I7 O (fun w' hw=>?_));exact⟨_,O,g,.inr ⟨nn+1,(C2 I4).1,hcx⟩,hJ,BZ.rebase (AD hw)⟩
  simp at CP
 have h0:(decide ((0:Int)<(q.length:Int))&&(fi|| !Ax q [93]))=false:=Ab
 have ACS:Kh q fi=[]:=by
  by_cases W6:q=[]
  ·subst W6;rfl
  have:=BV.2 W6
  rw[WG W6,AI]
  have h1:decide ((0:Int)<(q.length:Int))=true:=by rw[BC];omega
  rw[h1,Bool.true_and]at h0
  cases fi<;>simp_all
 rw[ACS]at I4;refine Av (AE (AE (AO (EK O (fun w' hw=>?_)))));exact⟨_,O,g,.inl (by rw[<-U1 I4 hn];exact JD),hJ,BZ.rebase (AD hw)⟩
def BrR(p:List Ch)(c:UInt8)(I:AQ)(r:Value):Prop:= ∃f vr ok,r=.tuple #[.bool f,vr,.bool ok]/\((ok=true/\∃b,Ds p c=some (f,b)/\Sl I 2 vr (b.map D5))\/(ok=false/\Ds p c=none))
def Aht(p:List Ch)(c:UInt8)(I:AQ)(r:Value):Prop:= ∃vr,r=.tuple #[.bool (Hw p c).1,vr]/\Sl I 2 vr ((Hw p c).2.map D5)
theorem X4:∀(n:Nat) (v:Value) (l:List (Mem×Nat)),∀vs∈Kv n v l,vs.length=[22,23].length
 |_,_,[],_,h=>by cases h
 |n,v,(m,k)::r,vs,h=>by
  rw[Kv]at h;rcases Ci.1 h with rfl|h
  ·rfl
  exact X4 _ _ r vs h
theorem AKQ{xs:List (List Value)}{q:List Ch}(I4:xs.drop nn=Kv q.length vq (Kh q fi))(hi:xs[nn]? =some vs):
  q≠[]/\(!fi&&Ax q [93])=false/\vs=[.agg (Sm (FT q).1).toArray,F7 2 (FT q).2 q.length vq]/\xs.drop (nn+1)=Kv (q.drop (FT q).2).length (F7 2 (FT q).2 q.length vq) (Kh (q.drop (FT q).2) false):=by
 obtain⟨Eg,hx⟩:=List.getElem?_eq_some_iff.1 hi
 have h1:=V3 Eg
 rw[hx,I4]at h1
 by_cases hq:q=[]
 ·subst hq;cases h1
 by_cases CS:(!fi&&Ax q [93])=true
 ·rw[WG hq,AI CS]at h1;cases h1
 have CS:(!fi&&Ax q [93])=false:=by simpa using CS
 rw[PW hq fi CS]at h1
 injection h1 with h2 h3
 exact⟨hq,CS,h2.symm,h3.symm⟩
theorem ASE{q:List Ch}(h:Kv q.length vq (Kh q fi)=[]):q=[]\/(fi=false/\Ax q [93]=true):=by
 by_cases hq:q=[]
 ·exact .inl hq
 by_cases CS:(!fi&&Ax q [93])=true
 ·right;cases fi<;>simp_all
 have CS:(!fi&&Ax q [93])=false:=by simpa using CS
 rw[PW hq fi CS]at h;cases h
theorem ALY(v:Value)(p:List Ch)(c:UInt8)(I:AQ)(w:World)(hI:Le I (Ao w))(hp:p.length<=4611686018427387904)(PU:p≠[])(hv:Sl I 2 v (p.map D5)):AHS prog 198 [v,u8 c] w (BrR p c I):=by
 have EU:=BV.2 PU
 have hd1:=hv.dropM (l:=1) O (by omega)
 refine Mw func198 O ntmps198 O (St.start w (Ao w) (Le.refl _)) (tr (JC _ O (fun b3=>?_) (by rfl)))
 refine HO _ O fun b4=>?_
 refine AH O (tr (yq O ((by exact CW O DU Cn O O (Sl.lenOf hv (Af _)) (by omega))) ?_));refine AH O (tr (yp O ((fun w hw=>D6 _ (p.drop 1) [33] w (by rw[BA];omega) (by decide) (hd1.mono (hI.trans (Le.of_st hw))))) ?_));refine AH O (EZ (ι:=Value×List Ch) [0,1,3,4,5,6,8] (fun zz=>zz.2=(if Ax (p.drop 1) [33]then p.drop 2 else p.drop 1)/\Sl I 2 zz.1 (zz.2.map D5)/\zz.2.length<=p.length) (fun zz=>[(7,zz.1)]) (fun zz=>(Ao w)) (fun zz=>[row b3 5 [u8 c],row b4 4 [.bool false]]) O ?_ ?_)
 ·refine AK O (AA O (fun Ab=>?_) (fun Ab=>?_))
  ·have h1l:=HD Ab
   replace h1l:1<=(p.drop 1).length:=h1l
   refine AC (yq O ((by exact CW O DU Cn O O (Sl.lenOf hd1 (Af _)) (by omega))) ?_);refine AU O (CB ((F7 2 1 (p.drop 1).length (F7 2 1 p.length v),(p.drop 1).drop 1)) ?_)
   dsimp only;refine⟨by rw[AI Ab,Cp],hd1.dropM O h1l,by simp only[BA];omega⟩
  refine AY (CB ((F7 2 1 p.length v,p.drop 1)) ?_)
  dsimp only;refine⟨by rw[Ab,AB (by simp)],hd1,by simp only[BA];omega⟩
 rintro⟨vi,inn⟩ ⟨Aes,hvi,DK⟩;dsimp only at *;refine tr (HO _ rfl fun b9=>?_);refine Eu _ rfl ?_ (by exact hvi.one) rfl (by(simp only[DS];try rfl));refine XN (yc rfl (fun w hw=>Wx vi _ _ _ w hvi.one hw) ?_);rintro _ J0 _ ⟨hJ0,rfl,b0,rfl,NW⟩;refine ln (AJ (OO (γ:=List Ch×Value×Bool×Bool) (AAd inn vi b0 (by omega)) rfl rfl func237 (by kernel_rfl) rfl (fun nn zz=>brG zz.1 zz.2.2.1 c zz.2.2.2=brG inn true c false/\(Kv inn.length vi (Kh inn true)).drop nn=Kv zz.1.length zz.2.1 (Kh zz.1 zz.2.2.1)/\Sl I 2 zz.2.1 (zz.1.map D5)/\(zz.2.2.1=true->zz.1.length=inn.length)/\(zz.2.2.1=false->zz.1.length<inn.length)) (fun _ _=>False) [] (fun zz TT=>(row b4 4 [.bool zz.2.2.2]::row b9 71 [zz.2.1]::row b3 5 [u8 c]::TT)) (fun _ _=>rfl) (fun zz=>J0) [(7,_),(0,_),(1,_),(3,_),(4,_),(5,_),(6,_),(8,_),(9,_),(21,_)] (BS rfl) (inn,vi,true,false) ?_ ?_ ?_ ?_ rfl ?_ ?_ ?_ (fun _ _ _ h=>h.elim)))
 ·exact⟨O,O,hvi,fun _=>rfl,fun h=>by cases h⟩
 ·exact⟨NW,hvi.mono (hI.trans hJ0)⟩
 ·exact Le.refl _
 ·exact fun _ h=>AD h
 ·exact X4 _ _ _
 ·intro bl ready busy done dfr nn vs gg w0r FF hi Ek hrs hbz;obtain⟨q,vq,fi,f⟩:=gg;obtain⟨KA,I4,PQ,hf1,hf2⟩:=Ek;dsimp only at *;obtain⟨W6,CS,rfl,Ais⟩:=AKQ I4 hi
  have Rn:=Ht W6
  have hk0:=Hj q
  have hv2:=PQ.dropM (l:=(FT q).2) O Rn
  refine tr (HO _ O fun b10=>?_);refine El _ O ?_ (by exact TB _);refine ln (AC (AU O (Mn (by rfl) hrs ?_)));refine AJ (tr (CL 6 (EA O ?_)))
  refine zO 3 O (fun h29=>by
    refine zq O (A7 O AQW Xm O O O) (EA O ?_);refine zp O ((fun w _=>AFq (FT q).1 c w)) ?_;exact zv O
   ) ?_
  refine FR (Eu _ O ?_ (by exact⟨O,O⟩) O (by(simp only[DS];try rfl)));refine ln (AC (Eu _ O ?_ (by exact hv2.one) O (by(simp only[DS];try rfl))));refine C7 (AL (Gy (fun w' hw'=>.inl ⟨O,((q.drop (FT q).2,F7 2 (FT q).2 q.length vq,false,(f||GI (FT q).1 c))),?_,?_,?_⟩)))
  ·dsimp only;refine⟨?_,Ais,hv2,(fun h=>by cases h),fun _=>?_⟩
   ·rw[<-KA,Pt W6 fi c f,CS,AB (by simp)]
   have hh:q.length<=inn.length:=by
    cases fi
    ·exact Nat.le_of_lt (hf2 O)
    exact Nat.le_of_eq (hf1 O)
   rw[BA];omega
  ·exact Le.refl _
  dsimp only;exact AD hw'
 intro bd gg Ek CH;obtain⟨q,vq,fi,f⟩:=gg;obtain⟨KA,I4,PQ,hf1,hf2⟩:=Ek;dsimp only at *;rw[K7]at I4
 have ACS:=ASE I4.symm
 have hql:q.length<=inn.length:=by
  cases fi
  ·exact Nat.le_of_lt (hf2 O)
  exact Nat.le_of_eq (hf1 O)
 refine AL (AS (AF (tq (EA O ?_))));refine zp O ((fun w hw=>D6 _ q [93] w (by omega) (by decide) (PQ.mono ((hI.trans hJ0).trans (Le.of_st hw))))) ?_
 refine zO 5 O (fun h40=>by
   simp at h40
   refine EA O ?_;refine zq O ((by exact BH O DU O (Sl.lenOf PQ (Af _)))) ?_;refine zq O ((by exact BH O DU O (Sl.lenOf hvi (Af _)))) ?_;exact zv O
  ) ?_
 refine Dp (AA O (fun An=>?_) (fun An=>?_))
 ·refine tr (Eu _ O ?_ (by exact⟨O,O⟩) O (by(simp only[DS];try rfl)));refine AH O (AX (Ah (Db (F3 (bs:=[bd]) (.inl O) O (by exact CR O un4 O (by exact Cs O) (UV O (UV O (Fy)))) (fun w' hw=>?_)))))
  have CH:=hI.trans hJ0
  refine⟨_,O,⟨false,_,false,O,.inr ⟨O,?_⟩⟩,(hw.less hJ0).below⟩
  have h1:(!Ax q [93]||decide ((q.length:Int)=(inn.length:Int)))=true:=An
  have hq0:q=[]:=by
   rcases ACS with h|⟨h2,h3⟩
   ·exact h
   have:=hf2 h2
   simp only[h3,Bool.not_true,Bool.false_or,BC]at h1
   omega
  unfold Ds;dsimp only;rw[<-Aes,<-KA,hq0]
  rfl
 refine AV (AF ?_)
 have hq1:1<=q.length:=by
  have h1:(!Ax q [93]||decide ((q.length:Int)=(inn.length:Int)))=false:=An
  simp only[Bool.or_eq_false_iff,Bool.not_eq_false',CA]at h1;exact HD h1.1
 refine Bo [5] [] [row b9 71 [vq]] mo (by kernel_rfl) (fun _ _ _ _ _ h=>h) (xq 0 O O (Az O O (by rfl)) ?_);refine xr [1] O O (xq 2 O O (Pu O un4 O O) (x0 3 O (Le.refl _) O (fun _ hI=>Az O O (by rfl)) ?_));refine x0 4 O (Le.refl _) O (fun _ hI=>(by exact CW O DU Cn O O (Sl.lenOf PQ (Af _)) (by omega))) ?_;refine FP 5 (by kernel_rfl) (by kernel_rfl) O (Le.refl _) O O (Bz O NL O O (by exact⟨O,O⟩) O (by(simp only[DS];try rfl))) ?_;rintro _ _ _ ⟨rfl,rfl⟩;refine xk (xr [6,7] rfl rfl (CX (AS (AX (Db (F3 (bs:=[bd]) (.inl rfl) rfl (by exact CR rfl un4 rfl (by exact Cs rfl) (UV rfl (UV rfl (Fy)))) (fun w' hw=>?_)))))))
 have h1:(!Ax q [93]||decide ((q.length:Int)=(inn.length:Int)))=false:=An
 simp only[Bool.or_eq_false_iff,Bool.not_eq_false',CA]at h1
 have W6:q≠[]:=by rintro rfl;exact Ac h1.1 (by decide)
 have hfi:fi=false:=by
  cases fi with
  |false=>rfl
  |true=>exact Ac (by rw[hf1 O]) h1.2
 refine⟨_,O,⟨_,_,true,O,.inl ⟨O,q.drop 1,?_,PQ.dropM O hq1⟩⟩,(hw.less hJ0).below⟩;unfold Ds;dsimp only;rw[<-Aes,<-KA,Pt W6,hfi,h1.1]
 rfl
theorem AGf{p:List Ch}{b:UInt8}(h:Ax p [b]=true):p≠[]:=by rintro rfl;cases h
def YX(n:Nat)(g:Bool):List (List Value):=(List.range (n+1)).map fun i=>[.int .i64 ((if g then n-i else i:Nat):Int)]
theorem ON(n:Nat)(g:Bool):(YX n g).length=n+1:=by simp[YX]
theorem ACZ{n:Nat}(h:i<n+1):(YX n g)[i]? =some [.int .i64 ((if g then n-i else i:Nat):Int)]:=by simp[YX,h]
theorem AMA{n:Nat}(h:(YX n g)[i]? =some vs):i<n+1/\vs=[.int .i64 ((if g then n-i else i:Nat):Int)]:=by
 have h1:=(List.getElem?_eq_some_iff.1 h).1
 rw[ON]at h1;rw[ACZ h1]at h;exact⟨h1,(O3 h).symm⟩
theorem ABV{p:List Ch}(hm:m=GD s lg nn)(e1:((s.length:Int)-(m:Int)).toNat=s.length-m)(h0:(e&&Mt p (s.drop ((s.length:Int)-(m:Int)).toNat))=false)(h1:(!e&&Mt p (s.take ((m:Int)).toNat))=false):JT p s e lg nn=false:=by
 unfold JT;rw[<-hm];rw[e1]at h0
 cases e
 ·simpa using h1
 simpa using h0
theorem AWd{p:List Ch}(hm:m=GD s lg nn)(e1:((s.length:Int)-(m:Int)).toNat=s.length-m)(hn:nn<=s.length)(Cz:∀j,j<nn->JT p s e lg j=false)(h0:(e&&Mt p (s.drop ((s.length:Int)-(m:Int)).toNat))=true):s.take ((s.length:Int)-(m:Int)).toNat=KN p s e lg:=by
 rw[Ay,e1]at h0;obtain⟨rfl,h0⟩:=h0;rw[ACf hn Cz (by unfold JT;rw[AI rfl,<-hm];exact h0),SJ,AI rfl,<-hm,e1]
theorem AVl{p:List Ch}(hm:m=GD s lg nn)(hn:nn<=s.length)(Cz:∀j,j<nn->JT p s e lg j=false)(h0:(!e&&Mt p (s.take ((m:Int)).toNat))=true):s.drop ((m:Int)).toNat=KN p s e lg:=by
 rw[Ay,FJ]at h0;obtain⟨rfl,h0⟩:=h0
 have h1:Mt p (s.take m)=true:=h0
 rw[ACf hn Cz (by unfold JT;rw[AB (by simp),<-hm];exact h1),SJ,AB (by simp),<-hm]
 rfl
theorem AdG(v:Value)(p:List Ch)(c:UInt8)(I:AQ)(w:World)(hI:Le I (Ao w))(hp:p.length<=4611686018427387904)(PU:p≠[])(hv:Sl I 2 v (p.map D5)):AHS prog 164 [v,u8 c] w (Aht p c I):=by
 have EU:=BV.2 PU
 have hvw:=hv.mono hI
 have hd1:=hv.dropM (l:=1) O EU
 refine enter func164 O ntmps164 O (St.start w (Ao w) (Le.refl _)) (AK O (AF (AJ (tr (yp O ((fun w hw=>D6 v p [63] w (by omega) (by decide) (hv.mono (hI.trans (Le.of_st hw))))) ?_)))));refine AH O (AA O (fun Ab=>?_) (fun Ab=>?_))
 ·refine AF (Bd mo (by kernel_rfl) (fun _ _ _ _ _ h=>h) (zq O ((by exact CW O DU Cn O O (Sl.lenOf hv (Af _)) (by omega))) ?_));refine De O (Ak (Aj O O O (fun w' hw=>?_)));refine⟨_,O,?_,hw.below⟩
  have h1:Hw p c=(true,p.drop 1):=by rw[Hw,AI Ab]
  exact⟨_,by rw[h1],by rw[h1];exact hd1⟩
 refine tr (yp O ((fun w hw=>D6 v p [91] w (by omega) (by decide) (hv.mono (hI.trans (Le.of_st hw))))) ?_);refine AH O (AA O (fun An=>?_) (fun An=>?_))
 ·refine tr (ye O (Sv O O O func198 (by kernel_rfl) O (fun w hw=>ALY v p c I w (hI.trans (Le.of_st hw)) hp PU hv)) ?_);rintro _ _ _ ⟨⟨fo,vr,ok,rfl,KA⟩,rfl,rfl⟩;refine AH rfl (AK rfl (AA rfl (fun A6=>?_) (fun A6=>?_)))
  ·refine AK O (Ak (Aj O O O (fun w' hw=>?_)));refine⟨_,O,?_,hw.below⟩;rcases KA with ⟨_,b,hb,C3⟩|⟨h,_⟩
   ·have h1:Hw p c=(fo,b):=by rw[Hw,AB (by rw[Ab];simp),AI An,hb]
    exact⟨vr,by rw[h1];try rfl,by rw[h1];exact C3⟩
   rw[h]at A6;cases A6
  refine AY (AL (AS (AF (Bd mo (by kernel_rfl) (fun _ _ _ _ _ h=>h) ?_))));refine zq O ((by exact AN O DU Cn O O (Sl.shape hv (Af _)) (by omega))) ?_;refine zq O ((by exact Ai O O (Gt (i:=0) hvw (by omega)))) ?_;refine zq O (Ly O O O) (zq O ((by exact CW O DU Cn O O (Sl.lenOf hv (Af _)) (by omega))) ?_);refine De O (AX (Aj O O O (fun w' hw=>?_)));refine⟨_,O,?_,hw.below⟩;rcases KA with ⟨h,_⟩|⟨_,hb⟩
  ·rw[h]at A6;cases A6
  have h1:Hw p c=(decide ((AG p 0 Ft).b=c),p.drop 1):=by rw[Hw,AB (by rw[Ab];simp),AI An,hb]
  exact⟨F7 2 1 p.length v,by rw[h1];rfl,by rw[h1];exact hd1⟩
 refine AY (AL (AS (AF (Bd mo (by kernel_rfl) (fun _ _ _ _ _ h=>h) ?_))));refine zq O ((by exact AN O DU Cn O O (Sl.shape hv (Af _)) (by omega))) ?_;refine zq O ((by exact Ai O O (Gt (i:=0) hvw (by omega)))) ?_;refine zq O (Ly O O O) (zq O ((by exact CW O DU Cn O O (Sl.lenOf hv (Af _)) (by omega))) ?_);refine De O (AX (Aj O O O (fun w' hw=>?_)));refine⟨_,O,?_,hw.below⟩
 have h1:Hw p c=(decide ((AG p 0 Ft).b=c),p.drop 1):=by rw[Hw,AB (by rw[Ab];simp),AB (by rw[An];simp)]
 exact⟨F7 2 1 p.length v,by rw[h1];rfl,by rw[h1];exact hd1⟩
theorem Vp(v:Value)(p:List Ch)(s0:List UInt8)(w:World)(hp:p.length<=4611686018427387904)(hs:s0.length<=4611686018427387904)(hv:Sl (Ao w) 2 v (p.map D5)):B2 prog 139 [v,Au s0] w (.bool (Mt p s0)):=by
 refine enter func139 O ntmps139 O (St.start w (Ao w) (Le.refl _)) (AK O (AK O (AK O (AF (AJ (EB (ι:=List Ch×Value×List UInt8×List Ch×Value×List UInt8×Bool) [] (fun zz=>LO p s0 zz.2.2.2.2.2.2 zz.2.2.2.1 zz.2.2.2.2.2.1 zz.1 zz.2.2.1/\Sl (Ao w) 2 zz.2.1 (zz.1.map D5)/\(zz.2.2.2.2.2.2=true->Sl (Ao w) 2 zz.2.2.2.2.1 (zz.2.2.2.1.map D5))/\zz.1.length<=p.length/\zz.2.2.2.1.length<=p.length/\zz.2.2.1.length<=s0.length/\zz.2.2.2.2.2.1.length<=s0.length/\(zz.2.2.2.2.2.2=true->zz.2.2.1.length<=zz.2.2.2.2.2.1.length)) (fun zz=>(if zz.2.2.2.2.2.2 then zz.2.2.2.2.2.1.length else s0.length+1) * (p.length+s0.length+1)+(zz.1.length+zz.2.2.1.length)) (fun zz=>[(0,zz.2.1),(1,Au zz.2.2.1),(5,zz.2.2.2.2.1),(6,Au zz.2.2.2.2.2.1),(7,.bool zz.2.2.2.2.2.2)]) (fun zz=>Ao w) (fun zz=>[]) (p,v,s0,[],.slice none 0 0,[],false) O ?_ ?_))))))
 ·dsimp only;exact⟨LO.start p s0,hv,(fun h=>by cases h),A5 _,Aw _,A5 _,Aw _,fun h=>by cases h⟩
 rintro⟨q,vq,s,ag,va,fr,star⟩ ⟨hm,PQ,hva,hq,hag,C3,hfr,hsf⟩;dsimp only at *;refine AF (tq (zq rfl (Bs rfl rfl rfl) ?_))
 refine zO 3 O (fun h16=>by
   simp at h16
   refine zq O ((by exact BH O DU O (Sl.lenOf PQ (Af _)))) ?_;exact zv O
  ) ?_
 refine Dp (AA O (fun Ab=>?_) (fun Ab=>?_))
 ·have h0:(decide (s≠[])||decide ((0:Int)<(q.length:Int)))=true:=Ab
  have Dk:¬(q=[]/\s=[]):=by rintro⟨rfl,rfl⟩;simp at h0
  refine AV (AJ (AF (tr (yp O ((fun w hw=>D6 vq q [42] w (by omega) (by decide) (PQ.mono (Le.of_st hw)))) ?_))));refine ln (AA O (fun An=>?_) (fun An=>?_))
  ·have W6:q≠[]:=AGf An
   have hq1:=BV.2 W6
   have hd1:=PQ.dropM (l:=1) O hq1
   refine tr (yq O ((by exact CW O DU Cn O O (Sl.lenOf PQ (Af _)) (by omega))) ?_);refine AH O (AK O (Av (AE (AO (DJ ((q.drop 1,F7 2 1 q.length vq,s,q.drop 1,F7 2 1 q.length vq,s,true)) ?_ ?_)))))
   ·dsimp only;exact⟨hm.star An,hd1,fun _=>hd1,by rw[BA];omega,by rw[BA];omega,C3,C3,fun _=>A5 _⟩
   dsimp only;rw[AI O,BA];refine Nat.lt_of_lt_of_le (Nat.add_lt_add_left (show q.length-1+s.length<q.length+s.length by omega) _) (Nat.add_le_add_right (TO _ ?_) _)
   split
   ·exact hsf ‹_›
   omega
  refine AV (EZ (ι:=Unit) [5,6,7,16,18] (fun zz=>(q≠[]->s≠[]->(Hw q (AG s 0 0)).1=false)) (fun zz=>[]) (fun zz=>Ao w) (fun zz=>[]) O ?_ ?_)
  ·refine tq ?_;refine zq O ((by exact BH O DU O (Sl.lenOf PQ (Af _)))) ?_
   refine zA 2 O (fun h29=>by
     simp at h29
     refine zq O (Bs O O O) ?_;exact zv O
    ) ?_
   refine Dp (AA O (fun A6=>?_) (fun A6=>?_))
   ·have h2:(decide ((0:Int)<(q.length:Int))&&decide (s≠[]))=true:=A6
    rw[Ay,BC,BC]at h2
    have W6:q≠[]:=List.ne_nil_of_length_pos (by omega)
    have TP:=h2.2
    have Lh:=BV.2 TP
    have hol:=V5 W6 (AG s 0 0)
    refine tr (yq O ((by exact AZ O BX O O (by omega))) ?_);refine ye O (Sv O O O func164 (by kernel_rfl) O (fun w hw=>AdG vq q (AG s 0 0) _ w (Le.of_st hw) (by omega) W6 PQ)) ?_;rintro _ _ _ ⟨⟨vr,rfl,hvr⟩,rfl,rfl⟩;refine AH rfl (AK rfl (AA rfl (fun BJ=>?_) (fun BJ=>?_)))
    ·refine AF (Bd mo (by kernel_rfl) (fun _ _ _ _ _ h=>h) (zq O (BF O BX O O (by omega)) ?_));refine De O (Av (AE (AO (DJ (((Hw q (AG s 0 0)).2,vr,s.drop 1,ag,va,fr,star)) ?_ ?_))))
     ·dsimp only;exact⟨hm.one W6 An TP BJ,hvr,hva,by omega,hag,by rw[BA];omega,hfr,fun h=>by have:=hsf h;rw[BA];omega⟩
     dsimp only;refine Nat.add_lt_add_left ?_ _
     rw[BA];omega
    refine AY (CB (()) ?_)
    exact fun _ _=>BJ
   refine AY (CB (()) ?_)
   intro h1 h2
   exfalso
   have h3:=BV.2 h1
   have h:(decide ((0:Int)<(q.length:Int))&&decide (s≠[]))=false:=A6
   simp[h2]at h
   exact h1 h
  rintro u Cz;refine AF (tq ?_)
  refine zO 2 O (fun h46=>by
    simp at h46
    refine zq O (AR O O O) ?_;exact zv O
   ) ?_
  refine Dp (AA O (fun Bj=>?_) (fun Bj=>?_))
  ·have h4:(!star||decide (fr=[]))=true:=Bj
   have AHG:=Qf Dk An Cz
   refine AK O (Ak (AP O O (fun w' hw=>?_)));refine⟨?_,hw.below⟩;rw[hm.fail AHG (by simpa using h4)]
  have h4:(!star||decide (fr=[]))=false:=Bj
  simp at h4
  have OF:=h4.1
  have OG:=h4.2
  have hf1:=BV.2 OG
  have AHG:=Qf Dk An Cz
  refine AV (tr (yq O (BF O BX O O (by omega)) ?_));refine AH O (AC (AU O (AL (DJ ((ag,va,fr.drop 1,ag,va,fr.drop 1,star)) ?_ ?_))))
  ·dsimp only;exact⟨(OF ▸ hm).back AHG OG |> (OF ▸ ·),hva OF,hva,hag,hag,by rw[BA];omega,by rw[BA];omega,fun _=>A5 _⟩
  dsimp only;rw[OF,AI O,AI O,BA];exact AHi (by have:=BV.2 OG;omega) hag (by omega) _ (Aw _)
 have h0:(decide (s≠[])||decide ((0:Int)<(q.length:Int)))=false:=Ab
 simp at h0
 refine Av (AE (AE (AO (AS (AK O (AX (AP O O (fun w' hw=>?_))))))));refine⟨?_,hw.below⟩;obtain⟨rfl,rfl⟩:=h0;rw[hm.done rfl]
theorem ACa(n:Nat)(lg:Bool)(b1 b2:Nat)(hn:n<=4611686018427387904):Kk prog 162 [.pointer (some ⟨b1,0,none⟩),.pointer (some ⟨b2,0,none⟩)] (YX n lg) (fun I=>DA I b1 0 (.int .i64 (n:Int))/\DA I b2 0 (.bool lg)):=by
 intro γ Cd Cx G II lid hY w0 g00 F w SZ ⟨Oi,Wi⟩ BZ
 have hJ:=Le.refl (II g00)
 refine enter func162 O ntmps162 O (BZ.self) (tr (yq O ((by exact Ai O O (A8 (Oi.mono hJ)))) ?_));refine yq O (AM O O O (by omega)) ?_;refine AH O (AJ (EB (ι:=Nat×γ) [0,1,2,6] (fun zz=>zz.1<=n+1/\Cd zz.1 zz.2/\Le (II g00) (II zz.2)) (fun zz=>n+1-zz.1) (fun zz=>[(7,.int .i64 (zz.1:Int))]) (fun zz=>(II zz.2)) (fun zz=>(F++G zz.2)) (0,g00) O ?_ ?_))
 ·dsimp only;exact⟨Aw _,SZ,Le.refl _⟩
 rintro⟨i,g⟩ ⟨hi,JD,hJ⟩;dsimp only at *;refine AK rfl (AF (AA rfl (fun Ab=>?_) (fun Ab=>?_)))
 ·simp at Ab
  refine AV (AF (AJ (AK O (EZ (ι:=Nat) [7,0,1,2,6,8] (fun zz=>zz=(if lg then n-i else i)) (fun zz=>[(4,.int .i64 (zz:Int))]) (fun zz=>(II g)) (fun zz=>(F++G g)) O ?_ ?_))))
  ·refine tr (yq O ((by exact Ai O O (A8 (Wi.mono hJ)))) ?_);refine ln (AA O (fun An=>?_) (fun An=>?_))
   ·refine AC (yq O ((by exact Ai O O (A8 (Oi.mono hJ)))) ?_);refine yq O (Bl O O O (by omega)) ?_;refine AU O (Dd (n-i) ?_ (A0 O (by congr 1;omega) (Bk)) (BS O) (fun _ h=>by dsimp only;exact AD h))
    rw[An,AI O]
   refine AY (CB (i) ?_)
   rw[An,AB (by simp)]
  rintro m hm;dsimp only at *;refine tr (Tq 2 rfl (Mb (i:=i) g (Fi rfl) rfl rfl rfl rfl rfl hY (hm ▸ ACZ (by omega)) JD rfl (fun g JD CH=>?_) (fun g hcx CH=>?_)))
  ·have hJ:=hJ.trans CH
   refine AH O (AA O (fun A6=>?_) (fun A6=>?_))
   ·simp at A6
   simp at A6
   refine AY (AL (AS (AC (yq O (AM O O O (by omega)) ?_))));refine AU O (DJ ((i+1,g)) ?_ ?_)
   ·dsimp only;exact⟨by omega,JD,hJ⟩
   dsimp only
   omega
  have hJ:=hJ.trans CH
  refine AH O (AA O (fun BJ=>?_) (fun BJ=>?_))
  ·simp at BJ
   refine Ak (I7 O (fun w' hw=>?_));exact⟨_,O,g,.inr ⟨i+1,by rw[ON];omega,hcx⟩,hJ,BZ.rebase (AD hw)⟩
  simp at BJ
 simp at Ab
 refine Av (AE (AE (AO (EK O (fun w' hw=>?_)))));exact⟨_,O,g,.inl (by rw[ON,<-show i=n+1 by omega];exact JD),hJ,BZ.rebase (AD hw)⟩
theorem AAM(n:Int)(lg:Bool)(I:AQ)(F:List HA)(w0 w:World)(BZ:St w0 I F w):Calls prog 138 [.int .i64 n,.bool lg].toArray w (ER w fun v I' H'=>Le I I'/\F=H'/\∃b1 b2,v=.func (.func 162) #[] #[.pointer (some ⟨b1,0,none⟩),.pointer (some ⟨b2,0,none⟩)]/\DA I' b1 0 (.int .i64 n)/\DA I' b2 0 (.bool lg)):=by
 refine enter func138 O ntmps138 O (BZ.self) (tr (JC _ O (fun b2=>?_) (by rfl)));refine JC _ O (fun b3=>?_) (by rfl);refine AH O (AF (Cw b2 (fun J hJ h1=>?_)));refine Cw b3 (fun J2 Pe h2=>?_);refine AC (yq O (F8 O O O) (AH O (AX (AP O O (fun w' hw=>?_)))));exact⟨_,O,J2,_,⟨hJ.trans Pe,O,b2,b3,O,(h1 0 _ O).mono Pe,h2 0 _ O⟩,hw⟩
theorem AQe(v:Value)(p:List Ch)(s:List UInt8)(e lg:Bool)(w:World)(hp:p.length<=4611686018427387904)(hs:s.length<=4611686018427387904)(hv:Sl (Ao w) 2 v (p.map D5)):B2 prog 110 [v,Au s,.bool e,.bool lg] w (Au (KN p s e lg)):=by
 refine Mw func110 O ntmps110 O (St.start w (Ao w) (Le.refl _)) (tr (JC _ O (fun b4=>?_) (by exact JS.cells hv.one)));refine JC _ O (fun b5=>?_) (by rfl);refine JC _ O (fun b6=>?_) (by rfl)
 refine HO _ O fun b8=>?_
 refine XN (DE O ?_);refine yq O (AW O BX O) (yc O (fun w hw=>AAM _ lg _ _ _ w hw) ?_);rintro _ J0 _ ⟨hJ0,rfl,b1,b2,rfl,Oi,Wi⟩;refine ln (AJ (OO (γ:=List UInt8) (ACa s.length lg b1 b2 hs) rfl rfl func162 (by kernel_rfl) rfl (fun nn zz=>zz=[]/\∀j,j<nn->JT p s e lg j=false) (fun cc zz=>(cc=.ret/\zz=KN p s e lg)) [] (fun zz TT=>(row b4 71 [v]::row b5 9 [Au s]::row b6 4 [.bool e]::row b8 9 [Au zz]::TT)) (fun _ _=>rfl) (fun zz=>J0) [(0,_),(1,_),(2,_),(3,_),(4,_),(5,_),(6,_),(8,_),(13,_)] (BS rfl) [] ?_ ?_ ?_ ?_ rfl ?_ ?_ ?_ ?_))
 ·exact⟨O,fun j hj=>Ac hj (Nat.not_lt_zero j)⟩
 ·exact⟨Oi,Wi⟩
 ·exact Le.refl _
 ·exact fun _ h=>AD h
 ·intro vs hvs;obtain⟨x,_,rfl⟩:=FL.1 hvs;rfl
 ·intro bl ready busy done dfr nn vs r w0r FF hi Ek hrs hbz;obtain⟨rfl,Cz⟩:=Ek;dsimp only at *;obtain⟨hnn,rfl⟩:=AMA hi
  have hm0:=Yq (s:=s) (g:=lg) (i:=nn) (by omega)
  obtain⟨m,hm⟩:∃m,m=GD s lg nn:=⟨_,rfl⟩;rw[show(if lg then s.length-nn else nn)=m from hm.symm];rw[<-hm]at hm0
  have e1:((s.length:Int)-(m:Int)).toNat=s.length-m:=by omega
  refine AC (AU O (Mn (by rfl) hrs ?_));refine AJ (AJ (AF (Bd mo (by kernel_rfl) (fun _ _ _ _ _ h=>h) (EA O ?_))))
  refine zA 8 O (fun h26=>by
    refine EA O ?_;refine EA O ?_;refine EA O ?_;refine zq O (AW O BX O) (zq O (Bl O O O (by omega)) ?_);refine zq O (BF O BX O O (by omega)) ?_;refine zp O ((fun w hw=>Vp v p (s.drop ((s.length:Int)-(m:Int)).toNat) w hp (by simp;omega) (hv.mono (hJ0.trans (Le.of_st hw))))) ?_;exact zv O
   ) ?_
  refine De O (AA O (fun Ab=>?_) (fun Ab=>?_))
  ·refine tr (DE O ?_);refine DE O ?_;refine yq O (AW O BX O) (yq O (Bl O O O (by omega)) ?_);refine yq O (Ba O BX O O (by omega)) ?_;refine Eu _ O ?_ (by exact⟨O,O⟩) O (by(simp only[DS];try rfl));refine ln (AX (A4 (A4 (AAg (fun w' hw'=>.inr ⟨O,.ret,((s.take ((s.length:Int)-(m:Int)).toNat)),?_,?_,?_⟩)))))
   ·exact⟨O,AWd hm e1 (by omega) Cz Ab⟩
   ·exact Le.refl _
   exact AD hw'
  refine AF (Bd mo (by kernel_rfl) (fun _ _ _ _ _ h=>h) (EA O ?_))
  refine zA 5 O (fun h42=>by
    simp at h42
    refine EA O ?_;refine EA O ?_;refine zq O (Ba O BX O O (by omega)) ?_;refine zp O ((fun w hw=>Vp v p (s.take (m:Int).toNat) w hp (by simp;omega) (hv.mono (hJ0.trans (Le.of_st hw))))) ?_;exact zv O
   ) ?_
  refine De O (AA O (fun An=>?_) (fun An=>?_))
  ·refine tr (DE O ?_);refine yq O (BF O BX O O (by omega)) ?_;refine Eu _ O ?_ (by exact⟨O,O⟩) O (by(simp only[DS];try rfl));refine ln (AX (A4 (A4 (AAg (fun w' hw'=>.inr ⟨O,.ret,((s.drop (m:Int).toNat)),?_,?_,?_⟩)))))
   ·exact⟨O,AVl hm (by omega) Cz An⟩
   ·exact Le.refl _
   exact AD hw'
  refine AY (AL (AL (Gy (fun w' hw'=>.inl ⟨O,([]),?_,?_,?_⟩))))
  ·refine⟨O,fun j hj=>?_⟩;rcases Nat.lt_succ_iff_lt_or_eq.1 hj with h|rfl
   ·exact Cz j h
   exact ABV hm e1 Ab An
  ·exact Le.refl _
  exact AD hw'
 ·intro bd r Ek CH;obtain⟨rfl,Cz⟩:=Ek;dsimp only at *;refine AL (AS (tr (DE rfl ?_)));refine Eu _ rfl ?_ (by exact⟨rfl,rfl⟩) rfl (by(simp only[DS];try rfl));refine ln (AX (Db (F3 (bs:=[bd]) (.inl rfl) rfl (by exact CR rfl BX rfl (by exact Cs rfl) (Fy)) (fun w' hw=>?_))));refine⟨?_,(hw.less hJ0).below⟩
  rw[Yu (fun j hj=>Cz j (by rw[ON];exact hj))];try rfl
 intro bd cc r XF CH;obtain⟨rfl,rfl⟩:=XF;dsimp only at *;refine AX (A4 (Ah (Db (F3 (bs:=[bd]) (.inl rfl) rfl (by exact CR rfl BX rfl (by exact Cs rfl) (Fy)) (fun w' hw=>?_)))));exact⟨rfl,(hw.less hJ0).below⟩
end Go.Tri
