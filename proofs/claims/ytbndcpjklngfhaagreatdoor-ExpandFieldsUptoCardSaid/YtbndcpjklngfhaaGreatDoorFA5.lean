/-
 The reference: one element.
-/
import Derived.Test.YtbndcpjklngfhaaGreatDoorEC9
import Derived.Test.YtbndcpjklngfhaaGreatDoorEA4
import Derived.Test.YtbndcpjklngfhaaGreatDoorPLex12
import Derived.Test.YtbndcpjklngfhaaGreatDoorED4
namespace Go.Tri
open Go.Proofs.Tryz
open Go.Proofs Go.RowKit
set_option maxRecDepth 10000
variable {i o:Nat} {c b:UInt8} {br x:Bool} {s:List UInt8}
theorem APl{p:List Ch}(h:Kb (p.drop i)=[])(b:Bool)(hb:(Tg p (i+1) 45&&decide (((i:Int)+2)<(p.length:Int))&& !Tg p (i+2) 93)=b):
  FT (p.drop i)=if b then(⟨[],(AG p i Ft).b,(AG p (i+2) Ft).b⟩,3)else(⟨[],(AG p i Ft).b,(AG p i Ft).b⟩,1):=by
 have e1:(decide ((2:Int)<((p.drop i).length:Int))&&Ax ((p.drop i).drop 1) [45]&& !Ax ((p.drop i).drop 2) [93])=b:=by
  rw[<-hb,C9,C9,Cp,Cp,Bool.and_comm (decide _) (Ax _ _),BA]
  congr 2
  exact decide_eq_decide.2 (by omega)
 have e0:AG (p.drop i) 0 Ft=AG p i Ft:=Sn p i 0
 have e2:AG (p.drop i) 2 Ft=AG p (i+2) Ft:=Sn p i 2
 cases b
 ·rw[AHx h e1,e0];try rfl
 rw[AHo h e1,e0,e2];try rfl
def AhA(p:List Ch)(i:Nat)(c:UInt8)(r:Value):Prop:= ∃(n:Nat) (f:Bool),r=.tuple #[.int .i64 (n:Int),.bool f]/\((0<n/\i+n<=p.length/\Ds (p.drop i) c=some (f,p.drop (i+n)))\/(n=0/\Ds (p.drop i) c=none))
theorem To{p:List Ch}{i0:Nat}(h:i0=if Ax (p.drop (i+1)) [33]then i+2 else i+1):Ds (p.drop i) c=(brG (p.drop i0) true c false).map fun x=>(x.1 != Ax (p.drop (i+1)) [33],x.2):=by
 unfold Ds;rw[Cp,Cp]
 cases hs:Ax (p.drop (i+1)) [33]
 ·rw[hs,AB (by simp)]at h;subst h;rfl
 rw[hs,AI O]at h;subst h;rfl
theorem AYP{l:List Bool}(h:i<l.length):((l.map fun b=>[Value.bool b]).flatten)[i * 1]? =some (.bool (AG l i false)):=by
 have:=OQ (f:=fun b=>[Value.bool b]) (sz:=1) (fun _=>rfl) (CN l _ false h) (j:=0) (u:=.bool (AG l i false)) O
 exact this
theorem Ea(v:Value)(p:List Ch)(i:Nat)(b:UInt8)(w:World)(hp:p.length<=4611686018427387904)(hi:i<=9000000000000000000)(hv:Sl (Ao w) 2 v (p.map D5)):B2 prog 50 [v,.int .i64 (i:Int),u8 b] w (.bool (Tg p i b)):=by
 refine enter func50 O ntmps50 O (St.start w (Ao w) (Le.refl _)) (AK O (tq ?_));refine zq O ((by exact BH O DU O (Sl.lenOf hv (Af _)))) ?_
 refine zA 7 O (fun h19=>by
   simp at h19
   have DK:=h19
   refine zq O ((by exact AN O DU Cn O O (Sl.shape hv (Af _)) (by omega))) ?_;refine zq O ((by exact Ai O O (Gt (i:=i) hv (by omega)))) ?_;refine zq O (Ly O O O) ?_;exact zv O
  ) ?_
 refine zA 6 O (fun h27=>by
   simp at h27
   have DK:=h27.1
   refine zq O ((by exact AN O DU Cn O O (Sl.shape hv (Af _)) (by omega))) ?_;refine zq O ((by exact Ai O O (APM (i:=i) hv (by omega)))) ?_;exact zv O
  ) ?_
 refine De O (AX (AP O O (fun w' hw=>?_)));exact⟨O,hw.below⟩
theorem AFx(v:Value)(p:List Ch)(i:Nat)(c:UInt8)(w:World)(hp:p.length<=4611686018427387904)(hi:i<=p.length)(hv:Sl (Ao w) 2 v (p.map D5)):B2 prog 127 [v,.int .i64 (i:Int),u8 c] w (.tuple #[.int .i64 (Ny (p.drop i):Int),.bool (ACu (p.drop i) c)]):=by
 refine enter func127 O ntmps127 O (St.start w (Ao w) (Le.refl _)) (AK O (tq ?_))
 refine zA 2 O (fun h22=>by
   simp at h22
   exact zv O
  ) ?_
 refine De O (tq ?_)
 refine zA 2 O (fun h28=>by
   simp at h28
   exact zv O
  ) ?_
 refine De O (tq ?_)
 refine zA 2 O (fun KE=>by
   simp at KE
   exact zv O
  ) ?_
 refine De O (tr (ye O (Cl (vs:=[_,_,_,_,_,_]) (css:=[P5 (AG A3 0 []),P5 (AG A3 1 []),P5 (AG A3 2 []),P5 (AG A3 3 []),P5 (AG A3 4 []),P5 (AG A3 5 [])]) O BT Co O O O O (O) (by simp[P5])) ?_));rintro _ _ _ ⟨b35,rfl,rfl,rfl⟩;refine FB (H':=Ap 9 1 P5 (.slice (some ⟨b35,0,none⟩) 6 6) A3::_) ?_ (fun _ h=>H5 h rfl (by decide));refine AH rfl (tr (CL 4 ?_))
 refine zO 1 O (fun h39=>by
   simp at h39
   exact zv O
  ) ?_
 refine FR (CL 5 ?_)
 refine zO 1 O (fun h44=>by
   simp at h44
   exact zv O
  ) ?_
 refine FR (CL 3 ?_)
 refine zO 1 O (fun h47=>by
   simp at h47
   exact zv O
  ) ?_
 refine FR (CL 8 ?_)
 refine zA 2 O (fun h55=>by
   simp at h55
   exact zv O
  ) ?_
 refine FR (CL 4 ?_)
 refine zO 2 O (fun h59=>by
   simp at h59
   refine zq O (Ae O O O O) ?_;exact zv O
  ) ?_
 refine FR (ye O (Cl (vs:=[_,_,_,_,_,_]) (css:=[[Value.bool (AG (JE c) 0 false)],[Value.bool (AG (JE c) 1 false)],[Value.bool (AG (JE c) 2 false)],[Value.bool (AG (JE c) 3 false)],[Value.bool (AG (JE c) 4 false)],[Value.bool (AG (JE c) 5 false)]]) O AVo NL O O O O (O) (by simp[])) ?_);rintro _ _ _ ⟨b60,rfl,rfl,rfl⟩;refine FB (H':=Ap 4 1 (fun b=>[Value.bool b]) (.slice (some ⟨b60,0,none⟩) 6 6) (JE c)::_) ?_ (fun _ h=>H5 h rfl (by decide));refine AH rfl (AF (AK rfl (AJ (EB (ι:=Nat) [0,1,2,8,9,10,11,12] (fun zz=>zz<=6/\∀j,j<zz->Ax (p.drop i) (DZ (AG A3 j []))=false) (fun zz=>6-zz) (fun zz=>[(13,.int .i64 (zz:Int))]) (fun zz=>Ao w) (fun zz=>[Ap 4 1 (fun b=>[Value.bool b]) (.slice (some ⟨b60,0,none⟩) 6 6) (JE c),Ap 9 1 P5 (.slice (some ⟨b35,0,none⟩) 6 6) A3]) 0 rfl ?_ ?_))))
 ·exact⟨Aw _,fun j hj=>Ac hj (Nat.not_lt_zero j)⟩
 rintro k ⟨hk,Cz⟩;dsimp only at *
 have hn6:A3.length=6:=rfl
 refine AF (tr ?_);refine yq O ((by exact IP O BT O)) ?_;refine AH O (AA O (fun Ab=>?_) (fun Ab=>?_))
 ·simp at Ab
  have hk6:k<6:=by omega
  have FW:=Te (BE (show k<A3.length from hk6) (d:=[]))
  have AEA:=ADL (show k<A3.length from hk6)
  refine AV (AF (AJ (tr ?_)));refine yq O ((by exact Fp O BT Co O O (by omega))) ?_;refine yq O ((by exact M0 O BX O O (APS (by omega)))) ?_;refine yq O (F1 O O O (by(simp only[CD,Bb];omega))) ?_;refine yq O (F1 O O O (by(simp only[Bh,CD,Bb];omega))) ?_;refine AH O (AK O (AF (AK O (AJ (EB (ι:=Nat) [13,0,1,2,8,9,10,11,12,64,14] (fun zz=>zz<=9) (fun zz=>9-zz) (fun zz=>[(16,.int .i64 (zz:Int)),(15,.bool (VN p i (DZ (AG A3 k [])) zz))]) (fun zz=>Ao w) (fun zz=>[Ap 4 1 (fun b=>[Value.bool b]) (.slice (some ⟨b60,0,none⟩) 6 6) (JE c),Ap 9 1 P5 (.slice (some ⟨b35,0,none⟩) 6 6) A3]) 0 O ?_ ?_)))))
  ·omega
  rintro m hm;dsimp only at *;refine AF (tr (yq rfl (AW rfl BX rfl) (AH rfl (AA rfl (fun An=>?_) (fun An=>?_)))))
  ·simp only[BC]at An
   have hm9:m<9:=by simp[AEA]at An;omega
   refine AV (AF (AJ (FU ?_)))
   refine zA 8 O (fun h89=>by
     refine zq O (AM O O O (by omega)) ?_;refine zq O ((by exact AZ O BX O O (by omega))) ?_;refine zp O ((fun w hw=>Ea v p (i+m) (AG (DZ (AG A3 k [])) m 0) w hp (by omega) (hv.mono (Le.of_st hw)))) ?_;exact zv O
    ) ?_
   refine K5 1 O (KY (AL (AS (AC (yq O (AM O O O (by omega)) ?_)))));refine AU O (Fl (m+1) ?_ ?_ (FY O (A0 O (by rw[AFh]) (Bk))) (BS O) (fun _ h=>by dsimp only;exact AD h))
   ·omega
   omega
  simp only[CA]at An
  have hm9:m=9:=by simp[AEA]at An;omega
  have Dt:VN p i (DZ (AG A3 k [])) m=Ax (p.drop i) (DZ (AG A3 k [])):=by rw[hm9,<-FW];exact QP _ _ _
  refine Av (AE (AE (AO (AS (AK O (AA O (fun A6=>?_) (fun A6=>?_)))))))
  ·refine AF (Bd mo (by kernel_rfl) (fun _ _ _ _ _ h=>h) (zq O (AW O BX O) ?_));refine zq O ((by exact AN O AVo NL O O (⟨_,_,O,fun _ _ h=>by cases h;rfl,fun _ h=>by cases h⟩) (by omega))) ?_;refine zq rfl ((by exact M0 rfl un4 rfl rfl (AYP (by rw[show(JE c).length=6 from rfl];omega)))) ?_;refine De rfl (Ak (Aj rfl rfl rfl (fun w' hw=>?_)));refine⟨?_,hw.below⟩
   have h2:=AVM hk6 (by rw[<-Dt];exact A6) c
   rw[h2.1,h2.2]
   congr 3
   simp[AEA]
  refine AY (AL (AS (AC (yq O (AM O O O (by omega)) ?_))));refine AU O (DJ (k+1) ?_ ?_)
  ·refine⟨by omega,fun j hj=>?_⟩;rcases Nat.lt_succ_iff_lt_or_eq.1 hj with h|rfl
   ·exact Cz j h
   rw[Dt]at A6;exact A6
  omega
 simp at Ab
 have hk6:k=6:=by omega
 refine Av (AE (AE (AO (AS (AK O (AX (Aj O O O (fun w' hw=>?_))))))));refine⟨?_,hw.below⟩
 have h2:=ANc (p:=(p.drop i)) (fun j hj=>Cz j (by omega)) c
 rw[h2.1,h2.2];try rfl
theorem Zn(v:Value)(p:List Ch)(i0:Nat)(c:UInt8)(w:World)(hp:p.length<=4611686018427387904)(Rj:i0<p.length)(hv:Sl (Ao w) 2 v (p.map D5)):AHS prog 98 [v,.int .i64 (i0:Int),u8 c] w (AhA p i0 c):=by
 refine enter func98 O ntmps98 O (St.start w (Ao w) (Le.refl _)) (AK O (tr (yq O (AM O O O (by omega)) ?_)));refine AH O (tr (yp O ((fun w hw=>Ea v p (i0+1) 33 w hp (by omega) (hv.mono (Le.of_st hw)))) ?_));refine AH O (EZ (ι:=Nat) [0,1,2,6,7,9] (fun zz=>zz=(if Ax (p.drop (i0+1)) [33]then i0+2 else i0+1)/\i0<zz/\zz<=p.length) (fun zz=>[(8,.int .i64 (zz:Int))]) (fun zz=>Ao w) (fun zz=>[]) O ?_ ?_)
 ·refine AK O (AA O (fun Ab=>?_) (fun Ab=>?_))
  ·refine AC (yq O (AM O O O (by omega)) ?_);refine AU O (CB (i0+2) ?_)
   have h0:Ax (p.drop (i0+1)) [33]=true:=by rw[<-C9];exact Ab
   have h1:=HD h0
   rw[BA]at h1;exact⟨by rw[AI h0],by omega,by simp at h1;omega⟩
  refine AY (CB (i0+1) ?_)
  have h0:Ax (p.drop (i0+1)) [33]=false:=by rw[<-C9];exact Ab
  exact⟨by rw[h0,AB (by simp)],by omega,by omega⟩
 rintro i1 ⟨Ym,AkI,AkJ⟩;refine AK rfl (AF (AK rfl (AJ (EB (ι:=Nat×Bool×Bool) [0,1,2,9] (fun zz=>zz.1<=p.length/\i0<zz.1/\brG (p.drop zz.1) zz.2.2 c zz.2.1=brG (p.drop i1) true c false) (fun zz=>p.length-zz.1) (fun zz=>[(8,.int .i64 (zz.1:Int)),(10,.bool zz.2.1),(11,.bool zz.2.2)]) (fun zz=>Ao w) (fun zz=>[]) (i1,false,true) rfl ?_ ?_))))
 ·dsimp only;exact⟨AkJ,AkI,O⟩
 rintro⟨i,fo,fi⟩ ⟨hi,M6,KA⟩;dsimp only at *;refine AF (tr ?_);refine yq rfl ((by exact BH rfl DU rfl (Sl.lenOf hv (Af _)))) ?_;refine AH rfl (AA rfl (fun An=>?_) (fun An=>?_))
 ·simp at An
  have W6:(p.drop i)≠[]:=List.ne_nil_of_length_pos (by rw[BA];omega)
  refine AV (EZ (ι:=Nat×Bool) [11,0,1,2,9,25] (fun zz=>zz.1=i+(FT (p.drop i)).2/\zz.2=(fo||GI (FT (p.drop i)).1 c)/\(!fi&&Ax (p.drop i) [93])=false) (fun zz=>[(8,.int .i64 (zz.1:Int)),(10,.bool zz.2)]) (fun zz=>Ao w) (fun zz=>[]) O ?_ ?_)
  ·refine AJ (AF (tq (zp O ((fun w hw=>Ea v p (i) 93 w hp (by omega) (hv.mono (Le.of_st hw)))) ?_)))
   refine zA 2 O (fun h32=>by
     exact zv O
    ) ?_
   refine Dp (AA O (fun A6=>?_) (fun A6=>?_))
   ·have h2:(Tg p i 93&& !fi)=true:=A6
    refine tr (yq O (AM O O O (by omega)) ?_);refine yq O (Bl O O O (by omega)) ?_;refine yq O (Pu O un4 O O) (AH O (Ak (Aj O O O (fun w' hw=>?_))));refine⟨_,O,⟨i+1-i0,(fo != Ax (p.drop (i0+1)) [33]),?_,.inl ⟨by omega,by omega,?_⟩⟩,hw.below⟩
    ·rw[<-C9];congr 3;congr 1;omega
    rw[To Ym,<-KA,Pt W6,AI (by rw[<-C9,Bool.and_comm];exact h2),Cp,show i0+(i+1-i0)=i+1 by omega];try rfl
   have h2:(Tg p i 93&& !fi)=false:=A6
   have CS:(!fi&&Ax (p.drop i) [93])=false:=by rw[<-C9,Bool.and_comm];exact h2
   refine AV (tr (yp O ((fun w hw=>AFx v p i c w hp (by omega) (hv.mono (Le.of_st hw)))) ?_))
   have hcn:=AVh (p.drop i)
   refine AH O (AJ (AK O (AA O (fun BJ=>?_) (fun BJ=>?_))))
   ·simp at BJ
    refine tq ?_
    refine zO 1 O (fun h65=>by
      exact zv O
     ) ?_
    refine De O (AC (yq O (AM O O O (by omega)) ?_));refine AU O (AL (AL (CB ((i+Ny (p.drop i),(fo||ACu (p.drop i) c))) ?_)))
    dsimp only
    have h3:0<Ny (p.drop i):=by omega
    have h4:=AOZ (c:=c) h3
    exact⟨by rw[h4.1],by rw[h4.2],CS⟩
   simp at BJ
   refine tq (zq O (AM O O O (by omega)) ?_);refine zp O ((fun w hw=>Ea v p (i+1) 45 w hp (by omega) (hv.mono (Le.of_st hw)))) ?_
   refine zA 5 O (fun h80=>by
     refine zq O (AM O O O (by omega)) ?_;refine zq O ((by exact BH O DU O (Sl.lenOf hv (Af _)))) ?_;exact zv O
    ) ?_
   refine zA 5 O (fun h87=>by
     simp at h87
     refine zq O (AM O O O (by omega)) ?_;refine zp O ((fun w hw=>Ea v p (i+2) 93 w hp (by omega) (hv.mono (Le.of_st hw)))) ?_;exact zv O
    ) ?_
   refine De O (AA O (fun Bj=>?_) (fun Bj=>?_))
   ·have h4:(Tg p (i+1) 45&&decide (((i:Int)+2)<(p.length:Int))&& !Tg p (i+2) 93)=true:=Bj
    have h42:i+2<p.length:=by rw[Ay,Ay,BC]at h4;omega
    refine tq ?_
    refine zO 17 O (fun Ajp=>by
      refine zq O ((by exact AN O DU Cn O O (Sl.shape hv (Af _)) (by omega))) ?_;refine zq O ((by exact Ai O O (Gt (i:=i) hv (by omega)))) ?_
      refine zA 8 O (fun AXW=>by
        simp at AXW
        refine zq O (AM O O O (by omega)) ?_;refine zq O ((by exact AN O DU Cn O O (Sl.shape hv (Af _)) (by omega))) ?_;refine zq O ((by exact Ai O O (Gt (i:=i+2) hv (by omega)))) ?_;exact zv O
       ) ?_
      exact zv O
     ) ?_
    refine De O (AC (yq O (AM O O O (by omega)) ?_));refine AU O (AL (AL (CB ((i+3,(fo||(decide (((AG p i Ft).b.toNat:Int)<=(c.toNat:Int))&&decide ((c.toNat:Int)<=((AG p (i+2) Ft).b.toNat:Int)))))) ?_)))
    dsimp only
    have h4:=APl (Y0 (show ¬0<Ny (p.drop i) by omega)) true Bj
    rw[h4,AI O,WK];exact⟨O,O,CS⟩
   refine tq ?_
   refine zO 7 O (fun h56=>by
     refine zq O ((by exact AN O DU Cn O O (Sl.shape hv (Af _)) (by omega))) ?_;refine zq O ((by exact Ai O O (Gt (i:=i) hv (by omega)))) ?_;refine zq O (Ly O O O) ?_;exact zv O
    ) ?_
   refine De O (AC (yq O (AM O O O (by omega)) ?_));refine AU O (AL (AL (CB ((i+1,(fo||decide ((AG p i Ft).b=c)))) ?_)))
   dsimp only
   have h4:=APl (Y0 (show ¬0<Ny (p.drop i) by omega)) false Bj
   rw[h4,AB (by simp),AGy];exact⟨O,O,CS⟩
  rintro⟨i2,f2⟩ ⟨EG,hf2,CS⟩;dsimp only at *;refine AC (AU rfl ?_)
  have hm1:=Ht W6
  have hm2:=Hj (p.drop i)
  rw[BA]at hm1;refine DJ ((i2,f2,false)) ?_ ?_
  ·dsimp only;refine⟨by omega,by omega,?_⟩;rw[<-KA,Pt W6,AB (by rw[CS];simp),Cp,<-EG,<-hf2]
  dsimp only
  omega
 simp at An
 refine Av (AE (AE (AO (AS (AK O (AX (Aj O O O (fun w' hw=>?_))))))));refine⟨_,O,⟨0,false,O,.inr ⟨O,?_⟩⟩,hw.below⟩
 have e:p.drop i=[]:=E4 (by omega)
 rw[To Ym,<-KA,e];try rfl
theorem LO.start'(p:List Ch)(s:List UInt8)(ag:List Ch)(fr:List UInt8):LO p s false ag fr p s:=⟨by simp,fun h=>by cases h⟩
theorem OT(s:List UInt8)(k:Nat):AG (s.drop k) 0 0=AG s k 0:=by
 unfold AG
 rw[Cy,Cy,List.getElem?_drop];try rfl
def AdB(p:List Ch)(s:List UInt8)(i k:Nat)(ok:Bool)(n:Nat):Prop:=
 (i<p.length->k<s.length->Hw (p.drop i) (AG s k 0)=(ok,p.drop (i+n))/\1<=n/\i+n<=p.length)/\(ok=true->i<p.length/\k<s.length)
theorem YK{p:List Ch}(hi:i<p.length)(MN:Tg p i 63=false)(h91:Tg p i 91=false\/Ds (p.drop i) c=none):Hw (p.drop i) c=(decide ((AG p i Ft).b=c),p.drop (i+1)):=by
 rw[C9]at MN
 have e:AG (p.drop i) 0 Ft=AG p i Ft:=Sn p i 0
 unfold Hw;rw[AB (by simp[MN])];rcases h91 with h|h
 ·rw[C9]at h;rw[AB (by simp[h]),Cp,e]
 split
 ·rw[h];simp only[Cp,e]
 rw[Cp,e]
theorem LL(v:Value)(p:List Ch)(s:List UInt8)(w:World)(hp:p.length<=4611686018427387904)(hs:s.length<=4611686018427387904)(hv:Sl (Ao w) 2 v (p.map D5)):B2 prog 74 [v,Au s] w (.bool (Mt p s)):=by
 refine enter func74 O ntmps74 O (St.start w (Ao w) (Le.refl _)) (AK O (AK O (AK O (AJ (EB (ι:=Nat×Nat×Bool×Nat×Nat) [0,1] (fun zz=>zz.1<=p.length/\zz.2.1<=s.length/\zz.2.2.2.2<=s.length/\zz.2.2.2.1+1<=p.length+1/\LO p s zz.2.2.1 (p.drop (zz.2.2.2.1+1)) (s.drop zz.2.2.2.2) (p.drop zz.1) (s.drop zz.2.1)/\(zz.2.2.1=true->zz.2.2.2.2<=zz.2.1)/\(zz.2.2.1=true->zz.2.2.2.1+1<=p.length)) (fun zz=>(if zz.2.2.1 then s.length-zz.2.2.2.2 else s.length+1) * (p.length+s.length+1)+((p.length-zz.1)+(s.length-zz.2.1))) (fun zz=>[(5,.int .i64 (zz.1:Int)),(6,.int .i64 (zz.2.1:Int)),(7,.int .i64 (if zz.2.2.1 then(zz.2.2.2.1:Int)else -1)),(8,.int .i64 (zz.2.2.2.2:Int))]) (fun zz=>Ao w) (fun zz=>[]) (0,0,false,0,0) O ?_ ?_)))))
 ·dsimp only;exact⟨Aw _,Aw _,Aw _,by omega,LO.start' p s _ _,(fun h=>by cases h),fun h=>by cases h⟩
 rintro⟨i,k,sb,sa,fr⟩ ⟨hi,hk,hfr,hsa,hm,hfk,UT⟩;dsimp only at *;refine AJ (AF (tr (yp rfl ((fun w hw=>Ea v p (i) 42 w hp (by omega) (hv.mono (Le.of_st hw)))) ?_)));refine ln (AA rfl (fun Ab=>?_) (fun Ab=>?_))
 ·refine AK O (tr (yq O (AM O O O (by omega)) ?_));refine AH O (Av (AE (AO (DJ ((i+1,k,true,i,k)) ?_ ?_))))
  ·dsimp only
   have h0:Ax (p.drop i) [42]=true:=by rw[<-C9];exact Ab
   have h1:=HD h0
   have h2:=hm.star h0
   rw[Cp]at h2;rw[BA]at h1
   simp at h1
   exact⟨by omega,hk,hk,by omega,h2,fun _=>A5 _,fun _=>by omega⟩
  dsimp only
  have h0:Ax (p.drop i) [42]=true:=by rw[<-C9];exact Ab
  have h1:=HD h0
  rw[BA]at h1
  simp at h1
  rw[AI O];refine Nat.lt_of_lt_of_le (Nat.add_lt_add_left (show p.length-(i+1)+(s.length-k)<p.length-i+(s.length-k) by omega) _) (Nat.add_le_add_right (TO _ ?_) _)
  split
  ·have:=hfk ‹_›;omega
  omega
 have CS:Ax (p.drop i) [42]=false:=by rw[<-C9];exact Ab
 refine AV (AF (tq ?_));refine zq O ((by exact BH O DU O (Sl.lenOf hv (Af _)))) ?_
 refine zA 4 O (fun h29=>by
   simp at h29
   refine zq O (AW O BX O) ?_;exact zv O
  ) ?_
 refine Dp (AA O (fun An=>?_) (fun An=>?_))
 ·have h1:(decide ((i:Int)=(p.length:Int))&&decide ((k:Int)=(s.length:Int)))=true:=An
  rw[Ay,BC,BC]at h1;refine AK O (Ak (AP O O (fun w' hw=>?_)));refine⟨?_,hw.below⟩;rw[hm.done]
  rw[E4 (by omega),E4 (by omega)];try rfl
 have h1:(decide ((i:Int)=(p.length:Int))&&decide ((k:Int)=(s.length:Int)))=false:=An
 rw[Bool.and_eq_false_iff,CA,CA]at h1;refine AV (AK O (AK O (EZ (ι:=Bool×Nat) [5,6,7,8,0,1,15,29] (fun zz=>AdB p s i k zz.1 zz.2/\i+zz.2<=p.length+1) (fun zz=>[(9,.bool zz.1),(10,.int .i64 (zz.2:Int))]) (fun zz=>Ao w) (fun zz=>[]) O ?_ ?_)))
 ·refine tq ?_;refine zq O ((by exact BH O DU O (Sl.lenOf hv (Af _)))) ?_
  refine zA 4 O (fun h39=>by
    simp at h39
    refine zq O (AW O BX O) ?_;exact zv O
   ) ?_
  refine Dp (AA O (fun A6=>?_) (fun A6=>?_))
  ·have h2:(decide ((i:Int)<(p.length:Int))&&decide ((k:Int)<(s.length:Int)))=true:=A6
   rw[Ay,BC,BC]at h2
   have hip:i<p.length:=by omega
   have hks:k<s.length:=by omega
   refine AF (Bd mo (by kernel_rfl) (fun _ _ _ _ _ h=>h) ?_);refine zq O ((by exact AN O DU Cn O O (Sl.shape hv (Af _)) (by omega))) ?_;refine zq O ((by exact Ai O O (Gt (i:=i) hv (by omega)))) ?_;refine zq O ((by exact AZ O BX O O (by omega))) ?_;refine zq O (Ly O O O) (De O (AF (tr (yp O ((fun w hw=>Ea v p (i) 63 w hp (by omega) (hv.mono (Le.of_st hw)))) ?_))));refine ln (AA O (fun BJ=>?_) (fun BJ=>?_))
   ·refine AC (AH O (tr (yp O ((fun w hw=>Ea v p (i) 91 w hp (by omega) (hv.mono (Le.of_st hw)))) ?_)));refine ln (AA O (fun Bj=>?_) (fun Bj=>?_))
    ·exfalso
     rw[C9,Bg Ft hip,Nk]at BJ Bj;rw[BM BJ]at Bj;exact Ac Bj (by decide)
    refine AY (CB ((true,1)) ?_)
    dsimp only;refine⟨⟨fun _ _=>⟨?_,A5 _,by omega⟩,fun _=>⟨hip,hks⟩⟩,by omega⟩;rw[C9]at BJ;rw[Hw,AI BJ,Cp]
   refine AV (tr (yp O ((fun w hw=>Ea v p (i) 91 w hp (by omega) (hv.mono (Le.of_st hw)))) ?_));refine ln (AA O (fun B4=>?_) (fun B4=>?_))
   ·refine tr (yq O ((by exact AZ O BX O O (by omega))) ?_);refine ye O (Sv O O O func98 (by kernel_rfl) O (fun w hw=>Zn v p i (AG s k 0) w hp hip (hv.mono (Le.of_st hw)))) ?_;rintro _ _ _ ⟨⟨m,fb,rfl,KA⟩,rfl,rfl⟩;refine AH rfl (AK rfl (AA rfl (fun CP=>?_) (fun CP=>?_)))
    ·simp at CP
     refine AC (AU O (CB ((fb,m)) ?_))
     dsimp only;rcases KA with ⟨h1,h2,h3⟩|⟨h1,_⟩
     ·refine⟨⟨fun _ _=>⟨?_,h1,h2⟩,fun _=>⟨hip,hks⟩⟩,by omega⟩;rw[C9]at BJ B4;rw[Hw,AB (by simp[BJ]),AI B4,h3]
     omega
    simp at CP
    refine AY (CB ((decide ((AG p i Ft).b=AG s k 0),1)) ?_)
    dsimp only;rcases KA with ⟨h1,_⟩|⟨_,h1⟩
    ·omega
    exact⟨⟨fun _ _=>⟨YK hip BJ (.inr h1),A5 _,by omega⟩,fun _=>⟨hip,hks⟩⟩,by omega⟩
   refine AY (CB ((decide ((AG p i Ft).b=AG s k 0),1)) ?_)
   dsimp only;exact⟨⟨fun _ _=>⟨YK hip BJ (.inl B4),A5 _,by omega⟩,fun _=>⟨hip,hks⟩⟩,by omega⟩
  refine AY (CB ((false,1)) ?_)
  dsimp only
  have h2:(decide ((i:Int)<(p.length:Int))&&decide ((k:Int)<(s.length:Int)))=false:=A6
  rw[Bool.and_eq_false_iff,CA,CA]at h2;exact⟨⟨fun h3 h4=>by omega,fun h=>by cases h⟩,by omega⟩
 rintro⟨ok,n⟩ ⟨hrs,hnl⟩;dsimp only at *;refine AF (AK rfl (AA rfl (fun DF=>?_) (fun DF=>?_)))
 ·refine tr (yq O (AM O O O (by omega)) ?_);refine AH O (tr (yq O (AM O O O (by omega)) ?_));refine AH O (Av (AE (AO ?_)))
  have hpk:=hrs.2 DF
  have h3:=hrs.1 hpk.1 hpk.2
  refine DJ ((i+n,k+1,sb,sa,fr)) ?_ ?_
  ·dsimp only
   have h4:=hm.one (List.ne_nil_of_length_pos (by rw[BA];omega)) CS (List.ne_nil_of_length_pos (by rw[BA];omega)) (by rw[OT,h3.1];exact DF)
   rw[OT,h3.1,Cp]at h4;exact⟨h3.2.2,by omega,hfr,hsa,h4,(fun h=>by have:=hfk h;omega),UT⟩
  dsimp only;exact Nat.add_lt_add_left (by omega) _
 refine AV (AF (tq ?_))
 refine zO 4 O (fun h81=>by
   simp at h81
   refine zq O (AW O BX O) ?_;exact zv O
  ) ?_
 refine Dp (AA O (fun GQ=>?_) (fun GQ=>?_))
 ·have h8:(decide ((if sb then(sa:Int)else -1)<0)||decide ((s.length:Int)<=(fr:Int)))=true:=GQ
  have AHG:Mt (p.drop i) (s.drop k)=false:=by
   refine Qf ?_ CS fun h1 h2=>?_
   ·rintro⟨h1,h2⟩;rw[List.drop_eq_nil_iff]at h1 h2
    omega
   have h3:=BV.2 h1
   have h4:=BV.2 h2
   rw[BA]at h3 h4;rw[OT,(hrs.1 (by omega) (by omega)).1];exact DF
  refine AK O (Ak (AP O O (fun w' hw=>?_)));refine⟨?_,hw.below⟩;rw[hm.fail AHG];rw[C4,BC,BC]at h8;rcases h8 with h|h
  ·left;cases sb;rfl;rw[AI rfl]at h;omega
  right;exact E4 (by omega)
 have h8:(decide ((if sb then(sa:Int)else -1)<0)||decide ((s.length:Int)<=(fr:Int)))=false:=GQ
 have AHG:Mt (p.drop i) (s.drop k)=false:=by
  refine Qf ?_ CS fun h1 h2=>?_
  ·rintro⟨h1,h2⟩;rw[List.drop_eq_nil_iff]at h1 h2
   omega
  have h3:=BV.2 h1
  have h4:=BV.2 h2
  rw[BA]at h3 h4;rw[OT,(hrs.1 (by omega) (by omega)).1];exact DF
 rw[Bool.or_eq_false_iff,CA,CA]at h8
 have hsb:sb=true:=by
  cases sb
  ·exact Ac (by simp) h8.1
  rfl
 have hfs:fr<s.length:=by omega
 subst hsb;rw[AI rfl];refine AV (tr (yq rfl (AM rfl rfl rfl (by omega)) ?_));refine AH rfl (AC (yq rfl (AM rfl rfl rfl (by omega)) ?_));refine AU rfl (AL (DJ ((sa+1,fr+1,true,sa,fr+1)) ?_ ?_))
 ·dsimp only
  have h5:=hm.back AHG (List.ne_nil_of_length_pos (by rw[BA];omega))
  rw[Cp]at h5;exact⟨UT O,by omega,by omega,hsa,h5,fun _=>A5 _,UT⟩
 dsimp only;rw[AI O,AI O];exact AHi (by omega) (by omega) (by omega) _ (Aw _)
theorem AEQ{p:List Ch}(h:i<p.length):(Tg p i 42||Tg p i 63||Tg p i 91)=Yx (AG p i Ft):=by
 unfold Tg Yx Ho
 have h1:decide ((i:Int)<(p.length:Int))=true:=by rw[BC];omega
 rw[h1];obtain⟨b,q⟩:=AG p i Ft;simp only[Bool.true_and,List.any_cons,List.any_nil,Bool.or_false]
 have e:∀x:UInt8,(x==b)=decide (b=x):=fun x=>by
  by_cases hx:b=x
  ·subst hx;simp
  have:¬x=b:=fun e=>hx e.symm
  simp[hx,this]
 rw[e,e,e]
 cases q<;>cases decide (b=42)<;>cases decide (b=63)<;>cases decide (b=91)<;>rfl
theorem ABk(v:Value)(p:List Ch)(s:List UInt8)(e lg:Bool)(w:World)(hp:p.length<=4611686018427387904)(hs:s.length<=4611686018427387904)(hv:Sl (Ao w) 2 v (p.map D5)):B2 prog 94 [v,Au s,.bool e,.bool lg] w (Au (KN p s e lg)):=by
 refine enter func94 O ntmps94 O (St.start w (Ao w) (Le.refl _)) (AK O (AF (AK O (AJ (EB (ι:=Nat) [0,1,2,3] (fun zz=>zz<=s.length+1/\∀j,j<zz->JT p s e lg j=false) (fun zz=>s.length+1-zz) (fun zz=>[(9,.int .i64 (zz:Int))]) (fun zz=>Ao w) (fun zz=>[]) 0 O ?_ ?_)))))
 ·exact⟨Aw _,fun j hj=>Ac hj (Nat.not_lt_zero j)⟩
 rintro i ⟨hi,Cz⟩;dsimp only at *;refine AF (tr (yq rfl (AW rfl BX rfl) (AH rfl (AA rfl (fun Ab=>?_) (fun Ab=>?_)))))
 ·simp at Ab
  refine AV (AF (AJ (AK O (EZ (ι:=Nat) [9,0,1,2,3,14] (fun zz=>zz=GD s lg i/\zz<=s.length) (fun zz=>[(10,.int .i64 (zz:Int))]) (fun zz=>Ao w) (fun zz=>[]) O ?_ ?_))))
  ·refine AK O (AA O (fun An=>?_) (fun An=>?_))
   ·refine AC (yq O (AW O BX O) (yq O (Bl O O O (by omega)) ?_));refine AU O (Dd (s.length-i) ?_ (A0 O (by congr 1;omega) (Bk)) (BS O) (fun _ h=>by dsimp only;exact AD h))
    exact⟨by rw[GD,AI An],by omega⟩
   refine AY (CB (i) ?_)
   exact⟨by rw[GD,AB (by rw[An];simp)],by omega⟩
  rintro m ⟨hm,hml⟩;dsimp only at *
  have e1:((s.length:Int)-(m:Int)).toNat=s.length-m:=by omega
  refine AF (tq ?_)
  refine zA 8 O (fun Tu=>by
    refine zq O (AW O BX O) (zq O (Bl O O O (by omega)) ?_);refine zq O (BF O BX O O (by omega)) ?_;refine zp O ((fun w hw=>LL v p (s.drop ((s.length:Int)-(m:Int)).toNat) w hp (by simp;omega) (hv.mono (Le.of_st hw)))) ?_;exact zv O
   ) ?_
  refine Dp (AA O (fun A6=>?_) (fun A6=>?_))
  ·refine tr (yq O (AW O BX O) (yq O (Bl O O O (by omega)) ?_));refine yq O (Ba O BX O O (by omega)) ?_;refine AH O (Ak (AP O O (fun w' hw=>?_)));refine⟨?_,hw.below⟩;rw[<-AWd hm e1 (by omega) Cz A6]
  refine AV (tq ?_)
  refine zA 5 O (fun h48=>by
    simp at h48
    refine zq O (Ba O BX O O (by omega)) ?_;refine zp O ((fun w hw=>LL v p (s.take (m:Int).toNat) w hp (by simp;omega) (hv.mono (Le.of_st hw)))) ?_;exact zv O
   ) ?_
  refine Dp (AA O (fun BJ=>?_) (fun BJ=>?_))
  ·refine tr (yq O (BF O BX O O (by omega)) ?_);refine AH O (Ak (AP O O (fun w' hw=>?_)));refine⟨?_,hw.below⟩;rw[<-AVl hm (by omega) Cz BJ]
  refine AY (AL (AS (AC (yq O (AM O O O (by omega)) ?_))));refine AU O (DJ (i+1) ?_ ?_)
  ·refine⟨by omega,fun j hj=>?_⟩;rcases Nat.lt_succ_iff_lt_or_eq.1 hj with h|rfl
   ·exact Cz j h
   exact ABV hm e1 A6 BJ
  omega
 simp at Ab
 refine Av (AE (AE (AO (AS (AK O (AX (AP O O (fun w' hw=>?_))))))));refine⟨?_,hw.below⟩;rw[Yu (fun j hj=>Cz j (by omega))]
theorem MR(v:Value)(p:List Ch)(w:World)(hp:p.length<=4611686018427387904)(hv:Sl (Ao w) 2 v (p.map D5)):B2 prog 26 [v] w (.bool (Fa p)):=by
 refine enter func26 O ntmps26 O (St.start w (Ao w) (Le.refl _)) (AK O (AF (AK O (AJ (EB (ι:=Nat) [0] (fun zz=>zz<=p.length/\Fa p=Fa (p.drop zz)) (fun zz=>p.length-zz) (fun zz=>[(3,.int .i64 (zz:Int))]) (fun zz=>Ao w) (fun zz=>[]) 0 O ?_ ?_)))))
 ·exact⟨Aw _,by simp⟩
 rintro i ⟨hi,hx⟩;dsimp only at *;refine AF (tr ?_);refine yq rfl ((by exact BH rfl DU rfl (Sl.lenOf hv (Af _)))) ?_;refine AH rfl (AA rfl (fun Ab=>?_) (fun Ab=>?_))
 ·simp at Ab
  refine AV (AF (AJ (tq (zp O ((fun w hw=>Ea v p (i) 42 w hp (by omega) (hv.mono (Le.of_st hw)))) ?_))))
  refine zO 3 O (fun h17=>by
    refine zp O ((fun w hw=>Ea v p (i) 63 w hp (by omega) (hv.mono (Le.of_st hw)))) ?_;exact zv O
   ) ?_
  refine zO 3 O (fun h22=>by
    simp at h22
    refine zp O ((fun w hw=>Ea v p (i) 91 w hp (by omega) (hv.mono (Le.of_st hw)))) ?_;exact zv O
   ) ?_
  refine Dp (AA O (fun An=>?_) (fun An=>?_))
  ·refine AK O (Ak (AP O O (fun w' hw=>?_)));refine⟨?_,hw.below⟩
   have h1:(Tg p i 42||Tg p i 63||Tg p i 91)=true:=An
   rw[AEQ (by omega)]at h1
   rw[hx,Bg Ft (by omega),Fa,List.any_cons,h1];try rfl
  refine AY (AL (AS (AC (yq O (AM O O O (by omega)) ?_))));refine AU O (DJ (i+1) ?_ ?_)
  ·have h1:(Tg p i 42||Tg p i 63||Tg p i 91)=false:=An
   rw[AEQ (by omega)]at h1
   refine⟨by omega,hx.trans ?_⟩;rw[Bg Ft (by omega),Fa,List.any_cons,h1,Bool.false_or];try rfl
  omega
 simp at Ab
 refine Av (AE (AE (AO (AS (AK O (AX (AP O O (fun w' hw=>?_))))))));refine⟨?_,hw.below⟩
 rw[hx,E4 (by omega)];try rfl



def R1(n:Nat):Prop:=∀(s:List UInt8) (i d:Nat) (q:Bool) (w:World),24-d=n->d<=30->s.length<=2305843009213693952->i<=s.length->B2 prog 121 [Au s,.int .i64 (i:Int),.int .i64 (d:Int),.bool q] w (.agg #[.int .i64 (dl (Dr s i) (Ob i ((lv n).2 q (s.drop i))):Int),.int .i64 (dl (Dr s i) (Sb i ((lv n).2 q (s.drop i))):Int),.int .i64 (dl (Dr s i) (JP ((lv n).2 q (s.drop i))):Int)])
def YJ(n:Nat):Prop:=∀(s:List UInt8) (i d:Nat) (w:World),24-d=n->d<=30->s.length<=2305843009213693952->i<s.length->B2 prog 89 [Au s,.int .i64 (i:Int),.int .i64 (d:Int)] w (.agg #[.int .i64 (Ob i ((lv n).1 (s.drop i)):Int),.int .i64 (Sb i ((lv n).1 (s.drop i)):Int),.int .i64 (JP ((lv n).1 (s.drop i)):Int)])
theorem Gh{X:LR}{B:List UInt8->SR}{D:Bool->List UInt8->SR}{q:Bool}{f o2:Nat}{l:List UInt8}{j:Nat}{P Q:Prop}
  (h:P/\(b≠34->Q/\(DQ br o b=false->(∀a e,Bv D q (!q) l=.bad a e->X=.bad (j+a) e)/\∀k,Bv D q (!q) l=.ok k->X=(HN B D br q f (JR br o b) (l.drop k)).on (j+k))))
  (KE:b≠34) (FW:DQ br o b=false) (ho:JR br o b=o2):(∀a e,Bv D q (!q) l=.bad a e->X=.bad (j+a) e)/\∀k,Bv D q (!q) l=.ok k->X=(HN B D br q f o2 (l.drop k)).on (j+k):=by
 have:=(h.2 KE).2 FW
 rw[ho]at this;exact this
theorem Ep(h1:b≠41)(h2:b≠40):JR br o b=o:=by
 unfold JR
 rw[DC h1,DC h2];simp
theorem OI(h1:b≠125)(h2:b≠41):DQ br o b=false:=by
 unfold DQ
 rw[DC h1,DC h2];simp
theorem AaN(h:(!Dl (s.drop i) [36,40]&& !Dl (s.drop i) [36,123])=false):Dr s i=true:=by
 unfold Dr
 cases h1:Dl (s.drop i) [36,40]<;>cases h2:Dl (s.drop i) [36,123]<;>simp_all
theorem AUu(h:(!Dl (s.drop i) [36,40]&& !Dl (s.drop i) [36,123])=true):Dr s i=false:=by
 unfold Dr;rw[<-Bool.not_or]at h
 simpa using h
theorem AJp(h:c=40\/c=123):decide (c=40)= !decide (c=123):=by
 rcases h with rfl|rfl<;>decide
theorem Xb(hx:x= !br)(h:(x&&decide (b=41))=true):JR br o b=o-1:=by
 subst hx;rw[JR,AI h]
theorem Yz(hx:x= !br)(h:(x&&decide (b=40))=true):JR br o b=o+1:=by
 subst hx
 have h1:=(Ay _ _ ▸ h:_/\_)
 have h2:b=40:=BM h1.2
 rw[JR,AB (by rw[h2];simp),AI h]
theorem Vd(hx:x= !br)(h1:(x&&decide (b=41))=false)(h2:(x&&decide (b=40))=false):JR br o b=o:=by
 subst hx;rw[JR,AB (by rw[h1];simp),AB (by rw[h2];simp)]
theorem AKC(hx:x= !br)(h:(x&&decide (b=41)&&decide ((o:Int)=0))=true):DQ br o b=true:=by
 subst hx;exact ABz h
theorem AGI(hx:x= !br)(h1:(br&&decide (b=125))=false)(h2:(x&&decide (b=41)&&decide ((o:Int)=0))=false):DQ br o b=false:=by
 subst hx;exact Yt h1 h2
theorem ADs(s t:List UInt8)(i:Nat)(w:World)(hs:s.length<=2305843009213693952)(hi:i<=s.length)(ht:t.length<=1000):B2 prog 149 [Au s,.int .i64 (i:Int),Au t] w (.bool (Dl (s.drop i) t)):=by
 refine enter func149 O ntmps149 O (St.start w (Ao w) (Le.refl _)) (AK O (tq (zq O (AW O BX O) (zq O (AM O O O (by omega)) ?_))));refine zq O (AW O BX O) ?_
 refine zA 9 O (fun h24=>by
   simp at h24
   refine zq O (AW O BX O) (zq O (AM O O O (by omega)) ?_);refine zq O (CK O BX O O O (by omega)) ?_;refine zq O (AR O O O) ?_;exact zv O
  ) ?_
 refine De O (AX (AP O O (fun w' hw=>?_)));refine⟨?_,hw.below⟩;refine B3 (fun b=>Ending.returned (Value.bool b)) ?_;unfold Dl
 by_cases h:i+t.length<=s.length
 ·rw[BK (show(i:Int)+(t.length:Int)<=(s.length:Int) by omega),Bool.true_and,show((i:Int)).toNat=i by omega,show((i:Int)+(t.length:Int)).toNat-i=t.length by omega]
 rw[DC (show ¬(i:Int)+(t.length:Int)<=(s.length:Int) by omega),Bool.false_and];exact(DC (fun e=>by have:=B3 List.length e;rw[BL,BA]at this;omega)).symm
theorem Qd(s:List UInt8)(i:Nat)(w:World)(hs:s.length<=2305843009213693952)(hi:i<s.length):B2 prog 88 [Au s,.int .i64 (i:Int)] w (.agg #[.int .i64 (Ob i (CM (s.drop i)):Int),.int .i64 (Sb i (CM (s.drop i)):Int),.int .i64 (JP (CM (s.drop i)):Int)]):=by
 refine enter func88 O ntmps88 O (St.start w (Ao w) (Le.refl _)) (tr (HO _ O fun b4=>?_));refine XN (yq O (AM O O O (by omega)) ?_);refine AH O (AJ (EB (ι:=Nat) [0,1,4] (fun zz=>i+1<=zz/\zz<=s.length/\∀k,i+1<=k->k<zz->AG s k 0≠39) (fun zz=>s.length-zz) (fun zz=>[(5,.int .i64 (zz:Int))]) (fun zz=>Ao w) (fun zz=>[row b4 176 [.int .i64 (0:Int),.int .i64 (0:Int),.int .i64 (0:Int)]]) (i+1) O ?_ ?_))
 ·exact⟨A5 _,by omega,fun k h1 h2=>by omega⟩
 rintro j ⟨hj1,W7,Cz⟩;dsimp only at *;refine AF (tr (yq rfl (AW rfl BX rfl) (AH rfl (AA rfl (fun Ab=>?_) (fun Ab=>?_)))))
 ·simp at Ab
  have hj:j<s.length:=by omega
  refine AV (AF (AJ (tr (yq O ((by exact AZ O BX O O (by omega))) ?_))));refine yq O (Ae O O O O) (ln (AA O (fun An=>?_) (fun An=>?_)))
  ·simp only[BC]at An
   have UT:=AAi (by omega) hj An Cz
   refine tr (yq O (AM O O O (by omega)) ?_);refine Em ([.int .i64 ((j:Int)+1),.int .i64 0,.int .i64 0]) O (El _ O ?_ (by simp[Value.oneCell']));refine ln (AX (A4 (Ah (Ah (A4 (Ah (B6 (.inl O) O (by exact Cb O JO It O O (Cc)) (fun w' hw=>?_))))))));rw[UT];exact⟨B3 _ (T5 (by show(j:Int)+1=((i+(j+1-i):Nat):Int);omega) (O) (O)),hw.below⟩
  simp only[CA]at An
  have An:AG s j 0≠39:=An
  refine AY (AL (AS (AC (yq O (AM O O O (by omega)) ?_))));refine AU O (DJ (j+1) ?_ ?_)
  ·refine⟨by omega,by omega,fun k h1 h2=>?_⟩;rcases Nat.lt_succ_iff_lt_or_eq.1 h2 with h|rfl
   ·exact Cz k h1 h
   exact An
  show s.length-(j+1)<s.length-j
  omega
 simp at Ab
 obtain rfl:j=s.length:=by omega
 have UT:=ABg Cz
 refine Av (AE (AE (AO (AS (tr (Em ([.int .i64 0,.int .i64 (i:Int),.int .i64 53]) O (El _ O ?_ (by simp[Value.oneCell']))))))));refine ln (AX (B6 (.inl O) O (by exact Cb O JO It O O (Cc)) (fun w' hw=>?_)));rw[UT];exact⟨B3 _ (T5 (O) (O) (O)),hw.below⟩
theorem QA(m:Nat)(hD:∀n,m=n+1->R1 n)(s:List UInt8)(i d:Nat)(w:World)(hm:24-d=m)(hd:d<=30)(hs:s.length<=2305843009213693952)(hi:i<s.length):B2 prog 89 [Au s,.int .i64 (i:Int),.int .i64 (d:Int)] w (.agg #[.int .i64 (Ob i ((lv m).1 (s.drop i)):Int),.int .i64 (Sb i ((lv m).1 (s.drop i)):Int),.int .i64 (JP ((lv m).1 (s.drop i)):Int)]):=by
 refine enter func89 O ntmps89 O (St.start w (Ao w) (Le.refl _)) (tr (HO _ O fun b6=>?_));refine XN (yq O (AM O O O (by omega)) ?_);refine AH O (AA O (fun Ab=>?_) (fun Ab=>?_))
 ·simp at Ab
  obtain rfl:m=0:=by omega
  refine tr (Em ([.int .i64 0,.int .i64 (i:Int),.int .i64 52]) O (El _ O ?_ (by simp[Value.oneCell'])));refine ln (AX (Ah (B6 (.inl O) O (by exact Cb O JO It O O (Cc)) (fun w' hw=>?_))));exact⟨B3 _ (T5 (O) (O) (O)),hw.below⟩
 simp at Ab
 obtain⟨n,rfl⟩:∃n,m=n+1:=⟨m-1,by omega⟩
 have Ew:(lv (n+1)).1 (s.drop i)=(LY (lv n).2 (s.drop i).length (s.drop (i+1))).close 1 53:=by show AHJ _ _=_;unfold AHJ;rw[Cp]
 refine AV (tr (yq O (AM O O O (by omega)) ?_));refine AH O (AF (AJ (EB (ι:=Nat×Nat×Nat) [0,1,2,6,12] (fun zz=>KV s.length zz.1 zz.2.2/\i+1<=zz.1/\zz.1<=s.length/\(LY (lv n).2 (s.drop i).length (s.drop (i+1)))=(LY (lv n).2 zz.2.1 (s.drop zz.1)).on (zz.1-(i+1))/\(s.drop zz.1).length<=zz.2.1) (fun zz=>s.length-zz.1) (fun zz=>[(7,.int .i64 (zz.2.2:Int))]) (fun zz=>Ao w) (fun zz=>[row b6 176 [.int .i64 (0:Int),.int .i64 (0:Int),.int .i64 (0:Int)]]) (i+1,(s.drop i).length,i+1) O ?_ ?_)))
 ·dsimp only;refine⟨.inl O,A5 _,by omega,by rw[Nat.sub_self,LR.on_zero],by rw[BA,BA];omega⟩
 rintro⟨j,g,kv⟩ ⟨Wv,hj1,W7,hx,NM⟩;dsimp only at *;refine AF (tr (yq rfl (AW rfl BX rfl) (AH rfl (AA rfl (fun An=>?_) (fun An=>?_)))))
 ·simp at An
  have hj:j<s.length:=by rcases Wv with h|h<;>omega
  obtain rfl:j=kv:=by rcases Wv with h|h<;>omega
  have CS:=ADj hx (EQ hj) NM
  refine AV (AJ (tr (yq O (AM O O O (by omega)) ?_)));refine Em ([.int .i64 ((j:Int)+1),.int .i64 0,.int .i64 0]) O (HO _ O fun b8=>?_);refine El [.int .i64 ((j+1:Nat):Int),.int .i64 (0:Int),.int .i64 (0:Int)] O ?_ (by simp[Value.oneCell']);refine ln (EZ (ι:=SR×Nat×Nat×Nat) [7,0,1,2,6,12,20,8] (fun zz=>Ro s.length j zz.1 zz.2.1 zz.2.2.1 zz.2.2.2/\zz.1=Bv (lv n).2 true false (s.drop j)/\Dl (s.drop j) [34]=false) (fun zz=>[]) (fun zz=>Ao w) (fun zz=>[row b8 176 [.int .i64 (zz.2.1:Int),.int .i64 (zz.2.2.1:Int),.int .i64 (zz.2.2.2:Int)],row b6 176 [.int .i64 (0:Int),.int .i64 (0:Int),.int .i64 (0:Int)]]) O ?_ ?_)
  ·refine tr (yq O ((by exact AZ O BX O O (by omega))) ?_);refine ln (AJ (tr (yq O (Ae O O O O) (AH O (AA O (fun A6=>?_) (fun A6=>?_))))))
   ·simp only[BC]at A6
    have KE:Dl (s.drop j) [34]=true:=by rw[Jw hj];exact BK A6
    have DD:=CS.1 KE
    refine tr (yq O (AM O O O (by omega)) ?_);refine Em ([.int .i64 ((j:Int)+1),.int .i64 0,.int .i64 0]) O (El _ O ?_ (by simp[Value.oneCell']));refine ln (AX (A4 (Ah (A4 (Ah (A4 (Ah (B6 (.inl O) O (by exact Cb O JO It O O (Cc)) (fun w' hw=>?_)))))))));rw[Ew,DD];exact⟨B3 _ (T5 (by show(j:Int)+1=((i+(1+(j-(i+1)+1)):Nat):Int);omega) (O) (O)),hw.below⟩
   simp only[CA]at A6
   have Vg:Dl (s.drop j) [34]=false:=by rw[Jw hj];exact DC A6
   refine tr (yq O (Ae O O O O) (AH O (AA O (fun BJ=>?_) (fun BJ=>?_))))
   ·simp only[BC]at BJ
    have BJ:AG s j 0=92:=BJ
    refine AC (yq O (AM O O O (by omega)) ?_);refine Eu [.int .i64 ((j+2:Nat):Int),.int .i64 (0:Int),.int .i64 (0:Int)] O ?_ (by exact⟨O,O⟩);refine C7 (AL (CB ((Bv (lv n).2 true false (s.drop j),j+2,0,0)) ?_))
    dsimp only;exact⟨(by rw[EF hj,AI BJ];exact Ro.esc hj),O,Vg⟩
   simp only[CA]at BJ
   have BJ:¬AG s j 0=92:=BJ
   refine tr (yq O (Ae O O O O) (AH O (AA O (fun Bj=>?_) (fun Bj=>?_))))
   ·simp only[BC]at Bj
    have Bj:AG s j 0=96:=Bj
    refine AC (Em ([.int .i64 0,.int .i64 (j:Int),.int .i64 55]) O (El _ O ?_ (by simp[Value.oneCell'])));refine C7 (AL (CB ((Bv (lv n).2 true false (s.drop j),0,j,55)) ?_))
    dsimp only;exact⟨(by rw[EF hj,AB BJ,AB (fun h=>by cases h.2),AI Bj];exact Ro.bad55),rfl,Vg⟩
   simp only[CA]at Bj
   have Bj:¬AG s j 0=96:=Bj
   refine tr (yq O (Ae O O O O) (AH O (AA O (fun B4=>?_) (fun B4=>?_))))
   ·simp only[BC]at B4
    have hft:Dr s j=true->Fit (s.drop j) ((lv n).2 true (s.drop j)):=fun h=>(GM n).2 _ _ (by rw[BA];have:=(QR h).1;omega)
    have hfy:Fv ((lv n).2 true (s.drop j)):=(HH n).2 _ _
    have hdc:=AIZ (Dr s j) hft hfy
    refine tr (yq O (AM O O O (by omega)) ?_);refine yp O ((fun w hw=>hD n O s j (d+1) true w (by omega) (by omega) hs (by omega))) ?_
    refine HO _ O fun b9=>?_
    refine El _ O ?_ (by simp[Value.oneCell']);refine lnt (FU (EA O ?_))
    refine zO 3 O (fun h55=>by
      simp at h55
      refine EA O ?_;exact zv O
     ) ?_
    refine Dp (AA O (fun CP=>?_) (fun CP=>?_))
    ·have W5:Dr s j=true:=hdc.symm.trans CP
     refine AC (yq O (A7 O JO It O O O) (El [.int .i64 (dl (Dr s j) (Ob j ((lv n).2 true (s.drop j))):Int),.int .i64 (dl (Dr s j) (Sb j ((lv n).2 true (s.drop j))):Int),.int .i64 (dl (Dr s j) (JP ((lv n).2 true (s.drop j))):Int)] O ?_ (by simp[Value.oneCell'])));refine C7 (AL (CB ((Bv (lv n).2 true false (s.drop j),dl (Dr s j) (Ob j ((lv n).2 true (s.drop j))),dl (Dr s j) (Sb j ((lv n).2 true (s.drop j))),dl (Dr s j) (JP ((lv n).2 true (s.drop j))))) ?_))
     dsimp only;exact⟨(by rw[EF hj,AB BJ,AB (fun h=>by cases h.2),AB Bj,AI W5,W5];exact Ro.of (hft W5) hfy hj),rfl,Vg⟩
    have W5:Dr s j=false:=hdc.symm.trans CP
    refine AY (AL (CB ((Bv (lv n).2 true false (s.drop j),j+1,0,0)) ?_))
    dsimp only;exact⟨(by rw[EF hj,AB BJ,AB (fun h=>by cases h.2),AB Bj,AB (by rw[W5];simp)];exact Ro.one hj),rfl,Vg⟩
   simp only[CA]at B4
   have B4:AG s j 0≠36:=B4
   refine AY (AL (CB ((Bv (lv n).2 true false (s.drop j),j+1,0,0)) ?_))
   dsimp only;exact⟨(by rw[EF hj,AB BJ,AB (fun h=>by cases h.2),AB Bj,AB (by rw[P9 B4];simp)];exact Ro.one hj),rfl,Vg⟩
  rintro⟨r,e1,p1,x1⟩ ⟨hS,hr,Vg⟩;dsimp only at *
  have Cz:=CS.2 Vg
  rw[<-hr]at Cz;refine AF (tr (DE O ?_));refine AH O (AA O (fun DF=>?_) (fun DF=>?_))
  ·simp at DF
   have Lc:x1≠0:=by omega
   obtain⟨a,h1,hp,he⟩:=hS.f Lc
   have h3:=Cz.1 a x1 h1
   refine tr (yq O (A7 O JO It O O O) (El _ O ?_ (by simp[Value.oneCell'])));refine ln (AX (Ah (A4 (Ah (A4 (Ah (B6 (.inl O) O (by exact Cb O JO It O O (Cc)) (fun w' hw=>?_))))))));rw[Ew,h3];exact⟨B3 _ (T5 (by rw[he];try rfl) (by rw[hp];show((j+a:Nat):Int)=((i+(1+(j-(i+1)+a)):Nat):Int);omega) (O)),hw.below⟩
  simp at DF
  have Lc:x1=0:=by omega
  obtain⟨k,h1,Rn,PJ,Td⟩:=hS.t Lc
  have h3:=Cz.2 k h1
  rw[Cp]at h3;refine AV (AC (DE O ?_));refine AU O (AL (DJ ((j+k,g-1,e1)) ?_ ?_))
  ·dsimp only;refine⟨(Td.imp id (fun h=>⟨h.2.2,h.1,h.2.1⟩)),by omega,by omega,by rw[h3];congr 1;omega,?_⟩;rw[BA]at NM ⊢
   omega
  dsimp only
  show s.length-(j+k)<s.length-j
  omega
 simp at An
 obtain rfl:j=s.length:=by rcases Wv with h|h<;>omega
 rw[K7,ABE]at hx;refine Av (AE (AE (AO (AS (tr (Em ([.int .i64 0,.int .i64 (i:Int),.int .i64 53]) O (El _ O ?_ (by simp[Value.oneCell']))))))));refine ln (AX (B6 (.inl O) O (by exact Cb O JO It O O (Cc)) (fun w' hw=>?_)));rw[Ew,hx];exact⟨B3 _ (T5 (O) (O) (O)),hw.below⟩
theorem Q7(m:Nat)(hD:∀n,m=n+1->YJ n/\R1 n)(s:List UInt8)(i d:Nat)(q:Bool)(w:World)(hm:24-d=m)(hd:d<=30)(hs:s.length<=2305843009213693952)(hi:i<=s.length):B2 prog 121 [Au s,.int .i64 (i:Int),.int .i64 (d:Int),.bool q] w (.agg #[.int .i64 (dl (Dr s i) (Ob i ((lv m).2 q (s.drop i))):Int),.int .i64 (dl (Dr s i) (Sb i ((lv m).2 q (s.drop i))):Int),.int .i64 (dl (Dr s i) (JP ((lv m).2 q (s.drop i))):Int)]):=by
 refine enter func121 O ntmps121 O (St.start w (Ao w) (Le.refl _)) (tr (HO _ O fun b8=>?_));refine lnt (tq (zp O ((fun w _=>ADs s [36,40] i w hs hi (by decide))) ?_))
 refine zA 4 O (fun UQ=>by
   simp at UQ
   refine zp O ((fun w _=>ADs s [36,123] i w hs hi (by decide))) ?_;exact zv O
  ) ?_
 refine Dp (AA O (fun Ab=>?_) (fun Ab=>?_))
 ·have hb:Dr s i=false:=AUu Ab
  refine tr (Em ([.int .i64 0,.int .i64 0,.int .i64 0]) O (El _ O ?_ (by simp[Value.oneCell'])));refine ln (AX (Ah (B6 (.inl O) O (by exact Cb O JO It O O (Cc)) (fun w' hw=>?_))));rw[hb];exact⟨B3 _ (T5 (O) (O) (O)),hw.below⟩
 have hb:Dr s i=true:=AaN Ab
 have hba:=QR hb
 have hbn:=AJp hba.2.2
 refine AV (AF (tr (yq O (AM O O O (by omega)) ?_)));refine AH O (AA O (fun An=>?_) (fun An=>?_))
 ·simp at An
  obtain rfl:m=0:=by omega
  refine tr (Em ([.int .i64 0,.int .i64 (i:Int),.int .i64 52]) O (El _ O ?_ (by simp[Value.oneCell'])));refine ln (AX (Ah (B6 (.inl O) O (by exact Cb O JO It O O (Cc)) (fun w' hw=>?_))));rw[hb];exact⟨B3 _ (T5 (O) (O) (O)),hw.below⟩
 simp at An
 obtain⟨n,rfl⟩:∃n,m=n+1:=⟨m-1,by omega⟩
 have Ew:(lv (n+1)).2 q (s.drop i)=(HN (lv n).1 (lv n).2 (decide (AG s (i+1) 0=123)) (q&&decide (AG s (i+1) 0=123)) (s.drop i).length 0 (s.drop (i+2))).close 2 53:=by show AEv _ _ _ _=_;unfold AEv Mr;rw[Cp,Mx]
 refine AV (AK O (tr (yq O (AM O O O (by omega)) ?_)));refine AH O (AF (AJ (EB (ι:=Nat×Nat×Nat×Nat) [0,1,2,3,8,23,27] (fun zz=>KV s.length zz.1 zz.2.2.2/\i+2<=zz.1/\zz.1<=s.length/\(HN (lv n).1 (lv n).2 (decide (AG s (i+1) 0=123)) (q&&decide (AG s (i+1) 0=123)) (s.drop i).length 0 (s.drop (i+2)))=(HN (lv n).1 (lv n).2 (decide (AG s (i+1) 0=123)) (q&&decide (AG s (i+1) 0=123)) zz.2.2.1 zz.2.1 (s.drop zz.1)).on (zz.1-(i+2))/\(s.drop zz.1).length<=zz.2.2.1/\zz.2.1<=zz.1) (fun zz=>s.length-zz.1) (fun zz=>[(10,.int .i64 (zz.2.2.2:Int)),(9,.int .i64 (zz.2.1:Int))]) (fun zz=>Ao w) (fun zz=>[row b8 176 [.int .i64 (0:Int),.int .i64 (0:Int),.int .i64 (0:Int)]]) (i+2,0,(s.drop i).length,i+2) O ?_ ?_)))
 ·dsimp only;refine⟨.inl O,A5 _,by omega,by rw[Nat.sub_self,LR.on_zero],by rw[BA,BA];omega,Aw _⟩
 rintro⟨j,o,g,kv⟩ ⟨Wv,hj1,W7,hx,NM,hoj⟩;dsimp only at *;refine AF (tr (yq rfl (AW rfl BX rfl) (AH rfl (AA rfl (fun A6=>?_) (fun A6=>?_)))))
 ·simp at A6
  have hj:j<s.length:=by rcases Wv with h|h<;>omega
  obtain rfl:j=kv:=by rcases Wv with h|h<;>omega
  have IC:=ADI hx (EQ hj) NM
  rw[Ej]at IC;refine AV (AJ (tr (yq O ((by exact AZ O BX O O (by omega))) ?_)));refine AH O (tr (yq O (AM O O O (by omega)) ?_));refine Em ([.int .i64 ((j:Int)+1),.int .i64 0,.int .i64 0]) O (HO _ O fun b12=>?_);refine El [.int .i64 ((j+1:Nat):Int),.int .i64 (0:Int),.int .i64 (0:Int)] O ?_ (by simp[Value.oneCell']);refine ln (EZ (ι:=SR×Nat×Nat×Nat×Nat) [10,0,1,2,3,8,23,27,35,12] (fun zz=>Ro s.length j zz.1 zz.2.2.1 zz.2.2.2.1 zz.2.2.2.2/\(∀a e,zz.1=.bad a e->(HN (lv n).1 (lv n).2 (decide (AG s (i+1) 0=123)) (q&&decide (AG s (i+1) 0=123)) (s.drop i).length 0 (s.drop (i+2)))=.bad (j-(i+2)+a) e)/\(∀k,zz.1=.ok k->(HN (lv n).1 (lv n).2 (decide (AG s (i+1) 0=123)) (q&&decide (AG s (i+1) 0=123)) (s.drop i).length 0 (s.drop (i+2)))=(HN (lv n).1 (lv n).2 (decide (AG s (i+1) 0=123)) (q&&decide (AG s (i+1) 0=123)) (g-1) zz.2.1 ((s.drop j).drop k)).on (j-(i+2)+k))/\zz.2.1<=j+1) (fun zz=>[(9,.int .i64 (zz.2.1:Int))]) (fun zz=>Ao w) (fun zz=>[row b12 176 [.int .i64 (zz.2.2.1:Int),.int .i64 (zz.2.2.2.1:Int),.int .i64 (zz.2.2.2.2:Int)],row b8 176 [.int .i64 (0:Int),.int .i64 (0:Int),.int .i64 (0:Int)]]) O ?_ ?_)
  ·refine AJ (tr (yq O (Ae O O O O) (AH O (AA O (fun BJ=>?_) (fun BJ=>?_)))))
   ·simp only[BC]at BJ
    have BJ:AG s j 0=92:=BJ
    have KE:AG s j 0≠34:=by rw[BJ];decide
    have FW:DQ (decide (AG s (i+1) 0=123)) o (AG s j 0)=false:=by rw[BJ];exact OI (by decide) (by decide)
    refine AC (yq O (AM O O O (by omega)) ?_);refine Eu [.int .i64 ((j+2:Nat):Int),.int .i64 (0:Int),.int .i64 (0:Int)] O ?_ (by exact⟨O,O⟩);refine C7 (AL (CB ((Bv (lv n).2 (q&&decide (AG s (i+1) 0=123)) (!(q&&decide (AG s (i+1) 0=123))) (s.drop j),o,j+2,0,0)) ?_))
    dsimp only;refine⟨(by rw[EF hj,AI BJ];exact Ro.esc hj),(Gh IC KE FW (Ep (by rw[BJ];decide) (by rw[BJ];decide))).1,(Gh IC KE FW (Ep (by rw[BJ];decide) (by rw[BJ];decide))).2,by omega⟩
   simp only[CA]at BJ
   have BJ:¬AG s j 0=92:=BJ
   refine tq (zq O (Ae O O O O) ?_)
   refine zA 9 O (fun h61=>by
     simp at h61
     refine zA 5 O (fun h59=>by
       refine zq O (AM O O O (by omega)) ?_;refine zq O ((by exact Bu O BX O O (by omega))) ?_;refine zq O (Ae O O O O) ?_;exact zv O
      ) ?_
     exact zv O
    ) ?_
   refine De O (AA O (fun Bj=>?_) (fun Bj=>?_))
   ·have Qe:AG s j 0=39/\(!(q&&decide (AG s (i+1) 0=123)))=true:=ACF Bj
    have KE:AG s j 0≠34:=by rw[Qe.1];decide
    have FW:DQ (decide (AG s (i+1) 0=123)) o (AG s j 0)=false:=by rw[Qe.1];exact OI (by decide) (by decide)
    refine AC (yp O ((fun w _=>Qd s j w hs hj)) (El [.int .i64 (Ob j (CM (s.drop j)):Int),.int .i64 (Sb j (CM (s.drop j)):Int),.int .i64 (JP (CM (s.drop j)):Int)] O ?_ (by simp[Value.oneCell'])));refine C7 (AL (CB ((Bv (lv n).2 (q&&decide (AG s (i+1) 0=123)) (!(q&&decide (AG s (i+1) 0=123))) (s.drop j),o,Ob j (CM (s.drop j)),Sb j (CM (s.drop j)),JP (CM (s.drop j)))) ?_))
    dsimp only;refine⟨(by rw[EF hj,AB BJ,AI Qe];exact Ro.of (Pf _ (EQ hj)) (LW _) hj),(Gh IC KE FW (Ep (by rw[Qe.1];decide) (by rw[Qe.1];decide))).1,(Gh IC KE FW (Ep (by rw[Qe.1];decide) (by rw[Qe.1];decide))).2,by omega⟩
   have Qe:¬(AG s j 0=39/\(!(q&&decide (AG s (i+1) 0=123)))=true):=YM Bj
   refine tr (yq O (Ae O O O O) (AH O (AA O (fun B4=>?_) (fun B4=>?_))))
   ·simp only[BC]at B4
    have B4:AG s j 0=34:=B4
    refine AC (yq O (AM O O O (by omega)) ?_);refine yp O ((fun w _=>(hD n O).1 s j (d+1) w (by omega) (by omega) hs hj)) ?_;refine El [.int .i64 (Ob j ((lv n).1 (s.drop j)):Int),.int .i64 (Sb j ((lv n).1 (s.drop j)):Int),.int .i64 (JP ((lv n).1 (s.drop j)):Int)] O ?_ (by simp[Value.oneCell']);refine C7 (AL (CB (((lv n).1 (s.drop j),o,Ob j ((lv n).1 (s.drop j)),Sb j ((lv n).1 (s.drop j)),JP ((lv n).1 (s.drop j)))) ?_))
    dsimp only;refine⟨(by exact Ro.of ((GM n).1 _ (EQ hj)) ((HH n).1 _) hj),(IC.1 B4).1,(IC.1 B4).2,by omega⟩
   simp only[CA]at B4
   have KE:AG s j 0≠34:=B4
   refine tr (yq O (Ae O O O O) (AH O (AA O (fun CP=>?_) (fun CP=>?_))))
   ·simp only[BC]at CP
    have CP:AG s j 0=96:=CP
    have FW:DQ (decide (AG s (i+1) 0=123)) o (AG s j 0)=false:=by rw[CP];exact OI (by decide) (by decide)
    refine AC (Em ([.int .i64 0,.int .i64 (j:Int),.int .i64 55]) O (El _ O ?_ (by simp[Value.oneCell'])));refine C7 (AL (CB ((Bv (lv n).2 (q&&decide (AG s (i+1) 0=123)) (!(q&&decide (AG s (i+1) 0=123))) (s.drop j),o,0,j,55)) ?_))
    dsimp only;refine⟨(by rw[EF hj,AB BJ,AB Qe,AI CP];exact Ro.bad55),(Gh IC KE FW (Ep (by rw[CP];decide) (by rw[CP];decide))).1,(Gh IC KE FW (Ep (by rw[CP];decide) (by rw[CP];decide))).2,by omega⟩
   simp only[CA]at CP
   have CP:¬AG s j 0=96:=CP
   refine tr (yq O (Ae O O O O) (AH O (AA O (fun DF=>?_) (fun DF=>?_))))
   ·simp only[BC]at DF
    have DF:AG s j 0=36:=DF
    have FW:DQ (decide (AG s (i+1) 0=123)) o (AG s j 0)=false:=by rw[DF];exact OI (by decide) (by decide)
    have hft:Dr s j=true->Fit (s.drop j) ((lv n).2 (q&&decide (AG s (i+1) 0=123)) (s.drop j)):=fun h=>(GM n).2 _ _ (by rw[BA];have:=(QR h).1;omega)
    have hfy:Fv ((lv n).2 (q&&decide (AG s (i+1) 0=123)) (s.drop j)):=(HH n).2 _ _
    have hdc:=AIZ (Dr s j) hft hfy
    refine tr (CL 12 (zq O (AM O O O (by omega)) ?_))
    refine zA 5 O (fun h92=>by
      refine zq O (AM O O O (by omega)) ?_;refine zq O ((by exact Bu O BX O O (by omega))) ?_;refine zq O (Ae O O O O) ?_;exact zv O
     ) ?_
    refine FR (yp O ((fun w _=>(hD n O).2 s j (d+1) (q&&decide (AG s (i+1) 0=123)) w (by omega) (by omega) hs (by omega))) ?_)
    refine HO _ O fun b13=>?_
    refine El _ O ?_ (by simp[Value.oneCell']);refine lnt (FU (EA O ?_))
    refine zO 3 O (fun AhP=>by
      simp at AhP
      refine EA O ?_;exact zv O
     ) ?_
    refine Dp (AA O (fun GQ=>?_) (fun GQ=>?_))
    ·have W5:Dr s j=true:=hdc.symm.trans GQ
     refine AC (yq O (A7 O JO It O O O) (El [.int .i64 (dl (Dr s j) (Ob j ((lv n).2 (q&&decide (AG s (i+1) 0=123)) (s.drop j))):Int),.int .i64 (dl (Dr s j) (Sb j ((lv n).2 (q&&decide (AG s (i+1) 0=123)) (s.drop j))):Int),.int .i64 (dl (Dr s j) (JP ((lv n).2 (q&&decide (AG s (i+1) 0=123)) (s.drop j))):Int)] O ?_ (by simp[Value.oneCell'])));refine C7 (AL (CB ((Bv (lv n).2 (q&&decide (AG s (i+1) 0=123)) (!(q&&decide (AG s (i+1) 0=123))) (s.drop j),o,dl (Dr s j) (Ob j ((lv n).2 (q&&decide (AG s (i+1) 0=123)) (s.drop j))),dl (Dr s j) (Sb j ((lv n).2 (q&&decide (AG s (i+1) 0=123)) (s.drop j))),dl (Dr s j) (JP ((lv n).2 (q&&decide (AG s (i+1) 0=123)) (s.drop j))))) ?_))
     dsimp only;refine⟨(by rw[EF hj,AB BJ,AB Qe,AB CP,AI W5,W5];exact Ro.of (hft W5) hfy hj),(Gh IC KE FW (Ep (by rw[DF];decide) (by rw[DF];decide))).1,(Gh IC KE FW (Ep (by rw[DF];decide) (by rw[DF];decide))).2,by omega⟩
    have W5:Dr s j=false:=hdc.symm.trans GQ
    refine AY (AL (CB ((Bv (lv n).2 (q&&decide (AG s (i+1) 0=123)) (!(q&&decide (AG s (i+1) 0=123))) (s.drop j),o,j+1,0,0)) ?_))
    dsimp only;refine⟨(by rw[EF hj,AB BJ,AB Qe,AB CP,AB (by rw[W5];simp)];exact Ro.one hj),(Gh IC KE FW (Ep (by rw[DF];decide) (by rw[DF];decide))).1,(Gh IC KE FW (Ep (by rw[DF];decide) (by rw[DF];decide))).2,by omega⟩
   simp only[CA]at DF
   have DF:AG s j 0≠36:=DF
   refine tq (zq O (AM O O O (by omega)) ?_);refine zq O ((by exact Bu O BX O O (by omega))) ?_;refine zq O (Ae O O O O) ?_
   refine zA 2 O (fun AZl=>by
     simp at AZl
     refine zq O (Ae O O O O) ?_;exact zv O
    ) ?_
   refine De O (AA O (fun KD=>?_) (fun KD=>?_))
   ·have FW:DQ (decide (AG s (i+1) 0=123)) o (AG s j 0)=true:=by rw[DQ,C4];exact .inl KD
    have DD:=(IC.2 KE).1 FW
    refine tr (yq O (AM O O O (by omega)) ?_);refine Em ([.int .i64 ((j:Int)+1),.int .i64 0,.int .i64 0]) O (El _ O ?_ (by simp[Value.oneCell']));refine ln (AX (A4 (Ah (A4 (Ah (A4 (Ah (B6 (.inl O) O (by exact Cb O JO It O O (Cc)) (fun w' hw=>?_)))))))));rw[hb,Ew,DD];exact⟨B3 _ (T5 (by show(j:Int)+1=((i+(2+(j-(i+2)+1)):Nat):Int);omega) (O) (O)),hw.below⟩
   refine tq (zq O (AM O O O (by omega)) ?_);refine zq O ((by exact Bu O BX O O (by omega))) ?_;refine zq O (Ae O O O O) ?_
   refine zA 2 O (fun AgU=>by
     simp at AgU
     refine zq O (Ae O O O O) ?_;exact zv O
    ) ?_
   refine zA 2 O (fun AjJ=>by
     simp at AjJ
     exact zv O
    ) ?_
   refine De O (AA O (fun EW=>?_) (fun EW=>?_))
   ·have FW:DQ (decide (AG s (i+1) 0=123)) o (AG s j 0)=true:=AKC hbn EW
    have DD:=(IC.2 KE).1 FW
    refine tr (yq O (AM O O O (by omega)) ?_);refine Em ([.int .i64 ((j:Int)+1),.int .i64 0,.int .i64 0]) O (El _ O ?_ (by simp[Value.oneCell']));refine ln (AX (A4 (Ah (A4 (Ah (A4 (Ah (B6 (.inl O) O (by exact Cb O JO It O O (Cc)) (fun w' hw=>?_)))))))));rw[hb,Ew,DD];exact⟨B3 _ (T5 (by show(j:Int)+1=((i+(2+(j-(i+2)+1)):Nat):Int);omega) (O) (O)),hw.below⟩
   have FW:DQ (decide (AG s (i+1) 0=123)) o (AG s j 0)=false:=AGI hbn KD EW
   refine tq (zq O (AM O O O (by omega)) ?_);refine zq O ((by exact Bu O BX O O (by omega))) ?_;refine zq O (Ae O O O O) ?_
   refine zA 2 O (fun AgW=>by
     simp at AgW
     refine zq O (Ae O O O O) ?_;exact zv O
    ) ?_
   refine De O (AA O (fun Eq=>?_) (fun Eq=>?_))
   ·refine AC (yq O (Bl O O O (by omega)) ?_);refine AU O (AL (Dd ((Bv (lv n).2 (q&&decide (AG s (i+1) 0=123)) (!(q&&decide (AG s (i+1) 0=123))) (s.drop j),o-1,j+1,0,0)) ?_ (A0 O (B3 (Value.int IntKind.i64) (by show(o:Int)-1=((o-1:Nat):Int);have:=Yp FW (by rw[<-hbn];exact Eq);omega)) (Bk)) (BS O) (fun _ h=>by dsimp only;exact AD h)))
    dsimp only;refine⟨(by rw[EF hj,AB BJ,AB Qe,AB CP,AB (by rw[P9 DF];simp)];exact Ro.one hj),(Gh IC KE FW (Xb hbn Eq)).1,(Gh IC KE FW (Xb hbn Eq)).2,by omega⟩
   refine tq (zq O (AM O O O (by omega)) ?_);refine zq O ((by exact Bu O BX O O (by omega))) ?_;refine zq O (Ae O O O O) ?_
   refine zA 2 O (fun Ain=>by
     simp at Ain
     refine zq O (Ae O O O O) ?_;exact zv O
    ) ?_
   refine De O (AA O (fun Fb=>?_) (fun Fb=>?_))
   ·refine AC (yq O (AM O O O (by omega)) ?_);refine AU O (AL (CB ((Bv (lv n).2 (q&&decide (AG s (i+1) 0=123)) (!(q&&decide (AG s (i+1) 0=123))) (s.drop j),o+1,j+1,0,0)) ?_))
    dsimp only;refine⟨(by rw[EF hj,AB BJ,AB Qe,AB CP,AB (by rw[P9 DF];simp)];exact Ro.one hj),(Gh IC KE FW (Yz hbn Fb)).1,(Gh IC KE FW (Yz hbn Fb)).2,by omega⟩
   refine AY (AL (CB ((Bv (lv n).2 (q&&decide (AG s (i+1) 0=123)) (!(q&&decide (AG s (i+1) 0=123))) (s.drop j),o,j+1,0,0)) ?_))
   dsimp only;refine⟨(by rw[EF hj,AB BJ,AB Qe,AB CP,AB (by rw[P9 DF];simp)];exact Ro.one hj),(Gh IC KE FW (Vd hbn Eq Fb)).1,(Gh IC KE FW (Vd hbn Eq Fb)).2,by omega⟩
  rintro⟨r,o2,e1,p1,x1⟩ ⟨hS,Aho,Ajx,ho2⟩;dsimp only at *;refine AF (tr (DE rfl ?_));refine AH rfl (AA rfl (fun GC=>?_) (fun GC=>?_))
  ·simp at GC
   have Lc:x1≠0:=by omega
   obtain⟨a,h1,hp,he⟩:=hS.f Lc
   have h3:=Aho a x1 h1
   refine tr (yq O (A7 O JO It O O O) (El _ O ?_ (by simp[Value.oneCell'])));refine ln (AX (Ah (A4 (Ah (A4 (Ah (B6 (.inl O) O (by exact Cb O JO It O O (Cc)) (fun w' hw=>?_))))))));rw[hb,Ew,h3];exact⟨B3 _ (T5 (by rw[he];try rfl) (by rw[hp];show((j+a:Nat):Int)=((i+(2+(j-(i+2)+a)):Nat):Int);omega) (O)),hw.below⟩
  simp at GC
  have Lc:x1=0:=by omega
  obtain⟨k,h1,Rn,PJ,Td⟩:=hS.t Lc
  have h3:=Ajx k h1
  rw[Cp]at h3;refine AV (AC (DE O ?_));refine AU O (AL (DJ ((j+k,o2,g-1,e1)) ?_ ?_))
  ·dsimp only;refine⟨(Td.imp id (fun h=>⟨h.2.2,h.1,h.2.1⟩)),by omega,by omega,by rw[h3];congr 1;omega,?_,by omega⟩;rw[BA]at NM ⊢
   omega
  dsimp only
  show s.length-(j+k)<s.length-j
  omega
 simp at A6
 obtain rfl:j=s.length:=by rcases Wv with h|h<;>omega
 rw[K7,ACV]at hx;refine Av (AE (AE (AO (AS (tr (Em ([.int .i64 0,.int .i64 (i:Int),.int .i64 53]) O (El _ O ?_ (by simp[Value.oneCell']))))))));refine ln (AX (B6 (.inl O) O (by exact Cb O JO It O O (Cc)) (fun w' hw=>?_)));rw[hb,Ew,hx];exact⟨B3 _ (T5 (O) (O) (O)),hw.below⟩
theorem ABJ:∀n,YJ n/\R1 n
 |0=>⟨fun s i d w hm hd hs hi=>QA 0 (fun n h=>by cases h) s i d w hm hd hs hi,fun s i d q w hm hd hs hi=>Q7 0 (fun n h=>by cases h) s i d q w hm hd hs hi⟩
 |n+1=>⟨fun s i d w hm hd hs hi=>QA (n+1) (fun k h=>(show n=k by omega) ▸ (ABJ n).2) s i d w hm hd hs hi,
  fun s i d q w hm hd hs hi=>Q7 (n+1) (fun k h=>(show n=k by omega) ▸ ABJ n) s i d q w hm hd hs hi⟩
theorem AQz(s:List UInt8)(b:UInt8)(w:World)(hs:s.length<=9223372036854775807):B2 prog 49 [Au s,u8 b] w (.bool (Ho s b)):=by
 refine enter func49 O ntmps49 O (St.start w (Ao w) (Le.refl _)) (AK O (AF (AK O (AJ (EB (ι:=Nat) [0,1] (fun k=>k<=s.length/\Ho s b=Ho (s.drop k) b) (fun k=>s.length-k) (fun k=>[(5,.int .i64 (k:Int))]) (fun k=>Ao w) (fun k=>[]) 0 O ?_ ?_)))))
 ·exact⟨Aw _,by simp⟩
 rintro k ⟨hk,Cz⟩;refine AF (tr (yq rfl (AW rfl BX rfl) (AH rfl (AA rfl (fun Ab=>?_) (fun Ab=>?_)))))
 ·simp at Ab
  refine AV (AF (AJ (tr (yq O ((by exact AZ O BX O O (by omega))) ?_))));refine yq O (Ly O O O) (ln (AA O (fun An=>?_) (fun An=>?_)))
  ·simp at An
   refine AK O (Ak (AP O O (fun w' hw=>?_)));refine⟨?_,hw.below⟩;rw[Cz,ZA s b k (by omega)]
   simp[An]
  simp at An
  refine AY (AL (AS (AC (yq O (AM O O O (by omega)) ?_))));refine AU O (DJ (k+1) ?_ ?_)
  ·refine⟨by omega,Cz.trans ?_⟩;rw[ZA s b k (by omega)];simp[An]
  omega
 simp at Ab
 refine Av (AE (AE (AO (AS (AK O (AX (AP O O (fun w' hw=>?_))))))));refine⟨?_,hw.below⟩;rw[Cz,E4 (by omega)]
 rfl
theorem AAI(v:Value)(l:List Ch)(w:World)(hl:l.length<=2000000000000)(hv:Sl (Ao w) 2 v (l.map D5)):B2 prog 28 [v] w (Au (Cj l)):=by
 refine enter func28 O ntmps28 O (St.start w (Ao w) (Le.refl _)) (AK O (AK O (AF (AK O (AJ (EB (ι:=Nat×Value) [0,2] (fun zz=>zz.1<=l.length) (fun zz=>l.length-zz.1) (fun zz=>[(4,.int .i64 (zz.1:Int)),(3,zz.2)]) (fun zz=>Ao w) (fun zz=>[Ap 5 1 Km zz.2 (Cj (l.take zz.1))]) (0,.slice none 0 0) O ?_ ?_ (hh:=(fun _ h=>CI 5 1 Km h))))))))
 ·dsimp only;exact Aw _
 rintro⟨k,vb⟩ hk;dsimp only at *;refine AF (tr ?_);refine yq rfl ((by exact BH rfl DU rfl (Sl.lenOf hv (Af _)))) ?_;refine AH rfl (AA rfl (fun Ab=>?_) (fun Ab=>?_))
 ·simp at Ab
  refine AV (AF (AJ (AC ?_)));refine yq O ((by exact AN O DU Cn O O (Sl.shape hv (Af _)) (by omega))) ?_;refine yq O ((by exact Ai O O (AIb hv (by omega)))) ?_;refine NF _ O (fun b17=>?_) (by rfl);refine V4 (f:=Km) ((AG l k ⟨0,false⟩).b) O (fun v18=>?_) (by exact RD _) (by simp[Cj,maxLen];omega) (by simp[Cj];omega);refine AU O (AL (AS (AC (yq O (AM O O O (by omega)) ?_))));refine AU O (DJ ((k+1,v18)) ?_ ?_ (hh:=(fun _ h=>by dsimp only;rw[show Cj (l.take (k+1))=Cj (l.take k)++[(AG l k ⟨0,false⟩).b]from K8 l k (by omega)];exact AD h)))
  ·dsimp only
   show k+1<=_;omega
  dsimp only
  show l.length-(k+1)<l.length-k;omega
 simp at Ab
 refine Av (AE (AE (AO (AS (tr (yq O (LE O O8 BX un5 O) (AH O (AX (AP O O (fun w' hw=>?_))))))))));refine⟨?_,hw.below⟩;rw[LG (by omega)]
theorem T9(vl:Value)(l:List Pc)(ifs:List UInt8)(I0:AQ)(F0:List HA)(w0 w:World)(AZA:ifs.length<=9223372036854775807)(UU:l.length<=4611686018427387904)(Zx:tot l<=1000000000000)(hv:Sl I0 3 vl (l.map Ot))(BZ:St w0 I0 F0 w):Calls prog 25 [vl,Au ifs].toArray w fun e w'=> ∃v,e=.returned v/\∃I' H',WN l ifs I0 F0 v I' H'/\St w I' H' w':=by
 refine enter func25 O ntmps25 O (BZ.self) (AK O (AK O (AK O (AK O (AK O (AF (AK O (AJ (EB (ι:=Nat×Value×Value×AQ×List Value×FSt) [0,1,4,5] (fun zz=>zz.1<=l.length/\Le I0 zz.2.2.2.1/\G5 zz.2.2.2.1 zz.2.2.2.2.1 zz.2.2.2.2.2.out/\(Vf (l.drop zz.1) ifs).foldl F2 zz.2.2.2.2.2=(Vf l ifs).foldl F2 G4/\zz.2.2.2.2.2.cur.length+zz.2.2.2.2.2.out.length+tot (l.drop zz.1)<=1000000000000) (fun zz=>l.length-zz.1) (fun zz=>[(10,.int .i64 (zz.1:Int)),(6,zz.2.1),(7,zz.2.2.1),(8,.bool zz.2.2.2.2.2.begun),(9,.bool zz.2.2.2.2.2.soft)]) (fun zz=>zz.2.2.2.1) (fun zz=>(Ap 71 1 JB zz.2.1 zz.2.2.2.2.1::Ap 113 2 D5 zz.2.2.1 zz.2.2.2.2.2.cur::F0)) (0,.slice none 0 0,.slice none 0 0,I0,[],G4) O ?_ ?_ (hh:=(fun _ h=>CI 71 1 JB (CI 113 2 D5 h))))))))))))
 ·dsimp only;exact⟨Aw _,Le.refl _,⟨O,fun _ _ _ h=>by cases h⟩,rfl,by simpa[G4]using Zx⟩
 rintro⟨i,vo,vc,J,us,f⟩ ⟨hi,hJ,LA,htt,ABv⟩;dsimp only at *
 have hv':=hv.mono hJ
 have hul:=LA.1
 refine AF (tr ?_);refine yq O ((by exact BH O AUc O (Sl.lenOf hv' (Af _)))) ?_;refine AH O (AA O (fun Ab=>?_) (fun Ab=>?_))
 ·simp at Ab
  refine AV (AF (AJ (tr ?_)));refine yq O ((by exact AN O AUc ZS O O (Sl.shape hv' (Af _)) (by omega))) ?_;refine yq O ((by exact Br O AUU ZS O O (ANK (i:=i) hv' (by omega)))) ?_
  refine HO _ O fun b11=>?_
  refine El _ O ?_ (by exact Q3 _);refine ln (EZ (ι:=FSt) [10,6,7,0,1,4,5,19,11] (fun zz=>G5 J us zz.out/\(((AG l i FE).t.drop 0).map (evB (AG l i FE) ifs)++Vf (l.drop (i+1)) ifs).foldl F2 zz=(Vf l ifs).foldl F2 G4/\zz.cur.length+zz.out.length+(AG l i FE).t.length+tot (l.drop (i+1))<=1000000000000) (fun zz=>[(8,.bool zz.begun),(9,.bool zz.soft)]) (fun zz=>J) (fun zz=>(row b11 79 (Ot (AG l i FE))::Ap 71 1 JB vo us::Ap 113 2 D5 vc zz.cur::F0)) O ?_ ?_)
  ·refine tr (yq O ((by exact Az O O (by rfl))) ?_);refine ln (AA O (fun An=>?_) (fun An=>?_))
   ·have hq1:(AG l i FE).q=true:=An
    refine AK O (AC (AU O (CB ({f with begun:=true,soft:=false}) ?_)))
    dsimp only
    have:=ACm (l:=l) (i:=i) (by omega)
    refine⟨LA,?_,by omega⟩;rw[<-htt,ACc (l:=l) (i:=i) ifs (by omega)];simp[AJa,hq1,F2]
   have hq1:(AG l i FE).q=false:=An
   refine AY (CB (f) ?_)
   have:=ACm (l:=l) (i:=i) (by omega)
   refine⟨LA,?_,by omega⟩;rw[<-htt,ACc (l:=l) (i:=i) ifs (by omega)];simp[AJa,hq1]
  rintro q ⟨LA,htt,ABv⟩;dsimp only at *;refine AK rfl (AJ (EB (ι:=Nat×Value×Value×AQ×List Value×FSt) [10,0,1,4,5,19,11] (fun zz=>zz.1<=(AG l i FE).t.length/\Le I0 zz.2.2.2.1/\G5 zz.2.2.2.1 zz.2.2.2.2.1 zz.2.2.2.2.2.out/\(((AG l i FE).t.drop zz.1).map (evB (AG l i FE) ifs)++Vf (l.drop (i+1)) ifs).foldl F2 zz.2.2.2.2.2=(Vf l ifs).foldl F2 G4/\zz.2.2.2.2.2.cur.length+zz.2.2.2.2.2.out.length+((AG l i FE).t.length-zz.1)+tot (l.drop (i+1))<=1000000000000) (fun zz=>(AG l i FE).t.length-zz.1) (fun zz=>[(12,.int .i64 (zz.1:Int)),(6,zz.2.1),(7,zz.2.2.1),(8,.bool zz.2.2.2.2.2.begun),(9,.bool zz.2.2.2.2.2.soft)]) (fun zz=>zz.2.2.2.1) (fun zz=>(row b11 79 (Ot (AG l i FE))::Ap 71 1 JB zz.2.1 zz.2.2.2.2.1::Ap 113 2 D5 zz.2.2.1 zz.2.2.2.2.2.cur::F0)) (0,vo,vc,J,us,q) rfl ?_ ?_))
  ·dsimp only;exact⟨Aw _,hJ,LA,htt,by omega⟩
  rintro⟨k,vo,vc,J,us,f⟩ ⟨hk,hJ,LA,htt,ABv⟩;dsimp only at *
  have hul:=LA.1
  refine AF (tr (yq O ((by exact Az O O (by rfl))) ?_));refine yq O (AW O BX O) (AH O (AA O (fun A6=>?_) (fun A6=>?_)))
  ·simp at A6
   have Om:k<(AG l i FE).t.length:=by omega
   refine AV (AF (AJ (tr (yq O ((by exact Az O O (by rfl))) ?_))));refine yq O ((by exact AZ O BX O O (by omega))) ?_;refine AH O (AF (tq (zq O ((by exact Az O O (by rfl))) ?_)))
   refine zO 3 O (fun h45=>by
     refine zq O ((by exact Az O O (by rfl))) ?_;exact zv O
    ) ?_
   refine zO 4 O (fun h51=>by
     simp at h51
     refine zp O ((fun w _=>AQz _ _ w AZA)) ?_;exact zv O
    ) ?_
   refine Dp (AA O (fun BJ=>?_) (fun BJ=>?_))
   ·refine tr (yq O ((by exact Az O O (by rfl))) ?_);refine Em [_,_] O (NF _ O (fun b57=>?_) (by rfl));refine V4 (f:=D5) ((⟨AG (AG l i FE).t k 0,(AG l i FE).q⟩:Ch)) O (fun v58=>?_) (by exact Hf _) (by simp only[maxLen];omega) (by omega);refine AH O (AK O (AK O (Av (AE (AO (AS (AC (yq O (AM O O O (by omega)) ?_))))))));refine AU O (DJ ((k+1,vo,v58,J,us,⟨f.out,f.cur++[⟨AG (AG l i FE).t k 0,(AG l i FE).q⟩],true,false⟩)) ?_ ?_)
    ·dsimp only;refine⟨(show k+1<=_ by omega),hJ,LA,?_,?_⟩
     ·rw[<-htt,Nf (evB (AG l i FE) ifs) Om,ALI BJ];simp only[NA,Qz,F2]
     (try simp only[Bh,CD,Bb]);omega
    dsimp only
    show(AG l i FE).t.length-(k+1)<(AG l i FE).t.length-k;omega
   refine AV (tq (zq O (Ae O O O O) ?_))
   refine zO 2 O (fun h64=>by
     simp at h64
     refine zq O (Ae O O O O) ?_;exact zv O
    ) ?_
   refine zO 2 O (fun h68=>by
     simp at h68
     refine zq O (Ae O O O O) ?_;exact zv O
    ) ?_
   refine De O (AJ (AK O (AA O (fun Bj=>?_) (fun Bj=>?_))))
   ·refine tr (KH (f:=D5) (l:=f.cur) vc (fun _=>rfl) (fun J2 Pe Sy=>?_));refine NF _ O (fun b76=>?_) (by exact JS.cells (Sl.one (by assumption)));refine V4 (f:=JB) vc O (fun v77=>?_) (AIP Sy.one) (by simp only[maxLen];omega) (by omega);refine AH O (AK O (AK O (AC (AU O (AL (AL (AS (AC (yq O (AM O O O (by omega)) ?_)))))))));refine AU O (DJ ((k+1,v77,.slice none 0 0,J2,us++[vc],⟨f.out++[f.cur],[],false,Jr (AG (AG l i FE).t k 0)⟩)) ?_ ?_ (hh:=(fun _ h=>by dsimp only;exact AD (CI 113 2 D5 h))))
    ·dsimp only;refine⟨(show k+1<=_ by omega),hJ.trans Pe,(LA.mono Pe).snoc Sy,?_,?_⟩
     ·rw[<-htt,Nf (evB (AG l i FE) ifs) Om];cases hs:Jr (AG (AG l i FE).t k 0)
      ·rw[VM BJ hs];simp[F2,Bj]
      rw[AEc BJ hs];simp[F2,Bj]
     (try simp only[Bh,CD,Bb]);omega
    dsimp only
    show(AG l i FE).t.length-(k+1)<(AG l i FE).t.length-k;omega
   refine AK O (AA O (fun B4=>?_) (fun B4=>?_))
   ·refine AY (AL (AL (AS (AC (yq O (AM O O O (by omega)) ?_)))));refine AU O (DJ ((k+1,vo,vc,J,us,f)) ?_ ?_)
    ·dsimp only;refine⟨(show k+1<=_ by omega),hJ,LA,?_,?_⟩
     ·rw[<-htt,Nf (evB (AG l i FE) ifs) Om,AEc BJ B4];simp only[NA,Qz,F2,Bj,RZ,O9]
     (try dsimp only);omega
    dsimp only
    show(AG l i FE).t.length-(k+1)<(AG l i FE).t.length-k;omega
   refine AK O (AA O (fun CP=>?_) (fun CP=>?_))
   ·refine AC (AU O (AL (AL (AS (AC (yq O (AM O O O (by omega)) ?_))))));refine AU O (DJ ((k+1,vo,vc,J,us,{f with soft:=false})) ?_ ?_)
    ·dsimp only;refine⟨(show k+1<=_ by omega),hJ,LA,?_,?_⟩
     ·rw[<-htt,Nf (evB (AG l i FE) ifs) Om,VM BJ B4];simp only[NA,Qz,F2,Bj,CP,RZ,O9,if_true]
     (try dsimp only);omega
    dsimp only
    show(AG l i FE).t.length-(k+1)<(AG l i FE).t.length-k;omega
   refine AC (NF _ O (fun b70=>?_) (by rfl));refine V4 (f:=JB) (.slice none 0 0) O (fun v71=>?_) (AIP ⟨O,O⟩) (by simp only[maxLen];omega) (by omega);refine AU O (AL (AL (AS (AC (yq O (AM O O O (by omega)) ?_)))));refine AU O (DJ ((k+1,v71,vc,J,us++[.slice none 0 0],{f with out:=f.out++[[]]})) ?_ ?_)
   ·dsimp only;refine⟨(show k+1<=_ by omega),hJ,LA.snoc (E3 (fun _ h=>by cases h)),?_,?_⟩
    ·rw[<-htt,Nf (evB (AG l i FE) ifs) Om,VM BJ B4];simp only[NA,Qz,F2,Bj,CP,RZ,O9]
    (try simp only[Bh,CD,Bb]);omega
   dsimp only
   show(AG l i FE).t.length-(k+1)<(AG l i FE).t.length-k;omega
  simp at A6
  refine Av (AE (AE (AO (AL (AS (AC (yq O (AM O O O (by omega)) ?_)))))));refine AU O (DJ ((i+1,vo,vc,J,us,f)) ?_ ?_)
  ·dsimp only;refine⟨(show i+1<=_ by omega),hJ,LA,?_,?_⟩
   ·rw[<-htt,show(AG l i FE).t.drop k=[]from E4 (by omega)];try rfl
   (try dsimp only);omega
  dsimp only
  show l.length-(i+1)<l.length-i;omega
 simp at Ab
 refine Av (AE (AE (AO (AS (EZ (ι:=Value×AQ×List Value) [0,1,4,5,19] (fun zz=>Le I0 zz.2.1/\G5 zz.2.1 zz.2.2 (Aq l ifs)/\zz.2.2.length<=1000000000001) (fun zz=>[(6,zz.1)]) (fun zz=>zz.2.1) (fun zz=>(Ap 71 1 JB zz.1 zz.2.2::F0)) O ?_ ?_)))))
 ·refine AF ?_
  have Kp:Aq l ifs=AAr f:=by unfold Aq;rw[<-show G4=(⟨[],[],false,false⟩:FSt)from O,<-htt,show l.drop i=[]from E4 (by omega)];try rfl
  refine AC (AH O (AA O (fun DF=>?_) (fun DF=>?_)))
  ·refine AC (KH (f:=D5) (l:=f.cur) vc (fun _=>rfl) (fun J2 Pe Sy=>?_));refine NF _ O (fun b86=>?_) (by exact JS.cells (Sl.one (by assumption)));refine V4 (f:=JB) vc O (fun v87=>?_) (AIP Sy.one) (by simp only[maxLen];omega) (by omega);refine AU O (CB ((v87,J2,us++[vc])) ?_)
   dsimp only
   refine⟨hJ.trans Pe,?_,by(try simp only[Bh,CD,Bb]);omega⟩;rw[Kp,AAr,AI DF];exact(LA.mono Pe).snoc Sy
  refine AY (CB ((vo,J,us)) ?_)
  dsimp only
  refine⟨hJ,?_,by omega⟩;rw[Kp,AAr,AB (by simp[DF])];exact LA
 rintro⟨vo,J,us⟩ ⟨hJ,LA,hub⟩;dsimp only at *;refine AF (AK rfl (AJ (Bf (f:=JB) (l:=us) vo (fun _=>rfl) (fun J3 hJ3 Rm=>?_))))
 have Abw:=LA.mono hJ3
 have Amy:=LA.1
 refine EB (ι:=Nat) [6,0,1,19] (fun zz=>zz<=us.length/\∀j,j<zz->(AG (Aq l ifs) j []).length<=4096) (fun zz=>us.length-zz) (fun zz=>[(15,.int .i64 (zz:Int))]) (fun zz=>J3) (fun zz=>F0) 0 O ?_ ?_
 ·exact⟨Aw _,fun j hj=>Ac hj (Nat.not_lt_zero j)⟩
 rintro i ⟨hi,Dt⟩;dsimp only at *;refine AF (tr ?_);refine yq rfl ((by exact BH rfl Tr rfl (Sl.lenOf Rm (Af _)))) ?_;refine AH rfl (AA rfl (fun GQ=>?_) (fun GQ=>?_))
 ·simp at GQ
  have IE:=Abw.at_ (i:=i) (by omega)
  refine AV (AF (AJ (tr ?_)));refine yq O ((by exact AN O Tr XP O O (Sl.shape Rm (Af _)) (by omega))) ?_;refine yq O ((by exact Ai O O (Oe (i:=i) Rm (by omega)))) ?_;refine yq O ((by exact BH O DU O (Sl.lenOf IE (Af _)))) ?_;refine AH O (AA O (fun KD=>?_) (fun KD=>?_))
  ·simp at KD
   refine AK O (Ak (Aj O O O (fun w' hw=>?_)));refine⟨_,O,J3,F0,⟨hJ.trans hJ3,O,_,_,O,?_⟩,hw⟩;rw[AB (fun h=>by have:=(FQ.1 h).1 i (by omega);omega)];exact⟨O,O⟩
  simp at KD
  refine AY (AL (AS (AC (yq O (AM O O O (by omega)) ?_))));refine AU O (DJ (i+1) ?_ ?_)
  ·refine⟨by omega,fun j hj=>?_⟩;rcases Nat.lt_succ_iff_lt_or_eq.1 hj with h|rfl;exact Dt j h;omega
  omega
 simp at GQ
 refine Av (AE (AE (AO (AS (AF (tr ?_))))));refine yq O ((by exact BH O Tr O (Sl.lenOf Rm (Af _)))) ?_;refine AH O (AA O (fun EW=>?_) (fun EW=>?_))
 ·simp at EW
  refine AK O (Ak (Aj O O O (fun w' hw=>?_)));refine⟨_,O,J3,F0,⟨hJ.trans hJ3,O,_,_,O,?_⟩,hw⟩;rw[AB (fun h=>by have:=(FQ.1 h).2;omega)];exact⟨O,O⟩
 simp at EW
 refine AV (AK O (AX (Aj O O O (fun w' hw=>?_))));refine⟨_,O,J3,F0,⟨hJ.trans hJ3,O,_,_,O,?_⟩,hw⟩;rw[AI (FQ.2 ⟨fun j hj=>Dt j (by omega),by omega⟩)];exact⟨O,us,Rm,Abw⟩
end Go.Tri
