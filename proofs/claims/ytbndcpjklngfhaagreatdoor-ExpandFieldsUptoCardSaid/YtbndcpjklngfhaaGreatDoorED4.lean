/-
 Pieces, byte by byte.
-/
import Derived.Test.YtbndcpjklngfhaaGreatDoorEG4
import Derived.Test.YtbndcpjklngfhaaGreatDoorPGen
import Derived.Test.YtbndcpjklngfhaaGreatDoorPPat2
import Derived.Test.YtbndcpjklngfhaaGreatDoorEC9
namespace Go.Tri
open Go.Proofs.Tryz
open Go.Proofs Go.RowKit
set_option maxRecDepth 10000
theorem ALH{α:Type}{t:List UInt8}{k:Nat}{r:List α}(g:UInt8->α)(h:k<t.length):(t.drop k).map g++r=g (AG t k 0)::((t.drop (k+1)).map g++r):=by
 rw[Bg 0 h];try rfl
theorem AEe(c:UInt8):Ho [32,9,10] c=Jr c:=by
 unfold Ho Jr;simp only[List.any_cons,List.any_nil,Bool.or_false];rw[Bool.eq_iff_iff];simp only[C4,beq_iff_eq,BC]
 constructor
 ·rintro(h|h|h)<;>simp[<-h]
 rintro((h|h)|h)<;>simp[h]
def WN(l:List Pc)(ifs:List UInt8)(I:AQ)(F:List HA):Value->AQ->List HA->Prop:=fun v I' H'=>Le I I'/\H'=F∧
 ∃fv err,v=.tuple #[fv,.int .i64 err]/\(if Da (Aq l ifs)then err=0/\RL I' fv (Aq l ifs)else err=66/\fv=.slice none 0 0)
def ATh(b:Nat)(vc:Value)(lg s:Bool)(us:List Value)(cur:List Ch)(I:AQ)(F:List HA):Value->AQ->List HA->Prop:=fun _ I' H'=>Le I I'/\Sl I' 2 vc (cur.map D5)∧
 ∃vo',H'=row b 108 [vo',.slice none 0 0,.bool false,.bool s,.bool (lg||decide ((4096:Int)<(cur.length:Int)))]::Ap 71 1 JB vo' (us++[vc])::Ap 113 2 D5 (.slice none 0 0) []::F
def AKp(vl:Value)(ifs:List UInt8)(I:AQ)(F:List HA):Value->AQ->List HA->Prop:=fun v I' H'=>Le I I'/\H'=F∧
 ∃b2 b3,v=.func (.func 62) #[] #[.pointer (some ⟨b2,0,none⟩),.pointer (some ⟨b3,0,none⟩)]/\DA I' b2 0 vl/\DA I' b3 0 (Au ifs)
theorem K8(l:List Ch)(k:Nat)(h:k<l.length):Cj (l.take (k+1))=Cj (l.take k)++[(AG l k ⟨0,false⟩).b]:=by
 unfold Cj;rw[C6 ⟨0,false⟩ h,Gm];try rfl
theorem AFT(l:List Pc)(ifs:List UInt8)(vl:Value)(b2 b3:Nat)(UU:l.length<=4611686018427387904)(EU:∀p∈l,p.t.length<=4611686018427387904):Kk prog 62 [.pointer (some ⟨b2,0,none⟩),.pointer (some ⟨b3,0,none⟩)] ((Mm l ifs).map evV) (fun I=>DA I b2 0 vl/\DA I b3 0 (Au ifs)/\Sl I 3 vl (l.map Ot)):=by
 intro γ Cd Cx G II lid hY w0 g00 F w SZ ⟨Wi,hb3,hv0⟩ BZ
 have hJ:=Le.refl (II g00)
 have hv':=hv0
 refine enter func62 O ntmps62 O (BZ.self) (tr (yq O ((by exact Ai O O (A8 (Wi.mono hJ)))) ?_));refine yq O ((by exact BH O AUc O (Sl.lenOf hv' (Af _)))) ?_;refine AH O (AJ (EB (ι:=Nat×Nat×γ) [0,1,2,9,10] (fun zz=>zz.1<=l.length/\zz.2.1<=(Mm l ifs).length/\Cd zz.2.1 zz.2.2/\Le (II g00) (II zz.2.2)/\(Mm l ifs).drop zz.2.1=Mm (l.drop zz.1) ifs) (fun zz=>l.length-zz.1) (fun zz=>[(11,.int .i64 (zz.1:Int))]) (fun zz=>(II zz.2.2)) (fun zz=>(F++G zz.2.2)) (0,0,g00) O ?_ ?_))
 ·dsimp only;exact⟨Aw _,Aw _,SZ,Le.refl _,O⟩
 rintro⟨i,n,g⟩ ⟨hi,hn,JD,hJ,I4⟩;dsimp only at *
 have hv':=hv0.mono hJ
 refine AK O (AF (AA O (fun Ab=>?_) (fun Ab=>?_)))
 ·simp at Ab
  have hpi:(AG l i FE).t.length<=4611686018427387904:=EU _ (BE Ab)
  refine AV (AF (AJ (tr ?_)));refine yq O ((by exact AN O AUc ZS O O (Sl.shape hv' (Af _)) (by omega))) ?_;refine yq O ((by exact Br O AUU ZS O O (ANK (i:=i) hv' (by omega)))) ?_
  refine HO _ O fun b5=>?_
  refine El _ O ?_ (by exact Q3 _);refine ln (EZ (ι:=Nat×γ) [11,0,1,2,9,10,12,5] (fun zz=>zz.1<=(Mm l ifs).length/\Cd zz.1 zz.2/\Le (II g00) (II zz.2)/\(Mm l ifs).drop zz.1=(((AG l i FE).t.drop 0).map (fun b=>((⟨b,(AG l i FE).q⟩:Ch),Nb (AG l i FE) ifs b)))++Mm (l.drop (i+1)) ifs) (fun zz=>[]) (fun zz=>(II zz.2)) (fun zz=>(row b5 79 (Ot (AG l i FE))::(F++G zz.2))) O ?_ ?_)
  ·refine tr (yq O ((by exact Az O O (by rfl))) ?_);refine Tq 1 O (AIC (t:=17) O (fun OL=>?_) (fun OL=>?_))
   ·refine Z7 (GO O O O O) O O (AGM O O) (Z7 (GO O O O O) O O (C0 (pl:=[(_,_),(_,_)]) (cs:=(D5 ⟨0,false⟩).toArray) O Ng Cn ⟨O,⟨_,_,ti5⟩,O,⟨_,_,NL⟩,trivial⟩ O O) ?_)
    have hq:=I4
    rw[Xy (l:=l) (i:=i) ifs Ab,evq,AI OL]at hq;refine Mb (i:=n) g (GO O O O O) O O O O O hY (AMi (x:=(⟨0,false⟩,1)) hq) JD O (fun g JD CH=>?_) (fun g hcx CH=>?_)
    ·replace hJ:=hJ.trans CH
     refine Z7 (GO O O O O) O O (ADE O O) (yq O (Po O O O O) (ln (AA O (fun An=>?_) (fun An=>?_))))
     ·simp at An
     simp at An
     refine AY (CB ((n+1,g)) ?_)
     dsimp only;exact⟨(C2 hq).1,JD,hJ,(C2 hq).2.2⟩
    replace hJ:=hJ.trans CH
    refine Z7 (GO O O O O) O O (ADE O O) (yq O (Po O O O O) (ln (AA O (fun A6=>?_) (fun A6=>?_))))
    ·simp at A6
     refine Ak (I7 O (fun w' hw=>?_));exact⟨_,O,g,.inr ⟨n+1,by rw[Af];exact(C2 hq).1,hcx⟩,hJ,BZ.rebase (AD hw)⟩
    simp at A6
   refine Np O O O O O O O (Np O O O O O O O (Np O O O O O O O (Np O O O O O O O (yq O (Po O O O O) (ln (AA O (fun BJ=>?_) (fun BJ=>?_)))))))
   ·simp at BJ
   simp at BJ
   refine AY (CB ((n,g)) ?_)
   dsimp only;refine⟨hn,JD,hJ,?_⟩
   rw[Xy (l:=l) (i:=i) ifs Ab,evq,AB (by simp[OL])]at I4;exact I4
  rintro⟨n,g⟩ ⟨hn,JD,hJ,I4⟩;dsimp only at *;refine tr (yq rfl ((by exact Az rfl rfl (by rfl))) ?_);refine yq rfl (AW rfl BX rfl) (AH rfl (AJ (EB (ι:=Nat×Nat×γ) [11,0,1,2,9,10,12,5,25] (fun zz=>zz.1<=(AG l i FE).t.length/\zz.2.1<=(Mm l ifs).length/\Cd zz.2.1 zz.2.2/\Le (II g00) (II zz.2.2)/\(Mm l ifs).drop zz.2.1=(((AG l i FE).t.drop zz.1).map (fun b=>((⟨b,(AG l i FE).q⟩:Ch),Nb (AG l i FE) ifs b)))++Mm (l.drop (i+1)) ifs) (fun zz=>(AG l i FE).t.length-zz.1) (fun zz=>[(26,.int .i64 (zz.1:Int))]) (fun zz=>(II zz.2.2)) (fun zz=>(row b5 79 (Ot (AG l i FE))::(F++G zz.2.2))) (0,n,g) rfl ?_ ?_)))
  ·dsimp only;exact⟨Aw _,hn,JD,hJ,I4⟩
  rintro⟨k,n,g⟩ ⟨hk,hn,JD,hJ,I4⟩;dsimp only at *
  have hv':=hv0.mono hJ
  refine AK O (AF (AA O (fun Bj=>?_) (fun Bj=>?_)))
  ·simp at Bj
   have Om:k<(AG l i FE).t.length:=by omega
   refine AV (AF (AJ (AK O (AF (Bo [7,8] [] [row b5 79 (Ot (AG l i FE))] mo (by kernel_rfl) (fun _ _ _ _ _ h=>h) (xr [0] O O (x0 1 O (Le.refl _) O (fun _ hI=>(by exact Az O O (by rfl))) ?_)))))));refine xr [2] O O (x0 3 O (Le.refl _) O (fun _ hI=>(by exact AZ O BX O O (by omega))) ?_);refine xr [4] O O (x0 5 O (Le.refl _) O (fun _ hI=>(by exact Az O O (by rfl))) ?_);refine x0 6 O (Le.refl _) O (fun _ hI=>C0 (pl:=[(_,_),(_,_)]) (cs:=(D5 ⟨AG (AG l i FE).t k 0,(AG l i FE).q⟩).toArray) O Ng Cn ⟨O,⟨_,_,ti5⟩,O,⟨_,_,NL⟩,trivial⟩ O O) (xe 7 O O (Zu O Cn O) ?_);rintro _ _ _ ⟨b7,rfl,rfl,rfl⟩;refine xk ?_;refine FP 8 (by kernel_rfl) (by kernel_rfl) rfl (Le.refl _) rfl rfl (Nl rfl Cn rfl rfl rfl (by exact Hf _) rfl) ?_;rintro _ _ _ ⟨rfl,rfl⟩;refine xk (CX (AS (AK rfl (EZ (ι:=Nat) [26,11,0,1,2,9,10,12,5,25,27,6,7] (fun zz=>zz=Nb (AG l i FE) ifs (AG (AG l i FE).t k 0)) (fun zz=>[(8,.int .i64 (zz:Int))]) (fun zz=>(II g)) (fun zz=>(row b7 113 (D5 ⟨AG (AG l i FE).t k 0,(AG l i FE).q⟩)::row b5 79 (Ot (AG l i FE))::(F++G g))) rfl ?_ ?_))))
   ·refine tq (zq O ((by exact Az O O (by rfl))) ?_)
    refine zA 3 O (fun h42=>by
      refine zq O ((by exact Az O O (by rfl))) ?_;exact zv O
     ) ?_
    refine zA 5 O (fun h49=>by
      simp at h49
      refine zq O ((by exact Ai O O (A8 (hb3.mono hJ)))) ?_;refine zq O ((by exact Az O O (by rfl))) ?_;refine zp O ((fun w _=>EP _ _ w)) ?_;exact zv O
     ) ?_
    refine Dp (AA O (fun B4=>?_) (fun B4=>?_))
    ·refine AK O (tr (yq O ((by exact Az O O (by rfl))) ?_));refine yp O ((fun w _=>EP _ _ w)) (AH O (AA O (fun CP=>?_) (fun CP=>?_)))
     ·refine AC (AU O (CB (2) ?_))
      have h5:((AG l i FE).s&& !(AG l i FE).q&&decide (0<=Lib.indexByte ifs (AG (AG l i FE).t k 0)))=true:=B4
      rw[DB]at h5
      have h6:decide (0<=Lib.indexByte [32,9,10] (AG (AG l i FE).t k 0))=true:=CP
      rw[DB,AEe]at h6
      unfold Nb;rw[AI h5,AI h6]
     refine AY (CB (3) ?_)
     have h5:((AG l i FE).s&& !(AG l i FE).q&&decide (0<=Lib.indexByte ifs (AG (AG l i FE).t k 0)))=true:=B4
     rw[DB]at h5
     have h6:decide (0<=Lib.indexByte [32,9,10] (AG (AG l i FE).t k 0))=false:=CP
     rw[DB,AEe]at h6
     unfold Nb;rw[AI h5,AB (by simp[h6])]
    refine AY (CB (0) ?_)
    have h5:((AG l i FE).s&& !(AG l i FE).q&&decide (0<=Lib.indexByte ifs (AG (AG l i FE).t k 0)))=false:=B4
    rw[DB]at h5
    unfold Nb;rw[AB (by simp[h5])]
   rintro wh hwh;dsimp only at *;refine tr (yq rfl ((by exact A7 rfl Ng Cn rfl rfl rfl)) ?_);refine Tq 1 rfl ?_
   have hq:=I4
   rw[ALH _ Om,<-hwh]at hq;refine Mb (i:=n) g (Fi O) O O O O O hY (AMi (x:=(⟨AG (AG l i FE).t k 0,(AG l i FE).q⟩,wh)) hq) JD O (fun g JD CH=>?_) (fun g hcx CH=>?_)
   ·replace hJ:=hJ.trans CH
    refine AH O (AA O (fun DF=>?_) (fun DF=>?_))
    ·simp at DF
    simp at DF
    refine AY (AL (AS (AC (yq O (AM O O O (by omega)) ?_))));refine AU O (DJ ((k+1,n+1,g)) ?_ ?_)
    ·dsimp only;exact⟨(show k+1<=_ by omega),(C2 hq).1,JD,hJ,(C2 hq).2.2⟩
    dsimp only
    show(AG l i FE).t.length-(k+1)<(AG l i FE).t.length-k;omega
   replace hJ:=hJ.trans CH
   refine AH O (AA O (fun GQ=>?_) (fun GQ=>?_))
   ·simp at GQ
    refine Ak (I7 O (fun w' hw=>?_));exact⟨_,O,g,.inr ⟨n+1,by rw[Af];exact(C2 hq).1,hcx⟩,hJ,BZ.rebase (AD hw)⟩
   simp at GQ
  simp at Bj
  refine Av (AE (AE (AO (AL (AS (AC (yq O (AM O O O (by omega)) ?_)))))));refine AU O (DJ ((i+1,n,g)) ?_ ?_)
  ·dsimp only;refine⟨(show i+1<=_ by omega),hn,JD,hJ,?_⟩
   rw[show(AG l i FE).t.drop k=[]from E4 (by omega)]at I4;exact I4
  dsimp only
  show l.length-(i+1)<l.length-i;omega
 simp at Ab
 refine Av (AE (AE (AO (EK O (fun w' hw=>?_)))));rw[show l.drop i=[]from E4 (by omega)]at I4;exact⟨_,O,g,.inl (by rw[Af,<-U1 I4 hn];exact JD),hJ,BZ.rebase (AD hw)⟩
theorem R5(b:Nat)(vo vc:Value)(bg sf lg s:Bool)(us:List Value)(cur:List Ch)(I:AQ)(F:List HA)(w0 w:World)(hub:us.length<=2000000000000)(BZ:St w0 I (row b 108 [vo,vc,.bool bg,.bool sf,.bool lg]::Ap 71 1 JB vo us::Ap 113 2 D5 vc cur::F) w):Calls prog 38 [.pointer (some ⟨b,0,none⟩),.bool s].toArray w (fun e w'=> ∃v,e=.returned v/\∃I' H',ATh b vc lg s us cur I F v I' H'/\St w I' H' w'):=by
 refine enter func38 O ntmps38 O (BZ.self) (tr (CL 13 (EA O ?_)))
 refine zO 6 O (fun h16=>by
   refine EA O ?_;refine zq O ((by exact IP O DU O)) ?_;exact zv O
  ) ?_
 refine FR (Eu _ O ?_ (by exact⟨O,O⟩) O (by(simp only[Iw,DS];try rfl)));refine FB (H':=row b 108 [vo,vc,.bool bg,.bool sf,.bool (lg||decide ((4096:Int)<(cur.length:Int)))]::Ap 71 1 JB vo us::Ap 113 2 D5 vc cur::F) ?_ (fun _ h=>h);refine lnt (Bf (f:=D5) (l:=cur) vc (fun _=>rfl) (fun J hJ Sy=>?_));refine Bo [9,10,13] [13] [row b 108 [vo,vc,.bool bg,.bool sf,.bool (lg||decide ((4096:Int)<(cur.length:Int)))]] mo (by kernel_rfl) (fun _ _ _ _ _ h=>h) (xr [0,1,2,3] O O (x0 4 O (Le.refl _) O (fun _ hI=>Az O O (by rfl)) ?_));refine xr [5,6,7] O O (xq 8 O O (Az O O (by rfl)) ?_);refine xe 9 O O (BD O Tr XP O O O (by exact JS.cells Sy.one) O) ?_;rintro _ _ _ ⟨b28,rfl,rfl,rfl⟩;refine xk ?_;refine xe 10 rfl rfl (B8 (f:=JB) (c:=vc) rfl Tr XP rfl rfl rfl rfl rfl rfl rfl (AIP Sy.one) (by simp only[maxLen];omega) (by omega)) ?_;rintro v29 _ _ ⟨rfl,rfl⟩;refine xk (AHY v29 (fun Ma=>?_));refine xr [11,12] rfl rfl ?_;refine FP 13 (by kernel_rfl) (by kernel_rfl) rfl (Le.refl _) rfl rfl (Bz rfl Adx rfl rfl (by assumption) rfl (by rfl)) ?_;rintro _ _ _ ⟨rfl,rfl⟩;refine⟨Le.refl _,.inl rfl,?_⟩;refine CX (AS (AC (Eu _ rfl ?_ (by exact⟨rfl,rfl⟩) rfl (by rfl))));refine Eu _ rfl ?_ (by exact⟨rfl,rfl⟩) rfl (by rfl)
 refine Eu _ O ?_ (by exact⟨O,O⟩) O (by rfl);refine C7 (EK O (fun w' hw=>?_));refine⟨_,O,J,_,⟨hJ,Sy,v29,O⟩,?_⟩
 have JM:St w J (row b 108 [v29,.slice none 0 0,.bool false,.bool s,.bool (lg||decide ((4096:Int)<(cur.length:Int)))]::Ap 71 1 JB v29 (us++[vc])::row b28 71 [vc]::F) w':=hw
 exact AD (CI 113 2 D5 JM)
theorem ABq(vl:Value)(ifs:List UInt8)(I:AQ)(F:List HA)(w0 w:World)(Wl:JS vl)(BZ:St w0 I F w):Calls prog 37 [vl,Au ifs].toArray w (fun e w'=> ∃v,e=.returned v/\∃I' H',AKp vl ifs I F v I' H'/\St w I' H' w'):=by
 refine enter func37 O ntmps37 O (BZ.self) (tr (JC _ O (fun b2=>?_) (by exact JS.cells (by assumption))));refine JC _ O (fun b3=>?_) (by rfl);refine AH O (AF (Cw b2 (fun J hJ h2=>?_)));refine Cw b3 (fun J3 hJ3 h3=>?_);refine AC (yq O (F8 O O O) (AH O (AX (AP O O (fun w' hw=>?_)))));exact⟨_,O,J3,_,⟨hJ.trans hJ3,O,b2,b3,O,(h2 0 _ O).mono hJ3,h3 0 _ O⟩,hw⟩
theorem AAf(vl:Value)(l:List Pc)(ifs:List UInt8)(I0:AQ)(F0:List HA)(w0 w:World)(UU:l.length<=4611686018427387904)(EU:∀p∈l,p.t.length<=4611686018427387904)(Zx:tot l<=1000000000000)(hv:Sl I0 3 vl (l.map Ot))(BZ:St w0 I0 F0 w):Calls prog 20 [vl,Au ifs].toArray w fun e w'=> ∃v,e=.returned v/\∃I' H',WN l ifs I0 F0 v I' H'/\St w I' H' w':=by
 refine Mw func20 O ntmps20 O (BZ.self) (AK O (tr (Em ([.slice none 0 0,.slice none 0 0,.bool false,.bool false,.bool false]) O (JC _ O fun b10=>?_))))
 refine HO _ O fun b6=>?_
 refine Eu [.pointer (some ⟨b10,0,none⟩)] O ?_ (by exact⟨O,O⟩);refine XN (yc O (fun w hw=>ABq vl ifs _ _ _ w hv.one hw) ?_);rintro _ J0 _ ⟨AXm,rfl,b2,b3,rfl,Wi,hb3⟩;refine ln (AJ (OO (γ:=Value×Value×AQ×List Value×FSt×Bool) (AFT l ifs vl b2 b3 UU EU) rfl rfl func62 (by kernel_rfl) rfl (fun nn zz=>Le J0 zz.2.2.1/\G5 zz.2.2.1 zz.2.2.2.1 zz.2.2.2.2.1.out/\zz.2.2.2.2.1=(((Mm l ifs).take nn).map QY).foldl F2 G4/\(zz.2.2.2.2.1.begun=false->zz.2.2.2.2.1.cur=[])/\zz.2.2.2.2.2=Ve zz.2.2.2.2.1.out/\zz.2.2.2.2.1.cur.length+zz.2.2.2.2.1.out.length+Ru ((Mm l ifs).drop nn)<=tot l) (fun _ _=>False) F0 (fun zz TT=>row b6 106 [.pointer (some ⟨b10,0,none⟩)]::row b10 108 [zz.1,zz.2.1,.bool zz.2.2.2.2.1.begun,.bool zz.2.2.2.2.1.soft,.bool zz.2.2.2.2.2]::Ap 71 1 JB zz.1 zz.2.2.2.1::Ap 113 2 D5 zz.2.1 zz.2.2.2.2.1.cur::TT) (fun _ _=>rfl) (fun zz=>zz.2.2.1) [(0,_),(1,_),(4,_),(5,_),(6,_),(13,_)] (BS rfl) (.slice none 0 0,.slice none 0 0,J0,[],G4,false) ?_ ?_ ?_ ?_ rfl ?_ ?_ ?_ (fun _ _ _ h=>h.elim)))
 ·exact⟨Le.refl _,⟨O,fun _ _ _ h=>by cases h⟩,rfl,fun _=>rfl,rfl,by show 0+0+Ru (Mm l ifs)<=tot l;rw[AJe];omega⟩
 ·exact⟨Wi,hb3,hv.mono AXm⟩
 ·exact Le.refl _
 ·dsimp only[G4];exact fun _ h=>AD (CI 71 1 JB (CI 113 2 D5 h))
 ·intro vs hvs;obtain⟨x,_,rfl⟩:=FL.1 hvs;rfl
 ·intro bl ready busy done dfr nn vs gg w0r FF hi Ek hrs hbz;obtain⟨vo,vc,J,us,f,lg⟩:=gg;obtain⟨hJ,LA,hff,hcu,hlg,ABv⟩:=Ek;dsimp only at *;obtain⟨c,k,rfl,Eg,I4,QO⟩:=AUK hi;rw[I4,AKi]at ABv;dsimp only at ABv
  have hul:=LA.1
  refine tr (HO _ O fun b7=>?_);refine El _ O ?_ (by exact Hf _);refine ln (AC (AU O (Mn (by rfl) hrs ?_)));refine AJ (AJ (AK O (AA O (fun Ab=>?_) (fun Ab=>?_))))
  ·simp at Ab
   have Ab:k=1:=by omega
   rw[AI Ab]at ABv;refine Bo [4,7] [] [row b6 106 [.pointer (some ⟨b10,0,none⟩)]] mo (by kernel_rfl) (fun _ _ _ _ _ h=>h) (xq 0 O O (Az O O (by rfl)) ?_);refine x0 1 O (Le.refl _) O (fun _ hI=>Az O O (by rfl)) ?_;refine xr [2,3] O O ?_;refine FP 4 (by kernel_rfl) (by kernel_rfl) O (Le.refl _) O O (Bz O NL O O (by exact⟨O,O⟩) O (by(simp only[Iw,DS];try rfl))) ?_;rintro _ _ _ ⟨rfl,rfl⟩;refine xk (Bx (H':=row b10 108 [vo,vc,.bool true,.bool f.soft,.bool lg]::_) ?_ (fun _ h=>h));refine xr [5,6] rfl rfl ?_;refine FP 7 (by kernel_rfl) (by kernel_rfl) rfl (Le.refl _) rfl rfl (Bz rfl NL rfl rfl (by exact⟨rfl,rfl⟩) rfl (by(simp only[Iw,DS];try rfl))) ?_;rintro _ _ _ ⟨rfl,rfl⟩;refine xk (Bx (H':=row b10 108 [vo,vc,.bool true,.bool false,.bool lg]::_) ?_ (fun _ h=>h));refine CX (AL (AL (Gy (fun w' hw'=>.inl ⟨rfl,((vo,vc,J,us,{f with begun:=true,soft:=false},lg)),?_,?_,?_⟩))))
   ·dsimp only;refine⟨hJ,LA,?_,by simp,hlg,?_⟩
    ·rw[KI G4 QO,<-hff];simp[QY,F2,Ab]
    (try simp only[Bh,CD,Bb]);omega
   ·exact Le.refl _
   dsimp only;exact AD hw'
  simp at Ab
  have Ab:¬k=1:=by omega
  rw[AB Ab]at ABv;refine AK O (AA O (fun An=>?_) (fun An=>?_))
  ·simp at An
   have An:k=0:=by omega
   refine AF (Bo [6,7,10] [10] [row b6 106 [.pointer (some ⟨b10,0,none⟩)],row b7 113 (D5 c),row b10 108 [vo,vc,.bool f.begun,.bool f.soft,.bool lg]] mo (by kernel_rfl) (fun _ _ _ _ _ h=>h) (x0 0 O (Le.refl _) O (fun _ hI=>Az O O (by rfl)) ?_));refine x0 1 O (Le.refl _) O (fun _ hI=>Az O O (by rfl)) ?_;refine xr [2,3] O O (x0 4 O (Le.refl _) O (fun _ hI=>Az O O (by rfl)) ?_);refine xq 5 O O (A7 O Ng Cn O O O) (xe 6 O O (BD O DU Cn O O O (by rfl) O) ?_);rintro _ _ _ ⟨b36,rfl,rfl,rfl⟩;refine xk ?_;refine xe 7 rfl rfl (B8 (f:=D5) (c:=c) rfl DU Cn rfl rfl rfl rfl rfl rfl rfl (by exact Hf _) (by simp only[maxLen];omega) (by omega)) ?_;rintro v37 _ _ ⟨rfl,rfl⟩;refine xk (AHY v37 (fun Ma=>?_));refine xr [8,9] rfl rfl ?_;refine FP 10 (by kernel_rfl) (by kernel_rfl) rfl (Le.refl _) rfl rfl (Bz rfl XP rfl rfl (by assumption) rfl (by(simp only[Iw,DS];try rfl))) ?_;rintro _ _ _ ⟨rfl,rfl⟩;refine⟨Le.refl _,.inl rfl,?_⟩;refine Bx (H':=row b10 108 [vo,v37,.bool f.begun,.bool f.soft,.bool lg]::_) ?_ (fun _ h=>h);refine CX (AS (Bo [4,7] [] [row b6 106 [.pointer (some ⟨b10,0,none⟩)]] mo (by kernel_rfl) (fun _ _ _ _ _ h=>h) (xq 0 rfl rfl (Az rfl rfl (by rfl)) ?_)));refine x0 1 rfl (Le.refl _) rfl (fun _ hI=>Az rfl rfl (by rfl)) ?_
   refine xr [2,3] O O ?_;refine FP 4 (by kernel_rfl) (by kernel_rfl) O (Le.refl _) O O (Bz O NL O O (by exact⟨O,O⟩) O (by(simp only[Iw,DS];try rfl))) ?_;rintro _ _ _ ⟨rfl,rfl⟩;refine xk (Bx (H':=row b10 108 [vo,v37,.bool true,.bool f.soft,.bool lg]::_) ?_ (fun _ h=>h));refine xr [5,6] rfl rfl ?_;refine FP 7 (by kernel_rfl) (by kernel_rfl) rfl (Le.refl _) rfl rfl (Bz rfl NL rfl rfl (by exact⟨rfl,rfl⟩) rfl (by(simp only[Iw,DS];try rfl))) ?_;rintro _ _ _ ⟨rfl,rfl⟩;refine xk (Bx (H':=row b10 108 [vo,v37,.bool true,.bool false,.bool lg]::_) ?_ (fun _ h=>h));refine CX (AL (AL (Gy (fun w' hw'=>.inl ⟨rfl,((vo,v37,J,us,⟨f.out,f.cur++[c],true,false⟩,lg)),?_,?_,?_⟩))))
   ·dsimp only;refine⟨hJ,LA,?_,by simp,hlg,?_⟩
    ·rw[KI G4 QO,<-hff];simp[QY,F2,An]
    (try simp only[Bh,CD,Bb]);omega
   ·exact Le.refl _
   dsimp only;exact AD hw'
  simp at An
  have An:¬k=0:=by omega
  refine tr (DE O ?_);refine DE O ?_;refine AH O (AA O (fun A6=>?_) (fun A6=>?_))
  ·have A6:f.begun=true:=A6
   refine AC (DE O ?_);refine yc O (fun w hw=>R5 b10 vo vc _ _ _ _ us f.cur J _ _ w (by omega) (So (row b10 108 [vo,vc,.bool f.begun,.bool f.soft,.bool lg]) (Ap 71 1 JB vo us) (Ap 113 2 D5 vc f.cur) hw)) ?_;rintro _ J2 _ ⟨Pe,ADm,vo2,rfl⟩;refine C7 (AL (AL (Gy (fun w' hw'=>.inl ⟨rfl,((vo2,.slice none 0 0,J2,us++[vc],⟨f.out++[f.cur],[],false,decide ((k:Int)=2)⟩,(lg||decide ((4096:Int)<(f.cur.length:Int))))),?_,?_,?_⟩))))
   ·dsimp only;refine⟨hJ.trans Pe,(LA.mono Pe).snoc ADm,?_,by simp,by rw[Pr,hlg],?_⟩
    ·rw[KI G4 QO,<-hff];by_cases h2:k=2<;>simp[QY,F2,Ab,An,A6,h2];omega
    (try simp only[Bh,CD,Bb]);omega
   ·exact Pe
   dsimp only;exact AD hw'
  have A6:f.begun=false:=A6
  refine AK O (AA O (fun BJ=>?_) (fun BJ=>?_))
  ·simp at BJ
   have BJ:k=2:=by omega
   refine AY (AL (AL (Gy (fun w' hw'=>.inl ⟨O,((vo,vc,J,us,f,lg)),?_,?_,?_⟩))))
   ·dsimp only;refine⟨hJ,LA,?_,hcu,hlg,?_⟩
    ·rw[KI G4 QO,<-hff];simp[QY,F2,A6,BJ]
    (try simp only[Bh,CD,Bb]);omega
   ·exact Le.refl _
   dsimp only;exact AD hw'
  simp at BJ
  have BJ:¬k=2:=by omega
  refine tr (DE O ?_);refine DE O ?_;refine AH O (AA O (fun Bj=>?_) (fun Bj=>?_))
  ·have Bj:f.soft=true:=Bj
   refine AC (DE O ?_);refine Eu [vo,vc,.bool f.begun,.bool false,.bool lg] O ?_ (by exact⟨O,O⟩);refine C7 (AL (AL (Gy (fun w' hw'=>.inl ⟨O,((vo,vc,J,us,{f with soft:=false},lg)),?_,?_,?_⟩))))
   ·dsimp only;refine⟨hJ,LA,?_,hcu,hlg,?_⟩
    ·rw[KI G4 QO,<-hff];simp[QY,F2,Ab,An,A6,BJ,Bj]
    (try simp only[Bh,CD,Bb]);omega
   ·exact Le.refl _
   dsimp only;exact AD hw'
  have Bj:f.soft=false:=Bj
  refine AC (DE O ?_);refine yc O (fun w hw=>R5 b10 vo vc _ _ _ _ us f.cur J _ _ w (by omega) (So (row b10 108 [vo,vc,.bool f.begun,.bool f.soft,.bool lg]) (Ap 71 1 JB vo us) (Ap 113 2 D5 vc f.cur) hw)) ?_;rintro _ J2 _ ⟨Pe,ADm,vo2,rfl⟩;refine C7 (AL (AL (Gy (fun w' hw'=>.inl ⟨rfl,((vo2,.slice none 0 0,J2,us++[vc],⟨f.out++[f.cur],[],false,false⟩,(lg||decide ((4096:Int)<(f.cur.length:Int))))),?_,?_,?_⟩))))
  ·dsimp only;refine⟨hJ.trans Pe,(LA.mono Pe).snoc ADm,?_,by simp,by rw[Pr,hlg],?_⟩
   ·rw[KI G4 QO,<-hff];simp[QY,F2,Ab,An,A6,BJ,Bj,hcu A6]
   (try simp only[Bh,CD,Bb]);omega
  ·exact Pe
  dsimp only;exact AD hw'
 intro bd gg Ek CH;obtain⟨vo,vc,J,us,f,lg⟩:=gg;obtain⟨hJ,LA,hff,hcu,hlg,ABv⟩:=Ek;dsimp only at *
 have hul:=LA.1
 refine AL (AS (EZ (ι:=Value×Value×AQ×List Value×Bool×Bool×Bool) [0,1,4,5,6,13] (fun zz=>Le J0 zz.2.2.1/\G5 zz.2.2.1 zz.2.2.2.1 (Aq l ifs)/\zz.2.2.2.2.2.2=Ve (Aq l ifs)/\zz.2.2.2.1.length<=1000000000001) (fun zz=>[]) (fun zz=>zz.2.2.1) (fun zz=>(row b6 106 [.pointer (some ⟨b10,0,none⟩)]::row b10 108 [zz.1,zz.2.1,.bool zz.2.2.2.2.1,.bool zz.2.2.2.2.2.1,.bool zz.2.2.2.2.2.2]::Ap 71 1 JB zz.1 zz.2.2.2.1::Fg bd (.deferred (some []))::F0)) O ?_ ?_))
 ·refine AF ?_
  have Kp:Aq l ifs=AAr f:=by rw[hff,Af,Gb,ASw];try rfl
  refine AC (DE O ?_);refine DE O ?_;refine ln (AA O (fun B4=>?_) (fun B4=>?_))
  ·have B4:f.begun=true:=B4
   refine AC (DE O ?_);refine yc O (fun w hw=>R5 b10 vo vc _ _ _ _ us f.cur J _ _ w (by omega) (So (row b10 108 [vo,vc,.bool f.begun,.bool f.soft,.bool lg]) (Ap 71 1 JB vo us) (Ap 113 2 D5 vc f.cur) hw)) ?_;rintro _ J2 _ ⟨Pe,ADm,vo2,rfl⟩;refine C7 (CB ((vo2,.slice none 0 0,J2,us++[vc],false,false,(lg||decide ((4096:Int)<(f.cur.length:Int))))) ?_)
   dsimp only;refine⟨hJ.trans Pe,?_,?_,by(try simp only[Bh,CD,Bb]);omega⟩
   ·rw[Kp,AAr,AI B4];exact(LA.mono Pe).snoc ADm
   rw[Kp,AAr,AI B4,Pr,hlg]
  have B4:f.begun=false:=B4
  refine AY (CB ((vo,vc,J,us,f.begun,f.soft,lg)) ?_)
  dsimp only;refine⟨hJ,?_,?_,by omega⟩
  ·rw[Kp,AAr,AB (by simp[B4])];exact LA
  rw[Kp,AAr,AB (by simp[B4]),hlg]
 rintro⟨vo,vc,J,us,bg,sf,lg⟩ ⟨hJ,LA,hlg,hub⟩;dsimp only at *;refine AF (tq (EA rfl ?_));refine EA rfl ?_
 refine zO 6 O (fun h83=>by
   refine EA O ?_;refine EA O ?_;refine zq O ((by exact IP O Tr O)) ?_;exact zv O
  ) ?_
 refine Dp (AA O (fun CP=>?_) (fun CP=>?_))
 ·refine AK O (AX (Ah (Db (AHk (bs:=[bd]) O O O (fun w' hw=>?_)))));refine⟨_,O,J,F0,⟨AXm.trans hJ,O,_,_,O,?_⟩,AD hw⟩
  have h6:(lg||decide ((200:Int)<(us.length:Int)))=true:=CP
  rw[AB]
  ·exact⟨O,O⟩
  rw[O1,<-hlg]
  have hul:=LA.1
  intro h
  simp at h h6
  rcases h6 with h6|h6
  ·rw[h6]at h;simp at h
  omega
 refine AV (AF (Bf (f:=JB) (l:=us) vo (fun _=>rfl) (fun J3 hJ3 Rm=>?_)));refine AC (DE O ?_);refine DE O ?_;refine AH O (AX (Db (AHk (bs:=[bd]) O O O (fun w' hw=>?_))));refine⟨_,O,J3,F0,⟨(AXm.trans hJ).trans hJ3,O,_,_,O,?_⟩,AD hw⟩
 have h6:(lg||decide ((200:Int)<(us.length:Int)))=false:=CP
 have hul:=LA.1
 rw[AI]
 ·exact⟨O,us,Rm,LA.mono hJ3⟩
 rw[O1,<-hlg]
 simp at h6 ⊢
 exact⟨h6.1,by omega⟩
theorem AKL(v:Value)(l:List Ch)(w:World)(hl:l.length<=2000000000000)(hv:Sl (Ao w) 2 v (l.map D5)):B2 prog 22 [v] w (Au (Cj l)):=by
 refine enter func22 O ntmps22 O (St.start w (Ao w) (Le.refl _)) (AK O (tr (HO _ O fun b3=>?_)));refine XN ?_;refine yq O ((by exact BH O DU O (Sl.lenOf hv (Af _)))) ?_;refine AH O (AJ (EB (ι:=Nat×Option Addr×Value) [0,2,3,6,7] (fun zz=>zz.1<=l.length/\(zz.2.1=none\/zz.2.1=some ⟨b3,0,none⟩)/\L7 zz.2.2 (Cj (l.take zz.1))) (fun zz=>l.length-zz.1) (fun zz=>[(8,.int .i64 (zz.1:Int))]) (fun zz=>Ao w) (fun zz=>[row b3 121 [.pointer zz.2.1,zz.2.2],Ap 5 1 Km zz.2.2 (Cj (l.take zz.1))]) (0,none,.slice none 0 0) O ?_ ?_ (hh:=(fun _ h=>(show St _ _ [row b3 121 [.pointer none,.slice none 0 0],Ap 5 1 Km (.slice none 0 0) []] _ from AD (CI 5 1 Km h))))))
 ·dsimp only;exact⟨Aw _,.inl O,.inl O⟩
 rintro⟨k,p,vb⟩ ⟨hk,hp,DD⟩;dsimp only at *;refine AK rfl (AF (AA rfl (fun Ab=>?_) (fun Ab=>?_)))
 ·simp at Ab
  refine AV (AF (AJ (tr ?_)));refine yq O ((by exact AN O DU Cn O O (Sl.shape hv (Af _)) (by omega))) ?_;refine yq O ((by exact Br O Ng Cn O O (APT (i:=k) hv (by omega)))) ?_
  refine HO _ O fun b5=>?_
  refine El _ O ?_ (by exact Hf _);refine ln (AC (DE O ?_));refine yc O (fun w hw=>NB b3 p vb (Cj (l.take k)) (AG l k ⟨0,false⟩).b _ _ _ w hp (by simp[Cj];omega) (Bm (row b3 121 [.pointer p,vb]) (Ap 5 1 Km vb (Cj (l.take k))) hw)) ?_;rintro _ _ _ ⟨rfl,rfl,vb2,rfl⟩;refine C7 (AL (AS (AC (yq rfl (AM rfl rfl rfl (by omega)) ?_))));refine AU rfl (DJ ((k+1,some ⟨b3,0,none⟩,vb2)) ?_ ?_ (hh:=(fun _ h=>by dsimp only;rw[K8 l k (by omega)];exact AD h)))
  ·dsimp only;exact⟨(show k+1<=_ by omega),.inr O,.inr (by show Cj (l.take (k+1))≠[];rw[K8 l k (by omega)];simp)⟩
  dsimp only
  show l.length-(k+1)<l.length-k;omega
 simp at Ab
 refine Av (AE (AE (AO (AS (tr (yc O (fun w hw=>JJ b3 (.pointer p) vb (Cj (l.take k)) _ _ _ w DD (by simp[Cj];omega) (Bm (row b3 121 [.pointer p,vb]) (Ap 5 1 Km vb (Cj (l.take k))) hw)) ?_))))));rintro _ _ _ ⟨rfl,rfl,rfl⟩;refine AH rfl (AX (AP rfl rfl (fun w' hw=>?_)));refine⟨?_,hw.below⟩;rw[LG (by omega)]
theorem AHN(c:Ch)(w:World):B2 prog 40 [.agg (D5 c).toArray] w (.bool (Yx c)):=by
 refine enter func40 O ntmps40 O (St.start w (Ao w) (Le.refl _)) (tr (JC _ O fun b1=>?_));refine AH O (tq (EA O ?_))
 refine zA 4 O (fun h11=>by
   simp at h11
   refine EA O ?_;refine zp O ((fun w _=>EP [42,63,91] _ w)) ?_;exact zv O
  ) ?_
 refine De O (AX (AP O O (fun w' hw=>?_)));refine⟨?_,hw.below⟩
 rw[DB];try rfl
theorem ALr(v:Value)(p:List Ch)(w:World)(hp:p.length<=4611686018427387904)(hv:Sl (Ao w) 2 v (p.map D5)):B2 prog 63 [v,.func (.func 40) #[] #[]] w (.int .i64 (ADO p 0)):=by
 refine enter func63 O ntmps63 O (St.start w (Ao w) (Le.refl _)) (AK O (AF (tr ?_)));refine yq O ((by exact BH O DU O (Sl.lenOf hv (Af _)))) ?_;refine AH O (AJ (EB (ι:=Nat) [0,1,7] (fun zz=>zz<=p.length/\ADO p 0=ADO (p.drop zz) zz) (fun zz=>p.length-zz) (fun zz=>[(8,.int .i64 (zz:Int))]) (fun zz=>Ao w) (fun zz=>[]) 0 O ?_ ?_))
 ·exact⟨Aw _,by simp⟩
 rintro i ⟨hi,hx⟩;dsimp only at *;refine AK rfl (AF (AA rfl (fun Ab=>?_) (fun Ab=>?_)))
 ·simp at Ab
  refine AV (AF (AJ (AK O (tr ?_))));refine yq O ((by exact AN O DU Cn O O (Sl.shape hv (Af _)) (by omega))) ?_;refine yq O ((by exact Br O Ng Cn O O (AJW (i:=i) hv (by omega)))) ?_;refine yp O ((fun w _=>AHN (AG p i Ft) w)) (ln (AA O (fun An=>?_) (fun An=>?_)))
  ·refine AK O (Ak (AP O O (fun w' hw=>?_)));refine⟨?_,hw.below⟩
   rw[hx,Bg Ft (by omega),ADO,An];try rfl
  refine AY (AL (AS (AC (yq O (AM O O O (by omega)) ?_))));refine AU O (DJ (i+1) ?_ ?_)
  ·refine⟨by omega,hx.trans ?_⟩;rw[Bg Ft (by omega),ADO,An];simp
  omega
 simp at Ab
 refine Av (AE (AE (AO (AS (AK O (AX (AP O O (fun w' hw=>?_))))))));refine⟨?_,hw.below⟩
 rw[hx,E4 (by omega)];try rfl
theorem ALv(v:Value)(p:List Ch)(w:World)(hp:p.length<=4611686018427387904)(hv:Sl (Ao w) 2 v (p.map D5)):B2 prog 39 [v,.func (.func 40) #[] #[]] w (.bool (Fa p)):=by
 refine enter func39 O ntmps39 O (St.start w (Ao w) (Le.refl _)) (AK O (tr (yp O ((fun w hw=>ALr v p w hp (hv.mono (Le.of_st hw)))) (AH O (AX (AP O O (fun w' hw=>?_)))))));refine⟨?_,hw.below⟩;rw[<-ARq p 0]
theorem AKV(v:Value)(p:List Ch)(w:World)(hp:p.length<=4611686018427387904)(hv:Sl (Ao w) 2 v (p.map D5)):B2 prog 21 [v] w (.bool (Fa p)):=by
 refine enter func21 O ntmps21 O (St.start w (Ao w) (Le.refl _)) (AK O (tr (yp O ((fun w hw=>ALv v p w hp (hv.mono (Le.of_st hw)))) (AH O (AX (AP O O (fun w' hw=>?_)))))));exact⟨O,hw.below⟩
end Go.Tri
