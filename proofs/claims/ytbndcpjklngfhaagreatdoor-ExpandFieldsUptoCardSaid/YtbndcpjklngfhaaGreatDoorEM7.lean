/-
 What stands between breaks.
-/
import Derived.Test.YtbndcpjklngfhaaGreatDoorED4
import Derived.Test.YtbndcpjklngfhaaGreatDoorPExV
namespace Go.Tri
open Go.Proofs.Tryz
open Go.Proofs Go.RowKit
set_option maxRecDepth 10000
def HdG(L:List Px)(k:Nat)(J:AQ)(vs:List Value):Prop:=k<(Bc L).length/\∃v,vs=[v]/\Sl J 3 v ((AG (Bc L) k []).map Ot)
theorem AAJ(vl:Value)(h1:JS vl)(I:AQ)(F:List HA)(w0 w:World)(BZ:St w0 I F w):Calls prog 19 [vl].toArray w (ER w fun v I' H'=>Le I I'/\F=H'/\∃b,v=.func (.func 36) #[] #[.pointer (some ⟨b,0,none⟩)]/\DA I' b 0 vl):=by
 refine enter func19 O ntmps19 O (BZ.self) (tr (JC _ O (fun b1=>?_) (by exact JS.cells (by assumption))));refine AH O (AF (Cw b1 (fun J hJ Oi=>?_)));refine AC (yq O (F8 O O O) (AH O (AX (AP O O (fun w' hw=>?_)))));exact⟨_,O,J,_,⟨hJ,O,b1,O,Oi 0 _ O⟩,hw⟩
theorem AEX(L:List Px)(vl:Value)(b1:Nat)(hL:L.length<=1000000000):YT prog 36 [.pointer (some ⟨b1,0,none⟩)] (Bc L).length (HdG L) (fun I=>DA I b1 0 vl/\Wt I vl L):=by
 intro γ Cd Cx G II lid hY w0 g00 F w SZ Uz BZ;obtain⟨Oi,ALQ⟩:=Uz
 have hJ:=Le.refl (II g00)
 have Ey:=ALQ
 refine enter func36 O ntmps36 O (BZ.self) (AK O (AF (tr (yq O ((by exact Ai O O (A8 (Oi.mono hJ)))) ?_))));refine yq O ((by exact BH O AAk O (Sl.lenOf Ey (Af _)))) ?_;refine AH O (AJ (EB (ι:=Nat×Nat×Value×List Pc×γ) [0,1,6,7] (fun zz=>zz.1<=L.length/\Cd zz.2.1 zz.2.2.2.2/\Le (II g00) (II zz.2.2.2.2)/\(Bc L).drop zz.2.1=Ku zz.2.2.2.1 (L.drop zz.1)/\zz.2.2.2.1.length<=zz.1) (fun zz=>L.length-zz.1) (fun zz=>[(8,.int .i64 (zz.1:Int)),(3,zz.2.2.1)]) (fun zz=>(II zz.2.2.2.2)) (fun zz=>(Ap 79 3 Ot zz.2.2.1 zz.2.2.2.1::(F++G zz.2.2.2.2))) (0,0,.slice none 0 0,[],g00) O ?_ ?_ (hh:=(fun _ h=>by dsimp only;exact CI 79 3 Ot (AD h)))))
 ·dsimp only;exact⟨Aw _,SZ,Le.refl _,O,Aw _⟩
 rintro⟨i,n,vo,cur,g⟩ ⟨hi,JD,hJ,I4,FW⟩;dsimp only at *
 have Ey:=ALQ.mono hJ
 refine AK O (AF (AA O (fun Ab=>?_) (fun Ab=>?_)))
 ·simp at Ab
  have Rl:i<L.length:=by omega
  refine AV (AF (AJ (tr ?_)));refine yq O ((by exact AN O AAk Qy O O (Sl.shape Ey (Af _)) (by omega))) ?_;refine yq O ((by exact Br O APo Qy O O (ZV (i:=i) Ey (by omega)))) ?_
  refine HO _ O fun b5=>?_
  refine El (Hz (AG L i FD)) O ?_ (by exact HY _);refine XN (yq O ((by exact Az O O (by rfl))) ?_);refine AH O (AA O (fun An=>?_) (fun An=>?_))
  ·have CS:(AG L i FD).st=false:=by rw[FJ]at An;exact An
   refine tr (yq O ((by exact A7 O AUU ZS O O O)) ?_);refine NF _ O (fun b18=>?_) (by rfl);refine V4 (f:=Ot) ((AG L i FD).p) O (fun v19=>?_) (Q3 _) (by simp only[maxLen];omega) (by omega);refine AH O (Av (AE (AO (AS (AC (yq O (AM O O O (by omega)) ?_))))));refine AU O (DJ ((i+1,n,v19,cur++[(AG L i FD).p],g)) ?_ ?_)
   ·dsimp only;refine⟨(show i+1<=_ by omega),JD,hJ,?_,by simp;omega⟩
    rw[Qs Rl,AB (by rw[CS];simp)]at I4;exact I4
   dsimp only
   show L.length-(i+1)<L.length-i
   omega
  have CS:(AG L i FD).st=true:=by rw[Bool.not_eq_false']at An;exact An
  rw[Qs Rl,AI CS]at I4
  have hq:=TK (d:=[]) I4
  refine AV (AF (AF (Bf (f:=Ot) (l:=cur) vo (fun _=>rfl) (fun Jf IL Rm=>?_))));refine AC (Tq 2 O (ADg (i:=n) g (Fi O) O O O O O hY (⟨hq.1,vo,O,by rw[hq.2.1];exact Rm⟩) JD IL (fun g JD CH=>?_) (fun g hcx CH=>?_)))
  ·refine AH O (AA O (fun A6=>?_) (fun A6=>?_))
   ·simp at A6
   simp at A6
   refine AV (AC (AU O (AL (AS (AC (yq O (AM O O O (by omega)) ?_))))));refine AU O (DJ ((i+1,n+1,.slice none 0 0,[],g)) ?_ ?_ (hh:=(fun _ h=>by dsimp only;exact CI 79 3 Ot (AD h))))
   ·dsimp only;exact⟨(show i+1<=_ by omega),JD,hJ.trans (IL.trans CH),hq.2.2,Aw _⟩
   dsimp only
   show L.length-(i+1)<L.length-i
   omega
  refine AH O (AA O (fun BJ=>?_) (fun BJ=>?_))
  ·simp at BJ
   refine Ak (I7 O (fun w' hw=>?_));exact⟨_,O,g,_,.inr ⟨n+1,hq.1,hcx⟩,hJ.trans (IL.trans CH),Le.refl _,BZ.rebase (AD hw)⟩
  simp at BJ
 simp at Ab
 have Rl:i=L.length:=by omega
 rw[Rl,K7,Ku]at I4
 have hq:=TK (d:=[]) I4
 refine Av (AE (AE (AO (AS (Bf (f:=Ot) (l:=cur) vo (fun _=>rfl) (fun Jf IL Rm=>?_))))));refine AC (Tq 2 O (ADg (i:=n) g (Fi O) O O O O O hY (⟨hq.1,vo,O,by rw[hq.2.1];exact Rm⟩) JD IL (fun g JD CH=>?_) (fun g hcx CH=>?_)))
 ·refine C7 (EK O (fun w' hw=>?_))
  have hn1:n+1=(Bc L).length:=by have h9:=B3 List.length hq.2.2;rw[BA]at h9;have:=hq.1;simp at h9;omega
  exact⟨_,O,g,_,.inl (by rw[<-hn1];exact JD),hJ.trans (IL.trans CH),Le.refl _,BZ.rebase (AD hw)⟩
 refine C7 (EK O (fun w' hw=>?_));exact⟨_,O,g,_,.inr ⟨n+1,hq.1,hcx⟩,hJ.trans (IL.trans CH),Le.refl _,BZ.rebase (AD hw)⟩
def AMh(I0:AQ)(p:HP)(h:Hx)(f:List Ch)(r:List (List UInt8)):Prop:=∀(I:AQ) (lv av fv:Value) (F:List HA) (w0 w:World),Le I0 I->Ca I p lv h->Sl I 2 fv (f.map D5)->St w0 I (DW p lv av h F) w→
 Calls prog 261 [.pointer (some ⟨p.hb,0,none⟩),fv].toArray w (ER w fun v I' H'=>Le I I'/\H'=DW p lv av h F/\Sl I' 1 v (r.map Ce))
def VS(I0:AQ)(p:HP)(pf:Hx->List Ch->List (List UInt8))(h:Hx)(s:List UInt8):Prop:=∀L h',IS h s 0=.ok L h'->∀g∈Bc L,Da (Aq g (Cf h'))=true->∀f∈Aq g (Cf h'),Fa f=true->AMh I0 p h' f (pf h' f)
set_option maxHeartbeats 1000000 in
theorem Oz(p:HP)(s:List UInt8)(hs:s.length<=1000000000)(h:Hx)(DD:AJJ p h s 0)(hS:Small (IS h s 0))(pf:Hx->List Ch->List (List UInt8))(hpf:∀h f,(pf h f).length<=1000){I0:AQ}(hP:VS I0 p pf h s)(lv av:Value)(I:AQ)(F:List HA)(w0 w:World)(hG:Fr I)(hi:Ca I p lv h)(BZ:St w0 I (DW p lv av h F) w)(P2:Le I0 I:=by exact Le.refl _):Calls prog 7 [.iface 33 (.pointer (some ⟨p.hb,0,none⟩)),Au s].toArray w (ER w fun v I' H'=>Le I I'/\∃lv av v1,v=.tuple #[v1,Au (Dz pf h s).2.1,.int .i64 ((Dz pf h s).2.2.1:Int)]/\H'=DW p lv av (Dz pf h s).2.2.2 F/\Ca I' p lv (Dz pf h s).2.2.2/\Sl I' 1 v1 ((Dz pf h s).1.map Ce)):=by
 refine Mw func7 O ntmps7 O (BZ.self) (tr (JC _ O (fun b2=>?_) (by rfl)))
 refine HO _ O fun b4=>?_
 refine HO _ O fun b5=>?_
 refine HO _ O fun b6=>?_
 refine DL (yq O ((by exact Az O O (by rfl))) ?_);refine yc O (fun w hw=>W2 p s 0 hs h DD lv av I _ _ w hG hi (GU hw)) ?_;rintro _ J22 _ ⟨Sp,e,m,L,h2,lv2,av2,v22,rfl,rfl,EG,Ey,hr⟩;refine AH rfl (AF (AK rfl (AA rfl (fun Ab=>?_) (fun Ab=>?_))))
 ·simp at Ab
  have he:e≠0:=by omega
  obtain⟨rfl,JL⟩:=hr.bad he
  have hfx:=YA (pf:=pf) JL
  refine tr (Eu [.slice none 0 0] O ?_ (by exact⟨O,O⟩));refine Eu [Au m] O ?_ (by exact⟨O,O⟩);refine Eu [.int .i64 (e:Int)] O ?_ (by exact⟨O,O⟩);refine ln (AX (Ah (Db (F3 (bs:=[]) (.inl O) O (by exact CR O BT O (by exact Cs O) (CR O BX O (by exact Cs O) (CR O XO O (by exact Cs O) (Fy)))) (fun w' hw=>?_)))));rw[hfx];exact⟨_,O,J22,DW p lv2 av2 h2 F,⟨Sp,lv2,av2,As,O,O,EG,Gv⟩,AD hw⟩
 simp at Ab
 have he:e=0:=by omega
 subst he;obtain⟨rfl,JL⟩:=hr.ok rfl;obtain⟨hS1,hS2⟩:=hS L h2 JL
 have hfx:=VR (pf:=pf) JL
 refine AV (tr (yq O ((by exact Az O O (by rfl))) ?_));refine yq O (OY O O O M4 func260 (by kernel_rfl) O ((fun w hw=>Hl p lv2 av2 h2 [73,70,83] w (by decide) (RO EG hw)))) ?_
 refine HO _ O fun b10=>?_
 refine Eu [Au (FH h2 Pz).1] O ?_ (by exact⟨O,O⟩);refine AH O (EZ (ι:=Unit) [0,1,2,4,5,6,7,8,9,27,10] (fun _=>True) (fun _=>[]) (fun _=>J22) (fun _=>(DW p lv2 av2 h2 (row b10 9 [Au (Cf h2)]::row b2 58 [.iface 33 (.pointer (some ⟨p.hb,0,none⟩))]::row b4 23 [.slice none 0 0]::row b5 9 [Au []]::row b6 30 [.int .i64 (0:Int)]::F))) O ?_ ?_)
 ·refine AK O (AA O (fun An=>?_) (fun An=>?_))
  ·refine AC (Eu [Au ALG] O ?_ (by exact⟨O,O⟩));refine C7 (CB (()) ?_ (hh:=(fun _ h=>by rw[show Cf h2=ALG from AB (by rw[FJ]at An;show ¬(FH h2 [73,70,83]).2=true;rw[An];simp)];exact AD h)))
   trivial
  refine AY (CB (()) ?_ (hh:=(fun _ h=>by rw[show Cf h2=(FH h2 Pz).1 from AI (by rw[Bool.not_eq_false']at An;exact An)];exact AD h)))
  trivial
 rintro _ _;refine tr (HO _ rfl fun b12=>?_);refine XN (yc rfl (fun w hw=>AAJ v22 Ey.one _ _ _ w hw) ?_);rintro _ J38 _ ⟨ABm,rfl,b38,rfl,Ahm⟩;refine ln (AJ (AOD (γ:=Value×List (List UInt8)×AQ×Nat) (AEX L v22 b38 (by omega)) rfl rfl func36 (by kernel_rfl) rfl (fun nn zz=>zz.2.2.2=0/\Le J38 zz.2.2.1/\Jo (pf h2) (Cf h2) [] (Bc L)=Jo (pf h2) (Cf h2) zz.2.1 ((Bc L).drop nn)/\zz.2.1.length<=200000 * nn) (fun cc zz=>(cc=.ret/\zz.2.2.2=66/\Le J38 zz.2.2.1/\Jo (pf h2) (Cf h2) [] (Bc L)=([],66))) F (fun zz TT=>(DW p lv2 av2 h2 (row b12 23 [zz.1]::Ap 9 1 Ce zz.1 zz.2.1::row b10 9 [Au (Cf h2)]::row b2 58 [.iface 33 (.pointer (some ⟨p.hb,0,none⟩))]::row b4 23 [.slice none 0 0]::row b5 9 [Au []]::row b6 30 [.int .i64 (zz.2.2.2:Int)]::TT))) (fun _ _=>rfl) (fun zz=>zz.2.2.1) [(0,_),(1,_),(2,_),(4,_),(5,_),(6,_),(7,_),(8,_),(9,_),(27,_),(10,_),(12,_),(38,_)] (BS rfl) (.slice none 0 0,[],J38,0) ?_ ?_ ?_ ?_ rfl ?_ ?_ ?_ ?_))
 ·exact⟨O,Le.refl _,O,Aw _⟩
 ·exact⟨Ahm,Ey.mono ABm⟩
 ·exact Le.refl _
 ·exact fun _ h=>AD (CI 9 1 Ce h)
 ·rintro i J vs ⟨_,v,rfl,_⟩;rfl
 ·intro bl ready busy done dfr nn vs gg JV w0r FF hi Ek hJV hrs hbz;obtain⟨vo,o,J,er⟩:=gg;obtain⟨her,NT,NM,hol⟩:=Ek;dsimp only at *;obtain⟨hnn,vg,rfl,hvg⟩:=hi;subst her;rw[ALj hnn]at NM
  have hgm:=BE (d:=[]) hnn
  have htt:=ADb L [] _ hgm
  have hgc:=Xf L [] _ hgm
  have htn:tot ([]:List Pc)=0:=rfl
  have AhN:([]:List Pc).length=0:=rfl
  have hgn:(Bc L).length<=L.length+1:=Q0 L []
  refine AC (AU O (Mn (by rfl) hrs ?_));refine AJ (tr (yq O ((by exact Az O O (by rfl))) ?_));refine yc O (fun w hw=>AAf vg (AG (Bc L) nn []) (Cf h2) _ _ _ w (by omega) (fun x hx=>by have:=ATE hx;omega) (by omega) hvg hw) ?_;rintro _ J43 _ ⟨AQc,rfl,fv,err,rfl,No⟩;refine AH rfl (AF (AK rfl (AA rfl (fun A6=>?_) (fun A6=>?_))))
  ·have Wk:Da (Aq (AG (Bc L) nn []) (Cf h2))=false:=by
    cases ho:Da (Aq (AG (Bc L) nn []) (Cf h2))with
    |false=>rfl
    |true=>rw[AI ho]at No;exact Ac No.1 (BM A6)
   rw[AB (by rw[Wk];simp)]at No;obtain⟨rfl,rfl⟩:=No;rw[AB (by rw[Wk];simp)]at NM;refine tr (Eu [.slice none 0 0] rfl ?_ (by exact⟨rfl,rfl⟩));refine Eu [Au []] rfl ?_ (by exact⟨rfl,rfl⟩);refine Eu [.int .i64 ((66:Nat):Int)] rfl ?_ (by exact⟨rfl,rfl⟩);refine ln (AX (Ah (A4 (AAg (fun w' hw'=>.inr ⟨rfl,.ret,((vo,o,J43,66)),?_,?_,?_⟩)))))
   ·dsimp only;exact⟨O,O,NT.trans (hJV.trans AQc),NM⟩
   ·exact AQc
   dsimp only;exact AD hw'
  have Wk:Da (Aq (AG (Bc L) nn []) (Cf h2))=true:=by
   cases ho:Da (Aq (AG (Bc L) nn []) (Cf h2))with
   |true=>rfl
   |false=>rw[AB (by rw[ho];simp)]at No;exact Ac (show err≠0 by rw[No.1];decide) (BW A6)
  rw[AI Wk]at No NM;obtain⟨rfl,us,hfv,LA⟩:=No
  have hul:=LA.1
  obtain⟨AKh,Aim⟩:=FQ.1 Wk;refine AV (tr ?_);refine yq rfl ((by exact BH rfl Tr rfl (Sl.lenOf hfv ((Af _).trans hul)))) ?_;refine AH rfl (AJ (EB (ι:=Nat×Value×AQ) [39,0,1,2,4,5,6,7,8,9,27,10,12,38,13,14,15,47,49,50] (fun zz=>zz.1<=(Aq (AG (Bc L) nn []) (Cf h2)).length/\Le J43 zz.2.2) (fun zz=>(Aq (AG (Bc L) nn []) (Cf h2)).length-zz.1) (fun zz=>[(51,.int .i64 (zz.1:Int))]) (fun zz=>zz.2.2) (fun zz=>(DW p lv2 av2 h2 (row b12 23 [zz.2.1]::Ap 9 1 Ce zz.2.1 (o++((Aq (AG (Bc L) nn []) (Cf h2)).take zz.1).flatMap (Dh (pf h2)))::row b10 9 [Au (Cf h2)]::row b2 58 [.iface 33 (.pointer (some ⟨p.hb,0,none⟩))]::row b4 23 [.slice none 0 0]::row b5 9 [Au []]::row b6 30 [.int .i64 (0:Int)]::Fg bl (.loop {ready with state:=.busy})::dfr::FF))) (0,vo,J43) rfl ?_ ?_ (hh:=(fun _ h=>by dsimp only;rw[Qo,List.flatMap_nil,Nj];exact AD h))))
  ·dsimp only;exact⟨Aw _,Le.refl _⟩
  rintro⟨i,vo,Ji⟩ ⟨Ym,Wg⟩;dsimp only at *
  have AWE:Le J22 Ji:=ABm.trans (NT.trans (hJV.trans (AQc.trans Wg)))
  have AYU:=UL (pf:=pf h2) (hpf h2) ((Aq (AG (Bc L) nn []) (Cf h2)).take i)
  rw[BL]at AYU
  have hp1:=SD (hpf h2) (AG (Aq (AG (Bc L) nn []) (Cf h2)) i [])
  refine AK O (AF (AA O (fun BJ=>?_) (fun BJ=>?_)))
  ·simp at BJ
   have Rl:i<(Aq (AG (Bc L) nn []) (Cf h2)).length:=by omega
   refine AV (AF (AJ (tr ?_)));refine yq O ((by exact AN O Tr XP O O (Sl.shape (hfv.mono Wg) ((Af _).trans hul)) (by omega))) ?_;refine yq O ((by exact Ai O O (Oe (i:=i) (hfv.mono Wg) (by omega)))) ?_;refine AH O (AK O (EZ (ι:=Value×AQ) [51,39,0,1,2,4,5,6,7,8,9,27,10,12,38,13,14,15,47,49,50,52,17] (fun zz=>Le Ji zz.2/\Sl zz.2 1 zz.1 ((psX (pf h2) (AG (Aq (AG (Bc L) nn []) (Cf h2)) i [])).map Ce)) (fun zz=>[(18,zz.1)]) (fun zz=>zz.2) (fun zz=>(DW p lv2 av2 h2 (row b12 23 [vo]::Ap 9 1 Ce vo (o++((Aq (AG (Bc L) nn []) (Cf h2)).take i).flatMap (Dh (pf h2)))::row b10 9 [Au (Cf h2)]::row b2 58 [.iface 33 (.pointer (some ⟨p.hb,0,none⟩))]::row b4 23 [.slice none 0 0]::row b5 9 [Au []]::row b6 30 [.int .i64 (0:Int)]::Fg bl (.loop {ready with state:=.busy})::dfr::FF))) O ?_ ?_))
   ·refine tr (yp O ((fun w hw=>AKV _ (AG (Aq (AG (Bc L) nn []) (Cf h2)) i []) w (by have:=AKh i (by omega);omega) ((LA.at_ (i:=i) (by omega)).mono (Wg.trans hw.le)))) ?_);refine ln (AA O (fun Bj=>?_) (fun Bj=>?_))
    ·have DF:Fa (AG (Aq (AG (Bc L) nn []) (Cf h2)) i [])=true:=Bj
     refine AC (yq O ((by exact Az O O (by rfl))) ?_);refine ye O (K9 O O O AGh func261 (by kernel_rfl) O (fun w hw=>hP L h2 JL (AG (Bc L) nn []) (BE hnn) Wk (AG (Aq (AG (Bc L) nn []) (Cf h2)) i []) (BE Rl) DF _ lv2 av2 _ _ _ w (P2.trans (Sp.trans AWE)) (EG.mono AWE) ((LA.at_ (i:=i) (by omega)).mono Wg) (GU hw))) ?_;rintro v59 J59 _ ⟨NJ,rfl,AcC⟩;refine AU rfl (CB ((v59,J59)) ?_)
     dsimp only;exact⟨NJ,by unfold psX;rw[AI DF];exact AcC⟩
    have DF:Fa (AG (Aq (AG (Bc L) nn []) (Cf h2)) i [])=false:=Bj
    refine AY (CB ((.slice none 0 0,Ji)) ?_)
    dsimp only;exact⟨Le.refl _,by unfold psX;rw[AB (by rw[DF];simp)];exact Gv⟩
   rintro⟨pv,J4⟩ ⟨hJ4,UG⟩;dsimp only at *;refine EZ (ι:=Value×AQ) [51,39,0,1,2,4,5,6,7,8,9,27,10,12,38,13,14,15,47,49,50,52,17] (fun zz=>Le Ji zz.2/\Sl zz.2 1 zz.1 ((Dh (pf h2) (AG (Aq (AG (Bc L) nn []) (Cf h2)) i [])).map Ce)) (fun zz=>[(18,zz.1)]) (fun zz=>zz.2) (fun zz=>(DW p lv2 av2 h2 (row b12 23 [vo]::Ap 9 1 Ce vo (o++((Aq (AG (Bc L) nn []) (Cf h2)).take i).flatMap (Dh (pf h2)))::row b10 9 [Au (Cf h2)]::row b2 58 [.iface 33 (.pointer (some ⟨p.hb,0,none⟩))]::row b4 23 [.slice none 0 0]::row b5 9 [Au []]::row b6 30 [.int .i64 (0:Int)]::Fg bl (.loop {ready with state:=.busy})::dfr::FF))) rfl ?_ ?_
   ·refine tr ?_;refine yq O ((by exact BH O BT O (Sl.lenOf UG (Af _)))) ?_;refine AH O (AA O (fun B4=>?_) (fun B4=>?_))
    ·have AGp:psX (pf h2) (AG (Aq (AG (Bc L) nn []) (Cf h2)) i [])=[]:=List.eq_nil_of_length_eq_zero (by have:=BM B4;omega)
     refine AC (yp O ((fun w hw=>AKL _ (AG (Aq (AG (Bc L) nn []) (Cf h2)) i []) w (by have:=AKh i (by omega);omega) ((LA.at_ (i:=i) (by omega)).mono (Wg.trans (hJ4.trans hw.le))))) ?_);refine NF _ O (fun b65=>?_) (by rfl);refine CU b65 (fun J65 XK AjV=>?_)
     have Acj:=Kd (f:=Ce) (sz:=1) [Cj (AG (Aq (AG (Bc L) nn []) (Cf h2)) i [])] AjV O O (fun _=>rfl)
     refine AU O (CB ((.slice (some ⟨b65,0,none⟩) 1 1,J65)) ?_)
     dsimp only;exact⟨hJ4.trans XK,by unfold Dh;rw[AI AGp];exact Acj⟩
    have AGp:psX (pf h2) (AG (Aq (AG (Bc L) nn []) (Cf h2)) i [])≠[]:=fun h9=>by have:=BW B4;rw[h9]at this;exact this O
    refine AY (CB ((pv,J4)) ?_)
    dsimp only;exact⟨hJ4,by unfold Dh;rw[AB AGp];exact UG⟩
   rintro⟨pw,J5⟩ ⟨hJ5,hpw⟩;dsimp only at *;refine AC (yq rfl ((by exact Az rfl rfl (by rfl))) ?_);refine ye rfl (BG (f:=Ce) (l:=(o++((Aq (AG (Bc L) nn []) (Cf h2)).take i).flatMap (Dh (pf h2)))) (ls:=Dh (pf h2) (AG (Aq (AG (Bc L) nn []) (Cf h2)) i [])) rfl BT Co rfl rfl rfl rfl (hpw) rfl (fun _=>rfl) B1 (by rw[Bh];simp only[maxLen];omega) (by rw[Bh];omega)) ?_;rintro v68 _ _ ⟨rfl,rfl⟩;refine Un v68 (fun Ma=>?_);refine Eu [v68] rfl ?_ (by assumption);refine C7 (AL (AS (AC (yq rfl (AM rfl rfl rfl (by omega)) ?_))));refine AU rfl (DJ ((i+1,v68,J5)) ?_ ?_ (hh:=(fun _ h=>by dsimp only;rw[ZD Rl,<-Ka];exact AD h)))
   ·dsimp only;exact⟨(show i+1<=_ by omega),Wg.trans hJ5⟩
   dsimp only
   show _-(i+1)<_-i
   omega
  simp at BJ
  have DK:i=(Aq (AG (Bc L) nn []) (Cf h2)).length:=by omega
  refine Av (AE (AE (AO (AL (Gy (fun w' hw'=>.inl ⟨O,((vo,(o++((Aq (AG (Bc L) nn []) (Cf h2)).take i).flatMap (Dh (pf h2))),Ji,0)),?_,?_,?_⟩))))))
  ·dsimp only;rw[DK,Gb];exact⟨O,NT.trans (hJV.trans (AQc.trans Wg)),NM,by rw[Bh];have:=UL (pf:=pf h2) (hpf h2) (Aq (AG (Bc L) nn []) (Cf h2));omega⟩
  ·exact AQc.trans Wg
  dsimp only;exact AD hw'
 ·intro bd gg JV Ek CH hJV;obtain⟨vo,o,J,er⟩:=gg;obtain⟨her,NT,NM,hol⟩:=Ek;dsimp only at *;subst her;rw[K7,Jo]at NM
  have hgn:(Bc L).length<=L.length+1:=Q0 L []
  refine AL (AS (AF (AF (Tj vo (fun Agm=>?_)))));refine AC (yq O ((by exact Az O O (by rfl))) ?_);refine yq O ((by exact IP O BT O)) ?_;refine AH O (AA O (fun CP=>?_) (fun CP=>?_))
  ·simp at CP
   have V2:200<o.length:=by omega
   refine tr (Eu [.slice none 0 0] O ?_ (by exact⟨O,O⟩));refine Eu [Au []] O ?_ (by exact⟨O,O⟩);refine Eu [.int .i64 ((66:Nat):Int)] O ?_ (by exact⟨O,O⟩);refine ln (AX (Ah (Db (F3 (bs:=[bd]) (.inl O) O (by exact CR O BT O (by exact Cs O) (CR O BX O (by exact Cs O) (CR O XO O (by exact Cs O) (Fy)))) (fun w' hw=>?_)))));rw[hfx,Rc NM V2];exact⟨_,O,JV,DW p lv2 av2 h2 F,⟨Sp.trans (ABm.trans (NT.trans hJV)),lv2,av2,As,O,O,EG.mono (ABm.trans (NT.trans hJV)),Gv⟩,AD hw⟩
  simp at CP
  have V2:¬200<o.length:=by omega
  refine AV (AF (Bf (f:=Ce) (l:=o) vo (fun _=>rfl) (fun Jf IL Rm=>?_)));refine AC (yq O ((by exact Az O O (by rfl))) ?_);refine Eu [vo] O ?_ (by exact Rm.one);refine Eu [Au []] O ?_ (by exact⟨O,O⟩);refine Eu [.int .i64 ((0:Nat):Int)] O ?_ (by exact⟨O,O⟩);refine ln (AX (Db (F3 (bs:=[bd]) (.inl O) O (by exact CR O BT O (by exact Cs O) (CR O BX O (by exact Cs O) (CR O XO O (by exact Cs O) (Fy)))) (fun w' hw=>?_))));rw[hfx,Ps NM V2];exact⟨_,O,Jf,DW p lv2 av2 h2 F,⟨Sp.trans (ABm.trans (NT.trans (hJV.trans IL))),lv2,av2,vo,O,O,EG.mono (ABm.trans (NT.trans (hJV.trans IL))),Rm⟩,AD hw⟩
 intro bd cc gg JV XF CH hJV;obtain⟨vo,o,J,er⟩:=gg;obtain⟨rfl,⟨her,NT,NM⟩⟩:=XF;dsimp only at *;refine AX (A4 (Ah (Db (F3 (bs:=[bd]) (.inl rfl) rfl (by exact CR rfl BT rfl (by exact Cs rfl) (CR rfl BX rfl (by exact Cs rfl) (CR rfl XO rfl (by exact Cs rfl) (Fy)))) (fun w' hw=>?_)))));rw[hfx,TW NM];subst her;exact⟨_,rfl,JV,DW p lv2 av2 h2 F,⟨Sp.trans (ABm.trans (NT.trans hJV)),lv2,av2,As,rfl,rfl,EG.mono (ABm.trans (NT.trans hJV)),Gv⟩,AD hw⟩
end Go.Tri
