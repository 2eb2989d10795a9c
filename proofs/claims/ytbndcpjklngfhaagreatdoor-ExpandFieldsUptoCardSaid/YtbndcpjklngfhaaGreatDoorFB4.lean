/-
 Files: a path walked.
-/
import Derived.Test.YtbndcpjklngfhaaGreatDoorEG4
import Derived.Test.YtbndcpjklngfhaaGreatDoorPFp
import Derived.Test.YtbndcpjklngfhaaGreatDoorED4
import Derived.Test.YtbndcpjklngfhaaGreatDoorFA5
namespace Go.Tri
open Go.Proofs.Tryz
open Go.Proofs Go.RowKit
set_option maxRecDepth 10000
variable {i t q:Nat} {d:Int} {far x:List UInt8} {l out:List (List UInt8)}
theorem ALR{p:List UInt8}:(BQ p).length<=p.length+1/\∀x∈BQ p,x.length<=p.length:=⟨(AAQ p (p.length+1)).1,(AAQ p (p.length+1)).2.2⟩
theorem Vo(b:Nat)(v:Value)(L:List Ne)(w:World)(k:FsW w b v L)(NK:NG (L.map Ne.nd))(Hy:Q9 L)(d:Int)(p:List UInt8)(hp:p.length<=100000000):B2 prog 73 [.pointer (some ⟨b,0,none⟩),.int .i64 d,Au p] w (.tuple #[.int .i64 (JK (L.map Ne.nd) d p).1,.int .i64 (JK (L.map Ne.nd) d p).2]):=by
 have UU:=k.len
 obtain⟨AkN,Ey⟩:=ALR (p:=p);refine enter func73 rfl ntmps73 rfl (St.start w (Ao w) (Le.refl _)) (AK rfl (tr (yp rfl ((fun w hw=>TR b v L w (k.mono hw.le) d p (by omega))) ?_)));refine AH rfl (AF (AK rfl (AA rfl (fun Ab=>?_) (fun Ab=>?_))))
 ·simp at Ab
  have NW:(Cv (L.map Ne.nd) d p).2≠0:=by omega
  refine AK O (Ak (Aj O O O (fun w' hw=>?_)));refine⟨?_,hw.below⟩
  unfold JK;rw[AI NW]
 simp at Ab
 have NW:(Cv (L.map Ne.nd) d p).2=0:=by omega
 refine AV (tr (yc O (fun w hw=>PG p (by omega) _ _ _ w hw) ?_));rintro v23 J23 _ ⟨AGG,rfl,P0⟩;refine AH rfl (AF (AK rfl (AJ (EB (ι:=Nat×Int) [0,1,2,20,10] (fun zz=>zz.1<=(BQ p).length/\(0<=zz.2/\zz.2<L.length)/\(EJ (L.map Ne.nd) (Cv (L.map Ne.nd) d p).1 (BQ p))=EJ (L.map Ne.nd) zz.2 ((BQ p).drop zz.1)) (fun zz=>(BQ p).length-zz.1) (fun zz=>[(11,.int .i64 (zz.1:Int)),(8,.int .i64 zz.2)]) (fun zz=>J23) (fun zz=>[]) (0,(Cv (L.map Ne.nd) d p).1) rfl ?_ ?_))))
 ·dsimp only;exact⟨Aw _,PS (QZ NK NW),O⟩
 rintro⟨i,a⟩ ⟨hi,ha,CS⟩;dsimp only at *;refine AF (tr ?_);refine yq rfl ((by exact BH rfl BT rfl (Sl.lenOf P0 (Af _)))) ?_;refine AH rfl (AA rfl (fun An=>?_) (fun An=>?_))
 ·simp at An
  have DK:i<(BQ p).length:=by omega
  refine AV (AF (AJ (tr ?_)));refine yq O ((by exact AN O BT Co O O (Sl.shape P0 (Af _)) (by omega))) ?_;refine yq O ((by exact Ai O O (Et (i:=i) P0 (by omega)))) ?_;refine yp O ((fun w hw=>V9 b v L w (k.mono (AGG.trans hw.le)) a ha (AG (BQ p) i []) (by have:=Ey _ (BE (d:=[]) DK);omega) (AMX NK (by omega)) (by have:=Hy _ (BE (d:=Bi) (show a.toNat<L.length by omega));omega))) ?_;refine AH O (AK O (AA O (fun A6=>?_) (fun A6=>?_)))
  ·simp at A6
   have hse:(Fe (L.map Ne.nd) a (AG (BQ p) i [])).2≠0:=by omega
   rw[Bg [] DK,EJ,AI hse]at CS;refine AK O (Ak (Aj O O O (fun w' hw=>?_)));refine⟨?_,(hw.less AGG).below⟩
   unfold JK;rw[AB (by rw[NW];simp),CS,AI hse]
  simp at A6
  have hse:(Fe (L.map Ne.nd) a (AG (BQ p) i [])).2=0:=by omega
  refine AY (AL (AS (AC (yq O (AM O O O (by omega)) ?_))));refine AU O (DJ ((i+1,(Fe (L.map Ne.nd) a (AG (BQ p) i [])).1)) ?_ ?_)
  ·dsimp only;refine⟨by omega,PS (ZO NK (by rwa [Af]) _),?_⟩;rw[CS,Bg [] DK,EJ,AB (by omega)]
  dsimp only
  show _-(i+1)<_-i
  omega
 simp at An
 rw[E4 (by omega),EJ]at CS
 have WJ:=Fx L a.toNat
 refine Av (AE (AE (AO (AS (AF (tq (zp O ((fun w hw=>U2 p w (by omega))) ?_)))))))
 refine zA 9 O (fun h55=>by
   refine zq O ((by exact Ai O O (A8 ((k.row 0 _ O).mono AGG)))) ?_;refine zq O ((by exact Bq O Jt Ij O O (Sl.shape (k.sl.mono AGG) (Af _)) (by omega))) ?_;refine zq O ((by exact Ai O O (Mu (i:=a.toNat) (j:=0) (k.sl.mono AGG) (by omega) O))) ?_;exact zv O
  ) ?_
 refine Dp (AA O (fun BJ=>?_) (fun BJ=>?_))
 ·have Td:OD p=true/\(AG (L.map Ne.nd) a.toNat JI).kind≠2:=by
   have h9:=BJ
   rw[Ay,BC]at h9
   rw[WJ];exact h9
  refine AK O (Ak (Aj O O O (fun w' hw=>?_)));refine⟨?_,(hw.less AGG).below⟩
  unfold JK;rw[AB (by rw[NW];simp),CS,AB (by simp),AI Td]
 have Td:¬(OD p=true/\(AG (L.map Ne.nd) a.toNat JI).kind≠2):=fun h8=>by
  have h9:=BJ
  rw[h8.1,BK (show(AG L a.toNat Bi).nd.kind≠2 from WJ ▸ h8.2)]at h9
  cases h9
 refine AV (AK O (AX (Aj O O O (fun w' hw=>?_))));refine⟨?_,(hw.less AGG).below⟩
 unfold JK;rw[AB (by rw[NW];simp),CS,AB (by simp),AB Td]
theorem AAa{w0:World}{I:AQ}{H:List HA}{v:Value}{l:List Ch}(hv:Sl I 2 v (l.map D5))(hi:i<l.length):Rd w0 I H (Eb v).block ((Eb v).off+i * 2+0) (u8 (AG l i Ft).b):=hv.rd (i:=i) (j:=0) (CN l D5 Ft hi) rfl
theorem YD{l:List Ch}{k:Nat}:AG (l.drop i) k Ft=AG l (i+k) Ft:=by
 unfold AG;rw[Cy,Cy,List.getElem?_drop]
theorem Ui(v:Value)(p:List Ch)(w:World)(hp:p.length<=1000000000)(hv:Sl (Ao w) 2 v (p.map D5)):B2 prog 72 [v] w (Au (Cj p)):=by
 refine enter func72 O ntmps72 O (St.start w (Ao w) (Le.refl _)) (AK O (AK O (AF (AK O (AJ (EB (ι:=Nat×Value) [0,2] (fun zz=>zz.1<=p.length) (fun zz=>p.length-zz.1) (fun zz=>[(4,.int .i64 (zz.1:Int)),(3,zz.2)]) (fun zz=>Ao w) (fun zz=>[Ap 5 1 Km zz.2 (Cj (p.take zz.1))]) (0,.slice none 0 0) O ?_ ?_ (hh:=(fun _ h=>CI 5 1 Km h))))))))
 ·dsimp only;exact Aw _
 rintro⟨i,vb⟩ hi;dsimp only at *;refine AF (tr ?_);refine yq rfl ((by exact BH rfl DU rfl (Sl.lenOf hv (Af _)))) ?_;refine AH rfl (AA rfl (fun Ab=>?_) (fun Ab=>?_))
 ·simp at Ab
  refine AV (AF (AJ (AC ?_)));refine yq O ((by exact AN O DU Cn O O (Sl.shape hv (Af _)) (by omega))) ?_;refine yq O ((by exact Ai O O (AAa (i:=i) hv (by omega)))) ?_;refine NF _ O (fun b17=>?_) (by rfl);refine V4 (f:=Km) ((AG p i Ft).b) O (fun v18=>?_) (by exact RD _) (by simp[Cj,maxLen];omega) (by simp[Cj];omega);refine AU O (AL (AS (AC (yq O (AM O O O (by omega)) ?_))));refine AU O (DJ ((i+1,v18)) ?_ ?_ (hh:=(fun _ h=>by dsimp only;rw[show Cj (p.take (i+1))=Cj (p.take i)++[(AG p i Ft).b]from K8 p i (by omega)];exact AD h)))
  ·dsimp only
   omega
  dsimp only
  show p.length-(i+1)<p.length-i
  omega
 simp at Ab
 have hie:i=p.length:=by omega
 refine Av (AE (AE (AO (AS (tr (yq O (LE O O8 BX un5 O) (AH O (AX (AP O O (fun w' hw=>?_))))))))));refine⟨?_,hw.below⟩;rw[hie,Gb]
theorem AFe(v:Value)(p:List Ch)(w:World)(hp:p.length<=1000000000)(hv:Sl (Ao w) 2 v (p.map D5)):B2 prog 71 [v] w (.tuple #[F7 2 0 (Ip p) v,Au (Cj ((p.drop (Ip p)).take (UZ p-Ip p))),F7 2 (UZ p) p.length v]):=by
 refine enter func71 O ntmps71 O (St.start w (Ao w) (Le.refl _)) (AK O (AK O (AF (AJ (EB (ι:=Nat) [0,2,3,4] (fun zz=>zz<=p.length/\∀k,k<zz->decide ((AG p k Ft).b≠47)=true) (fun zz=>p.length-zz) (fun zz=>[(5,.int .i64 (zz:Int))]) (fun zz=>Ao w) (fun zz=>[]) 0 O ?_ ?_)))))
 ·exact⟨Aw _,fun k h=>Ac h (Nat.not_lt_zero _)⟩
 rintro i ⟨hi,Cz⟩;dsimp only at *;refine AF (tq ?_);refine zq rfl ((by exact BH rfl DU rfl (Sl.lenOf hv (Af _)))) ?_
 refine zA 6 O (fun h18=>by
   simp at h18
   have DK:i<p.length:=by omega
   refine zq O ((by exact AN O DU Cn O O (Sl.shape hv (Af _)) (by omega))) ?_;refine zq O ((by exact Ai O O (AAa (i:=i) hv (by omega)))) ?_;refine zq O (Yj O O O O) ?_;exact zv O
  ) ?_
 refine Dp (AA O (fun Ab=>?_) (fun Ab=>?_))
 ·have h0:=Ab
  rw[Ay,BC]at h0
  have DK:i<p.length:=by omega
  refine AV (AJ (AC (yq O (AM O O O (by omega)) ?_)));refine AU O (AL (DJ (i+1) ?_ ?_))
  ·refine⟨by omega,fun k hk=>?_⟩;rcases Nat.lt_succ_iff_lt_or_eq.1 hk with h|rfl
   ·exact Cz k h
   exact h0.2
  omega
 have GV:Ip p=i:=AIw (d:=Ft) hi Cz (fun h=>by have h9:=Ab;rw[BK (show(i:Int)<(p.length:Int) by omega),Bool.true_and]at h9;exact h9)
 refine Av (AE (AE (AO (AS (AK O (AF (AJ (EB (ι:=Nat) [5,0,2,3,4,18] (fun zz=>i<=zz/\zz<=p.length/\∀k,k<zz-i->decide ((AG (p.drop i) k Ft).b=47)=true) (fun zz=>p.length-zz) (fun zz=>[(6,.int .i64 (zz:Int))]) (fun zz=>Ao w) (fun zz=>[]) i O ?_ ?_))))))))
 ·exact⟨A5 _,hi,fun k h=>by omega⟩
 rintro j ⟨hij,hj,AbO⟩;dsimp only at *;refine AF (tq ?_);refine zq rfl ((by exact BH rfl DU rfl (Sl.lenOf hv (Af _)))) ?_
 refine zA 6 O (fun Tu=>by
   simp at Tu
   have hjl:j<p.length:=by omega
   refine zq O ((by exact AN O DU Cn O O (Sl.shape hv (Af _)) (by omega))) ?_;refine zq O ((by exact Ai O O (AAa (i:=j) hv (by omega)))) ?_;refine zq O (Ae O O O O) ?_;exact zv O
  ) ?_
 refine Dp (AA O (fun An=>?_) (fun An=>?_))
 ·have h1:=An
  rw[Ay,BC]at h1
  have hjl:j<p.length:=by omega
  refine AV (AJ (AC (yq O (AM O O O (by omega)) ?_)));refine AU O (AL (DJ (j+1) ?_ ?_))
  ·refine⟨by omega,by omega,fun k hk=>?_⟩;rcases Nat.lt_or_eq_of_le (show k<=j-i by omega)with h|rfl
   ·exact AbO k h
   rw[YD,show i+(j-i)=j by omega];exact h1.2
  omega
 have C3:UZ p=j:=by
  unfold UZ
  rw[GV,AIw (d:=Ft) (i:=j-i) (by rw[BA];omega) AbO (fun h=>by
   rw[BA]at h
   have h9:=An
   rw[BK (show(j:Int)<(p.length:Int) by omega),Bool.true_and]at h9
   rw[YD,show i+(j-i)=j by omega];exact h9)]
  omega
 refine Av (AE (AE (AO (AS (AF (Bd mo (by kernel_rfl) (fun _ _ _ _ _ h=>h) (zq O ((by exact IK O DU Cn O O (Sl.capOf hv (Af _)) (by omega))) ?_)))))));refine zq O ((by exact AFJ O DU Cn O O O (Sl.capOf hv (Af _)) (by omega))) ?_;refine zp O ((fun w hw=>Ui _ ((p.drop i).take (j-i)) w (by simp;omega) ((Sl.cutM hv hij hj).mono hw.le))) ?_;refine zq O ((by exact CW O DU Cn O O (Sl.lenOf hv (Af _)) (by omega))) ?_;refine De O (AX (Cu O O O O (fun w' hw=>?_)));refine⟨?_,hw.below⟩
 rw[GV,C3];try rfl
def Zs(L:List Ne)(d:Int)(f:Nat):Prop:=∀(c bf:Nat) (vf:Value) (far:List UInt8) (pv:Value) (p:List Ch) (t:Nat) (I:AQ) (F:List HA) (w0 w:World),FsI I bf vf L->Sl I 2 pv (p.map D5)->p.length<f->p.length<=100000->far.length<=256->t<=1000->St w0 I (row c 136 [.int .i64 (t:Int)]::F) w→
 Calls prog 51 [.pointer (some ⟨c,0,none⟩),.pointer (some ⟨bf,0,none⟩),.int .i64 d,Au far,pv].toArray w (ER w fun v I' H'=>Le I I'/\Sl I' 1 v ((D1 (L.map Ne.nd) d f far p t).1.map Ce)/\H'=row c 136 [.int .i64 ((D1 (L.map Ne.nd) d f far p t).2:Int)]::F)
theorem AKF{fs:List Nd}{f:Nat}:D1 fs d (f+1) far [] t=((if far.length<=256 then[far]else[]),t):=by rw[D1,AI rfl]
theorem AFz{fs:List Nd}{f:Nat}{p:List Ch}(hp:p≠[])(h:PV fs d far (p.take (Ip p))=none):D1 fs d (f+1) far p t=([],t):=by rw[D1,AB hp,h]
theorem AFo{fs:List Nd}{f:Nat}{p:List Ch}(hp:p≠[])(h:PV fs d far (p.take (Ip p))=some l):
  D1 fs d (f+1) far p t=P8 (fun far' t'=>D1 fs d f far' (p.drop (UZ p)) t') fs d far (Cj ((p.drop (Ip p)).take (UZ p-Ip p))) l [] t:=by rw[D1,AB hp,h]
theorem AVK{p:List Ch}(h:Fa p=true):0<p.length:=by
 cases p with
 |nil=>cases h
 |cons c r=>simp
theorem VP(p:List Ch):(Cj p).length=p.length:=by unfold Cj;rw[Af]
theorem AMZ{fs:List Nd}(hw:NG fs)(hd:0<=d/\d<fs.length)(h:(atD fs d far).2=0):0<=(atD fs d far).1/\(atD fs d far).1<fs.length:=by
 unfold atD at *
 split
 ·exact hd
 rename_i h1
 rw[AB h1]at h;exact(AHy hw h).1
set_option maxHeartbeats 2000000 in
theorem ARS(L:List Ne)(NK:NG (L.map Ne.nd))(Hy:Q9 L)(Hb:SB (L.map Ne.nd))(d:Int)(hd:0<=d/\d<L.length)(f:Nat)(hf:f<=100001)(JG:Zs L d f):Zs L d (f+1):=by
 intro c bf vf far pv p t I F w0 w k UG hpf EU Ajz ht BZ
 have UU:=k.len
 have FW:=AHe p
 have C3:=AOl p
 have hdl:0<=d/\d<((L.map Ne.nd).length:Int):=by rwa [Af]
 refine enter func51 O ntmps51 O (BZ.self) (AK O (AK O (AF (tr ?_))));refine yq O ((by exact BH O DU O (Sl.lenOf UG (Af _)))) ?_;refine AH O (AA O (fun Ab=>?_) (fun Ab=>?_))
 ·have hpe:p=[]:=List.length_eq_zero_iff.1 (by have:=BM Ab;omega)
  subst hpe;refine AF (tr (yq rfl (AW rfl BX rfl) (AH rfl (AA rfl (fun An=>?_) (fun An=>?_)))))
  ·simp at An
   refine tr (ybv Ce far O fun b31=>(KH (f:=Ce) (l:=[far]) (.slice (some ⟨b31,0,none⟩) 1 1) (fun _=>rfl) (fun Jf IL hvf=>?_)));refine AH O (Ak (AP O O (fun w' hw=>?_)));rw[AKF,AI (by omega)];exact⟨_,O,Jf,_,⟨IL,hvf,O⟩,AD hw⟩
  simp at An
  refine AV (AK O (Ak (AP O O (fun w' hw=>?_))));exact Ac Ajz (by omega)
 have AYB:p≠[]:=fun h=>BW Ab (by rw[h];try rfl)
 refine AV (tr (yp O ((fun w hw=>AFe pv p w (by omega) (UG.mono hw.le))) ?_));obtain⟨pcv,Add⟩:∃z,z=F7 2 0 (Ip p) pv:=⟨_,rfl⟩;obtain⟨pc,ASH⟩:∃z,z=p.take (Ip p):=⟨_,rfl⟩;obtain⟨sl,AXh⟩:∃z,z=Cj ((p.drop (Ip p)).take (UZ p-Ip p)):=⟨_,rfl⟩;obtain⟨rv,AeF⟩:∃z,z=F7 2 (UZ p) p.length pv:=⟨_,rfl⟩
 have hpc:Sl I 2 pcv (pc.map D5):=by rw[Add,ASH];exact V7 UG FW
 have hrv:Sl I 2 rv ((p.drop (UZ p)).map D5):=by rw[AeF];exact Sl.dropM UG O C3.2
 rw[<-Add,<-AXh,<-AeF]
 have Anq:pc.length<=p.length:=by rw[ASH,BL];omega
 have AmL:sl.length<=p.length:=by rw[AXh,VP,BL,BA];omega
 refine AH O (AK O (EZ (ι:=List (List UInt8)×Value) [0,1,2,3,4,11,26,12,13,14] (fun zz=>PV (L.map Ne.nd) d far pc=some zz.1/\(∀n∈zz.1,n.length<=100000)/\zz.1.length<=2000000) (fun zz=>[(15,zz.2)]) (fun zz=>I) (fun zz=>(Ap 9 1 Ce zz.2 zz.1::row c 136 [.int .i64 (t:Int)]::F)) O ?_ ?_))
 ·refine tr (yp O ((fun w hw=>MR pcv pc w (by omega) (hpc.mono hw.le))) ?_);refine AH O (AA O (fun A6=>?_) (fun A6=>?_))
  ·have JM:Fa pc=false:=by have h9:=A6;rwa [FJ]at h9
   refine AC (yp O ((fun w hw=>Ui pcv pc w (by omega) (hpc.mono hw.le))) ?_)
   refine ybv Ce (Cj pc) O fun b43=>(AU O (CB (([Cj pc],.slice (some ⟨b43,0,none⟩) 1 1)) ?_))
   dsimp only;refine⟨?_,fun n hn=>?_,by simp⟩
   ·unfold PV;rw[AI JM]
   rw[FK.1 hn,VP];omega
  have JM:Fa pc=true:=by have h9:=A6;rwa [Bool.not_eq_false']at h9
  have Ant:=AVK JM
  refine AK O (AK O (EZ (ι:=Int×Int) [0,1,2,3,4,10,11,26,12,13,14,15,40] (fun zz=>(zz.1,zz.2)=atD (L.map Ne.nd) d far) (fun zz=>[(16,.int .i64 zz.1),(17,.int .i64 zz.2)]) (fun zz=>I) (fun zz=>(row c 136 [.int .i64 (t:Int)]::F)) O ?_ ?_))
  ·refine tr (yq O (Bs O O O) (ln (AA O (fun BJ=>?_) (fun BJ=>?_))))
   ·have hfe:far≠[]:=BM BJ
    refine AC (yp O ((fun w hw=>Vo bf vf L w (k.w hw.le) NK Hy d far (by omega))) ?_);refine AU O (CB (((JK (L.map Ne.nd) d far).1,(JK (L.map Ne.nd) d far).2)) ?_)
    dsimp only
    unfold atD;rw[AB hfe]
   have hfe:far=[]:=Decidable.not_not.1 (BW BJ)
   refine AY (CB ((d,0)) ?_)
   dsimp only
   unfold atD;rw[AI hfe]
  rintro⟨a,e⟩ hae;dsimp only at *;refine AF (tq ?_)
  refine zO 9 O (fun h66=>by
    simp at h66
    have Wf:(atD (L.map Ne.nd) d far).2=0:=by rw[<-hae];show e=0;simpa using h66
    have ha:=PS (AMZ NK hdl Wf)
    rw[<-hae]at ha;dsimp only at ha;refine zq O ((by exact Ai O O (A8 (k.row 0 _ O)))) ?_;refine zq O ((by exact Bq O Jt Ij O O (Sl.shape k.sl (Af _)) (by omega))) ?_;refine zq O ((by exact Ai O O (Mu (i:=a.toNat) (j:=0) k.sl (by omega) O))) ?_;exact zv O
   ) ?_
  refine zO 4 O (fun h72=>by
    simp at h72
    refine zp O ((fun w hw=>Og bf vf L w (k.w hw.le) a 5)) ?_;exact zv O
   ) ?_
  refine Dp (AA O (fun Bj=>?_) (fun Bj=>?_))
  ·have AaB:(a,e).2≠0\/(AG (L.map Ne.nd) (a,e).1.toNat JI).kind≠2\/RP (L.map Ne.nd) (a,e).1 5=false:=by
    have h9:=Bj
    rw[C4,C4,BC,BC,FJ]at h9;rw[Fx];rcases h9 with (h9|h9)|h9
    ·exact .inl h9
    ·exact .inr (.inl h9)
    exact .inr (.inr h9)
   refine AK O (Ak (AP O O (fun w' hw=>?_)));rw[AFz AYB (by rw[<-ASH];unfold PV;rw[AB (by rw[JM];simp),<-hae,AI AaB])];exact⟨_,O,I,_,⟨Le.refl _,Hn,O⟩,AD hw⟩
  have h4:=Bj
  rw[Bool.or_eq_false_iff,Bool.or_eq_false_iff,CA,CA,Bool.not_eq_false']at h4
  have AaB:¬((a,e).2≠0\/(AG (L.map Ne.nd) (a,e).1.toNat JI).kind≠2\/RP (L.map Ne.nd) (a,e).1 5=false):=by
   rw[Fx];rintro(h9|h9|h9)
   ·exact h4.1.1 h9
   ·exact h4.1.2 h9
   have h8:=h4.2;rw[h9]at h8;cases h8
  have Wf:(atD (L.map Ne.nd) d far).2=0:=by rw[<-hae];exact Decidable.not_not.1 h4.1.1
  have ha:=PS (AMZ NK hdl Wf)
  rw[<-hae]at ha;dsimp only at ha
  have hxm:(AG L a.toNat Bi)∈L:=BE (by omega)
  have hnv:=(k.ok _ hxm).nv
  have ASf:=Hb _ (FL.2 ⟨_,hxm,O⟩)
  have Alp:=Hy _ hxm
  refine AV (tr (yq O ((by exact Ai O O (A8 (k.row 0 _ O)))) ?_));refine yq O ((by exact Bq O Jt Ij O O (Sl.shape k.sl (Af _)) (by omega))) ?_;refine yq O ((by exact Ai O O (Mu (i:=a.toNat) (j:=6) k.sl (by omega) O))) ?_;refine AH O (AK O (AJ (EB (ι:=Nat×List (List UInt8)×Value) [16,17,0,1,2,3,4,10,11,26,12,13,14,40,72,18] (fun zz=>zz.1<=(AG L a.toNat Bi).nd.names.length/\zz.2.1=((AG L a.toNat Bi).nd.names.take zz.1).filter (fun n=>Mt pc n&&AQs pc n)/\zz.2.1.length<=zz.1) (fun zz=>(AG L a.toNat Bi).nd.names.length-zz.1) (fun zz=>[(19,.int .i64 (zz.1:Int)),(15,zz.2.2)]) (fun zz=>I) (fun zz=>(Ap 9 1 Ce zz.2.2 zz.2.1::row c 136 [.int .i64 (t:Int)]::F)) (0,[],.slice none 0 0) O ?_ ?_ (hh:=(fun _ h=>CI 9 1 Ce (AD h))))))
  ·dsimp only;exact⟨Aw _,O,A5 _⟩
  rintro⟨i,l,tv⟩ ⟨hi,ATA,AnZ⟩;dsimp only at *;refine AF (tr ?_);refine yq rfl ((by exact BH rfl BT rfl (Sl.lenOf hnv (Af _)))) ?_;refine AH rfl (AA rfl (fun B4=>?_) (fun B4=>?_))
  ·simp at B4
   have DK:i<(AG L a.toNat Bi).nd.names.length:=by omega
   have hni:=(ASf _ (BE (d:=[]) DK)).2
   refine AV (AF (AJ (tq ?_)));refine zq O ((by exact AN O BT Co O O (Sl.shape hnv (Af _)) (by omega))) ?_;refine zq O ((by exact Ai O O (Et (i:=i) hnv (by omega)))) ?_;refine zp O ((fun w hw=>LL pcv pc (AG (AG L a.toNat Bi).nd.names i []) w (by omega) (by omega) (hpc.mono hw.le))) ?_
   refine zA 13 O (fun Ajp=>by
     have DK:i<(AG L a.toNat Bi).nd.names.length:=by omega
     have NZ:0<(AG (AG L a.toNat Bi).nd.names i []).length:=BV.2 (ASf _ (BE DK)).1
     refine zq O ((by exact AN O BT Co O O (Sl.shape hnv (Af _)) (by omega))) ?_;refine zq O ((by exact Ai O O (Et (i:=i) hnv (by omega)))) ?_;refine zq O ((by exact AZ O BX O O (by omega))) ?_;refine zq O (Yj O O O O) ?_
     refine zO 5 O (fun AXW=>by
       simp at AXW
       have DK:i<(AG L a.toNat Bi).nd.names.length:=by omega
       have NZ:0<(AG (AG L a.toNat Bi).nd.names i []).length:=BV.2 (ASf _ (BE DK)).1
       refine zq O ((by exact AN O DU Cn O O (Sl.shape hpc (Af _)) (by omega))) ?_;refine zq O ((by exact Ai O O (AAa (i:=0) hpc (by omega)))) ?_;refine zq O (Ae O O O O) ?_;exact zv O
      ) ?_
     exact zv O
    ) ?_
   refine Dp (AA O (fun CP=>?_) (fun CP=>?_))
   ·have hq:(Mt pc (AG (AG L a.toNat Bi).nd.names i [])&&AQs pc (AG (AG L a.toNat Bi).nd.names i []))=true:=CP
    refine AC ?_;refine yq O ((by exact AN O BT Co O O (Sl.shape hnv (Af _)) (by omega))) ?_;refine yq O ((by exact Ai O O (Et (i:=i) hnv (by omega)))) ?_;refine NF _ O (fun b113=>?_) (by rfl);refine V4 (f:=Ce) (AG (AG L a.toNat Bi).nd.names i []) O (fun v114=>?_) (B1 _) (by(try simp only[maxLen]);omega) (by omega);refine Un v114 (fun Ma=>?_);refine AU O (AL (AS (AC (yq O (AM O O O (by omega)) ?_))));refine AU O (DJ ((i+1,l++[AG (AG L a.toNat Bi).nd.names i []],v114)) ?_ ?_)
    ·dsimp only;refine⟨by omega,?_,by simp;omega⟩
     rw[C6 [] DK,List.filter_append,<-ATA,List.filter_cons,AI hq];try rfl
    dsimp only
    show _-(i+1)<_-i
    omega
   have hq:¬(Mt pc (AG (AG L a.toNat Bi).nd.names i [])&&AQs pc (AG (AG L a.toNat Bi).nd.names i []))=true:=by rw[show(Mt pc (AG (AG L a.toNat Bi).nd.names i [])&&AQs pc (AG (AG L a.toNat Bi).nd.names i []))=false from CP];simp
   refine AY (AL (AS (AC (yq O (AM O O O (by omega)) ?_))));refine AU O (DJ ((i+1,l,tv)) ?_ ?_)
   ·dsimp only;refine⟨by omega,?_,by omega⟩
    rw[C6 [] DK,List.filter_append,<-ATA,List.filter_cons,AB hq];simp
   dsimp only
   show _-(i+1)<_-i
   omega
  simp at B4
  have hie:i=(AG L a.toNat Bi).nd.names.length:=by omega
  refine Av (AE (AE (AO (CB ((l,tv)) ?_))))
  dsimp only;refine⟨?_,fun n hn=>?_,by omega⟩
  ·unfold PV;rw[AB (by rw[JM];simp),<-hae];rw[AB AaB,Fx,ATA,hie,Gb]
  rw[ATA]at hn;exact Ky (ASf n (List.mem_of_mem_take (List.mem_filter.1 hn).1)).2 (by omega)
 rintro⟨l,tv⟩ ⟨hnn,hln,hlL⟩;dsimp only at *;refine AF (AF ?_);obtain⟨BB,AaW⟩:∃z,z=D1 (L.map Ne.nd) d (f+1) far p t:=⟨_,rfl⟩
 have hBB:=AaW.trans (AFo AYB (ASH ▸ hnn))
 rw[<-AXh]at hBB;obtain⟨t0,ht0⟩:∃z,z=t:=⟨_,rfl⟩;refine Bf (f:=Ce) (l:=l) tv (fun _=>rfl) (fun Jf IL Ew=>?_);refine AC (AH rfl (AJ (EB (ι:=Nat×List (List UInt8)×Value×Nat×AQ) [15,0,1,2,3,4,26,12,13,14] (fun zz=>zz.1<=l.length/\Le I zz.2.2.2.2/\Sl zz.2.2.2.2 1 tv (l.map Ce)/\BB=P8 (fun far' t'=>D1 (L.map Ne.nd) d f far' (p.drop (UZ p)) t') (L.map Ne.nd) d far sl (l.drop zz.1) zz.2.1 zz.2.2.2.1/\zz.2.1.length+t0<=zz.2.2.2.1/\zz.2.2.2.1<=300000) (fun zz=>l.length-zz.1) (fun zz=>[(20,.int .i64 (zz.1:Int)),(11,zz.2.2.1)]) (fun zz=>zz.2.2.2.2) (fun zz=>(row c 136 [.int .i64 (zz.2.2.2.1:Int)]::Ap 9 1 Ce zz.2.2.1 zz.2.1::F)) (0,[],.slice none 0 0,t,Jf) rfl ?_ ?_ (hh:=(fun _ h=>by dsimp only;exact AD (CI 9 1 Ce h))))))
 ·dsimp only;exact⟨Aw _,IL,Ew,hBB,by simp;omega,by omega⟩
 rintro⟨i,acc,av,t,J⟩ ⟨hi,hJ,Ew,CS,hac,ht3⟩;dsimp only at *;refine AF (tr ?_);refine yq rfl ((by exact BH rfl BT rfl (Sl.lenOf Ew (Af _)))) ?_;refine AH rfl (AA rfl (fun DF=>?_) (fun DF=>?_))
 ·simp at DF
  have DK:i<l.length:=by omega
  have hni:=hln _ (BE (d:=[]) DK)
  refine AV (AF (AJ (tr ?_)));refine yq O ((by exact AN O BT Co O O (Sl.shape Ew (Af _)) (by omega))) ?_;refine yq O ((by exact Ai O O (Et (i:=i) Ew (by omega)))) ?_;refine yq O (F1 O O O (by omega)) ?_;refine yq O (F1 O O O (by(simp only[Bh];omega))) ?_;refine AH O (tr (yq O ((by exact Az O O (by rfl))) ?_));refine yq O (AM O O O (by omega)) ?_;refine Eu [.int .i64 ((t+1:Nat):Int)] O ?_ (by exact⟨O,O⟩);refine XN (yq O ((by exact Az O O (by rfl))) ?_);refine AH O (AA O (fun GQ=>?_) (fun GQ=>?_))
  ·simp at GQ
   rw[Bg [] DK,P8,AI (by omega)]at CS;refine AK O (Ak (AP O O (fun w' hw=>?_)));rw[<-AaW,CS];exact⟨_,O,J,_,⟨hJ,Hn,O⟩,AD hw⟩
  simp at GQ
  have ht4:¬1000<t+1:=by omega
  refine AV (AF (tr (yp O ((fun w hw=>Vo bf vf L w ((k.mono hJ).w hw.le) NK Hy d (far++AG l i []++sl) (by rw[Bh,Bh];omega))) ?_)));refine AH O (AK O (AA O (fun KD=>?_) (fun KD=>?_)))
  ·have hwe:(JK (L.map Ne.nd) d (far++AG l i []++sl)).2≠0:=BM KD
   refine Av (AE (AO (AS (AC (yq O (AM O O O (by omega)) ?_)))));refine AU O (DJ ((i+1,acc,av,t+1,J)) ?_ ?_)
   ·dsimp only;refine⟨by omega,hJ,Ew,?_,by omega,by omega⟩;rw[CS,Bg [] DK,P8,AB ht4,AI hwe]
   dsimp only
   show _-(i+1)<_-i
   omega
  have hwe:(JK (L.map Ne.nd) d (far++AG l i []++sl)).2=0:=Decidable.not_not.1 (BW KD)
  have hwk:=AHy NK hwe
  refine AV (AC (yc O (fun w hw=>JG c bf vf (far++AG l i []++sl) rv (p.drop (UZ p)) (t+1) _ _ _ w (k.mono hJ) (hrv.mono hJ) (by rw[BA];have:=ASt AYB;omega) (by rw[BA];omega) hwk.2.2 (by omega) (Al (row c 136 [.int .i64 ((t+1:Nat):Int)]) hw)) ?_));rintro v156 J156 _ ⟨Xo,Abj,rfl⟩
  have hJ:=hJ.trans Xo
  have Ew:=Ew.mono Xo
  have hbl:=VH (L.map Ne.nd) d f (far++AG l i []++sl) (p.drop (UZ p)) (t+1)
  refine ye O (BG (f:=Ce) (l:=acc) O BT Co O O O O (Abj) O (fun _=>rfl) B1 (by(try simp only[maxLen]);omega) (by omega)) ?_;rintro v157 _ _ ⟨rfl,rfl⟩;refine AU rfl (AL (AS (AC (yq rfl (AM rfl rfl rfl (by omega)) ?_))));refine AU rfl (DJ ((i+1,acc++(D1 (L.map Ne.nd) d f (far++AG l i []++sl) (p.drop (UZ p)) (t+1)).1,v157,(D1 (L.map Ne.nd) d f (far++AG l i []++sl) (p.drop (UZ p)) (t+1)).2,J156)) ?_ ?_)
  ·dsimp only;refine⟨by omega,hJ,Ew,?_,by rw[Bh];omega,by omega⟩;rw[CS,Bg [] DK,P8,AB ht4,AB (by rw[hwe];simp)]
  dsimp only
  show _-(i+1)<_-i
  omega
 simp at DF
 rw[show l.drop i=[]from E4 (by omega),P8]at CS;refine Av (AE (AE (AO (AS (AF (Bf (f:=Ce) (l:=acc) av (fun _=>rfl) (fun Jg Oy hav=>?_)))))));refine AC (AH O (AX (AP O O (fun w' hw=>?_))));rw[<-AaW,CS];exact⟨_,O,Jg,_,⟨hJ.trans Oy,hav,O⟩,AD hw⟩
theorem YS(L:List Ne)(NK:NG (L.map Ne.nd))(Hy:Q9 L)(Hb:SB (L.map Ne.nd))(d:Int)(hd:0<=d/\d<L.length):∀f,f<=100002->Zs L d f
 |0,_=>fun _ _ _ _ _ _ _ _ _ _ _ _ _ h=>Ac h (Nat.not_lt_zero _)
 |f+1,h=>ARS L NK Hy Hb d hd f (by omega) (YS L NK Hy Hb d hd f (by omega))
theorem AQT{fs:List Nd}{p:List Ch}(h:(d<1\/(fs.length:Int)<=d)\/(AG fs d.toNat JI).kind≠2\/Fa p=false):CG fs d p=[]:=by unfold CG;rw[AI h]
theorem ALV{fs:List Nd}{p:List Ch}(h:¬((d<1\/(fs.length:Int)<=d)\/(AG fs d.toNat JI).kind≠2\/Fa p=false)):CG fs d p=if 1000<(D1 fs d (p.length+1) [] p 0).2 then[]else(((D1 fs d (p.length+1) [] p 0).1).foldl W3 []).take 200:=by unfold CG;rw[AB h]
theorem AAU(hq:atP out x=q)(h:q=out.length\/AG out q []≠x):W3 out x=out.take q++[x]++out.drop q:=by unfold W3;rw[hq,AI h]
theorem AYr(hq:atP out x=q)(h:¬(q=out.length\/AG out q []≠x)):W3 out x=out:=by unfold W3;rw[hq,AB h]
theorem OJ(h:i<l.length):(l.take (i+1)).foldl W3 []=W3 ((l.take i).foldl W3 []) (AG l i []):=by rw[C6 [] h,ADZ];try rfl
set_option maxHeartbeats 1000000 in
theorem ZM(L:List Ne)(NK:NG (L.map Ne.nd))(Hy:Q9 L)(Hb:SB (L.map Ne.nd))(bf:Nat)(vf:Value)(d:Int)(pv:Value)(p:List Ch)(EU:p.length<=100000)(I:AQ)(F:List HA)(w0 w:World)(k:FsI I bf vf L)(UG:Sl I 2 pv (p.map D5))(BZ:St w0 I F w):Calls prog 27 [.pointer (some ⟨bf,0,none⟩),.int .i64 d,pv].toArray w (ER w fun v I' H'=>Le I I'/\F=H'/\Sl I' 1 v ((CG (L.map Ne.nd) d p).map Ce)):=by
 have UU:=k.len
 have WJ:=Fx L d.toNat
 refine enter func27 O ntmps27 O (BZ.self) (AK O (AF (tq ?_)))
 refine zO 7 O (fun h22=>by
   simp at h22
   refine zq O ((by exact Ai O O (A8 (k.row 0 _ O)))) ?_;refine zq O ((by exact BH O Jt O (Sl.lenOf k.sl (Af _)))) ?_;exact zv O
  ) ?_
 refine zO 9 O (fun Tu=>by
   simp at Tu
   have h9:1<=d/\d<(L.length:Int):=by simpa using Tu
   refine zq O ((by exact Ai O O (A8 (k.row 0 _ O)))) ?_;refine zq O ((by exact Bq O Jt Ij O O (Sl.shape k.sl (Af _)) (by omega))) ?_;refine zq O ((by exact Ai O O (Mu (i:=d.toNat) (j:=0) k.sl (by omega) O))) ?_;exact zv O
  ) ?_
 refine zO 3 O (fun h38=>by
   simp at h38
   refine zp O ((fun w hw=>MR pv p w (by omega) (UG.mono hw.le))) ?_;exact zv O
  ) ?_
 refine Dp (AA O (fun Ab=>?_) (fun Ab=>?_))
 ·have Cz:(d<1\/((L.map Ne.nd).length:Int)<=d)\/(AG (L.map Ne.nd) d.toNat JI).kind≠2\/Fa p=false:=by
   have h9:=Ab
   rw[C4,C4,C4,BC,BC,BC,FJ]at h9;rw[Af,WJ];rcases h9 with (h9|h9)|h9
   ·exact .inl h9
   ·exact .inr (.inl h9)
   exact .inr (.inr h9)
  refine AK O (Ak (AP O O (fun w' hw=>?_)));rw[AQT Cz];exact⟨_,O,I,_,⟨Le.refl _,O,Hn⟩,AD hw⟩
 have h9:=Ab
 rw[Bool.or_eq_false_iff,Bool.or_eq_false_iff,Bool.or_eq_false_iff,CA,CA,CA,Bool.not_eq_false']at h9
 have hpy:=ALV (fs:=(L.map Ne.nd)) (d:=d) (p:=p) (by
  rw[Af,WJ];rintro((h8|h8)|h8|h8)
  ·exact h9.1.1.1 h8
  ·exact h9.1.1.2 h8
  ·exact h9.1.2 h8
  rw[h8]at h9;cases h9.2)
 refine AV (tr (Em ([.int .i64 0]) O (JC [.int .i64 ((0:Nat):Int)] O fun b40=>(AH O (tr (yc O (fun w hw=>YS L NK Hy Hb d (by omega) (p.length+1) (by omega) b40 bf vf [] pv p 0 _ _ _ w k UG (by omega) EU (by decide) (by decide) (Al (row b40 136 [.int .i64 ((0:Nat):Int)]) hw)) ?_))))));rintro v45 J45 _ ⟨Aek,AiF,rfl⟩
 have hrl:=AiF
 have CH:=VH (L.map Ne.nd) d (p.length+1) [] p 0
 obtain⟨r,hr⟩:∃z,z=(D1 (L.map Ne.nd) d (p.length+1) [] p 0):=⟨_,rfl⟩;rw[<-hr]at hrl CH hpy ⊢;refine AH rfl (AF (tr (yq rfl ((by exact Az rfl rfl (by rfl))) ?_)));refine AH rfl (AA rfl (fun An=>?_) (fun An=>?_))
 ·simp at An
  rw[AI (by omega)]at hpy;refine AK O (Ak (AP O O (fun w' hw=>?_)));rw[hpy];exact⟨_,O,J45,_,⟨Aek,O,Hn⟩,AD hw⟩
 simp at An
 rw[AB (by omega)]at hpy
 have hr2:r.1.length<=300000:=by omega
 refine AV (AK O (AF (AK O (AJ (EB (ι:=Nat×Value×List (List UInt8)×AQ) [0,1,2,6,38,7,8,50] (fun zz=>zz.1<=r.1.length/\Le J45 zz.2.2.2/\Sl zz.2.2.2 1 zz.2.1 (zz.2.2.1.map Ce)/\zz.2.2.1=(r.1.take zz.1).foldl W3 []/\zz.2.2.1.length<=zz.1) (fun zz=>r.1.length-zz.1) (fun zz=>[(10,.int .i64 (zz.1:Int)),(9,zz.2.1)]) (fun zz=>zz.2.2.2) (fun zz=>F) (0,.slice none 0 0,[],J45) O ?_ ?_)))))
 ·dsimp only;exact⟨Aw _,Le.refl _,Hn,O,A5 _⟩
 rintro⟨i,ov,out,J⟩ ⟨hi,hJ,NE,ABP,hol⟩;dsimp only at *
 have hrl:=hrl.mono hJ
 refine AF (tr ?_);refine yq O ((by exact BH O BT O (Sl.lenOf hrl (Af _)))) ?_;refine AH O (AA O (fun A6=>?_) (fun A6=>?_))
 ·simp at A6
  have DK:i<r.1.length:=by omega
  refine AV (AF (AJ (AK O (AF (AJ (EB (ι:=Nat) [10,9,0,1,2,6,38,7,8,50,54] (fun zz=>zz<=out.length/\∀k,k<zz->Op.bytesLess (AG out k []) (AG r.1 i [])=true) (fun zz=>out.length-zz) (fun zz=>[(11,.int .i64 (zz:Int))]) (fun zz=>J) (fun zz=>F) 0 O ?_ ?_))))))
  ·exact⟨Aw _,fun k h=>Ac h (Nat.not_lt_zero _)⟩
  rintro q ⟨hq2,Eg⟩;dsimp only at *;refine AF (AF (Bd mo (by kernel_rfl) (fun _ _ _ _ _ h=>h) ?_));refine zq rfl ((by exact BH rfl BT rfl (Sl.lenOf NE (Af _)))) ?_
  refine zA 9 O (fun h71=>by
    simp at h71
    have hql:q<out.length:=by omega
    refine zq O ((by exact AN O BT Co O O (Sl.shape NE (Af _)) (by omega))) ?_;refine zq O ((by exact Ai O O (Et (i:=q) NE (by omega)))) ?_;refine zq O ((by exact AN O BT Co O O (Sl.shape hrl (Af _)) (by omega))) ?_;refine zq O ((by exact Ai O O (Et (i:=i) hrl (by omega)))) ?_;refine zq O (Rz O O O) ?_;exact zv O
   ) ?_
  refine Dp (AA O (fun BJ=>?_) (fun BJ=>?_))
  ·rw[Ay]at BJ
   have hql:q<out.length:=by have:=BM BJ.1;omega
   have hbl:=BJ.2
   refine AV (AJ (AC (yq O (AM O O O (by omega)) ?_)));refine AU O (AL (DJ (q+1) ?_ ?_))
   ·refine⟨by omega,fun k hk=>?_⟩;rcases Nat.lt_succ_iff_lt_or_eq.1 hk with h|rfl
    ·exact Eg k h
    exact hbl
   omega
  have ZB:atP out (AG r.1 i [])=q:=AIw (d:=[]) hq2 Eg (fun hql=>by have h9:=BJ;rw[BK (show(q:Int)<(out.length:Int) by omega),Bool.true_and]at h9;exact h9)
  refine Av (AE (AE (AO (AS (AF (Bd mo (by kernel_rfl) (fun _ _ _ _ _ h=>h) ?_))))));refine zq O ((by exact BH O BT O (Sl.lenOf NE (Af _)))) ?_
  refine zO 9 O (fun h88=>by
    simp at h88
    have hql:q<out.length:=by omega
    refine zq O ((by exact AN O BT Co O O (Sl.shape NE (Af _)) (by omega))) ?_;refine zq O ((by exact Ai O O (Et (i:=q) NE (by omega)))) ?_;refine zq O ((by exact AN O BT Co O O (Sl.shape hrl (Af _)) (by omega))) ?_;refine zq O ((by exact Ai O O (Et (i:=i) hrl (by omega)))) ?_;refine zq O (Bs O O O) ?_;exact zv O
   ) ?_
  refine Dp (AA O (fun Bj=>?_) (fun Bj=>?_))
  ·have KM:q=out.length\/AG out q []≠(AG r.1 i []):=by
    have h9:=Bj
    rw[C4,BC,BC]at h9;rcases h9 with h9|h9
    ·exact .inl (by omega)
    exact .inr h9
   refine Bo [0,4,9,10,14] [] [] mo (by kernel_rfl) (fun _ _ _ _ _ h=>h) (xr [1,2] O O (xf 3 O O (fun _=>(by exact IK O BT Co O O (Sl.capOf NE (Af _)) (by omega))) ?_));refine xr [5,6] O O ?_;refine xf 7 O O (fun _=>(by exact AN O BT Co O O (Sl.shape hrl (Af _)) (by omega))) ?_;refine x0 8 O (Le.refl _) O (fun _ hI=>(by exact Ai O O (Et (i:=i) (hrl.mono hI) (by omega)))) ?_;refine xr [11,12] O O (xf 13 O O (fun _=>(by exact CW O BT Co O O (Sl.lenOf NE (Af _)) (by omega))) ?_);refine Gp 0 9 (by kernel_rfl) (by kernel_rfl) ?_ ?_
   ·refine Oq 0 O O (Le.refl _) O O O (Bn O BT Co) ?_;rintro v89 _ _ ⟨⟨b89,AjD⟩,rfl,rfl⟩;refine xk (Gp 4 9 (by kernel_rfl) (by kernel_rfl) ?_ ?_)
    ·refine Oq 4 O O (Le.refl _) O O O (BG (f:=Ce) (l:=[]) (ls:=out.take q) O BT Co O O O O (V7 NE hq2) O (fun _=>rfl) B1 (by(try simp only[maxLen,BL,Bb]);omega) (by(try simp only[BL,Bb]);omega)) ?_;rintro v93 _ _ ⟨rfl,rfl⟩;refine xk (xe 9 rfl rfl (BD rfl BT Co rfl rfl rfl (by rfl) rfl) ?_);rintro _ _ _ ⟨b98,rfl,rfl,rfl⟩;refine xk ?_;refine xe 10 rfl rfl (B8 (f:=Ce) (l:=out.take q) (c:=(AG r.1 i [])) rfl BT Co rfl rfl rfl rfl rfl rfl rfl (B1 _) (by(try simp only[maxLen,BL]);omega) (by(try simp only[BL]);omega)) ?_;rintro v99 _ _ ⟨rfl,rfl⟩;refine xk ?_;refine xe 14 rfl rfl (BG (f:=Ce) (l:=out.take q++[(AG r.1 i [])]) (ls:=out.drop q) rfl BT Co rfl rfl rfl rfl (Sl.dropM NE rfl hq2) rfl (fun _=>rfl) B1 (by(try simp only[maxLen,Bh,BL,BA,CD,Bb]);omega) (by(try simp only[Bh,BL,BA,CD,Bb]);omega)) ?_;rintro v103 _ _ ⟨rfl,rfl⟩;refine xk (xr [15] rfl rfl (CX (AL (AS ?_))))
     first |refine Bf (f:=Ce) (l:=out.take q++[(AG r.1 i [])]++out.drop q) v103 (fun _=>rfl) (fun Jg Oy hog=>?_)|skip
     refine AC (yq O (AM O O O (by omega)) ?_);refine AU O (DJ ((i+1,v103,out.take q++[(AG r.1 i [])]++out.drop q,Jg)) ?_ ?_)
     ·dsimp only;refine⟨by omega,hJ.trans Oy,hog,?_,?_⟩
      ·rw[OJ DK,<-ABP,AAU ZB KM]
      (try simp only[Bh,BL,BA,CD,Bb]);omega
     dsimp only
     show r.1.length-(i+1)<r.1.length-i
     omega
    refine Oq 9 O O (Le.refl _) O O O (BD O BT Co O O O (by rfl) O) ?_;rintro _ _ _ ⟨b98,rfl,rfl,rfl⟩;refine xk ?_;refine xe 4 rfl rfl (BG (f:=Ce) (l:=[]) (ls:=out.take q) rfl BT Co rfl rfl rfl rfl (V7 NE hq2) rfl (fun _=>rfl) B1 (by(try simp only[maxLen,BL,Bb]);omega) (by(try simp only[BL,Bb]);omega)) ?_;rintro v93 _ _ ⟨rfl,rfl⟩;refine xk ?_;refine xe 10 rfl rfl (B8 (f:=Ce) (l:=out.take q) (c:=(AG r.1 i [])) rfl BT Co rfl rfl rfl rfl rfl rfl rfl (B1 _) (by(try simp only[maxLen,BL]);omega) (by(try simp only[BL]);omega)) ?_;rintro v99 _ _ ⟨rfl,rfl⟩;refine xk ?_;refine xe 14 rfl rfl (BG (f:=Ce) (l:=out.take q++[(AG r.1 i [])]) (ls:=out.drop q) rfl BT Co rfl rfl rfl rfl (Sl.dropM NE rfl hq2) rfl (fun _=>rfl) B1 (by(try simp only[maxLen,Bh,BL,BA,CD,Bb]);omega) (by(try simp only[Bh,BL,BA,CD,Bb]);omega)) ?_;rintro v103 _ _ ⟨rfl,rfl⟩;refine xk (xr [15] rfl rfl (CX (AL (AS ?_))))
    first |refine Bf (f:=Ce) (l:=out.take q++[(AG r.1 i [])]++out.drop q) v103 (fun _=>rfl) (fun Jg Oy hog=>?_)|skip
    refine AC (yq O (AM O O O (by omega)) ?_);refine AU O (DJ ((i+1,v103,out.take q++[(AG r.1 i [])]++out.drop q,Jg)) ?_ ?_)
    ·dsimp only;refine⟨by omega,hJ.trans Oy,hog,?_,?_⟩
     ·rw[OJ DK,<-ABP,AAU ZB KM]
     (try simp only[Bh,BL,BA,CD,Bb]);omega
    dsimp only
    show r.1.length-(i+1)<r.1.length-i
    omega
   refine Oq 9 O O (Le.refl _) O O O (BD O BT Co O O O (by rfl) O) ?_;rintro _ _ _ ⟨b98,rfl,rfl,rfl⟩;refine xk (xe 0 rfl rfl (Bn rfl BT Co) ?_);rintro v89 _ _ ⟨⟨b89,AjD⟩,rfl,rfl⟩;refine xk ?_;refine xe 4 rfl rfl (BG (f:=Ce) (l:=[]) (ls:=out.take q) rfl BT Co rfl rfl rfl rfl (V7 NE hq2) rfl (fun _=>rfl) B1 (by(try simp only[maxLen,BL,Bb]);omega) (by(try simp only[BL,Bb]);omega)) ?_;rintro v93 _ _ ⟨rfl,rfl⟩;refine xk ?_;refine xe 10 rfl rfl (B8 (f:=Ce) (l:=out.take q) (c:=(AG r.1 i [])) rfl BT Co rfl rfl rfl rfl rfl rfl rfl (B1 _) (by(try simp only[maxLen,BL]);omega) (by(try simp only[BL]);omega)) ?_;rintro v99 _ _ ⟨rfl,rfl⟩;refine xk ?_;refine xe 14 rfl rfl (BG (f:=Ce) (l:=out.take q++[(AG r.1 i [])]) (ls:=out.drop q) rfl BT Co rfl rfl rfl rfl (Sl.dropM NE rfl hq2) rfl (fun _=>rfl) B1 (by(try simp only[maxLen,Bh,BL,BA,CD,Bb]);omega) (by(try simp only[Bh,BL,BA,CD,Bb]);omega)) ?_;rintro v103 _ _ ⟨rfl,rfl⟩;refine xk (xr [15] rfl rfl (CX (AL (AS ?_))))
   first |refine Bf (f:=Ce) (l:=out.take q++[(AG r.1 i [])]++out.drop q) v103 (fun _=>rfl) (fun Jg Oy hog=>?_)|skip
   refine AC (yq O (AM O O O (by omega)) ?_);refine AU O (DJ ((i+1,v103,out.take q++[(AG r.1 i [])]++out.drop q,Jg)) ?_ ?_)
   ·dsimp only;refine⟨by omega,hJ.trans Oy,hog,?_,?_⟩
    ·rw[OJ DK,<-ABP,AAU ZB KM]
    (try simp only[Bh,BL,BA,CD,Bb]);omega
   dsimp only
   show r.1.length-(i+1)<r.1.length-i
   omega
  have KM:¬(q=out.length\/AG out q []≠(AG r.1 i [])):=by
   have h9:=Bj
   rw[Bool.or_eq_false_iff,CA,CA]at h9;rintro(h8|h8)
   ·exact h9.1 (by omega)
   exact h9.2 h8
  refine AY (AL (AS ?_))
  first |refine Bf (f:=Ce) (l:=out.take q++[(AG r.1 i [])]++out.drop q) v103 (fun _=>rfl) (fun Jg Oy hog=>?_)|skip
  refine AC (yq O (AM O O O (by omega)) ?_);refine AU O (DJ ((i+1,ov,out,J)) ?_ ?_)
  ·dsimp only;refine⟨by omega,hJ,NE,?_,?_⟩
   ·rw[OJ DK,<-ABP,AYr ZB KM]
   (try simp only[Bh,BL,BA,CD,Bb]);omega
  dsimp only
  show r.1.length-(i+1)<r.1.length-i
  omega
 simp at A6
 rw[LG (by omega)]at ABP;refine Av (AE (AE (AO (AS (EZ (ι:=Value) [10,0,1,2,6,38,7,8,50,54] (fun zz=>Sl J 1 zz ((out.take 200).map Ce)) (fun zz=>[(9,zz)]) (fun zz=>J) (fun zz=>F) O ?_ ?_)))))
 ·refine tr ?_;refine yq O ((by exact BH O BT O (Sl.lenOf NE (Af _)))) ?_;refine AH O (AA O (fun B4=>?_) (fun B4=>?_))
  ·simp at B4
   refine AC (yq O ((by exact IK O BT Co O O (Sl.capOf NE (Af _)) (by omega))) ?_);refine AU O (CB (F7 1 0 200 ov) ?_)
   exact V7 NE (by omega)
  simp at B4
  refine AY (CB (ov) ?_)
  rw[LG (by omega)];exact NE
 rintro fv hfv;refine AK rfl (AX (AP rfl rfl (fun w' hw=>?_)));rw[hpy,<-ABP];exact⟨_,rfl,J,_,⟨Aek.trans hJ,rfl,hfv⟩,AD hw⟩
end Go.Tri
