/-
 What stands in the place of a parameter.
-/
import Derived.Test.YtbndcpjklngfhaaGreatDoorEC5
import Derived.Test.YtbndcpjklngfhaaGreatDoorEC9
import Derived.Test.YtbndcpjklngfhaaGreatDoorPExV
import Derived.Test.YtbndcpjklngfhaaGreatDoorEI2
import Derived.Test.YtbndcpjklngfhaaGreatDoorPExW
namespace Go.Tri
open Go.Proofs.Tryz
open Go.Proofs Go.RowKit
set_option maxRecDepth 10000
variable {e k i:Nat} {m t op:List UInt8} {wi q:Bool}
theorem M4:LU prog 33 "Param" 260:=OH (by kernel_rfl) ABQ
theorem AEG:LU prog 33 "Set" 262:=OH (by kernel_rfl) ABQ
theorem AAb:LU prog 33 "Command" 259:=OH (by kernel_rfl) ABQ
theorem S6:LU prog 33 "Args" 258:=OH (by kernel_rfl) ABQ
theorem ALk:LU prog 33 "Vars" 263:=OH (by kernel_rfl) ABQ
theorem AGh:LU prog 33 "Paths" 261:=OH (by kernel_rfl) ABQ
def XR.is(r:XR)(e:Nat)(m:List UInt8)(L:List Px)(h:Hx):Prop:=match r with
 | .ok L' h'=>e=0/\m=[]/\L=L'/\h=h'
 | .bad e' m' h'=>e=e'/\e≠0/\m=m'/\L=[]/\h=h'
theorem XR.is.ok{r:XR}{L:List Px}{h:Hx}(k:XR.is r e m L h)(he:e=0):m=[]/\r=.ok L h:=by
 cases r with
 |ok L' h'=>obtain⟨_,rfl,rfl,rfl⟩:=k;exact⟨rfl,rfl⟩
 |bad e' m' h'=>exact Ac he k.2.1
theorem XR.is.bad{r:XR}{L:List Px}{h:Hx}(k:XR.is r e m L h)(he:e≠0):L=[]/\r=.bad e m h:=by
 cases r with
 |ok L' h'=>exact Ac k.1 he
 |bad e' m' h'=>obtain⟨rfl,_,rfl,rfl,rfl⟩:=k;exact⟨rfl,rfl⟩
def ADy(mb:Nat)(p:HP)(F:List HA)(r:XR)(v0:Value)(I':AQ)(H':List HA):Prop:= ∃(e:Nat) (m:List UInt8) (L:List Px) (h':Hx) (lv av:Value),H'=EO mb m e p lv av h' F/\Ca I' p lv h'/\Wt I' v0 L/\XR.is r e m L h'
def Small(r:XR):Prop:=∀L h',r=.ok L h'->L.length<=1000000/\(BN L).length<=900000000
def AIa(x:PE)(I0:AQ)(mb:Nat)(p:HP)(h:Hx)(r:XR):Prop:=∀(I:AQ) (lv av:Value) (F:List HA) (w0 w:World),Le I0 I->Fr I->Ca I p lv h->St w0 I (EO mb [] 0 p lv av h F) w->Calls prog 80 [.pointer (some ⟨mb,0,none⟩),.agg (Aa x).toArray].toArray w (ER w fun v I' H'=>Le I I'/\ADy mb p F r v I' H')
def AbR(x:PE×List UInt8)(I0:AQ)(mb:Nat)(p:HP)(h:Hx)(r:XR):Prop:=∀(I:AQ) (lv av:Value) (F:List HA) (w0 w:World),Le I0 I->Fr I->Ca I p lv h->St w0 I (EO mb [] 0 p lv av h F) w->Calls prog 114 [.pointer (some ⟨mb,0,none⟩),.agg (Aa x.1).toArray,Au x.2].toArray w (ER w fun v I' H'=>Le I I'/\ADy mb p F r v I' H')
def AWR(x:PE)(I0:AQ)(mb:Nat)(p:HP)(h:Hx)(r:XR):Prop:=∀(I:AQ) (lv av:Value) (F:List HA) (w0 w:World),Le I0 I->Fr I->Ca I p lv h->St w0 I (EO mb [] 0 p lv av h F) w->Calls prog 81 [.pointer (some ⟨mb,0,none⟩),.agg (Aa x).toArray].toArray w (ER w fun v I' H'=>Le I I'/\ADy mb p F r v I' H')
def APG(x:PE×Bool)(I0:AQ)(mb:Nat)(p:HP)(h:Hx)(r:XR):Prop:=∀(I:AQ) (lv av:Value) (F:List HA) (w0 w:World),Le I0 I->Fr I->Ca I p lv h->St w0 I (EO mb [] 0 p lv av h F) w->Calls prog 61 [.pointer (some ⟨mb,0,none⟩),.agg (Aa x.1).toArray,.bool x.2].toArray w (ER w fun v I' H'=>Le I I'/\ADy mb p F r v I' H')
def Mi(x:Value×Bool)(I0:AQ)(mb:Nat)(p:HP)(h:Hx)(r:XR):Prop:=∀(I:AQ) (lv av:Value) (F:List HA) (w0 w:World),Le I0 I->Fr I->Ca I p lv h->St w0 I (EO mb [] 0 p lv av h F) w->Calls prog 35 [.pointer (some ⟨mb,0,none⟩),x.1,.bool x.2].toArray w (ER w fun v I' H'=>Le I I'/\ADy mb p F r v I' H')
theorem Yb(l:List UInt8):l.take (min (1:Int) (l.length:Int)).toNat=l.take 1:=by
 cases l with
 |nil=>rfl
 |cons a l=>rw[Int.min_eq_left (by simp;omega)];try rfl
theorem J7{I:AQ}:Wt I As []:=E3 (fun _ h=>by cases h)
theorem Lv(q:Bool)(l:List (List UInt8))(i:Nat):(Jd q l i).length<=2 * i:=by
 induction i with
 |zero=>exact A5 _
 |succ i ih=>
  rw[MC,Bh]
  have:(OB q l i).length<=2:=by unfold OB B0;split<;>simp
  omega
theorem AFR(x:PE)(Lg:JS x.wv)(mb:Nat)(p:HP)(h:Hx)(hB:HB h)(I:AQ)(lv av:Value)(F:List HA)(w0 w:World)(hi:Ca I p lv h)(BZ:St w0 I (EO mb [] 0 p lv av h F) w):Calls prog 107 [.pointer (some ⟨mb,0,none⟩),.agg (Aa x).toArray].toArray w (ER w fun v I' H'=>Le I I'/\H'=EO mb [] 0 p lv av h F/\Wt I' v (KJ h x.text x.q)):=by
 have hal:=hi.an
 refine enter func107 O ntmps107 O (BZ.self) (tr (JC _ O fun b3=>?_));refine AH O (tr (yq O ((by exact Az O O (by rfl))) ?_));refine ye O (K9 O O O S6 func258 (by kernel_rfl) O (fun w hw=>KR p lv av h I hi _ _ w (GU hw))) ?_;rintro v16 J16 _ ⟨Ok,rfl,C3⟩;refine AH rfl (AF (tq (zq rfl ((by exact Az rfl rfl (by rfl))) ?_)));refine zq rfl (AR rfl rfl rfl) ?_
 refine zA 2 O (fun UQ=>by
   simp at UQ
   refine zq O ((by exact Az O O (by rfl))) ?_;exact zv O
  ) ?_
 refine Dp (AA O (fun Ab=>?_) (fun Ab=>?_))
 ·rw[Ay,BC]at Ab
  have hr:KJ h x.text x.q=B0 (Lib.join h.args (QQ h)) true:=by unfold KJ;rw[AI Ab]
  refine AK O (EZ (ι:=List UInt8) [0,1,3,4,5,23] (fun zz=>zz=QQ h) (fun zz=>[(6,Au zz)]) (fun zz=>J16) (fun zz=>(row b3 147 (Aa x)::EO mb [] 0 p lv av h F)) O ?_ ?_)
  ·refine tr (yq O ((by exact Az O O (by rfl))) ?_);refine yq O (OY O O O M4 func260 (by kernel_rfl) O ((fun w hw=>Hl p lv av h Pz w (by decide) (RO (hi.mono Ok) hw)))) ?_;refine AH O (AK O (AA O (fun An=>?_) (fun An=>?_)))
   ·refine AC (yq O (AW O BX O) (yq O (AIM O O O) (yq O (Ba O BX O O (by omega)) ?_)));refine AU O (CB ((FH h Pz).1.take (min (1:Int) ((FH h Pz).1.length:Int)).toNat) ?_)
    unfold QQ;rw[AI An,Yb]
   refine AY (CB ([32]) ?_)
   unfold QQ;rw[AB (by rw[An];simp)]
  rintro sep NI;dsimp only at *;refine tr (yp rfl ((fun w hw=>Uf v16 h.args sep w (by omega) (C3.mono hw.le) (by rw[NI];have:=hB.aj (QQ h) (Qq h);omega))) ?_);refine yc rfl (fun w hw=>DV (Lib.join h.args sep) true _ _ _ w hw) ?_;rintro v41 J41 _ ⟨ATO,rfl,Ey⟩;refine AH rfl (Ak (AP rfl rfl (fun w' hw=>?_)));rw[hr,<-NI];exact⟨_,rfl,J41,_,⟨Ok.trans ATO,rfl,Ey⟩,AD hw⟩
 have hr:KJ h x.text x.q=Jd x.q h.args h.args.length:=by unfold KJ;rw[AB (fun h9=>by rw[BK h9.1,h9.2]at Ab;cases Ab)]
 refine AV (AK O (AF (tr ?_)));refine yq O ((by exact BH O BT O (Sl.lenOf C3 (Af _)))) ?_;refine AH O (AJ (EB (ι:=Nat×Value×AQ) [0,1,3,4,5,23,42,43] (fun zz=>zz.1<=h.args.length/\Le J16 zz.2.2) (fun zz=>h.args.length-zz.1) (fun zz=>[(44,.int .i64 (zz.1:Int)),(9,zz.2.1)]) (fun zz=>zz.2.2) (fun zz=>(Ap 105 4 Hz zz.2.1 (Jd x.q h.args zz.1)::row b3 147 (Aa x)::EO mb [] 0 p lv av h F)) (0,.slice none 0 0,J16) O ?_ ?_ (hh:=(fun _ k=>by dsimp only;rw[show Jd x.q h.args 0=[]from O];exact AD (CI 105 4 Hz k)))))
 ·dsimp only;exact⟨Aw _,Le.refl _⟩
 rintro⟨i,vo,J⟩ ⟨AYV,hJ⟩;dsimp only at *;refine AK rfl (AF (AA rfl (fun A6=>?_) (fun A6=>?_)))
 ·simp at A6
  have DK:i<h.args.length:=by omega
  refine AV (AF (AJ (tr ?_)));refine yq O ((by exact AN O BT Co O O (Sl.shape C3 (Af _)) (by omega))) ?_;refine yq O ((by exact Ai O O (Et (i:=i) (C3.mono hJ) (by omega)))) ?_;refine AH O (EZ (ι:=Value×List Px) [44,0,1,3,4,5,23,42,43,45,10,11] (fun zz=>zz.2=Jd x.q h.args i++(if 0<i then[brk]else[])) (fun zz=>[(9,zz.1)]) (fun zz=>J) (fun zz=>(Ap 105 4 Hz zz.1 zz.2::row b3 147 (Aa x)::EO mb [] 0 p lv av h F)) O ?_ ?_)
  ·refine AK O (AA O (fun BJ=>?_) (fun BJ=>?_))
   ·simp at BJ
    refine AC (Em (Hz brk) O (NF _ O (fun b53=>?_) (by rfl)));refine V4 (f:=Hz) brk O (fun v54=>?_) (HY _) (by have:=Lv x.q h.args i;simp only[maxLen];omega) (by have:=Lv x.q h.args i;omega);refine AU O (CB ((v54,Jd x.q h.args i++[brk])) ?_)
    dsimp only;rw[AI (by omega)]
   simp at BJ
   refine AY (CB ((vo,Jd x.q h.args i)) ?_)
   dsimp only;rw[AB (by omega),Nj]
  rintro⟨vo1,acc1⟩ ANo;dsimp only at *
  have AhY:=Lv x.q h.args i
  have Ahr:acc1.length<=2 * i+1:=by rw[ANo,Bh];split<;>simp<;>omega
  refine AC (yq O ((by exact Az O O (by rfl))) ?_);refine yc O (fun w hw=>DV (AG h.args i []) x.q _ _ _ w hw) ?_;rintro v59 J59 _ ⟨NJ,rfl,Ey⟩;refine ye rfl (BG (f:=Hz) (l:=acc1) (ls:=B0 (AG h.args i []) x.q) rfl AAk Qy rfl rfl rfl rfl (Ey) rfl (fun _=>rfl) HY (by(try simp only[maxLen,B0,KZ]);omega) (by(try simp only[B0,KZ]);omega)) ?_;rintro v60 _ _ ⟨rfl,rfl⟩;refine AU rfl (AL (AS (AC (yq rfl (AM rfl rfl rfl (by omega)) ?_))));refine AU rfl (DJ ((i+1,v60,J59)) ?_ ?_ (hh:=(fun _ h=>by dsimp only;rw[MC,OB,<-Ka,<-ANo];exact AD h)))
  ·dsimp only;exact⟨(show i+1<=_ by omega),hJ.trans NJ⟩
  dsimp only
  show h.args.length-(i+1)<h.args.length-i
  omega
 simp at A6
 have DK:i=h.args.length:=by omega
 rw[DK];refine Av (AE (AE (AO (AS (AF (Bf (f:=Hz) (l:=Jd x.q h.args h.args.length) vo (fun _=>rfl) (fun Jf IL Rm=>?_)))))));refine AC (AH O (AX (AP O O (fun w' hw=>?_))));rw[hr];exact⟨_,O,Jf,_,⟨Ok.trans (hJ.trans IL),O,Rm⟩,AD hw⟩
theorem AcY{h:Hx}(hs:Dl op [58]=true):((FI h t).2&&decide ((FI h t).1≠[]))=isX h t op:=by unfold isX;rw[hs];simp
theorem AdA{h:Hx}(hs:Dl op [58]=false):(FI h t).2=isX h t op:=by unfold isX;rw[hs];simp
theorem Ry{h:Hx}(hm:JN t=true):FI h t=(Lib.join h.args [32],decide (h.args≠[])):=by unfold FI;rw[AI hm]
theorem Ut{h:Hx}(hm:JN t=false):FI h t=FH h t:=by unfold FI;rw[AB (by rw[hm];simp)]
theorem X7{l:List (List UInt8)}:decide ((0:Int)<(l.length:Int))=decide (l≠[]):=by
 cases l<;>simp
theorem ALw(x:PE)(Lg:JS x.wv)(op:List UInt8)(I0:AQ)(mb:Nat)(p:HP)(h:Hx)(r0:XR)(hT:Mi (x.wv,true) I0 mb p h r0)(hS:Small r0)(hxt:x.text.length<=1000000000):AbR (x,op) I0 mb p h (RT x.text op x.q r0):=by
 intro I lv av F w0 w P2 hG hi BZ;refine enter func114 O ntmps114 O (BZ.self) (tr (JC _ O fun b4=>?_));refine AH O (tr (DE O ?_));refine yc O (fun w hw=>hT I lv av (row b4 147 (Aa x)::F) _ w P2 hG hi (HT hw)) ?_;rintro v13 J13 _ ⟨En,e,m,L,h2,lv2,av2,rfl,EG,Ey,hr⟩;refine AH rfl (AF (tr (DE rfl ?_)));refine AH rfl (AA rfl (fun Ab=>?_) (fun Ab=>?_))
 ·simp at Ab
  have he:e≠0:=by omega
  obtain⟨rfl,JL⟩:=hr.bad he;subst JL;refine AK rfl (Ak (AP rfl rfl (fun w' hw=>?_)));exact⟨_,rfl,J13,EO mb m e p lv2 av2 h2 F,⟨En,e,m,[],h2,lv2,av2,rfl,EG,J7,⟨rfl,he,rfl,rfl,rfl⟩⟩,AD hw⟩
 simp at Ab
 have he:e=0:=by omega
 subst he;obtain⟨rfl,JL⟩:=hr.ok rfl;subst JL;obtain⟨hS1,hS2⟩:=hS L h2 rfl;refine AV (AF (AK rfl (AJ (tr (yq rfl (AR rfl rfl rfl) (AH rfl (AA rfl (fun An=>?_) (fun An=>?_))))))))
 ·have LS:=BM An
  refine AF (tr (DE O ?_));refine yp O ((fun w _=>Lt x.text w (by omega))) ?_;refine AH O (AA O (fun A6=>?_) (fun A6=>?_))
  ·have Hb:CF x.text=false:=by rw[FJ]at A6;exact A6
   refine tr (yc O (fun w hw=>GP mb p [] (22) _ _ _ w (Al (row mb 101 (Xk p [] 0)) hw)) ?_);rintro _ _ _ ⟨rfl,rfl,rfl⟩;refine AH rfl (Ak (AP rfl rfl (fun w' hw=>?_)));exact⟨_,rfl,J13,EO mb [] 22 p lv2 av2 h2 F,⟨En,22,[],[],h2,lv2,av2,rfl,EG,J7,by rw[X1 LS Hb];exact⟨rfl,by decide,rfl,rfl,rfl⟩⟩,AD hw⟩
  have Hb:CF x.text=true:=by rw[Bool.not_eq_false']at A6;exact A6
  refine AV (tr (yp O ((fun w hw=>P1 v13 L w (by omega) (by omega) (Ey.mono hw.le))) ?_));refine AH O (AF (AF (Bo [7] [] [row b4 147 (Aa x),row mb 101 (Xk p [] 0)] mo (by kernel_rfl) (fun _ _ _ _ _ h=>h) (xr [0,1,2] O O (xq 3 O O (Az O O (by rfl)) ?_)))));refine xr [4] O O (xq 5 O O (Az O O (by rfl)) ?_);refine xr [6] O O (xe 7 O O (K9 O O O AEG func262 (by kernel_rfl) O (fun w hw=>O6 p lv2 av2 h2 x.text (BN L) hxt _ EG _ _ w (GU hw))) ?_);rintro _ J37 _ ⟨AYg,rfl,lv3,rfl,N2⟩;refine⟨AYg,.inr Fs.sub,?_⟩;refine xr [8] rfl rfl (CX (AS (AK rfl (AA rfl (fun BJ=>?_) (fun BJ=>?_)))))
  ·simp at BJ
   have XD:(Cm h2.vars x.text (BN L)).1≠0:=by omega
   rw[Hx.put_keep XD]at N2;refine tr (yc O (fun w hw=>GP mb p [] ((Cm h2.vars x.text (BN L)).1) _ _ _ w (Al (row mb 101 (Xk p [] 0)) hw)) ?_);rintro _ _ _ ⟨rfl,rfl,rfl⟩;refine AH rfl (Ak (AP rfl rfl (fun w' hw=>?_)));exact⟨_,rfl,J37,EO mb [] (Cm h2.vars x.text (BN L)).1 p lv3 av2 h2 F,⟨En.trans AYg,(Cm h2.vars x.text (BN L)).1,[],[],h2,lv3,av2,rfl,N2,J7,by rw[ADr LS Hb XD];exact⟨rfl,XD,rfl,rfl,rfl⟩⟩,AD hw⟩
  simp at BJ
  have XD:(Cm h2.vars x.text (BN L)).1=0:=by omega
  refine AV (tr (DE O ?_));refine yc O (fun w hw=>DV (BN L) x.q _ _ _ w hw) ?_;rintro v46 J46 _ ⟨AMz,rfl,Acg⟩;refine AH rfl (Ak (AP rfl rfl (fun w' hw=>?_)));exact⟨_,rfl,J46,EO mb [] 0 p lv3 av2 (h2.put (Cm h2.vars x.text (BN L)).2) F,⟨En.trans (AYg.trans AMz),0,[],_,(h2.put (Cm h2.vars x.text (BN L)).2),lv3,av2,rfl,N2.mono AMz,Acg,by rw[ADz LS Hb XD];exact⟨rfl,rfl,rfl,rfl⟩⟩,AD hw⟩
 have LS:=BW An
 refine tr (yq O (AR O O O) (AH O (AA O (fun Bj=>?_) (fun Bj=>?_))))
 ·have AAW:=BM Bj
  refine tr (yp O ((fun w hw=>P1 v13 L w (by omega) (by omega) (Ey.mono hw.le))) ?_);refine Eu (Xk p (BN L) 0) O ?_ (by exact⟨O,O⟩);refine DL (yc O (fun w hw=>GP mb p (BN L) (62) _ _ _ w (Al (row mb 101 (Xk p (BN L) 0)) hw)) ?_);rintro _ _ _ ⟨rfl,rfl,rfl⟩;refine AH rfl (Ak (AP rfl rfl (fun w' hw=>?_)));exact⟨_,rfl,J13,EO mb (BN L) 62 p lv2 av2 h2 F,⟨En,62,(BN L),[],h2,lv2,av2,rfl,EG,J7,by rw[ACA AAW];exact⟨rfl,by decide,rfl,rfl,rfl⟩⟩,AD hw⟩
 have AAW:=BW Bj
 refine AY (AL (AS (AF (tr ?_))));refine yq O ((by exact BH O AAk O (Sl.lenOf Ey (Af _)))) ?_;refine AH O (AA O (fun B4=>?_) (fun B4=>?_))
 ·simp at B4
  have hL0:L=[]:=by first |exact B4|exact List.eq_nil_of_length_eq_zero (by omega)
  refine tr (DE O ?_);refine yc O (fun w hw=>DV [] x.q _ _ _ w hw) ?_;rintro v61 J61 _ ⟨ARw,rfl,Abg⟩;refine AH rfl (Ak (AP rfl rfl (fun w' hw=>?_)));exact⟨_,rfl,J61,EO mb [] 0 p lv2 av2 h2 F,⟨En.trans ARw,0,[],_,h2,lv2,av2,rfl,EG.mono ARw,Abg,by rw[ADc LS AAW hL0];exact⟨rfl,rfl,rfl,rfl⟩⟩,AD hw⟩
 simp at B4
 have hL0:L≠[]:=fun h9=>by subst h9;simp at B4
 refine AV (AK O (AX (AP O O (fun w' hw=>?_))));exact⟨_,O,J13,EO mb [] 0 p lv2 av2 h2 F,⟨En,0,[],L,h2,lv2,av2,O,EG,Ey,by rw[AMs LS AAW hL0];exact⟨O,O,O,O⟩⟩,AD hw⟩
theorem AEJ(x:PE)(Lg:JS x.wv)(wi:Bool)(I0:AQ)(mb:Nat)(p:HP)(h:Hx)(hB:HB h)(hF:Mi (x.wv,false) I0 mb p h (CE false h [] x.word))(hSF:Small (CE false h [] x.word))(hT:Mi (x.wv,true) I0 mb p h (CE true h [] x.word))(hST:Small (CE true h [] x.word))(hxt:x.text.length<=1000000000):AIa x I0 mb p h (CZ wi h (.mk 2 x.text x.op x.word x.q)):=by
 intro I lv av F w0 w P2 hG hi BZ
 have hal:=hi.an
 have Wl:=UM hB x.text
 have hlx:=ZX hB x.text
 refine enter func80 O ntmps80 O (BZ.self) (tr (JC _ O fun b3=>?_));refine AH O (AF (tq (EA O ?_)));refine zp O ((fun w _=>Ss x.text w)) ?_
 refine zA 3 O (fun h18=>by
   refine EA O ?_;refine zq O (AR O O O) ?_;exact zv O
  ) ?_
 refine Dp (AA O (fun Ab=>?_) (fun Ab=>?_))
 ·rw[Ay,BC]at Ab;refine tr (yq O (A7 O DG BU O O O) (yc O (fun w hw=>AFR x Lg mb p h hB I lv av (row b3 147 (Aa x)::F) _ w hi (HT hw)) ?_));rintro v21 J21 _ ⟨AQx,rfl,AcK⟩;refine AH rfl (Ak (AP rfl rfl (fun w' hw=>?_)));exact⟨_,rfl,J21,EO mb [] 0 p lv av h F,⟨AQx,0,[],_,h,lv,av,rfl,hi.mono AQx,AcK,by rw[Abe Ab.1 Ab.2];exact⟨rfl,rfl,rfl,rfl⟩⟩,AD hw⟩
 have h0:∀_:x.op=[],JN x.text=false:=fun h9=>by rw[BK h9,Bool.and_true]at Ab;exact Ab
 refine AV (AK O (EZ (ι:=AQ) [0,1,3,4,18] (fun zz=>Le I zz) (fun zz=>[(5,Au (FI h x.text).1),(6,.bool (FI h x.text).2)]) (fun zz=>zz) (fun zz=>(row b3 147 (Aa x)::EO mb [] 0 p lv av h F)) O ?_ ?_))
 ·refine tr (DE O ?_);refine yp O ((fun w _=>Ss x.text w)) (ln (AA O (fun An=>?_) (fun An=>?_)))
  ·refine tr (DE O ?_);refine ye O (K9 O O O S6 func258 (by kernel_rfl) O (fun w hw=>KR p lv av h _ hi _ _ w (GU hw))) ?_;rintro v29 J29 _ ⟨Oj,rfl,AVz⟩;refine AH rfl (AC (yp rfl ((fun w hw=>Uf v29 h.args [32] w (by omega) (AVz.mono hw.le) (by have:=hB.aj [32] (by decide);omega))) ?_));refine yq rfl ((by exact BH rfl BT rfl (Sl.lenOf AVz (Af _)))) ?_;refine AU rfl (Dd (J29) ?_ (A0 rfl (by rw[Ry An]) (A0 rfl (by rw[Ry An,X7]) (Bk))) (BS rfl) (fun _ h=>by dsimp only;exact AD h))
   exact Oj
  refine Bd mo (by kernel_rfl) (fun _ _ _ _ _ h=>h) (EA O ?_);refine EA O ?_;refine zq O (OY O O O M4 func260 (by kernel_rfl) O ((fun w hw=>Hl p lv av h x.text w hxt (RO hi hw)))) (K5 5 O (KY (Dd (I) ?_ (A0 O (by rw[Ut An];try rfl) (A0 O (by rw[Ut An];try rfl) (Bk))) (BS O) (fun _ h=>by dsimp only;exact AD h))))
  exact Le.refl _
 rintro J NT;refine AF (tr (DE rfl ?_));refine ln (AJ (tr (yq rfl (AR rfl rfl rfl) (AH rfl (AA rfl (fun A6=>?_) (fun A6=>?_))))))
 ·have JY:=BM A6
  refine tr (DE O ?_);refine yc O (fun w hw=>DV (FI h x.text).1 x.q _ _ _ w hw) ?_;rintro v52 J52 _ ⟨AJc,rfl,Acs⟩;refine AH rfl (Ak (AP rfl rfl (fun w' hw=>?_)));exact⟨_,rfl,J52,EO mb [] 0 p lv av h F,⟨NT.trans AJc,0,[],_,h,lv,av,rfl,hi.mono (NT.trans AJc),Acs,by rw[AcS (h0 JY) JY];exact⟨rfl,rfl,rfl,rfl⟩⟩,AD hw⟩
 have JY:=BW A6
 refine tr (yq O (AR O O O) (AH O (AA O (fun BJ=>?_) (fun BJ=>?_))))
 ·have OC:=BM BJ
  refine tr (yq O (AW O BX O) (AH O (EZ (ι:=AQ) [5,6,0,1,3,4,18,46,47,53] (fun zz=>Le J zz) (fun zz=>[(8,.int .i64 (Ou h x.text))]) (fun zz=>zz) (fun zz=>(row b3 147 (Aa x)::EO mb [] 0 p lv av h F)) O ?_ ?_)))
  ·refine tr (DE O ?_);refine yp O ((fun w _=>Ss x.text w)) (ln (AA O (fun Bj=>?_) (fun Bj=>?_)))
   ·refine AC (DE O ?_);refine ye O (K9 O O O S6 func258 (by kernel_rfl) O (fun w hw=>KR p lv av h _ (hi.mono NT) _ _ w (GU hw))) ?_;rintro v64 J64 _ ⟨AhV,rfl,Abi⟩;refine yq rfl ((by exact BH rfl BT rfl (Sl.lenOf Abi (Af _)))) ?_;refine AU rfl (Dd (J64) ?_ (A0 rfl (by unfold Ou;rw[AI Bj]) (Bk)) (BS rfl) (fun _ h=>by dsimp only;exact AD h))
    exact AhV
   refine AY (Dd (J) ?_ (A0 O (by unfold Ou;rw[AB (by rw[Bj];simp)]) (Bk)) (BS O) (fun _ h=>by dsimp only;exact AD h))
   exact Le.refl _
  rintro J8 hJ8;dsimp only at *
  have NT:=NT.trans hJ8
  refine AF (Bo [4] [] [row b3 147 (Aa x)] mo (by kernel_rfl) (fun _ _ _ _ _ h=>h) (xr [0] O O (xq 1 O O (qc O O O ((fun w hw=>Mc (Ou h x.text) w (by omega) ((hG.mono NT).mono hw.le).gw))) ?_)));refine xr [2] O O (xq 3 O O (Az O O (by rfl)) ?_);refine xe 4 O O (ec O O O (fun w hw=>DV (Lib.itoa (Ou h x.text)) x.q _ _ _ w hw)) ?_;rintro v70 J70 _ ⟨Zm,rfl,AdJ⟩;refine⟨Zm,.inr Fs.sub,?_⟩;refine xr [5] rfl rfl (CX (AS (Ak (AP rfl rfl (fun w' hw=>?_)))));exact⟨_,rfl,J70,EO mb [] 0 p lv av h F,⟨NT.trans Zm,0,[],_,h,lv,av,rfl,hi.mono (NT.trans Zm),AdJ,by rw[AdX OC];exact⟨rfl,rfl,rfl,rfl⟩⟩,AD hw⟩
 have OC:=BW BJ
 refine EZ (ι:=Unit) [5,6,0,1,3,4,18,46,47,53] (fun _=>True) (fun _=>[(71,.bool (decide (x.op∈Ge)))]) (fun _=>J) (fun _=>(row b3 147 (Aa x)::EO mb [] 0 p lv av h F)) O ?_ ?_
 ·refine tr (yq O (AR O O O) (AH O (AA O (fun B4=>?_) (fun B4=>?_))))
  ·refine AY (Dd (()) ?_ (A0 O (B3 Value.bool (by simp_all [Ge])) (Bk)) (BS O) (fun _ h=>by dsimp only;exact AD h))
   trivial
  refine tr (yq O (AR O O O) (AH O (AA O (fun CP=>?_) (fun CP=>?_))))
  ·refine AY (Dd (()) ?_ (A0 O (B3 Value.bool (by simp_all [Ge])) (Bk)) (BS O) (fun _ h=>by dsimp only;exact AD h))
   trivial
  refine tr (yq O (AR O O O) (AH O (AA O (fun DF=>?_) (fun DF=>?_))))
  ·refine AY (Dd (()) ?_ (A0 O (B3 Value.bool (by simp_all [Ge])) (Bk)) (BS O) (fun _ h=>by dsimp only;exact AD h))
   trivial
  refine AC (yq O (AR O O O) (AU O (Dd (()) ?_ (A0 O (B3 Value.bool (by simp_all [Ge])) (Bk)) (BS O) (fun _ h=>by dsimp only;exact AD h))))
  trivial
 rintro _ _;refine AA rfl (fun GQ=>?_) (fun GQ=>?_)
 ·have GV:=BM GQ
  refine AF (tr (yq O (AW O BX O) (AH O (AA O (fun KD=>?_) (fun KD=>?_)))))
  ·simp at KD
   have h66:4096<(FI h x.text).1.length:=by omega
   refine tr (yc O (fun w hw=>GP mb p [] (66) _ _ _ w (Al (row mb 101 (Xk p [] 0)) hw)) ?_);rintro _ _ _ ⟨rfl,rfl,rfl⟩;refine AH rfl (Ak (AP rfl rfl (fun w' hw=>?_)));exact⟨_,rfl,J,EO mb [] 66 p lv av h F,⟨NT,66,[],[],h,lv,av,rfl,hi.mono NT,J7,by rw[ARY GV h66];exact⟨rfl,by decide,rfl,rfl,rfl⟩⟩,AD hw⟩
  simp at KD
  have h66:¬4096<(FI h x.text).1.length:=by omega
  have Abv:0<x.op.length:=BV.2 (N7 GV).1
  refine AV (tr (DE O ?_));refine yc O (fun w hw=>hF J lv av (row b3 147 (Aa x)::F) _ w (P2.trans NT) (hG.mono NT) (hi.mono NT) (HT hw)) ?_;rintro v84 J84 _ ⟨AfP,e,m,L,h2,lv2,av2,rfl,EG,Ey,hr⟩;refine AH rfl (AF (tr (DE rfl ?_)));refine AH rfl (AA rfl (fun EW=>?_) (fun EW=>?_))
  ·simp at EW
   have he:e≠0:=by omega
   obtain⟨rfl,JL⟩:=hr.bad he;refine AK rfl (Ak (AP rfl rfl (fun w' hw=>?_)));exact⟨_,rfl,J84,EO mb m e p lv2 av2 h2 F,⟨NT.trans AfP,e,m,[],h2,lv2,av2,rfl,EG,J7,by rw[ASe GV h66,JL];exact⟨rfl,he,rfl,rfl,rfl⟩⟩,AD hw⟩
  simp at EW
  have he:e=0:=by omega
  subst he;obtain⟨rfl,JL⟩:=hr.ok rfl;obtain⟨hS1,hS2⟩:=hSF L h2 JL;refine AV (AF (Bo [1,2,12,15] [] [row b3 147 (Aa x),row mb 101 (Xk p [] 0)] mo (by kernel_rfl) (fun _ _ _ _ _ h=>h) (xr [0,3,4] rfl rfl (x0 5 rfl (Le.refl _) rfl (fun _ hI=>Az rfl rfl (by rfl)) ?_))));refine x0 6 rfl (Le.refl _) rfl (fun _ hI=>(by exact AZ rfl BX rfl rfl (by omega))) ?_;refine x0 7 rfl (Le.refl _) rfl (fun _ hI=>Ae rfl rfl rfl rfl) (xr [8] rfl rfl (x0 9 rfl (Le.refl _) rfl (fun _ hI=>Az rfl rfl (by rfl)) ?_));refine x0 10 rfl (Le.refl _) rfl (fun _ hI=>AW rfl BX rfl) (xr [11,13] rfl rfl (x0 14 rfl (Le.refl _) rfl (fun _ hI=>Az rfl rfl (by rfl)) ?_));refine xe 1 rfl rfl (ec rfl rfl rfl (fun w hw=>AET v84 Ey.one _ _ _ w hw)) ?_;rintro _ J91 _ ⟨Ul,rfl,b91,rfl,Ahi⟩;refine⟨Ul,.inr Fs.sub,?_⟩;refine re 2 (by kernel_rfl) rfl (Ul) rfl (ec rfl rfl rfl (fun w hw=>Pa L v84 b91 _ _ _ w (by omega) (by omega) Ahi (Ey.mono Ul) hw)) ?_;rintro v92 J92 _ ⟨ABD,rfl,hch⟩;refine⟨ABD,.inr Fs.sub,?_⟩;refine re 12 (by kernel_rfl) rfl ((Ul.trans ABD)) rfl (AMU (qc rfl rfl rfl (fun w hw=>AQe v92 (Cr L) (FI h x.text).1 _ _ w (by rw[Kj];omega) (by omega) (hch.mono hw.le)))) ?_;rintro _ _ _ ⟨rfl,rfl,rfl⟩;refine xk (re 15 (by kernel_rfl) rfl ((Ul.trans ABD)) rfl (ec rfl rfl rfl (fun w hw=>DV _ x.q _ _ _ w hw)) ?_)
  rintro v105 J105 _ ⟨AIO,rfl,AYH⟩;refine⟨AIO,.inr Fs.sub,?_⟩;refine Abb 16 (by kernel_rfl) rfl ((Ul.trans (ABD.trans AIO))) rfl rfl rfl (fun _ hI=>AEM rfl rfl) (CX (AS (Ak (AP rfl rfl (fun w' hw=>?_)))))
  have hl2:decide ((x.op.length:Int)=2)=decide (x.op.length=2):=decide_eq_decide.2 (by omega)
  exact⟨_,O,J105,EO mb [] 0 p lv2 av2 h2 F,⟨NT.trans (AfP.trans (Ul.trans (ABD.trans AIO))),0,[],_,h2,lv2,av2,O,EG.mono (Ul.trans (ABD.trans AIO)),AYH,by rw[ASe GV h66,JL];exact⟨O,O,by rw[hl2];rfl,O⟩⟩,AD hw⟩
 have GV:=BW GQ
 refine AY (AL (AS (EZ (ι:=Unit) [71,5,0,1,3,4,18,46,47,53] (fun _=>True) (fun _=>[(6,.bool (isX h x.text x.op))]) (fun _=>J) (fun _=>(row b3 147 (Aa x)::EO mb [] 0 p lv av h F)) O ?_ ?_)))
 ·refine tr (DE O ?_);refine yp O ((fun w _=>FA x.op [58] w)) (ln (AA O (fun Eq=>?_) (fun Eq=>?_)))
  ·refine FU ?_
   refine zA 2 O (fun AmY=>by
     refine zq O (Bs O O O) ?_;exact zv O
    ) ?_
   refine K5 1 O (KY (Dd (()) ?_ (A0 O (B3 Value.bool (AcY Eq)) (Bk)) (BS O) (fun _ h=>by dsimp only;exact AD h)))
   trivial
  refine AY (Dd (()) ?_ (A0 O (B3 Value.bool (AdA Eq)) (Bk)) (BS O) (fun _ h=>by dsimp only;exact AD h))
  trivial
 rintro _ _;refine tr (DE rfl ?_);refine yp rfl ((fun w _=>T7 x.op [58] w)) (AH rfl (AF (AJ (tq (zq rfl (AR rfl rfl rfl) ?_)))))
 refine zA 2 O (fun AhO=>by
   simp at AhO
   exact zv O
  ) ?_
 refine De O (AA O (fun Fb=>?_) (fun Fb=>?_))
 ·rw[Ay,BC,FJ]at Fb;refine tr (DE O ?_);refine yc O (fun w hw=>DV [] x.q _ _ _ w hw) ?_;rintro v126 J126 _ ⟨AWZ,rfl,AZc⟩;refine AH rfl (Ak (AP rfl rfl (fun w' hw=>?_)));exact⟨_,rfl,J126,EO mb [] 0 p lv av h F,⟨NT.trans AWZ,0,[],_,h,lv,av,rfl,hi.mono (NT.trans AWZ),AZc,by rw[AeP JY OC GV Fb.1 Fb.2];exact⟨rfl,rfl,rfl,rfl⟩⟩,AD hw⟩
 have Tv:¬(opX x.op=[43]/\isX h x.text x.op=false):=fun h9=>by have h8:=Fb;rw[BK (show Lib.trimPrefix x.op [58]=[43]from h9.1),h9.2]at h8;cases h8
 refine tq (zq O (Bs O O O) ?_)
 refine zA 1 O (fun AiX=>by
   simp at AiX
   exact zv O
  ) ?_
 refine De O (AA O (fun GC=>?_) (fun GC=>?_))
 ·rw[Ay,BC]at GC;refine tr (DE O ?_);refine yc O (fun w hw=>DV (FI h x.text).1 x.q _ _ _ w hw) ?_;rintro v136 J136 _ ⟨AWx,rfl,AaY⟩;refine AH rfl (Ak (AP rfl rfl (fun w' hw=>?_)));exact⟨_,rfl,J136,EO mb [] 0 p lv av h F,⟨NT.trans AWx,0,[],_,h,lv,av,rfl,hi.mono (NT.trans AWx),AaY,by rw[AbW JY OC GV GC.1 GC.2];exact⟨rfl,rfl,rfl,rfl⟩⟩,AD hw⟩
 have h13:¬(opX x.op≠[43]/\isX h x.text x.op=true):=fun h9=>by have h8:=GC;rw[BK (show Lib.trimPrefix x.op [58]≠[43]from h9.1),h9.2]at h8;cases h8
 refine AY (AL (AS (tr (yq O (A7 O DG BU O O O) (yc O (fun w hw=>ALw x Lg (opX x.op) I0 mb p h _ hT hST hxt J lv av (row b3 147 (Aa x)::F) _ w (P2.trans NT) (hG.mono NT) (hi.mono NT) (HT hw)) ?_)))));rintro v140 J140 _ ⟨AcV,e,m,L,h2,lv2,av2,rfl,EG,Ey,hr⟩;refine AH rfl (AX (AP rfl rfl (fun w' hw=>?_)));exact⟨_,rfl,J140,EO mb m e p lv2 av2 h2 F,⟨NT.trans AcV,e,m,L,h2,lv2,av2,rfl,EG,Ey,by rw[ABt JY OC GV Tv h13];exact hr⟩,AD hw⟩
theorem Yc{h:Hx}{w:List PT}:CZ wi h (.mk 4 t op w q)=RB q (CE false h [] w):=by
 rw[CZ,AB (by decide),AI O]
theorem Se{h:Hx}{w:List PT}:CZ wi h (.mk 3 t op w q)=Nh h t q:=by
 rw[CZ,AB (by decide),AB (by decide),AI O]
theorem WL{h:Hx}{w:List PT}(hh:(FH h ND).2=true):CZ wi h (.mk 5 t op w q)=.ok (B0 (FH h ND).1 true) h:=by
 rw[CZ,AB (by decide),AB (by decide),AB (by decide),AI ⟨O,hh⟩]
theorem OM{h:Hx}{w:List PT}(h2:k≠2)(h4:k≠4)(h3:k≠3)(h5:¬(k=5/\(FH h ND).2=true)):CZ wi h (.mk k t op w q)=.ok (SQ t q wi) h:=by
 rw[CZ,AB h2,AB h4,AB h3,AB h5]
theorem AKc{h:Hx}(h0:(Gq h t).2=0):Nh h t q=.ok (B0 (Gc (Gq h t).1) q) (LK h t):=by
 unfold Nh Gq at *
 by_cases hl:(h.asked++[t]).length<=h.outs.length
 ·rw[AI hl,AI hl];try rfl
 rw[AB hl]at h0;exact Ac h0 (by decide)
theorem ARK{h:Hx}(h0:(Gq h t).2≠0):Nh h t q=.bad (Gq h t).2 [] (LK h t):=by
 unfold Nh Gq at *
 by_cases hl:(h.asked++[t]).length<=h.outs.length
 ·rw[AI hl]at h0;exact Ac O h0
 rw[AB hl,AB hl];try rfl
theorem AOM{h:Hx}(hB:HB h)(t:List UInt8):(Gq h t).1.length<=65536:=by
 unfold Gq
 split
 ·rename_i hl
  rw[Bh,KZ]at hl;exact hB.oo _ (BE (show h.asked.length<h.outs.length by omega))
 exact Aw _
theorem TQ{x:PE}(h:JS x.wv):∀u∈Aa x,u.oneCell'=true:=fun u hu=>by
 simp only[Aa,Ci,List.not_mem_nil,or_false]at hu;rcases hu with rfl|rfl|rfl|rfl|rfl
 ·rfl
 ·rfl
 ·rfl
 ·exact h.2
 rfl
theorem LI{b:Bool}{h:Hx}{acc:List Px}{L:List PE}(hi:i<L.length):CE b h acc ((L.drop i).map PE.pt)=match CZ b h (AG L i Ct).pt with
  | .bad e m h'=>.bad e m h'
  | .ok m h'=>CE b h' (acc++m) ((L.drop (i+1)).map PE.pt):=by
 rw[Bg Ct hi,EN,CE]
 cases CZ b h (AG L i Ct).pt<;>rfl
theorem AFG(x:PE)(Lg:JS x.wv)(wi:Bool)(I0:AQ)(mb:Nat)(p:HP)(h:Hx)(hB:HB h)(hn:h.asked.length<=1000000000)(hP:x.kind=2->AIa x I0 mb p h (CZ wi h x.pt))(hA:x.kind=4->AWR x I0 mb p h (CZ wi h x.pt)):APG (x,wi) I0 mb p h (CZ wi h x.pt):=by
 intro I lv av F w0 w P2 hG hi BZ;refine enter func61 O ntmps61 O (BZ.self) (tr (JC _ O fun b4=>?_));refine AH O (AF (tr (DE O ?_)));refine ln (AJ (AK O (AA O (fun Ab=>?_) (fun Ab=>?_))))
 ·have PJ:x.kind=2:=by have h9:(x.kind:Int)=2:=BM Ab;omega
  refine tr (yq O (A7 O DG BU O O O) (yc O (fun w hw=>hP PJ I lv av (row b4 147 (Aa x)::F) _ w P2 hG hi (HT hw)) ?_));rintro v17 J17 _ ⟨AZG,e,m,L,h2,lv2,av2,rfl,EG,Ey,hr⟩;refine AH rfl (Ak (AP rfl rfl (fun w' hw=>?_)));exact⟨_,rfl,J17,EO mb m e p lv2 av2 h2 F,⟨AZG,e,m,L,h2,lv2,av2,rfl,EG,Ey,hr⟩,AD hw⟩
 have PJ:x.kind≠2:=by have h9:¬(x.kind:Int)=2:=BW Ab;omega
 refine AK O (AA O (fun An=>?_) (fun An=>?_))
 ·have hk4:x.kind=4:=by have h9:(x.kind:Int)=4:=BM An;omega
  refine tr (yq O (A7 O DG BU O O O) (yc O (fun w hw=>hA hk4 I lv av (row b4 147 (Aa x)::F) _ w P2 hG hi (HT hw)) ?_));rintro v22 J22 _ ⟨Sp,e,m,L,h2,lv2,av2,rfl,EG,Ey,hr⟩;refine AH rfl (Ak (AP rfl rfl (fun w' hw=>?_)));exact⟨_,rfl,J22,EO mb m e p lv2 av2 h2 F,⟨Sp,e,m,L,h2,lv2,av2,rfl,EG,Ey,hr⟩,AD hw⟩
 have hk4:x.kind≠4:=by have h9:¬(x.kind:Int)=4:=BW An;omega
 refine AK O (AA O (fun A6=>?_) (fun A6=>?_))
 ·have Td:x.kind=3:=by have h9:(x.kind:Int)=3:=BM A6;omega
  refine AF (Bo [6] [] [row b4 147 (Aa x),row mb 101 (Xk p [] 0)] mo (by kernel_rfl) (fun _ _ _ _ _ h=>h) (xr [0,1,2] O O (xq 3 O O (Az O O (by rfl)) ?_)));refine xr [4] O O (xq 5 O O (Az O O (by rfl)) ?_);refine xe 6 O O (K9 O O O AAb func259 (by kernel_rfl) O (fun w hw=>Q2 p lv av h x.text hn I hi _ _ w (GU hw))) ?_;rintro _ _ _ ⟨rfl,rfl,av2,rfl,EG⟩;refine xk (xr [7,8,9,10,11] rfl rfl (CX (AS (AF (AK rfl (AA rfl (fun BJ=>?_) (fun BJ=>?_)))))))
  ·simp at BJ
   have he:(Gq h x.text).2≠0:=by omega
   refine tr (yc O (fun w hw=>GP mb p [] ((Gq h x.text).2) _ _ _ w (Al (row mb 101 (Xk p [] 0)) hw)) ?_);rintro _ _ _ ⟨rfl,rfl,rfl⟩;refine AH rfl (Ak (AP rfl rfl (fun w' hw=>?_)));exact⟨_,rfl,I,EO mb [] (Gq h x.text).2 p lv av2 (LK h x.text) F,⟨Le.refl _,(Gq h x.text).2,[],[],(LK h x.text),lv,av2,rfl,EG,J7,by rw[PE.pt,Td,Se,ARK he];exact⟨rfl,he,rfl,rfl,rfl⟩⟩,AD hw⟩
  simp at BJ
  have he:(Gq h x.text).2=0:=by omega
  refine AV (AF (Bo [4] [] [row b4 147 (Aa x)] mo (by kernel_rfl) (fun _ _ _ _ _ h=>h) (xr [0] O O (xq 1 O O (qc O O O ((fun w _=>ADN (Gq h x.text).1 w (by have:=AOM hB x.text;omega)))) ?_))));refine xr [2] O O (xq 3 O O (Az O O (by rfl)) ?_);refine xe 4 O O (ec O O O (fun w hw=>DV (Gc (Gq h x.text).1) x.q _ _ _ w hw)) ?_;rintro v44 J44 _ ⟨Aaf,rfl,AdF⟩;refine⟨Aaf,.inr Fs.sub,?_⟩;refine xr [5] rfl rfl (CX (AS (Ak (AP rfl rfl (fun w' hw=>?_)))));exact⟨_,rfl,J44,EO mb [] 0 p lv av2 (LK h x.text) F,⟨Aaf,0,[],_,(LK h x.text),lv,av2,rfl,EG.mono Aaf,AdF,by rw[PE.pt,Td,Se,AKc he];exact⟨rfl,rfl,rfl,rfl⟩⟩,AD hw⟩
 have Td:x.kind≠3:=by have h9:¬(x.kind:Int)=3:=BW A6;omega
 refine AK O (AA O (fun Bj=>?_) (fun Bj=>?_))
 ·have hk5:x.kind=5:=by have h9:(x.kind:Int)=5:=BM Bj;omega
  refine tr (DE O ?_);refine yq O (OY O O O M4 func260 (by kernel_rfl) O ((fun w hw=>Hl p lv av h ND w (by decide) (RO hi hw)))) ?_;refine AH O (AK O (AA O (fun B4=>?_) (fun B4=>?_)))
  ·refine tr (yc O (fun w hw=>DV (FH h ND).1 true _ _ _ w hw) ?_);rintro v57 J57 _ ⟨ATZ,rfl,Adm⟩;refine AH rfl (Ak (AP rfl rfl (fun w' hw=>?_)));exact⟨_,rfl,J57,EO mb [] 0 p lv av h F,⟨ATZ,0,[],_,h,lv,av,rfl,hi.mono ATZ,Adm,by rw[PE.pt,hk5,WL B4];exact⟨rfl,rfl,rfl,rfl⟩⟩,AD hw⟩
  refine AY (AL (AS (tr (CL 10 (EA O ?_)))));refine EA O ?_
  refine zA 3 O (fun h67=>by
    simp at h67
    refine EA O ?_;exact zv O
   ) ?_
  refine FR (Em [_,_,_] O (Em [_,_,_,_] O (NF _ O (fun b70=>?_) (by rfl))));refine CU b70 (fun J hJ hk=>?_)
  have Ey:=Kd (f:=Hz) (sz:=4) (SQ x.text x.q wi) hk O O (fun _=>rfl)
  refine AH O (AX (AP O O (fun w' hw=>?_)));exact⟨_,O,J,EO mb [] 0 p lv av h F,⟨hJ,0,[],_,h,lv,av,O,hi.mono hJ,Ey,by rw[PE.pt,OM PJ hk4 Td (fun h9=>by rw[B4]at h9;cases h9.2)];exact⟨rfl,rfl,rfl,rfl⟩⟩,AD hw⟩
 have hk5:x.kind≠5:=by have h9:¬(x.kind:Int)=5:=BW Bj;omega
 refine AY (AL (AS (tr (CL 10 (EA O ?_)))));refine EA O ?_
 refine zA 3 O (fun h67=>by
   simp at h67
   refine EA O ?_;exact zv O
  ) ?_
 refine FR (Em [_,_,_] O (Em [_,_,_,_] O (NF _ O (fun b70=>?_) (by rfl))));refine CU b70 (fun J hJ hk=>?_)
 have Ey:=Kd (f:=Hz) (sz:=4) (SQ x.text x.q wi) hk O O (fun _=>rfl)
 refine AH O (AX (AP O O (fun w' hw=>?_)));exact⟨_,O,J,EO mb [] 0 p lv av h F,⟨hJ,0,[],_,h,lv,av,O,hi.mono hJ,Ey,by rw[PE.pt,OM PJ hk4 Td (fun h9=>hk5 h9.1)];exact⟨O,O,O,O⟩⟩,AD hw⟩
theorem Us(L:List PE)(v:Value)(b:Bool)(I0:AQ)(C3:Sl I0 5 v (L.map Aa))(hW:∀x∈L,JS x.wv)(hL:L.length<=1000000)(mb:Nat)(p:HP)(h:Hx)(HOk:Nat->Hx->Prop)(hh:HOk 0 h)(JG:∀i,i<L.length->∀h',HOk i h'->APG (AG L i Ct,b) I0 mb p h' (CZ b h' (AG L i Ct).pt)/\∀m h'',CZ b h' (AG L i Ct).pt=.ok m h''->HOk (i+1) h''/\m.length<=1000000):Mi (v,b) I0 mb p h (CE b h [] (L.map PE.pt)):=by
 intro I lv0 av0 F w0 w P2 hG Rj BZ;refine enter func35 O ntmps35 O (BZ.self) (AK O (AK O (AF (tr ?_))));refine yq O ((by exact BH O Fw O (Sl.lenOf C3 (Af _)))) ?_;refine AH O (AJ (EB (ι:=Nat×Hx×List Px×Value×Value×Value×AQ) [0,1,2,10,11] (fun zz=>zz.1<=L.length/\Le I zz.2.2.2.2.2.2/\Ca zz.2.2.2.2.2.2 p zz.2.2.2.2.1 zz.2.1/\HOk zz.1 zz.2.1/\zz.2.2.1.length<=1000000 * zz.1/\CE b h [] (L.map PE.pt)=CE b zz.2.1 zz.2.2.1 ((L.drop zz.1).map PE.pt)) (fun zz=>L.length-zz.1) (fun zz=>[(12,.int .i64 (zz.1:Int)),(7,zz.2.2.2.1)]) (fun zz=>zz.2.2.2.2.2.2) (fun zz=>(EO mb [] 0 p zz.2.2.2.2.1 zz.2.2.2.2.2.1 zz.2.1 (Ap 105 4 Hz zz.2.2.2.1 zz.2.2.1::F))) (0,h,[],.slice none 0 0,lv0,av0,I) O ?_ ?_ (hh:=(fun _ h=>by dsimp only;exact AD (CI 105 4 Hz h)))))
 ·dsimp only;exact⟨Aw _,Le.refl _,Rj,hh,A5 _,O⟩
 rintro⟨i,h1,acc,vo,lv,av,J⟩ ⟨Ym,hJ,hi,hh1,hal,hx⟩;dsimp only at *;refine AK rfl (AF (AA rfl (fun Ab=>?_) (fun Ab=>?_)))
 ·simp at Ab
  have Rl:i<L.length:=by omega
  refine AV (AF (AJ (tr ?_)));refine yq O ((by exact AN O Fw BU O O (Sl.shape C3 (Af _)) (by omega))) ?_;refine yq O ((by exact Br O DG BU O O (AAt (i:=i) (C3.mono (P2.trans hJ)) (by omega)))) ?_
  refine HO _ O fun b9=>?_
  refine El _ O ?_ (by exact TQ (hW _ (BE (by omega))));refine DL (yq O ((by exact A7 O DG BU O O O)) ?_);refine yc O (fun w hw=>(JG i Rl h1 hh1).1 J lv av (row b9 147 (Aa (AG L i Ct))::Ap 105 4 Hz vo acc::F) _ w (P2.trans hJ) (hG.mono hJ) hi (HT hw)) ?_;rintro v20 J20 _ ⟨Lz,e,m,M,h2,lv2,av2,rfl,EG,Ey,hr⟩
  have hMl:M.length<=1000000:=by
   rcases Nat.eq_zero_or_pos e with he|he
   ·exact((JG i Rl h1 hh1).2 _ _ (hr.ok he).2).2
   rw[(hr.bad (by omega:e≠0)).1];exact Aw _
  refine ye O (BG (f:=Hz) (l:=acc) (ls:=M) O AAk Qy O O O O (Ey) O (fun _=>rfl) HY (by simp only[maxLen];omega) (by omega)) ?_;rintro v21 _ _ ⟨rfl,rfl⟩;refine AH rfl (tr (DE rfl ?_));refine AH rfl (AA rfl (fun An=>?_) (fun An=>?_))
  ·simp at An
   have he:e≠0:=by omega
   refine AK O (Ak (AP O O (fun w' hw=>?_)));exact⟨_,O,J20,EO mb m e p lv2 av2 h2 F,⟨hJ.trans Lz,e,m,[],h2,lv2,av2,O,EG,J7,by rw[hx,LI Rl,(hr.bad he).2];exact⟨O,he,O,O,O⟩⟩,AD hw⟩
  simp at An
  have he:e=0:=by omega
  refine AY (AL (AS (AC (yq O (AM O O O (by omega)) ?_))));refine AU O (DJ ((i+1,h2,acc++M,v21,lv2,av2,J20)) ?_ ?_ (hh:=(fun _ h=>by dsimp only;rw[he,(hr.ok he).1]at h;exact AD h)))
  ·dsimp only
   have hk:=(JG i Rl h1 hh1).2 _ _ (hr.ok he).2
   refine⟨by omega,hJ.trans Lz,EG,hk.1,by rw[Bh];omega,?_⟩;rw[hx,LI Rl,(hr.ok he).2]
  dsimp only
  show L.length-(i+1)<L.length-i
  omega
 simp at Ab
 have Rl:i=L.length:=by omega
 rw[Rl,K7,WI,CE]at hx;refine Av (AE (AE (AO (AS (AF (Bf (f:=Hz) (l:=acc) vo (fun _=>rfl) (fun Jf IL Rm=>?_)))))));refine AC (AH O (AX (AP O O (fun w' hw=>?_))));exact⟨_,O,Jf,EO mb [] 0 p lv av h1 F,⟨hJ.trans IL,0,[],acc,h1,lv,av,O,hi.mono IL,Rm,by rw[hx];exact⟨O,O,O,O⟩⟩,AD hw⟩
theorem AIi{L:List Px}{h:Hx}(hs:(BN L).length<=900000000):(Eh L h).2.1.length<=900000001:=by
 unfold Eh Fc
 cases hr:Dy (BN L)with
 |bad k=>exact Aw _
 |ok x=>
  simp only
  cases hw:A1 ((EL h.vars).map Vr.nv) x []with
  |bad k=>exact Aw _
  |ok v S=>
   have h1:=EE x [] S v hw
   have h2:=ABO hs hr
   simp only[Bb]at h1
   show S.length<=_
   omega
theorem ADB{l:List Px}{h:Hx}(he:(Eh l h).2.2≠0):RB q (.ok l h)=.bad (Eh l h).2.2 [] h:=by unfold RB;simp only;rw[AI he]
theorem UN{l:List Px}{h:Hx}(he:(Eh l h).2.2=0):RB q (.ok l h)=HU (B0 (Lib.itoa (Eh l h).1) q) (Eh l h).2.1 h:=by unfold RB;simp only;rw[AB (by rw[he];simp)]
theorem Qi{A:List Px}{S:List Dw}{h:Hx}(hi:i<S.length):HU A (S.drop i) h=if(Cm h.vars (AG S i H2).1 (Lib.itoa (AG S i H2).2)).1≠0 then .bad (Cm h.vars (AG S i H2).1 (Lib.itoa (AG S i H2).2)).1 [] h else HU A (S.drop (i+1)) (h.put (Cm h.vars (AG S i H2).1 (Lib.itoa (AG S i H2).2)).2):=by
 rw[Bg H2 hi,HU]
theorem ADd{h:Hx}(hB:HB h):I3 (EL h.vars):=by
 have h1:(EL h.vars).length<=h.vars.length:=List.length_filter_le _ _
 have h2:=hB.vn
 refine⟨by omega,fun v hv=>?_⟩
 have:=hB.vv v (List.mem_filter.1 hv).1
 omega
theorem AKE(L:List Px)(h:Hx)(vv:Value)(I:AQ)(F:List HA)(w0 w:World)(hs:(BN L).length<=900000000)(hv:Sl I 5 vv ((EL h.vars).map DP))(hV:I3 (EL h.vars))(hG:Fr I)(BZ:St w0 I F w):Calls prog 115 [Au (BN L),vv].toArray w (ER w fun v I' H'=>Le I I'/\F=H'/\∃sl,v=.tuple #[.int .i64 (Eh L h).1,sl,.int .i64 ((Eh L h).2.2:Int)]/\Sl I' 2 sl ((Eh L h).2.1.map F5)):=AFr (BN L) vv (EL h.vars) I F w0 w hs hv hV hG BZ
theorem AKx(x:PE)(Lg:JS x.wv)(I0:AQ)(mb:Nat)(p:HP)(h:Hx)(r0:XR)(hF:Mi (x.wv,false) I0 mb p h r0)(hS:Small r0)(hB:∀L h',r0=.ok L h'->HB h'):AWR x I0 mb p h (RB x.q r0):=by
 intro I lv av F w0 w P2 hG hi BZ;refine enter func81 O ntmps81 O (BZ.self) (tr (JC _ O fun b3=>?_));refine AH O (tr (DE O ?_));refine yc O (fun w hw=>hF I lv av (row b3 147 (Aa x)::F) _ w P2 hG hi (HT hw)) ?_;rintro v15 J15 _ ⟨AKy,e,m,L,h2,lv2,av2,rfl,EG,Ey,hr⟩;refine AH rfl (AF (tr (DE rfl ?_)));refine AH rfl (AA rfl (fun Ab=>?_) (fun Ab=>?_))
 ·simp at Ab
  have he:e≠0:=by omega
  obtain⟨rfl,JL⟩:=hr.bad he;subst JL;refine AK rfl (Ak (AP rfl rfl (fun w' hw=>?_)));exact⟨_,rfl,J15,EO mb m e p lv2 av2 h2 F,⟨AKy,e,m,[],h2,lv2,av2,rfl,EG,J7,⟨rfl,he,rfl,rfl,rfl⟩⟩,AD hw⟩
 simp at Ab
 have he:e=0:=by omega
 subst he;obtain⟨rfl,JL⟩:=hr.ok rfl;subst JL;obtain⟨hS1,hS2⟩:=hS L h2 rfl
 have hVO:=ADd (hB L h2 O)
 refine AV (AF (Bo [6,7] [] [row b3 147 (Aa x),row mb 101 (Xk p [] 0)] mo (by kernel_rfl) (fun _ _ _ _ _ h=>h) (xr [0] O O (xq 1 O O (qc O O O ((fun w hw=>P1 v15 L w (by omega) (by omega) (Ey.mono hw.le)))) ?_))));refine xr [2,3,4] O O (xq 5 O O (Az O O (by rfl)) ?_);refine xe 6 O O (K9 O O O ALk func263 (by kernel_rfl) O (fun w hw=>V1 p lv2 av2 h2 _ EG _ _ w (GU hw))) ?_;rintro v28 J28 _ ⟨AFw,rfl,AeN⟩;refine⟨AFw,.inr Fs.sub,?_⟩;refine re 7 (by kernel_rfl) rfl (AFw) rfl (ec rfl rfl rfl (fun w hw=>AKE L h2 v28 _ _ _ w (by omega) AeN hVO (hG.mono (AKy.trans AFw)) hw)) ?_;rintro _ J29 _ ⟨Oj,rfl,sl,rfl,C3⟩;refine⟨Oj,.inr Fs.sub,?_⟩;refine xr [8,9,10,11,12,13,14] rfl rfl (CX (AS (AF (AK rfl (AA rfl (fun An=>?_) (fun An=>?_))))))
 ·simp at An
  have hev:(Eh L h2).2.2≠0:=by omega
  refine tr (yc O (fun w hw=>GP mb p [] ((Eh L h2).2.2) _ _ _ w (Al (row mb 101 (Xk p [] 0)) hw)) ?_);rintro _ _ _ ⟨rfl,rfl,rfl⟩;refine AH rfl (Ak (AP rfl rfl (fun w' hw=>?_)));exact⟨_,rfl,J29,EO mb [] (Eh L h2).2.2 p lv2 av2 h2 F,⟨AKy.trans (AFw.trans Oj),(Eh L h2).2.2,[],[],h2,lv2,av2,rfl,(EG.mono AFw).mono Oj,J7,by rw[ADB hev];exact⟨rfl,hev,rfl,rfl,rfl⟩⟩,AD hw⟩
 simp at An
 have hev:(Eh L h2).2.2=0:=by omega
 have hEI:E7 (Eh L h2).1/\SU (BN L).length (Eh L h2).2.1:=AGK (BN L) ((EL h2.vars).map Vr.nv)
 have hAs:=hEI.2
 have hSl:=AIi (h:=h2) hS2
 refine AV (AF (tr ?_));refine yq O ((by exact BH O Rg O (Sl.lenOf C3 (Af _)))) ?_;refine AH O (AJ (EB (ι:=Nat×Hx×Value×AQ) [0,1,3,5,20,6,7,8,34,38,39] (fun zz=>zz.1<=(Eh L h2).2.1.length/\Le I zz.2.2.2/\Le J29 zz.2.2.2/\Ca zz.2.2.2 p zz.2.2.1 zz.2.1/\HU (B0 (Lib.itoa (Eh L h2).1) x.q) (Eh L h2).2.1 h2=HU (B0 (Lib.itoa (Eh L h2).1) x.q) ((Eh L h2).2.1.drop zz.1) zz.2.1) (fun zz=>(Eh L h2).2.1.length-zz.1) (fun zz=>[(40,.int .i64 (zz.1:Int))]) (fun zz=>zz.2.2.2) (fun zz=>(row b3 147 (Aa x)::EO mb [] 0 p zz.2.2.1 av2 zz.2.1 F)) (0,h2,lv2,J29) O ?_ ?_))
 ·dsimp only;exact⟨Aw _,AKy.trans (AFw.trans Oj),Le.refl _,(EG.mono AFw).mono Oj,O⟩
 rintro⟨i,hh,lvi,J⟩ ⟨AYV,hJ,hJq,M6,CS⟩;dsimp only at *;refine AK rfl (AF (AA rfl (fun A6=>?_) (fun A6=>?_)))
 ·simp at A6
  have DK:i<(Eh L h2).2.1.length:=by omega
  have hAi:=hAs (AG (Eh L h2).2.1 i H2) (BE DK)
  have Agv:=hAi.2
  refine AV (AF (AJ (tr ?_)));refine yq O ((by exact AN O Rg O2 O O (Sl.shape (C3.mono hJq) (Af _)) (by omega))) ?_;refine yq O ((by exact Br O APF O2 O O (AMc (i:=i) (C3.mono hJq) (by omega)))) ?_
  refine HO _ O fun b10=>?_
  refine El (F5 (AG (Eh L h2).2.1 i H2)) O ?_ (by exact Qw _);refine lnt (Bo [11] [] [row b3 147 (Aa x),row mb 101 (Xk p [] 0),row b10 190 (F5 (AG (Eh L h2).2.1 i H2))] mo (by kernel_rfl) (fun _ _ _ _ _ h=>h) (xr [0,1,2] O O (xq 3 O O (Az O O (by rfl)) ?_)));refine xr [4] O O (xq 5 O O (Az O O (by rfl)) ?_);refine xr [6] O O (xq 7 O O (Az O O (by rfl)) ?_);refine xq 8 O O (qc O O O ((fun w hw=>Mc (AG (Eh L h2).2.1 i H2).2 w hAi.1 ((hG.mono hJ).mono hw.le).gw))) (xr [9,10] O O (xe 11 O O (K9 O O O AEG func262 (by kernel_rfl) O (fun w hw=>O6 p lvi av2 hh (AG (Eh L h2).2.1 i H2).1 (Lib.itoa (AG (Eh L h2).2.1 i H2).2) (by omega) _ M6 _ _ w (GU hw))) ?_));rintro _ J55 _ ⟨AKH,rfl,lv3,rfl,N2⟩;refine⟨AKH,.inr Fs.sub,?_⟩;refine xr [12] rfl rfl (CX (AS (AK rfl (AA rfl (fun BJ=>?_) (fun BJ=>?_)))))
  ·simp at BJ
   have XD:(Cm hh.vars (AG (Eh L h2).2.1 i H2).1 (Lib.itoa (AG (Eh L h2).2.1 i H2).2)).1≠0:=by omega
   rw[Hx.put_keep XD]at N2;refine tr (yc O (fun w hw=>GP mb p [] ((Cm hh.vars (AG (Eh L h2).2.1 i H2).1 (Lib.itoa (AG (Eh L h2).2.1 i H2).2)).1) _ _ _ w (Al (row mb 101 (Xk p [] 0)) hw)) ?_);rintro _ _ _ ⟨rfl,rfl,rfl⟩;refine AH rfl (Ak (AP rfl rfl (fun w' hw=>?_)));exact⟨_,rfl,J55,EO mb [] (Cm hh.vars (AG (Eh L h2).2.1 i H2).1 (Lib.itoa (AG (Eh L h2).2.1 i H2).2)).1 p lv3 av2 hh F,⟨hJ.trans AKH,(Cm hh.vars (AG (Eh L h2).2.1 i H2).1 (Lib.itoa (AG (Eh L h2).2.1 i H2).2)).1,[],[],hh,lv3,av2,rfl,N2,J7,by rw[UN hev,CS,Qi DK,AI XD];exact⟨rfl,XD,rfl,rfl,rfl⟩⟩,AD hw⟩
  simp at BJ
  have XD:(Cm hh.vars (AG (Eh L h2).2.1 i H2).1 (Lib.itoa (AG (Eh L h2).2.1 i H2).2)).1=0:=by omega
  refine AY (AL (AS (AC (yq O (AM O O O (by omega)) ?_))));refine AU O (DJ ((i+1,hh.put (Cm hh.vars (AG (Eh L h2).2.1 i H2).1 (Lib.itoa (AG (Eh L h2).2.1 i H2).2)).2,lv3,J55)) ?_ ?_)
  ·dsimp only;refine⟨(show i+1<=_ by omega),hJ.trans AKH,hJq.trans AKH,N2,?_⟩;rw[CS,Qi DK,AB (by omega)]
  dsimp only
  show(Eh L h2).2.1.length-(i+1)<(Eh L h2).2.1.length-i
  omega
 simp at A6
 have DK:i=(Eh L h2).2.1.length:=by omega
 rw[DK,K7,HU]at CS;refine Av (AE (AE (AO (AS (AF (Bo [4] [] [row b3 147 (Aa x)] mo (by kernel_rfl) (fun _ _ _ _ _ h=>h) (xr [0] O O (xq 1 O O (qc O O O ((fun w hw=>Mc (Eh L h2).1 w hEI.1 ((hG.mono hJ).mono hw.le).gw))) (xr [2] O O ?_)))))))));refine xq 3 O O (Az O O (by rfl)) ?_;refine xe 4 O O (ec O O O (fun w hw=>DV (Lib.itoa (Eh L h2).1) x.q _ _ _ w hw)) ?_;rintro v66 J66 _ ⟨Zf,rfl,AeA⟩;refine⟨Zf,.inr Fs.sub,?_⟩;refine xr [5] rfl rfl (CX (AS (AX (AP rfl rfl (fun w' hw=>?_)))));exact⟨_,rfl,J66,EO mb [] 0 p lvi av2 hh F,⟨hJ.trans Zf,0,[],_,hh,lvi,av2,rfl,M6.mono Zf,AeA,by rw[UN hev,CS];exact⟨rfl,rfl,rfl,rfl⟩⟩,AD hw⟩
theorem Ue(L:List PE):L.length<=C5 (L.map PE.pt):=by
 induction L with
 |nil=>exact Aw _
 |cons x L ih=>
  rw[EN,C5,CD]
  have:=AIN x.pt
  omega
theorem X5{L:List PE}(hi:i<L.length):C5 ((L.drop i).map PE.pt)=(AG L i Ct).pt.cnt+C5 ((L.drop (i+1)).map PE.pt):=by
 rw[Bg Ct hi,EN,C5]
theorem QE(L:List PE)(i:Nat):C5 ((L.drop i).map PE.pt)<=C5 (L.map PE.pt):=by
 conv=>rhs;rw[<-Iu i L,Gm,Ix]
 omega
theorem IQ{h:Hx}{r:XR}(hb:UI h k 0 0 r)(hk:k<=2000):Small r:=fun L h' e=>by
 rw[e]at hb;obtain⟨_,_,h3,h4⟩:=hb;exact⟨by omega,by omega⟩
theorem AJt(mb:Nat)(p:HP):∀(n:Nat) (l:List PT),C5 l<=n->C5 l<=2000->NH l->∀(v:Value) (wi:Bool) (I0:AQ) (h:Hx),QU I0 v l->HB h->h.asked.length+C5 l<=1000000->Mi (v,wi) I0 mb p h (CE wi h [] l):=by
 intro n
 induction n with
 |zero=>
  intro l hn hc ho v wi I0 h hv hB ha;obtain⟨L,rfl,C3,hW⟩:=hv.un
  have:=Ue L
  exact Us L v wi I0 C3 (fun x hx=>(hW x hx).one) (by omega) mb p h (fun _ _=>True) trivial (fun i hi=>Ac hi (by omega))
 |succ n ih=>
  intro l hn hc ho v wi I0 h hv hB ha;obtain⟨L,rfl,C3,hW⟩:=hv.un
  have Dg:=Ue L
  refine Us L v wi I0 C3 (fun x hx=>(hW x hx).one) (by omega) mb p h (fun i h'=>HB h'/\h'.asked.length+C5 ((L.drop i).map PE.pt)<=1000000) ⟨hB,by simpa using ha⟩ (fun i hi h' hh=>?_);obtain⟨hB',ha'⟩:=hh
  have hx:AG L i Ct∈L:=BE hi
  have hxo:=AEC ho (FL.2 ⟨_,hx,O⟩)
  have I4:=X5 hi
  have hdl:=QE L i
  have hxp:=hW _ hx
  generalize AG L i Ct=x at *
  have hcx:x.pt.cnt=1+C5 x.word:=rfl
  have AZh:x.text.length<=65536/\NH x.word:=hxo
  obtain⟨htx,hwo⟩:=AZh
  have hb:=SO x.pt wi h' hxo hB'
  refine⟨AFG x hxp.one wi I0 mb p h' hB' (by omega) (fun hk=>?_) (fun hk=>?_),fun m h'' e=>?_⟩
  ·rw[PE.pt,hk]
   exact AEJ x hxp.one wi I0 mb p h' hB' (ih x.word (by omega) (by omega) hwo x.wv false I0 h' hxp hB' (by omega)) (IQ (Ei x.word false h' [] hwo hB') (by omega))
    (ih x.word (by omega) (by omega) hwo x.wv true I0 h' hxp hB' (by omega)) (IQ (Ei x.word true h' [] hwo hB') (by omega)) (by omega)
  ·have hF:=Ei x.word false h' [] hwo hB'
   rw[PE.pt,hk,Yc];exact AKx x hxp.one I0 mb p h' _ (ih x.word (by omega) (by omega) hwo x.wv false I0 h' hxp hB' (by omega)) (IQ hF (by omega)) (fun L h9 e=>by rw[e]at hF;exact hF.1)
  rw[e]at hb;obtain⟨h1,h2,h3,h4⟩:=hb;exact⟨⟨h1,by omega⟩,by omega⟩
def AJJ(p:HP)(h:Hx)(s:List UInt8)(kd:Int):Prop:=∀l,Di s kd=.ok l->∀(v:Value) (I0:AQ) (mb:Nat),QU I0 v l->Mi (v,false) I0 mb p h (CE false h [] l)
theorem QX{h:Hx}{s:List UInt8}{kd:Int}(p:HP)(hB:HB h)(ha:h.asked.length<=900000)(ho:∀l,Di s kd=.ok l->C5 l<=2000/\NH l):AJJ p h s kd/\Small (IS h s kd):=by
 refine⟨fun l hl v I0 mb hv=>?_,?_⟩
 ·obtain⟨h1,h2⟩:=ho l hl;exact AJt mb p _ l (A5 _) h1 h2 v false I0 h hv hB (by omega)
 unfold IS
 cases hp:Di s kd with
 |bad e=>exact fun _ _ h9=>by cases h9
 |ok l=>
  obtain⟨h1,h2⟩:=ho l hp;exact IQ (Ei l false h [] h2 hB) h1
theorem W2(p:HP)(s:List UInt8)(kd:Int)(hs:s.length<=1000000000)(h:Hx)(DD:AJJ p h s kd)(lv av:Value)(I:AQ)(F:List HA)(w0 w:World)(hG:Fr I)(hi:Ca I p lv h)(BZ:St w0 I (DW p lv av h F) w):Calls prog 18 [.iface 33 (.pointer (some ⟨p.hb,0,none⟩)),Au s,.int .i64 kd].toArray w (ER w fun v I' H'=>Le I I'/\∃(e:Nat) (m:List UInt8) (L:List Px) (h':Hx) (lv av v1:Value),v=.tuple #[v1,Au m,.int .i64 (e:Int)]/\H'=DW p lv av h' F/\Ca I' p lv h'/\Wt I' v1 L/\XR.is (IS h s kd) e m L h'):=by
 have hei:AWq (.iface 33 (.pointer (some ⟨p.hb,0,none⟩))) true:=.inr ⟨O,_,_,O⟩
 refine enter func18 O ntmps18 O (BZ.self) (AK O (AF (tr (yq O (AEu O (by kernel_rfl) O (by assumption)) ?_))));refine ln (AA O (fun Ab=>?_) (fun Ab=>?_))
 ·cases Ab
 refine AV (tr (yc O (fun w hw=>ACq s kd _ _ _ w hs hG hw) ?_));rintro _ J18 _ ⟨Jl,rfl,vl,e1,rfl,W4⟩;refine AH rfl (AF (AK rfl (AA rfl (fun An=>?_) (fun An=>?_))))
 ·simp at An
  have Kn:e1≠0:=by omega
  obtain⟨ADt,rfl⟩:=W4.f Kn;refine AK rfl (Ak (Cu rfl rfl rfl rfl (fun w' hw=>?_)));exact⟨_,rfl,J18,DW p lv av h F,⟨Jl,e1,[],[],h,lv,av,As,rfl,rfl,hi.mono Jl,J7,by unfold IS;rw[ADt];exact⟨rfl,Kn,rfl,rfl,rfl⟩⟩,AD hw⟩
 simp at An
 have Kn:e1=0:=by omega
 obtain⟨l,hl,EU⟩:=W4.t Kn;refine AV (tr (Em [_,_,_] rfl (JC (Xk p [] 0) rfl fun b26=>(AH rfl (tr (yc rfl (fun w hw=>DD l hl vl J18 b26 EU J18 lv av F _ w (Le.refl _) (hG.mono Jl) (hi.mono Jl) (HT hw)) ?_))))));rintro v29 J29 _ ⟨Oj,e,m,L,h2,lv2,av2,rfl,EG,Ey,hr⟩;refine AH rfl (AF (Bd mo (by kernel_rfl) (fun _ _ _ _ _ h=>h) (EA rfl ?_)));refine EA rfl ?_;refine De rfl (AX (Cu rfl rfl rfl rfl (fun w' hw=>?_)));exact⟨_,rfl,J29,DW p lv2 av2 h2 F,⟨Jl.trans Oj,e,m,L,h2,lv2,av2,v29,rfl,rfl,EG,Ey,by unfold IS;rw[hl];exact hr⟩,AD hw⟩

end Go.Tri
