/-
 The reference of words expanded: small steps.
-/
import Derived.Test.YtbndcpjklngfhaaGreatDoorEM4
import Derived.Test.YtbndcpjklngfhaaGreatDoorPEw
import Derived.Test.YtbndcpjklngfhaaGreatDoorPRf
import Derived.Test.YtbndcpjklngfhaaGreatDoorFA5
import Derived.Test.YtbndcpjklngfhaaGreatDoorFE1
import Derived.Test.YtbndcpjklngfhaaGreatDoorFC4
import Derived.Test.YtbndcpjklngfhaaGreatDoorFB4
import Derived.Test.YtbndcpjklngfhaaGreatDoorPExV
namespace Go.Tri
open Go.Proofs.Tryz
open Go.Proofs Go.RowKit
set_option maxRecDepth 10000
variable {w0 w:World} {av:Value} {m t op:List UInt8} {e k:Nat} {b:Bool}
theorem D2(s:List UInt8)(q:Bool)(I:AQ)(F:List HA)(w0 w:World)(BZ:St w0 I F w):Calls prog 70 [Au s,.bool q].toArray w (ER w fun v I' H'=>Le I I'/\F=H'/\Wt I' v (B0 s q)):=by
 refine enter func70 O ntmps70 O (BZ.self) (AK O (tr (Em (Ot ⟨s,q,true⟩) O (Em (Hz ⟨⟨s,q,true⟩,false⟩) O (NF _ O (fun b9=>?_) (by rfl))))));refine CU b9 (fun J hJ hk=>?_)
 have Ey:=Kd (f:=Hz) (sz:=4) (B0 s q) hk O O (fun _=>rfl)
 refine AH O (AX (AP O O (fun w' hw=>?_)));exact⟨_,O,J,F,⟨hJ,O,Ey⟩,AD hw⟩
theorem N1(v:Value)(l:List (List UInt8))(b:List UInt8)(w:World)(hl:l.length<=1000000)(hv:Sl (Ao w) 1 v (l.map Ce))(hj:(Lib.join l b).length<=1000000000)(hb:b.length<=1000000):B2 prog 124 [v,Au b] w (Au (Lib.join l b)):=by
 refine enter func124 O ntmps124 O (St.start w (Ao w) (Le.refl _)) (AK O (AK O (AF (AK O (AJ (EB (ι:=Nat) [0,1,4] (fun zz=>zz<=l.length) (fun zz=>l.length-zz) (fun zz=>[(6,.int .i64 (zz:Int)),(5,Au (Lib.join (l.take zz) b))]) (fun zz=>Ao w) (fun zz=>[]) 0 O ?_ ?_))))))
 ·exact Aw _
 rintro i hi;dsimp only at *
 have hjt:=Ye l b i
 refine AF (tr ?_);refine yq O ((by exact BH O BT O (Sl.lenOf hv (Af _)))) ?_;refine AH O (AA O (fun Ab=>?_) (fun Ab=>?_))
 ·simp at Ab
  have DK:i<l.length:=by omega
  refine AV (AF (AJ (EZ (ι:=List UInt8) [6,0,1,4,10] (fun zz=>zz=if 0<i then Lib.join (l.take i) b++b else Lib.join (l.take i) b) (fun zz=>[(5,Au zz)]) (fun zz=>Ao w) (fun zz=>[]) O ?_ ?_)))
  ·refine AK O (AA O (fun An=>?_) (fun An=>?_))
   ·simp at An
    refine AC (yq O (F1 O O O (by omega)) ?_);refine AU O (CB (Lib.join (l.take i) b++b) ?_)
    rw[AI (by omega)]
   simp at An
   refine AY (CB (Lib.join (l.take i) b) ?_)
   rw[AB (by omega)]
  rintro a ha;dsimp only at *
  have hjs:=B3 List.length (Sa (b:=b) DK)
  have AmF:=Ye l b (i+1)
  rw[Bh,<-ha]at hjs;refine AC ?_;refine yq O ((by exact AN O BT Co O O (Sl.shape hv (Af _)) (by omega))) ?_;refine yq O ((by exact Ai O O (Et (i:=i) hv (by omega)))) ?_;refine yq O (F1 O O O (by omega)) ?_;refine AU O (AL (AS ?_));rw[ha,<-Sa DK];refine AC (yq O (AM O O O (by omega)) ?_);refine AU O (Fl (i+1) ?_ ?_ (FY O (A0 O (by rw[Sa DK]) (Bk))) (BS O) (fun _ h=>by dsimp only;exact AD h))
  ·omega
  omega
 simp at Ab
 obtain rfl:i=l.length:=by omega
 refine Av (AE (AE (AO (AS (AK O (AX (AP O O (fun w' hw=>?_))))))));refine⟨?_,hw.below⟩;rw[Gb]
theorem JZ(v:Value)(L:List Px)(w:World)(hl:L.length<=1000000000)(hb:KW L)(hx:(BN L).length<=1000000000)(hv:Wt (Ao w) v L):B2 prog 96 [v] w (Au (BN L)):=by
 refine enter func96 O ntmps96 O (St.start w (Ao w) (Le.refl _)) (AK O (AK O (AF (AK O (AJ (EB (ι:=Nat) [0,2] (fun zz=>zz<=L.length) (fun zz=>L.length-zz) (fun zz=>[(4,.int .i64 (zz:Int)),(3,Au (BN (L.take zz)))]) (fun zz=>Ao w) (fun zz=>[]) 0 O ?_ ?_))))))
 ·exact Aw _
 rintro i hi;dsimp only at *
 have hxt:=SG L i
 refine AF (tr ?_);refine yq O ((by exact BH O QF O (Sl.lenOf hv (Af _)))) ?_;refine AH O (AA O (fun Ab=>?_) (fun Ab=>?_))
 ·simp at Ab
  have DK:i<L.length:=by omega
  have TP:=Y7 DK
  rw[ASm hb DK]at TP
  have Anp:=SG L (i+1)
  have hxs:=B3 List.length TP
  rw[Bh]at hxs;refine AV (EZ (ι:=Unit) [4,0,2,8] (fun _=>True) (fun _=>[(3,Au (BN (L.take (i+1))))]) (fun _=>Ao w) (fun _=>[]) O ?_ ?_)
  ·refine AJ (tr ?_);refine yq O ((by exact AN O QF Wo O O (Sl.shape hv (Af _)) (by omega))) ?_;refine yq O ((by exact Ai O O (Sl.rd (i:=i) (j:=3) hv (CN L Hz FD (by omega)) O))) ?_;refine ln (AA O (fun An=>?_) (fun An=>?_))
   ·rw[AI An]at hxs;refine AC (yq O (F1 O O O (by omega)) ?_);rw[show BN (L.take i)++[32]=BN (L.take (i+1)) by rw[TP,AI An]];refine AU O (AL (CB (()) ?_))
    trivial
   rw[AB (by rw[An];simp)]at hxs;refine AC ?_;refine yq O ((by exact AN O QF Wo O O (Sl.shape hv (Af _)) (by omega))) ?_;refine yq O ((by exact Ai O O (Sl.rd (i:=i) (j:=0) hv (CN L Hz FD (by omega)) O))) ?_;refine yq O (F1 O O O (by omega)) ?_;rw[show BN (L.take i)++(AG L i FD).p.t=BN (L.take (i+1)) by rw[TP,AB (by rw[An];simp)]];refine AU O (AL (CB (()) ?_))
   trivial
  rintro _ _;refine AC (yq rfl (AM rfl rfl rfl (by omega)) ?_);refine AU rfl (DJ (i+1) ?_ ?_)
  ·omega
  omega
 simp at Ab
 obtain rfl:i=L.length:=by omega
 refine Av (AE (AE (AO (AS (AK O (AX (AP O O (fun w' hw=>?_))))))));refine⟨?_,hw.below⟩;rw[Gb]
theorem Sj(v:Value)(L:List Px)(I:AQ)(F:List HA)(w0 w:World)(hl:L.length<=1000000000)(hb:KW L)(hx:(Cr L).length<=1000000000)(ht:∀x∈L,x.p.t.length<=1000000000)(hv:Wt I v L)(BZ:St w0 I F w):Calls prog 95 [v].toArray w (ER w fun v I' H'=>Le I I'/\H'=F/\Sl I' 2 v ((Cr L).map D5)):=by
 refine enter func95 O ntmps95 O (BZ.self) (AK O (AK O (AF (AK O (AJ (EB (ι:=Nat×Value) [0,2] (fun zz=>zz.1<=L.length) (fun zz=>L.length-zz.1) (fun zz=>[(4,.int .i64 (zz.1:Int)),(3,zz.2)]) (fun zz=>I) (fun zz=>(Ap 113 2 D5 zz.2 (Cr (L.take zz.1))::F)) (0,.slice none 0 0) O ?_ ?_ (hh:=(fun _ h=>CI 113 2 D5 h))))))))
 ·dsimp only;exact Aw _
 rintro⟨i,vo⟩ hi;dsimp only at *
 have hct:=VV L i
 refine AF (tr ?_);refine yq O ((by exact BH O QF O (Sl.lenOf hv (Af _)))) ?_;refine AH O (AA O (fun Ab=>?_) (fun Ab=>?_))
 ·simp at Ab
  have DK:i<L.length:=by omega
  have TP:=AGZ DK
  have Amf:=VV L (i+1)
  have H8:=B3 List.length TP
  rw[Bh]at H8
  have htx:=ht _ (BE (d:=FD) DK)
  refine AV (EZ (ι:=Value) [4,0,2,10] (fun zz=>True) (fun zz=>[(3,zz)]) (fun zz=>I) (fun zz=>(Ap 113 2 D5 zz (Cr (L.take (i+1)))::F)) O ?_ ?_)
  ·refine AJ (AF (tr ?_));refine yq O ((by exact AN O QF Wo O O (Sl.shape hv (Af _)) (by omega))) ?_;refine yq O ((by exact Ai O O (Sl.rd (i:=i) (j:=3) hv (CN L Hz FD (by omega)) O))) ?_;refine ln (AA O (fun An=>?_) (fun An=>?_))
   ·rw[ARE hb DK An]at H8;rw[show[(⟨32,false⟩:Ch)].length=1 from O]at H8;refine tr (Em (D5 ⟨32,false⟩) O (NF _ O (fun b20=>?_) (by rfl)));refine V4 (f:=D5) (⟨32,false⟩) O (fun v21=>?_) (Hf _) (by simp only[maxLen];omega) (by omega);refine AH O (Av (AE (AO (CB (v21) ?_ (hh:=(fun _ h=>by dsimp only;rw[TP,ARE hb DK An];exact AD h))))))
    trivial
   rw[ANZ An,Af]at H8;refine AV (tr ?_);refine yq O ((by exact AN O QF Wo O O (Sl.shape hv (Af _)) (by omega))) ?_;refine yq O ((by exact Ai O O (Sl.rd (i:=i) (j:=0) hv (CN L Hz FD (by omega)) O))) ?_;refine AH O (AK O (AJ (EB (ι:=Nat×Value) [4,0,2,10,17,5] (fun zz=>zz.1<=(AG L i FD).p.t.length) (fun zz=>(AG L i FD).p.t.length-zz.1) (fun zz=>[(6,.int .i64 (zz.1:Int)),(3,zz.2)]) (fun zz=>I) (fun zz=>(Ap 113 2 D5 zz.2 ((Cr (L.take i))++((AG L i FD).p.t.take zz.1).map fun b=>(⟨b,(AG L i FD).p.q⟩:Ch))::F)) (0,vo) O ?_ ?_ (hh:=(fun _ h=>by dsimp only;rw[Qo,WI,Nj];exact AD h)))))
   ·dsimp only;exact Aw _
   rintro⟨k,vp⟩ hk;dsimp only at *;refine AF (tr (yq rfl (AW rfl BX rfl) (AH rfl (AA rfl (fun A6=>?_) (fun A6=>?_)))))
   ·simp at A6
    have Om:k<(AG L i FD).p.t.length:=by omega
    refine AV (AF (AJ (Bo [11,12] [] [] mo (by kernel_rfl) (fun _ _ _ _ _ h=>h) (xr [0,1,2] O O (xq 3 O O ((by exact AZ O BX O O (by omega))) ?_)))));refine xr [4,5] O O ?_;refine xq 6 O O ((by exact AN O QF Wo O O (Sl.shape hv (Af _)) (by omega))) ?_;refine xr [7,8] O O (xq 9 O O ((by exact Ai O O (Sl.rd (i:=i) (j:=1) hv (CN L Hz FD (by omega)) O))) ?_);refine xq 10 O O (C0 (pl:=[(_,_),(_,_)]) (cs:=(D5 ⟨AG (AG L i FD).p.t k 0,(AG L i FD).p.q⟩).toArray) O Ng Cn ⟨O,⟨_,_,ti5⟩,O,⟨_,_,NL⟩,trivial⟩ O O) (xe 11 O O (BD O DU Cn O O O (by rfl) O) ?_);rintro _ _ _ ⟨b45,rfl,rfl,rfl⟩;refine xk ?_;refine xe 12 rfl rfl (B8 (f:=D5) (c:=⟨AG (AG L i FD).p.t k 0,(AG L i FD).p.q⟩) rfl DU Cn rfl rfl rfl rfl rfl rfl rfl (Hf _) (by rw[Bh,Af,BL];simp only[maxLen];omega) (by rw[Bh,Af,BL];omega)) ?_;rintro v46 _ _ ⟨rfl,rfl⟩;refine xk (xr [13] rfl rfl (CX (AL (AS (AC (yq rfl (AM rfl rfl rfl (by omega)) ?_))))));refine AU rfl (DJ ((k+1,v46)) ?_ ?_ (hh:=(fun _ h=>by dsimp only;rw[C6 0 Om,Gm,<-Ka,List.map_singleton];exact AD h)))
    ·dsimp only
     show k+1<=_
     omega
    dsimp only
    show _-(k+1)<_-k
    omega
   simp at A6
   obtain rfl:k=(AG L i FD).p.t.length:=by omega
   refine Av (AE (AE (AO (AL (CB (vp) ?_ (hh:=(fun _ h=>by dsimp only;rw[TP,ANZ An,<-Gb (l:=(AG L i FD).p.t)];exact AD h)))))))
   trivial
  rintro vq _;refine AC (yq rfl (AM rfl rfl rfl (by omega)) ?_);refine AU rfl (DJ ((i+1,vq)) ?_ ?_)
  ·dsimp only
   show i+1<=_
   omega
  dsimp only
  show L.length-(i+1)<L.length-i
  omega
 simp at Ab
 obtain rfl:i=L.length:=by omega
 rw[Gb];refine Av (AE (AE (AO (AS (AF (Bf (f:=D5) (l:=Cr L) vo (fun _=>rfl) (fun J hJ C3=>?_)))))));refine AC (AH O (AX (AP O O (fun w' hw=>?_))));exact⟨_,O,J,_,⟨hJ,O,C3⟩,AD hw⟩
@[reducible] def Ow(p:HP)(av:Value)(m:List UInt8):List Value:=[.pointer (some ⟨p.vb,0,none⟩),p.sv,p.fv,.int .i64 1,p.ov,av,Au m]
@[reducible] def DN(p:HP)(lv av:Value)(h:Hx)(m:List UInt8)(F:List HA):List HA:=row p.eb 41 (Ow p av m)::row p.vb 49 [lv,p.gv]::Ap 9 1 Ce av h.asked::F
theorem Hp{H:List HA}{I:AQ}{F:List HA}{p:HP}{lv:Value}{h:Hx}[hq:K3 [row p.eb 41 (Ow p av m),row p.vb 49 [lv,p.gv],Ap 9 1 Ce av h.asked] F H](hw:St w0 I H w):St w0 I (DN p lv av h m F) w:=hw.perm hq.perm
theorem UO{I:AQ}{H:List HA}{p:HP}{lv:Value}{h:Hx}(hi:Ca I p lv h)(hw:St w0 I H w)[E2 p.eb 41 (Ow p av m) H][E2 p.vb 49 [lv,p.gv] H]:AFf w p lv h:=
 have he:=B5 (b:=p.eb) (T:=41) (cs:=Ow p av m) hw
 ⟨he 0 _ O,he 1 _ O,B5 (T:=49) hw,hi.mono hw.le⟩
theorem AFf.mono{w':World}{p:HP}{lv:Value}{h:Hx}(k:AFf w p lv h)(CH:Le (Ao w) (Ao w')):AFf w' p lv h:=⟨k.e0.mono CH,k.e1.mono CH,k.vb.mono CH,k.hi.mono CH⟩
def erN(e:Nat):Nat:=if e=9999 then 5 else e
theorem AAH(h:e<100):erN e=e:=AB (by omega)
def YR(r:XR)(e:Nat)(m:List UInt8)(L:List Px)(h:Hx):Prop:=match r with
 | .ok l h'=>e=0/\L=l/\h=h'/\m=[]
 | .bad e2 m2 h'=>erN e=e2/\e≠0/\m=m2/\h=h'
theorem YR.ok{r:XR}{L:List Px}{h:Hx}(k:YR r e m L h)(he:e=0):r=.ok L h/\m=[]:=by
 cases r with
 |ok l h'=>obtain⟨_,rfl,rfl,rfl⟩:=k;exact⟨rfl,rfl⟩
 |bad e2 m2 h'=>exact Ac he k.2.1
theorem YR.bad{r:XR}{L:List Px}{h:Hx}(k:YR r e m L h)(he:e≠0):r=.bad (erN e) m h:=by
 cases r with
 |ok l h'=>exact Ac k.1 he
 |bad e2 m2 h'=>obtain⟨rfl,_,rfl,rfl⟩:=k;rfl
def TM(p:HP)(F:List HA)(r:XR)(v0:Value)(I':AQ)(H':List HA):Prop:= ∃(e:Nat) (m:List UInt8) (L:List Px) (h':Hx) (lv av vl:Value),v0=.tuple #[vl,.int .i64 (e:Int)]/\H'=DN p lv av h' m F/\Ca I' p lv h'/\Wt I' vl L/\YR r e m L h'
def AQA(x:PE)(I0:AQ)(p:HP)(h:Hx)(r:XR):Prop:=∀(I:AQ) (lv av:Value) (F:List HA) (w0 w:World),Le I0 I->Ca I p lv h->St w0 I (DN p lv av h [] F) w->Calls prog 67 [.pointer (some ⟨p.eb,0,none⟩),.agg (Aa x).toArray].toArray w (ER w fun v I' H'=>Le I I'/\TM p F r v I' H')
def AYC(x:PE)(I0:AQ)(p:HP)(h:Hx)(r:XR):Prop:=∀(I:AQ) (lv av:Value) (F:List HA) (w0 w:World),Le I0 I->Ca I p lv h->St w0 I (DN p lv av h [] F) w->Calls prog 69 [.pointer (some ⟨p.eb,0,none⟩),.agg (Aa x).toArray].toArray w (ER w fun v I' H'=>Le I I'/\TM p F r v I' H')
def Nr(x:Value×Bool)(I0:AQ)(p:HP)(h:Hx)(r:XR):Prop:=∀(I:AQ) (lv av:Value) (F:List HA) (w0 w:World),Le I0 I->Ca I p lv h->St w0 I (DN p lv av h [] F) w->Calls prog 45 [.pointer (some ⟨p.eb,0,none⟩),x.1,.bool x.2].toArray w (ER w fun v I' H'=>Le I I'/\TM p F r v I' H')
theorem AHq(hk:k=t.length-1)(h:(decide (t≠[])&&decide (AG t k 0=10))=true):Gc (t.take k)=Gc t/\0<t.length:=by
 subst hk;rw[Ay,BC,BC]at h;refine⟨?_,BV.2 h.1⟩
 conv=>rhs;rw[IR h.1]
 unfold Gc Lib.trimRightS;rw[List.reverse_append,List.reverse_singleton,List.singleton_append,List.dropWhile_cons_of_pos (by rw[h.2];decide)]
theorem AYI(hk:k=t.length-1)(h:(decide (t≠[])&&decide (AG t k 0=10))=false):Gc t=t:=by
 subst hk
 by_cases hn:t=[]
 ·subst hn;rfl
 rw[BK hn,Bool.true_and,CA]at h
 conv=>lhs;rw[IR hn]
 unfold Gc Lib.trimRightS;rw[List.reverse_append,List.reverse_singleton,List.singleton_append,List.dropWhile_cons_of_neg (by intro hc;exact h (by simpa using hc)),List.reverse_cons,List.reverse_reverse];exact(IR hn).symm
theorem AFA(x:PE)(Lg:JS x.wv)(p:HP)(h:Hx)(hB:HB h)(I:AQ)(lv av:Value)(m:List UInt8)(F:List HA)(w0 w:World)(hi:Ca I p lv h)(BZ:St w0 I (DN p lv av h m F) w):Calls prog 92 [.pointer (some ⟨p.eb,0,none⟩),.agg (Aa x).toArray].toArray w (ER w fun v I' H'=>Le I I'/\H'=(DN p lv av h m F)/\Wt I' v (KJ h x.text x.q)):=by
 have hal:=hi.an
 have C3:=hi.ar
 refine enter func92 O ntmps92 O (BZ.self) (tr (JC _ O fun b3=>?_));refine AH O (tr (yq O ((by exact Az O O (by rfl))) ?_));refine yq O ((by exact Az O O (by rfl))) ?_;refine AH O (AF (tq (zq O ((by exact Az O O (by rfl))) ?_)));refine zq O (AR O O O) ?_
 refine zA 2 O (fun h24=>by
   simp at h24
   refine zq O ((by exact Az O O (by rfl))) ?_;exact zv O
  ) ?_
 refine Dp (AA O (fun Ab=>?_) (fun Ab=>?_))
 ·rw[Ay,BC]at Ab
  have hr:KJ h x.text x.q=B0 (Lib.join h.args (QQ h)) true:=by unfold KJ;rw[AI Ab]
  refine tr (yp O ((fun w hw=>Gk p lv h Pz w (by decide) (UO hi hw))) ?_);refine AH O (AK O (EZ (ι:=List UInt8) [0,1,3,4,5,24] (fun zz=>zz=QQ h) (fun zz=>[(8,Au zz)]) (fun zz=>I) (fun zz=>(row b3 147 (Aa x)::(DN p lv av h m F))) O ?_ ?_))
  ·refine AK O (AA O (fun An=>?_) (fun An=>?_))
   ·refine AC (yq O (AW O BX O) (yq O (AIM O O O) (yq O (Ba O BX O O (by omega)) ?_)));refine AU O (CB ((FH h Pz).1.take (min (1:Int) ((FH h Pz).1.length:Int)).toNat) ?_)
    unfold QQ;rw[AI An,Yb]
   refine AY (CB ([32]) ?_)
   unfold QQ;rw[AB (by rw[An];simp)]
  rintro sep NI;dsimp only at *;refine tr (yp rfl ((fun w hw=>N1 p.gv h.args sep w (by omega) (C3.mono hw.le) (by rw[NI];have:=hB.aj (QQ h) (Qq h);omega) (by rw[NI];have:=Qq h;omega))) ?_);refine yc rfl (fun w hw=>D2 (Lib.join h.args sep) true _ _ _ w hw) ?_;rintro v39 J39 _ ⟨AhS,rfl,AcJ⟩;refine AH rfl (Ak (AP rfl rfl (fun w' hw=>?_)));rw[hr,<-NI];exact⟨_,rfl,J39,_,⟨AhS,rfl,AcJ⟩,AD hw⟩
 have hr:KJ h x.text x.q=Jd x.q h.args h.args.length:=by unfold KJ;rw[AB (fun h9=>by rw[BK h9.1,h9.2]at Ab;cases Ab)]
 refine AV (AK O (AF (AK O (AJ (EB (ι:=Nat×Value×AQ) [0,1,3,4,5,24] (fun zz=>zz.1<=h.args.length/\Le I zz.2.2) (fun zz=>h.args.length-zz.1) (fun zz=>[(10,.int .i64 (zz.1:Int)),(9,zz.2.1)]) (fun zz=>zz.2.2) (fun zz=>(Ap 81 4 Hz zz.2.1 (Jd x.q h.args zz.1)::row b3 147 (Aa x)::(DN p lv av h m F))) (0,.slice none 0 0,I) O ?_ ?_ (hh:=(fun _ k=>by dsimp only;rw[show Jd x.q h.args 0=[]from O];exact AD (CI 81 4 Hz k))))))))
 ·dsimp only;exact⟨Aw _,Le.refl _⟩
 rintro⟨i,vo,J⟩ ⟨AYV,hJ⟩;dsimp only at *;refine AF (tr ?_);refine yq rfl ((by exact BH rfl BT rfl (Sl.lenOf C3 (Af _)))) ?_;refine AH rfl (AA rfl (fun A6=>?_) (fun A6=>?_))
 ·simp at A6
  have DK:i<h.args.length:=by omega
  refine AV (AF (AJ (EZ (ι:=Value×List Px) [10,0,1,3,4,5,24,43] (fun zz=>zz.2=Jd x.q h.args i++(if 0<i then[brk]else[])) (fun zz=>[(9,zz.1)]) (fun zz=>J) (fun zz=>(Ap 81 4 Hz zz.1 zz.2::row b3 147 (Aa x)::(DN p lv av h m F))) O ?_ ?_)))
  ·refine AK O (AA O (fun BJ=>?_) (fun BJ=>?_))
   ·simp at BJ
    refine AC (Em (Hz brk) O (NF _ O (fun b50=>?_) (by rfl)));refine V4 (f:=Hz) brk O (fun v51=>?_) (HY _) (by have:=Lv x.q h.args i;simp only[maxLen];omega) (by have:=Lv x.q h.args i;omega);refine AU O (CB ((v51,Jd x.q h.args i++[brk])) ?_)
    dsimp only;rw[AI (by omega)]
   simp at BJ
   refine AY (CB ((vo,Jd x.q h.args i)) ?_)
   dsimp only;rw[AB (by omega),Nj]
  rintro⟨vo1,acc1⟩ ANo;dsimp only at *
  have AhY:=Lv x.q h.args i
  have Ahr:acc1.length<=2 * i+1:=by rw[ANo,Bh];split<;>simp<;>omega
  refine Bo [7,8] [] [row b3 147 (Aa x)] mo (by kernel_rfl) (fun _ _ _ _ _ h=>h) (xr [0,1,2] O O ?_);refine xq 3 O O ((by exact AN O BT Co O O (Sl.shape C3 (Af _)) (by omega))) ?_;refine xq 4 O O ((by exact Ai O O (Et (i:=i) (C3.mono hJ) (by omega)))) ?_;refine xr [5] O O (xq 6 O O ((by exact Az O O (by rfl))) ?_);refine xe 7 O O (ec O O O (fun w hw=>D2 (AG h.args i []) x.q _ _ _ w hw)) ?_;rintro v59 J59 _ ⟨NJ,rfl,APR⟩;refine⟨NJ,.inr Fs.sub,?_⟩;refine re 8 (by kernel_rfl) rfl (NJ) rfl (BG (f:=Hz) (l:=acc1) (ls:=B0 (AG h.args i []) x.q) rfl QF Wo rfl rfl rfl rfl (APR) rfl (fun _=>rfl) HY (by(try simp only[maxLen,B0,KZ]);omega) (by(try simp only[B0,KZ]);omega)) ?_;rintro v60 _ _ ⟨rfl,rfl⟩;refine xk (xr [9] rfl rfl (CX (AL (AS (AC (yq rfl (AM rfl rfl rfl (by omega)) ?_))))));refine AU rfl (DJ ((i+1,v60,J59)) ?_ ?_ (hh:=(fun _ h=>by dsimp only;rw[MC,OB,<-Ka,<-ANo];exact AD h)))
  ·dsimp only;exact⟨(show i+1<=_ by omega),hJ.trans NJ⟩
  dsimp only
  show h.args.length-(i+1)<h.args.length-i
  omega
 simp at A6
 have DK:i=h.args.length:=by omega
 rw[DK];refine Av (AE (AE (AO (AS (AF (Bf (f:=Hz) (l:=Jd x.q h.args h.args.length) vo (fun _=>rfl) (fun Jf IL Rm=>?_)))))));refine AC (AH O (AX (AP O O (fun w' hw=>?_))));rw[hr];exact⟨_,O,Jf,_,⟨hJ.trans IL,O,Rm⟩,AD hw⟩
theorem ADY(p:HP)(lv:Value)(h:Hx)(hB:HB h)(n:List UInt8)(w:World)(hn:n.length<=1000000000)(k:AFf w p lv h):B2 prog 93 [.pointer (some ⟨p.eb,0,none⟩),Au n] w (.tuple #[Au (FI h n).1,.bool (FI h n).2]):=by
 have hal:=k.hi.an
 refine enter func93 O ntmps93 O (St.start w (Ao w) (Le.refl _)) (AK O (AF (tq (zq O (AR O O O) ?_))))
 refine zO 2 O (fun h11=>by
   simp at h11
   refine zq O (AR O O O) ?_;exact zv O
  ) ?_
 refine Dp (AA O (fun Ab=>?_) (fun Ab=>?_))
 ·have hm:JN n=true:=Ab
  refine AF (Bd mo (by kernel_rfl) (fun _ _ _ _ _ h=>h) (zq O ((by exact Ai O O (A8 k.e0))) ?_));refine zq O ((by exact Ai O O (A8 (k.vb 1 _ O)))) ?_;refine zp O ((fun w hw=>N1 p.gv h.args [32] w (by omega) (k.hi.ar.mono hw.le) (by have:=hB.aj [32] (by decide);omega) (by decide))) ?_;refine zq O ((by exact Ai O O (A8 k.e0))) ?_;refine zq O ((by exact Ai O O (A8 (k.vb 1 _ O)))) ?_;refine zq O ((by exact BH O BT O (Sl.lenOf k.hi.ar (Af _)))) ?_;refine De O (Ak (Aj O O O (fun w' hw=>?_)));refine⟨?_,hw.below⟩
  rw[Ry hm,<-X7];try rfl
 have hm:JN n=false:=Ab
 refine AV (tr (yp O ((fun w hw=>Gk p lv h n w hn (k.mono hw.le))) (AH O (AX (Aj O O O (fun w' hw=>?_))))));refine⟨?_,hw.below⟩
 rw[Ut hm];try rfl
theorem Vt(x:PE)(Lg:JS x.wv)(p:HP)(h:Hx)(hB:HB h)(hn:h.asked.length<=1000000)(I:AQ)(lv av:Value)(F:List HA)(w0 w:World)(hi:Ca I p lv h)(BZ:St w0 I (DN p lv av h [] F) w):Calls prog 68 [.pointer (some ⟨p.eb,0,none⟩),.agg (Aa x).toArray].toArray w (ER w fun v I' H'=>Le I I'/\TM p F (Nh h x.text x.q) v I' H'):=by
 have hon:=hi.on
 have hal:(h.asked++[x.text]).length=h.asked.length+1:=by simp
 refine enter func68 O ntmps68 O (BZ.self) (tr (JC _ O fun b3=>?_));refine AH O (AF (Bo [7,8,11] [11] [row p.eb 41 (Ow p av []),row b3 147 (Aa x)] mo (by kernel_rfl) (fun _ _ _ _ _ h=>h) (xr [0,1,2,3] O O (x0 4 O (Le.refl _) O (fun _ hI=>(by exact Az O O (by rfl))) ?_))));refine xr [5] O O (xq 6 O O ((by exact Az O O (by rfl))) ?_);refine xe 7 O O (BD O BT Co O O O (by rfl) O) ?_;rintro _ _ _ ⟨b14,rfl,rfl,rfl⟩;refine xk ?_;refine xe 8 rfl rfl (B8 (f:=Ce) (c:=x.text) rfl BT Co rfl rfl rfl rfl rfl rfl rfl (B1 x.text) (by simp only[maxLen];omega) (by omega)) ?_;rintro v15 _ _ ⟨rfl,rfl⟩;refine xk (Fd v15 (fun Ale Agb=>?_));refine xr [9,10] rfl rfl ?_;refine FP 11 (by kernel_rfl) (by kernel_rfl) rfl (Le.refl _) rfl rfl (Bz rfl Gs rfl rfl (by assumption) rfl (by(simp only[Iw,DS];try rfl))) ?_;rintro _ _ _ ⟨rfl,rfl⟩;refine⟨Le.refl _,.inl rfl,?_⟩;refine Bx (H':=row p.eb 41 (Ow p v15 [])::_) ?_ (fun _ h=>h);refine CX (AS (AF (AF (Bd mo (by kernel_rfl) (fun _ _ _ _ _ h=>h) (zq rfl ((by exact Az rfl rfl (by rfl))) ?_)))));refine zq rfl ((by exact IP rfl BT rfl)) ?_;refine zq rfl ((by exact Az rfl rfl (by rfl))) ?_;refine zq rfl ((by exact BH rfl BT rfl (Sl.lenOf hi.ou (Af _)))) ?_
 refine De O (AA O (fun Ab=>?_) (fun Ab=>?_))
 ·simp at Ab
  have hs:Nh h x.text x.q=.bad 5 [] ⟨h.vars,h.args,h.outs,h.asked++[x.text]⟩:=by unfold Nh;rw[AB (by omega)]
  refine AK O (Ak (Aj O O O (fun w' hw=>?_)));exact⟨_,O,I,DN p lv v15 ⟨h.vars,h.args,h.outs,h.asked++[x.text]⟩ [] F,⟨Le.refl _,9999,[],[],⟨h.vars,h.args,h.outs,h.asked++[x.text]⟩,lv,v15,As,O,O,⟨hi.sp,hi.ou,hi.li,hi.ar,hi.on,hi.an,hi.vn⟩,J7,by rw[hs];exact⟨O,by decide,O,O⟩⟩,AD hw⟩
 simp at Ab
 have hsx:Nh h x.text x.q=.ok (B0 (Gc (AG h.outs h.asked.length [])) x.q) ⟨h.vars,h.args,h.outs,h.asked++[x.text]⟩:=by unfold Nh;rw[AI (by omega)]
 have MG:=hB.oo _ (BE (d:=[]) (show h.asked.length<h.outs.length by omega))
 refine AV (AF ?_)
 have hol:=hB.oo
 refine Bd mo (by kernel_rfl) (fun _ _ _ _ _ h=>h) (zq O ((by exact Az O O (by rfl))) ?_);refine zq O ((by exact Az O O (by rfl))) ?_;refine zq O ((by exact IP O BT O)) ?_;refine zq O (Bl O O O (by omega)) ?_;rw[show(((h.asked++[x.text]).length:Int)-1)=((h.asked.length:Nat):Int) by omega];refine zq O ((by exact AN O BT Co O O (Sl.shape hi.ou (Af _)) (by omega))) ?_;refine zq O ((by exact Ai O O (Et (i:=h.asked.length) hi.ou (by omega)))) ?_;obtain⟨s0,OL⟩:∃s,s=AG h.outs h.asked.length []:=⟨_,rfl⟩;rw[<-OL];refine De rfl (AF (AJ (EB (ι:=List UInt8) [0,1,3,4,5,28] (fun zz=>Gc zz=Gc s0/\zz.length<=s0.length) (fun zz=>zz.length) (fun zz=>[(6,Au zz)]) (fun zz=>I) (fun zz=>(row b3 147 (Aa x)::row p.eb 41 (Ow p v15 [])::row p.vb 49 [lv,p.gv]::Ap 9 1 Ce v15 (h.asked++[x.text])::F)) s0 rfl ?_ ?_)))
 ·exact⟨O,A5 _⟩
 rintro s ⟨hs,C3⟩;dsimp only at *
 have Alg:s0.length<=65536:=by rw[OL];exact MG
 refine AF (tq (zq O (Bs O O O) ?_))
 refine zA 6 O (fun h50=>by
   simp at h50
   have T4:0<s.length:=BV.2 h50
   refine zq O (AW O BX O) (zq O (Bl O O O (by omega)) ?_);refine zq O ((by exact Bu O BX O O (by omega))) ?_;refine zq O (Ae O O O O) ?_;exact zv O
  ) ?_
 refine Dp (AA O (fun An=>?_) (fun An=>?_))
 ·refine AV (AJ ?_)
  have h9:=(AHq (k:=((s.length:Int)-1).toNat) (by omega) An).2
  refine AC (yq O (AW O BX O) (yq O (Bl O O O (by omega)) ?_));refine yq O (Ba O BX O O (by omega)) ?_;refine AU O (AL ?_)
  have h1:=AHq (by omega) An
  refine DJ (s.take ((s.length:Int)-1).toNat) ?_ ?_
  ·exact⟨h1.1.trans hs,by rw[BL];omega⟩
  rw[BL];omega
 have hnl:s=Gc s0:=by rw[<-hs];exact(AYI (by omega) An).symm
 refine Av (AE (AE (AO (AS (tr (yq O ((by exact Az O O (by rfl))) ?_))))));refine yc O (fun w hw=>D2 s x.q _ _ _ w hw) ?_;rintro v59 J59 _ ⟨NJ,rfl,APR⟩;refine AH rfl (AX (Aj rfl rfl rfl (fun w' hw=>?_)));exact⟨_,rfl,J59,DN p lv v15 ⟨h.vars,h.args,h.outs,h.asked++[x.text]⟩ [] F,⟨NJ,0,[],_,⟨h.vars,h.args,h.outs,h.asked++[x.text]⟩,lv,v15,v59,rfl,rfl,(Ca.mono ⟨hi.sp,hi.ou,hi.li,hi.ar,hi.on,hi.an,hi.vn⟩ NJ),APR,by rw[hsx,<-OL,<-hnl];exact⟨rfl,rfl,rfl,rfl⟩⟩,AD hw⟩
theorem ACj(l:List Vr)(n v:List UInt8):(Cm l n v).1<100:=by
 unfold Cm
 repeat' split
 all_goals simp
theorem AdV{L:List Px}{x:Px}(h:x∈L):x.p.t.length<=(BN L).length:=by
 obtain⟨i,hi,rfl⟩:=List.getElem_of_mem h
 have h1:=Y7 hi
 have h2:=SG L (i+1)
 rw[h1,Bh,Bh,CT hi]at h2
 omega
theorem AIf(h0:op≠[])(h:decide (AG op 0 0=58)=b):opX op=if b=true then op.drop 1 else op:=by
 cases op with
 |nil=>exact Ac O h0
 |cons c r=>
  rw[<-h];unfold opX Lib.trimPrefix Lib.hasPrefix
  by_cases hc:c=58
  ·subst hc;rfl
  have:([58]:List UInt8).isPrefixOf (c::r)=false:=by simp[List.isPrefixOf];exact fun h=>hc h.symm
  rw[this,AB (by simp),AB (by rw[BC];exact hc)]
theorem ARC{h:Hx}{tx:List UInt8}(h0:op≠[])(hb:decide (AG op 0 0=58)=b):isX h tx op=if b=true then((FI h tx).2&&decide ((FI h tx).1≠[]))else(FI h tx).2:=by
 have:Dl op [58]=b:=by
  rw[<-hb]
  cases op with
  |nil=>exact Ac O h0
  |cons c r=>unfold Dl;exact decide_eq_decide.2 ⟨fun h=>(List.cons.inj h).1,fun h=>by rw[show c=58 from h];try rfl⟩
 unfold isX;rw[this]
 cases b<;>simp
theorem AZf(h1:op≠[37])(h2:op≠[37,37])(h3:op≠[35]):decide (op=[35,35])=decide (op∈Ge):=by
 unfold Ge;simp[h1,h2,h3]
theorem AVW{a c:Bool}(h:(a != b)=c):c=true->(a= !b):=by subst h;cases a<;>cases b<;>simp
set_option maxHeartbeats 2000000 in
theorem ZJ(x:PE)(Lg:JS x.wv)(wi:Bool)(I0:AQ)(p:HP)(h:Hx)(hB:HB h)(hF:Nr (x.wv,false) I0 p h (CE false h [] x.word))(hSF:Small (CE false h [] x.word))(hT:Nr (x.wv,true) I0 p h (CE true h [] x.word))(hST:Small (CE true h [] x.word))(hxt:x.text.length<=1000000000)(I:AQ)(lv av:Value)(F:List HA)(w0 w:World)(P2:Le I0 I)(hi:Ca I p lv h)(BZ:St w0 I (DN p lv av h [] F) w):Calls prog 67 [.pointer (some ⟨p.eb,0,none⟩),.agg (Aa x).toArray].toArray w (ER w fun v I' H'=>Le I I'/\TM p F (CZ wi h (.mk 2 x.text x.op x.word x.q)) v I' H'):=by
 have hal:=hi.an
 have Wl:=UM hB x.text
 have hlx:=ZX hB x.text
 refine enter func67 O ntmps67 O (BZ.self) (tr (JC _ O fun b3=>?_));refine AH O (tq (EA O ?_));refine zq O (AR O O O) ?_
 refine zO 3 O (fun UQ=>by
   simp at UQ
   refine EA O ?_;refine zq O (AR O O O) ?_;exact zv O
  ) ?_
 refine De O (AF (tq ?_))
 refine zA 3 O (fun h29=>by
   simp at h29
   refine EA O ?_;refine zq O (AR O O O) ?_;exact zv O
  ) ?_
 refine Dp (AA O (fun Ab=>?_) (fun Ab=>?_))
 ·have h0:JN x.text=true/\x.op=[]:=by have h9:=Ab;rw[Ay,BC]at h9;exact h9
  refine tr (yq O (A7 O DG BU O O O) (yc O (fun w hw=>AFA x Lg p h hB I lv av [] (row b3 147 (Aa x)::F) _ w hi (Hp hw)) ?_));rintro v32 J32 _ ⟨Aec,rfl,Acm⟩;refine AH rfl (Ak (Aj rfl rfl rfl (fun w' hw=>?_)));exact⟨_,rfl,J32,DN p lv av h [] F,⟨Aec,0,[],_,h,lv,av,v32,rfl,rfl,hi.mono Aec,Acm,by rw[Abe h0.1 h0.2];exact⟨rfl,rfl,rfl,rfl⟩⟩,AD hw⟩
 have h0:∀_:x.op=[],JN x.text=false:=fun h9=>by have h8:=Ab;rw[BK h9,Bool.and_true]at h8;exact h8
 refine AV (tr (DE O ?_));refine yp O ((fun w hw=>ADY p lv h hB x.text w hxt (UO hi hw))) (AH O (AF (tr (DE O ?_))));refine ln (AJ (tr (yq O (AR O O O) (AH O (AA O (fun An=>?_) (fun An=>?_))))))
 ·have JY:=BM An
  refine tr (DE O ?_);refine yc O (fun w hw=>D2 (FI h x.text).1 x.q _ _ _ w hw) ?_;rintro v47 J47 _ ⟨ATX,rfl,Aep⟩;refine AH rfl (Ak (Aj rfl rfl rfl (fun w' hw=>?_)));exact⟨_,rfl,J47,DN p lv av h [] F,⟨ATX,0,[],_,h,lv,av,v47,rfl,rfl,hi.mono ATX,Aep,by rw[AcS (h0 JY) JY];exact⟨rfl,rfl,rfl,rfl⟩⟩,AD hw⟩
 have JY:=BW An
 refine tr (yq O (AR O O O) (AH O (AA O (fun A6=>?_) (fun A6=>?_))))
 ·have OC:=BM A6
  refine tr (yq O (AW O BX O) (AH O (EZ (ι:=Unit) [0,1,3,4,5,6,29,7,8,41,42,48] (fun _=>True) (fun _=>[(9,.int .i64 (Ou h x.text))]) (fun _=>I) (fun _=>(row b3 147 (Aa x)::DN p lv av h [] F)) O ?_ ?_)))
  ·refine AK O (AA O (fun BJ=>?_) (fun BJ=>?_))
   ·have BJ:JN x.text=true:=BJ
    refine AC (DE O ?_);refine DE O ?_;refine yq O ((by exact BH O BT O (Sl.lenOf hi.ar (Af _)))) ?_;refine AU O (Dd (()) ?_ (A0 O (by unfold Ou;rw[AI BJ]) (Bk)) (BS O) (fun _ h=>by dsimp only;exact AD h))
    trivial
   have BJ:JN x.text=false:=BJ
   refine AY (Dd (()) ?_ (A0 O (by unfold Ou;rw[AB (by rw[BJ];simp)]) (Bk)) (BS O) (fun _ h=>by dsimp only;exact AD h))
   trivial
  rintro _ _;refine AF (Bo [4] [] [row b3 147 (Aa x)] mo (by kernel_rfl) (fun _ _ _ _ _ h=>h) (xr [0] rfl rfl (xq 1 rfl rfl (qc rfl rfl rfl ((fun w hw=>Gi (Ou h x.text) w (by omega)))) ?_)));refine xr [2] rfl rfl (xq 3 rfl rfl (Az rfl rfl (by rfl)) ?_);refine xe 4 rfl rfl (ec rfl rfl rfl (fun w hw=>D2 (Lib.itoa (Ou h x.text)) x.q _ _ _ w hw)) ?_;rintro v65 J65 _ ⟨XK,rfl,AfZ⟩;refine⟨XK,.inr Fs.sub,?_⟩;refine xr [5,6] rfl rfl (CX (AS (Ak (Aj rfl rfl rfl (fun w' hw=>?_)))));exact⟨_,rfl,J65,DN p lv av h [] F,⟨XK,0,[],_,h,lv,av,v65,rfl,rfl,hi.mono XK,AfZ,by rw[AdX OC];exact⟨rfl,rfl,rfl,rfl⟩⟩,AD hw⟩
 have OC:=BW A6
 refine EZ (ι:=Unit) [0,1,3,4,5,6,29,7,8,41,42,48] (fun _=>True) (fun _=>[(66,.bool (decide (x.op∈Ge)))]) (fun _=>I) (fun _=>(row b3 147 (Aa x)::DN p lv av h [] F)) O ?_ ?_
 ·refine tr (yq O (AR O O O) (AH O (AA O (fun Bj=>?_) (fun Bj=>?_))))
  ·refine AY (Dd (()) ?_ (A0 O (B3 Value.bool (by rw[BM Bj];decide)) (Bk)) (BS O) (fun _ h=>by dsimp only;exact AD h))
   trivial
  refine tr (yq O (AR O O O) (AH O (AA O (fun B4=>?_) (fun B4=>?_))))
  ·refine AY (Dd (()) ?_ (A0 O (B3 Value.bool (by rw[BM B4];decide)) (Bk)) (BS O) (fun _ h=>by dsimp only;exact AD h))
   trivial
  refine tr (yq O (AR O O O) (AH O (AA O (fun CP=>?_) (fun CP=>?_))))
  ·refine AY (Dd (()) ?_ (A0 O (B3 Value.bool (by rw[BM CP];decide)) (Bk)) (BS O) (fun _ h=>by dsimp only;exact AD h))
   trivial
  refine AC (yq O (AR O O O) (AU O (Dd (()) ?_ (A0 O (B3 Value.bool (AZf (BW Bj) (BW B4) (BW CP))) (Bk)) (BS O) (fun _ h=>by dsimp only;exact AD h))))
  trivial
 rintro _ _;refine AA rfl (fun DF=>?_) (fun DF=>?_)
 ·have GV:=BM DF
  refine AF (tr (yq O (AW O BX O) (AH O (AA O (fun GQ=>?_) (fun GQ=>?_)))))
  ·simp at GQ
   have h66:4096<(FI h x.text).1.length:=by omega
   refine AK O (Ak (Aj O O O (fun w' hw=>?_)));exact⟨_,O,I,DN p lv av h [] F,⟨Le.refl _,66,[],[],h,lv,av,As,O,O,hi,J7,by rw[ARY GV h66];exact⟨O,by decide,O,O⟩⟩,AD hw⟩
  simp at GQ
  have h66:¬4096<(FI h x.text).1.length:=by omega
  refine AV (tr (DE O ?_));refine yc O (fun w hw=>hF I lv av (row b3 147 (Aa x)::F) _ w P2 hi (Hp hw)) ?_;rintro _ J78 _ ⟨Aev,e,m2,L,h2,lv2,av2,v78,rfl,rfl,EG,Ey,hr⟩;refine AH rfl (AF (AK rfl (AA rfl (fun KD=>?_) (fun KD=>?_))))
  ·simp at KD
   have he:e≠0:=by omega
   have JL:=hr.bad he
   refine AK O (Ak (Aj O O O (fun w' hw=>?_)));exact⟨_,O,J78,DN p lv2 av2 h2 m2 F,⟨Aev,e,m2,[],h2,lv2,av2,As,O,O,EG,J7,by rw[ASe GV h66,JL];exact⟨O,he,O,O⟩⟩,AD hw⟩
  simp at KD
  have he:e=0:=by omega
  subst he;obtain⟨JL,rfl⟩:=hr.ok rfl;obtain⟨hS1,hS2⟩:=hSF L h2 JL
  have hbk:=MF false h [] Ub x.word L h2 JL
  refine AV (AF ?_)
  have Abv:0<x.op.length:=BV.2 (N7 GV).1
  refine Bo [1,11,14] [] [row b3 147 (Aa x)] mo (by kernel_rfl) (fun _ _ _ _ _ h=>h) (xr [0,2,3] O O (x0 4 O (Le.refl _) O (fun _ hI=>Az O O (by rfl)) ?_));refine x0 5 O (Le.refl _) O (fun _ hI=>(by exact AZ O BX O O (by omega))) ?_;refine x0 6 O (Le.refl _) O (fun _ hI=>Ae O O O O) (xr [7] O O (x0 8 O (Le.refl _) O (fun _ hI=>Az O O (by rfl)) ?_));refine x0 9 O (Le.refl _) O (fun _ hI=>AW O BX O) (xr [10,12] O O (x0 13 O (Le.refl _) O (fun _ hI=>Az O O (by rfl)) ?_));refine xe 1 O O (ec O O O (fun w hw=>Sj v78 L _ _ _ w (by omega) hbk (by rw[Kj];omega) (fun x hx=>by have:=AdV hx;omega) Ey hw)) ?_;rintro v85 J85 _ ⟨AQt,rfl,hch⟩;refine⟨AQt,.inr Fs.sub,?_⟩;refine re 11 (by kernel_rfl) rfl (AQt) rfl (AMU (qc rfl rfl rfl (fun w hw=>ABk v85 (Cr L) (FI h x.text).1 _ _ w (by rw[Kj];omega) (by omega) (hch.mono hw.le)))) ?_;rintro _ _ _ ⟨rfl,rfl,rfl⟩;refine xk (re 14 (by kernel_rfl) rfl (AQt) rfl (ec rfl rfl rfl (fun w hw=>D2 _ x.q _ _ _ w hw)) ?_);rintro v98 J98 _ ⟨AZn,rfl,AcR⟩;refine⟨AZn,.inr Fs.sub,?_⟩;refine xr [15,16] rfl rfl (CX (AS (Ak (Aj rfl rfl rfl (fun w' hw=>?_)))))
  have hl2:decide ((x.op.length:Int)=2)=decide (x.op.length=2):=decide_eq_decide.2 (by omega)
  exact⟨_,O,J98,DN p lv2 av2 h2 [] F,⟨Aev.trans (AQt.trans AZn),0,[],_,h2,lv2,av2,v98,O,O,EG.mono (AQt.trans AZn),AcR,by rw[ASe GV h66,JL];exact⟨O,by rw[hl2];rfl,O,O⟩⟩,AD hw⟩
 have GV:=BW DF
 refine AY (AL (AS (tr (DE O ?_))));refine AH O (EZ (ι:=Unit) [66,0,1,3,4,5,6,29,7,41,42,48] (fun _=>True) (fun _=>[(12,Au (opX x.op)),(8,.bool (isX h x.text x.op))]) (fun _=>I) (fun _=>(row b3 147 (Aa x)::DN p lv av h [] F)) O ?_ ?_)
 ·refine AF ?_
  have Abv:0<x.op.length:=BV.2 JY
  refine AC (yq O ((by exact AZ O BX O O (by omega))) ?_);refine yq O (Ae O O O O) (ln (AA O (fun EW=>?_) (fun EW=>?_)))
  ·refine tr (yq O (BF O BX O O (by omega)) ?_);refine AH O (FU ?_)
   refine zA 2 O (fun Abr=>by
     refine zq O (Bs O O O) ?_;exact zv O
    ) ?_
   refine K5 1 O (KY (Dd (()) ?_ (A0 O (by rw[AIf JY EW];try rfl) (A0 O (by rw[ARC JY EW];try rfl) (Bk))) (BS O) (fun _ h=>by dsimp only;exact AD h)))
   trivial
  refine AY (Dd (()) ?_ (A0 O (by rw[AIf JY EW];try rfl) (A0 O (by rw[ARC JY EW];try rfl) (Bk))) (BS O) (fun _ h=>by dsimp only;exact AD h))
  trivial
 rintro _ _;refine AF (tr (yq rfl (AR rfl rfl rfl) (yq rfl (Pu rfl un4 rfl rfl) (ln (AA rfl (fun Eq=>?_) (fun Eq=>?_))))))
 ·have hq:=AVW Eq O
  refine AF (AK O (AA O (fun Fb=>?_) (fun Fb=>?_)))
  ·have h43:opX x.op≠[43]:=fun h9=>by rw[Fb,BK h9]at hq;cases hq
   refine tr (DE O ?_);refine yc O (fun w hw=>D2 (FI h x.text).1 x.q _ _ _ w hw) ?_;rintro v119 J119 _ ⟨AWQ,rfl,AZj⟩;refine AH rfl (Ak (Aj rfl rfl rfl (fun w' hw=>?_)));exact⟨_,rfl,J119,DN p lv av h [] F,⟨AWQ,0,[],_,h,lv,av,v119,rfl,rfl,hi.mono AWQ,AZj,by rw[AbW JY OC GV h43 Fb];exact⟨rfl,rfl,rfl,rfl⟩⟩,AD hw⟩
  have h43:opX x.op=[43]:=Classical.byContradiction fun h9=>by rw[Fb,DC h9]at hq;cases hq
  refine AV (tr (DE O ?_));refine yc O (fun w hw=>D2 [] x.q _ _ _ w hw) ?_;rintro v122 J122 _ ⟨AES,rfl,AZQ⟩;refine AH rfl (Ak (Aj rfl rfl rfl (fun w' hw=>?_)));exact⟨_,rfl,J122,DN p lv av h [] F,⟨AES,0,[],_,h,lv,av,v122,rfl,rfl,hi.mono AES,AZQ,by rw[AeP JY OC GV h43 Fb];exact⟨rfl,rfl,rfl,rfl⟩⟩,AD hw⟩
 have Tv:¬(opX x.op=[43]/\isX h x.text x.op=false):=fun h9=>by have h8:=Eq;rw[BK h9.1,h9.2]at h8;cases h8
 have h13:¬(opX x.op≠[43]/\isX h x.text x.op=true):=fun h9=>by have h8:=Eq;rw[DC h9.1,h9.2]at h8;cases h8
 refine AV (tr (DE O ?_));refine yc O (fun w hw=>hT I lv av (row b3 147 (Aa x)::F) _ w P2 hi (Hp hw)) ?_;rintro _ J127 _ ⟨WX,e,m2,L,h2,lv2,av2,v127,rfl,rfl,EG,Ey,hr⟩;refine AH rfl (AF (AK rfl (AA rfl (fun GC=>?_) (fun GC=>?_))))
 ·simp at GC
  have he:e≠0:=by omega
  have JL:=hr.bad he
  refine AK O (Ak (Aj O O O (fun w' hw=>?_)));exact⟨_,O,J127,DN p lv2 av2 h2 m2 F,⟨WX,e,m2,[],h2,lv2,av2,As,O,O,EG,J7,by rw[ABt JY OC GV Tv h13,JL];exact⟨O,he,O,O⟩⟩,AD hw⟩
 simp at GC
 have he:e=0:=by omega
 subst he;obtain⟨JL,rfl⟩:=hr.ok rfl;obtain⟨hS1,hS2⟩:=hST L h2 JL
 have hbk:=MF true h [] Ub x.word L h2 JL
 refine AV (AF (AK O (AJ (tr (yq O (AR O O O) (AH O (AA O (fun I8=>?_) (fun I8=>?_))))))))
 ·have LS:=BM I8
  refine AF (tr (DE O ?_));refine yp O ((fun w _=>MZ x.text w (by omega))) ?_;refine AH O (AA O (fun Kg=>?_) (fun Kg=>?_))
  ·have Hb:CF x.text=false:=by rw[FJ]at Kg;exact Kg
   refine AK O (Ak (Aj O O O (fun w' hw=>?_)));exact⟨_,O,J127,DN p lv2 av2 h2 [] F,⟨WX,22,[],[],h2,lv2,av2,As,O,O,EG,J7,by rw[ABt JY OC GV Tv h13,JL,X1 LS Hb];exact⟨O,by decide,O,O⟩⟩,AD hw⟩
  have Hb:CF x.text=true:=by rw[Bool.not_eq_false']at Kg;exact Kg
  refine AV (AF (AF (Bo [8] [] [row b3 147 (Aa x)] mo (by kernel_rfl) (fun _ _ _ _ _ h=>h) (xr [0,1,2] O O (xq 3 O O (Az O O (by rfl)) ?_)))));refine xr [4] O O (xq 5 O O (Az O O (by rfl)) ?_);refine xr [6] O O (xq 7 O O (qc O O O ((fun w hw=>JZ v127 L w (by omega) hbk (by omega) (Ey.mono hw.le)))) ?_);refine xe 8 O O (ec O O O (fun w hw=>MV p.vb h2.vars x.text (BN L) lv2 p.gv EG.ar.one EG.vn hxt _ EG.li (row p.eb 41 (Ow p av2 [])::Ap 9 1 Ce av2 h2.asked::row b3 147 (Aa x)::F) _ w (OP (row p.vb 49 [lv2,p.gv]) (row p.eb 41 (Ow p av2 [])) (Ap 9 1 Ce av2 h2.asked) (row b3 147 (Aa x)) hw))) ?_;rintro _ J148 _ ⟨Ll,rfl,lv3,rfl,AQH⟩;refine⟨Ll,.inr Fs.sub,?_⟩;refine xr [9] rfl rfl (CX (AS (AK rfl (AA rfl (fun MT=>?_) (fun MT=>?_)))))
  ·simp at MT
   have XD:(Cm h2.vars x.text (BN L)).1≠0:=by omega
   have N2:Ca J148 p lv3 (h2.put (Cm h2.vars x.text (BN L)).2):=⟨EG.sp.mono Ll,EG.ou.mono Ll,AQH,EG.ar.mono Ll,EG.on,EG.an,Ik EG.vn⟩
   rw[Hx.put_keep XD]at N2;refine AK O (Ak (Aj O O O (fun w' hw=>?_)));exact⟨_,O,J148,DN p lv3 av2 h2 [] F,⟨WX.trans Ll,(Cm h2.vars x.text (BN L)).1,[],[],h2,lv3,av2,As,O,O,N2,J7,by rw[ABt JY OC GV Tv h13,JL,ADr LS Hb XD];exact⟨AAH (ACj _ _ _),XD,O,O⟩⟩,AD hw⟩
  simp at MT
  have XD:(Cm h2.vars x.text (BN L)).1=0:=by omega
  have N2:Ca J148 p lv3 (h2.put (Cm h2.vars x.text (BN L)).2):=⟨EG.sp.mono Ll,EG.ou.mono Ll,AQH,EG.ar.mono Ll,EG.on,EG.an,Ik EG.vn⟩
  refine AV (AF (Bo [4] [] [row b3 147 (Aa x)] mo (by kernel_rfl) (fun _ _ _ _ _ h=>h) (xr [0] O O (xq 1 O O (qc O O O ((fun w hw=>JZ v127 L w (by omega) hbk (by omega) (Ey.mono (Ll.trans hw.le))))) ?_))));refine xr [2] O O (xq 3 O O (Az O O (by rfl)) ?_);refine xe 4 O O (ec O O O (fun w hw=>D2 (BN L) x.q _ _ _ w hw)) ?_;rintro v156 J156 _ ⟨Xo,rfl,AYk⟩;refine⟨Xo,.inr Fs.sub,?_⟩;refine xr [5,6] rfl rfl (CX (AS (Ak (Aj rfl rfl rfl (fun w' hw=>?_)))));exact⟨_,rfl,J156,DN p lv3 av2 (h2.put (Cm h2.vars x.text (BN L)).2) [] F,⟨WX.trans (Ll.trans Xo),0,[],_,(h2.put (Cm h2.vars x.text (BN L)).2),lv3,av2,v156,rfl,rfl,N2.mono Xo,AYk,by rw[ABt JY OC GV Tv h13,JL,ADz LS Hb XD];exact⟨rfl,rfl,rfl,rfl⟩⟩,AD hw⟩
 have LS:=BW I8
 refine tr (yq O (AR O O O) (AH O (AA O (fun Qm=>?_) (fun Qm=>?_))))
 ·have AAW:=BM Qm
  refine tr (yp O ((fun w hw=>JZ v127 L w (by omega) hbk (by omega) (Ey.mono hw.le))) ?_);refine Eu _ O ?_ (by exact⟨O,O⟩) O (by(simp only[Iw,DS];try rfl));refine FB (H':=row p.eb 41 (Ow p av2 (BN L))::_) ?_ (fun _ h=>h);refine DL (AH O (Ak (Aj O O O (fun w' hw=>?_))));exact⟨_,O,J127,DN p lv2 av2 h2 (BN L) F,⟨WX,62,(BN L),[],h2,lv2,av2,As,O,O,EG,J7,by rw[ABt JY OC GV Tv h13,JL,ACA AAW];exact⟨O,by decide,O,O⟩⟩,AD hw⟩
 have AAW:=BW Qm
 refine AY (AL (AS (AF (tr ?_))));refine yq O ((by exact BH O QF O (Sl.lenOf Ey (Af _)))) ?_;refine AH O (AA O (fun Pd=>?_) (fun Pd=>?_))
 ·simp at Pd
  have hL0:L=[]:=by first |exact Pd|exact List.eq_nil_of_length_eq_zero (by omega)
  refine tr (DE O ?_);refine yc O (fun w hw=>D2 [] x.q _ _ _ w hw) ?_;rintro v169 J169 _ ⟨AWo,rfl,AZu⟩;refine AH rfl (Ak (Aj rfl rfl rfl (fun w' hw=>?_)));exact⟨_,rfl,J169,DN p lv2 av2 h2 [] F,⟨WX.trans AWo,0,[],_,h2,lv2,av2,v169,rfl,rfl,EG.mono AWo,AZu,by rw[ABt JY OC GV Tv h13,JL,ADc LS AAW hL0];exact⟨rfl,rfl,rfl,rfl⟩⟩,AD hw⟩
 simp at Pd
 have hL0:L≠[]:=fun h9=>by subst h9;simp at Pd
 refine AV (AK O (AX (Aj O O O (fun w' hw=>?_))));exact⟨_,O,J127,DN p lv2 av2 h2 [] F,⟨WX,0,[],L,h2,lv2,av2,v127,O,O,EG,Ey,by rw[ABt JY OC GV Tv h13,JL,AMs LS AAW hL0];exact⟨O,O,O,O⟩⟩,AD hw⟩
theorem ADF(L:List Px)(h:Hx)(vv:Value)(I:AQ)(F:List HA)(w0 w:World)(hs:(BN L).length<=900000000)(hv:Sl I 5 vv ((EL h.vars).map DP))(hl:(EL h.vars).length<=1000000)(hV:I3 (EL h.vars))(BZ:St w0 I F w):Calls prog 97 [Au (BN L),vv].toArray w (ER w fun v I' H'=>Le I I'/\H'=F/\∃sl,v=.tuple #[.int .i64 (Eh L h).1,sl,.int .i64 ((Eh L h).2.2:Int)]/\Sl I' 2 sl ((Eh L h).2.1.map F5)):=ADA (BN L) vv (EL h.vars) I F w0 w hs hl hV.2 hv BZ
set_option maxHeartbeats 1000000 in
theorem AHF(x:PE)(Lg:JS x.wv)(I0:AQ)(p:HP)(h:Hx)(r0:XR)(hF:Nr (x.wv,false) I0 p h r0)(hS:Small r0)(hBk:Vw r0)(hB:∀L h',r0=.ok L h'->HB h')(I:AQ)(lv av:Value)(F:List HA)(w0 w:World)(P2:Le I0 I)(hi:Ca I p lv h)(BZ:St w0 I (DN p lv av h [] F) w):Calls prog 69 [.pointer (some ⟨p.eb,0,none⟩),.agg (Aa x).toArray].toArray w (ER w fun v I' H'=>Le I I'/\TM p F (RB x.q r0) v I' H'):=by
 refine enter func69 O ntmps69 O (BZ.self) (tr (JC _ O fun b3=>?_));refine AH O (tr (yq O ((by exact Az O O (by rfl))) ?_));refine yc O (fun w hw=>hF I lv av (row b3 147 (Aa x)::F) _ w P2 hi (Hp hw)) ?_;rintro _ J18 _ ⟨Jl,e,m2,L,h2,lv2,av2,v18,rfl,rfl,EG,Ey,hr⟩;refine AH rfl (AF (AK rfl (AA rfl (fun Ab=>?_) (fun Ab=>?_))))
 ·simp at Ab
  have he:e≠0:=by omega
  have JL:=hr.bad he
  subst JL;refine AK rfl (Ak (Aj rfl rfl rfl (fun w' hw=>?_)));exact⟨_,rfl,J18,DN p lv2 av2 h2 m2 F,⟨Jl,e,m2,[],h2,lv2,av2,As,rfl,rfl,EG,J7,⟨rfl,he,rfl,rfl⟩⟩,AD hw⟩
 simp at Ab
 have he:e=0:=by omega
 subst he;obtain⟨JL,rfl⟩:=hr.ok rfl;subst JL;obtain⟨hS1,hS2⟩:=hS L h2 rfl
 have hVO:=ADd (hB L h2 O)
 have hbk:=hBk L h2 O
 have AfG:=EG.vn
 refine AV (AK O (AF (AK O (AJ (EB (ι:=Nat×Value) [0,1,3,4,5,6,7,22] (fun zz=>zz.1<=h2.vars.length) (fun zz=>h2.vars.length-zz.1) (fun zz=>[(9,.int .i64 (zz.1:Int)),(8,zz.2)]) (fun zz=>J18) (fun zz=>(Ap 46 5 DP zz.2 (EL (h2.vars.take zz.1))::(row b3 147 (Aa x)::DN p lv2 av2 h2 [] F))) (0,.slice none 0 0) O ?_ ?_ (hh:=(fun _ h=>by dsimp only;rw[Qo];exact CI 46 5 DP (AD h))))))))
 ·dsimp only;exact Aw _
 rintro⟨i,vo⟩ Ym;dsimp only at *
 have Ajw:=Rx (h2.vars.take i)
 rw[BL]at Ajw;refine AF (tr (yq O ((by exact Az O O (by rfl))) ?_));refine yq O ((by exact Az O O (by rfl))) ?_;refine yq O ((by exact BH O Dn O (Sl.lenOf EG.li (Af _)))) ?_;refine AH O (AA O (fun An=>?_) (fun An=>?_))
 ·simp at An
  have DK:i<h2.vars.length:=by omega
  refine AV (AF (AJ (tr (yq O ((by exact Az O O (by rfl))) ?_))));refine yq O ((by exact Az O O (by rfl))) ?_;refine yq O ((by exact AN O Dn DY O O (Sl.shape EG.li (Af _)) (by omega))) ?_;refine yq O ((by exact Ai O O (Md (i:=i) (j:=4) EG.li (by omega) O))) ?_;refine AH O (AA O (fun A6=>?_) (fun A6=>?_))
  ·simp only[FJ]at A6;refine AC (yq O ((by exact Az O O (by rfl))) ?_);refine yq O ((by exact Az O O (by rfl))) ?_;refine yq O ((by exact AN O Dn DY O O (Sl.shape EG.li (Af _)) (by omega))) ?_;refine yq O ((by exact Br O Ov DY O O (Nq (i:=i) EG.li (by omega)))) ?_;refine NF _ O (fun b59=>?_) (by rfl);refine V4 (f:=DP) (AG h2.vars i Ez) O (fun v60=>?_) (C8 _) (by(try simp only[maxLen]);omega) (by omega);refine AU O (AL (AS (AC (yq O (AM O O O (by omega)) ?_))));refine AU O (DJ ((i+1,v60)) ?_ ?_ (hh:=(fun _ h=>by dsimp only;rw[Mv DK,AB (by rw[A6];simp)];exact AD h)))
   ·dsimp only
    show i+1<=_
    omega
   dsimp only
   show h2.vars.length-(i+1)<h2.vars.length-i
   omega
  simp only[Bool.not_eq_false']at A6;refine AY (AL (AS (AC (yq O (AM O O O (by omega)) ?_))));refine AU O (DJ ((i+1,vo)) ?_ ?_ (hh:=(fun _ h=>by dsimp only;rw[Mv DK,AI A6,Nj];exact AD h)))
  ·dsimp only
   show i+1<=_
   omega
  dsimp only
  show h2.vars.length-(i+1)<h2.vars.length-i
  omega
 simp at An
 have DK:i=h2.vars.length:=by omega
 rw[DK,Gb];refine Av (AE (AE (AO (AS (AF (Bf (f:=DP) (l:=EL h2.vars) vo (fun _=>rfl) (fun Jf IL Rm=>?_)))))));refine AC (yp O ((fun w hw=>JZ v18 L w (by omega) hbk (by omega) (Ey.mono (IL.trans hw.le)))) ?_);refine yc O (fun w hw=>ADF L h2 vo _ _ _ w (by omega) Rm (by have:=Rx h2.vars;omega) hVO hw) ?_;rintro _ J65 _ ⟨XK,rfl,sl,rfl,C3⟩;refine AH rfl (AF (AK rfl (AA rfl (fun BJ=>?_) (fun BJ=>?_))))
 ·simp at BJ
  have hev:(Eh L h2).2.2≠0:=by omega
  refine AK O (Ak (Aj O O O (fun w' hw=>?_)));exact⟨_,O,J65,DN p lv2 av2 h2 [] F,⟨Jl.trans (IL.trans XK),(Eh L h2).2.2,[],[],h2,lv2,av2,As,O,O,(EG.mono IL).mono XK,J7,by rw[ADB hev];exact⟨AAH (AOU _ _),hev,O,O⟩⟩,AD hw⟩
 simp at BJ
 have hev:(Eh L h2).2.2=0:=by omega
 have hEI:E7 (Eh L h2).1/\SU (BN L).length (Eh L h2).2.1:=AGK (BN L) ((EL h2.vars).map Vr.nv)
 have hAs:=hEI.2
 have hSl:=AIi (h:=h2) hS2
 refine AV (AF (AK O (AJ (EB (ι:=Nat×Hx×Value×AQ) [9,8,0,1,3,6,7,22,33,10,11,70] (fun zz=>zz.1<=(Eh L h2).2.1.length/\Le I zz.2.2.2/\Le J65 zz.2.2.2/\Ca zz.2.2.2 p zz.2.2.1 zz.2.1/\HU (B0 (Lib.itoa (Eh L h2).1) x.q) (Eh L h2).2.1 h2=HU (B0 (Lib.itoa (Eh L h2).1) x.q) ((Eh L h2).2.1.drop zz.1) zz.2.1) (fun zz=>(Eh L h2).2.1.length-zz.1) (fun zz=>[(12,.int .i64 (zz.1:Int))]) (fun zz=>zz.2.2.2) (fun zz=>(row b3 147 (Aa x)::DN p zz.2.2.1 av2 zz.2.1 [] F)) (0,h2,lv2,J65) O ?_ ?_))))
 ·dsimp only;exact⟨Aw _,Jl.trans (IL.trans XK),Le.refl _,(EG.mono IL).mono XK,O⟩
 rintro⟨i,hh,lvi,J⟩ ⟨AYV,hJ,hJq,M6,CS⟩;dsimp only at *;refine AF (tr ?_);refine yq rfl ((by exact BH rfl Rg rfl (Sl.lenOf C3 (Af _)))) ?_;refine AH rfl (AA rfl (fun Bj=>?_) (fun Bj=>?_))
 ·simp at Bj
  have DK:i<(Eh L h2).2.1.length:=by omega
  have hAi:=hAs (AG (Eh L h2).2.1 i H2) (BE DK)
  have Agv:=hAi.2
  refine AV (AF (AJ (AF (Bo [15] [] [row b3 147 (Aa x)] mo (by kernel_rfl) (fun _ _ _ _ _ h=>h) (xr [0,1,2] O O (xq 3 O O ((by exact Az O O (by rfl))) ?_))))));refine xr [4,5] O O ?_;refine xq 6 O O ((by exact AN O Rg O2 O O (Sl.shape (C3.mono hJq) (Af _)) (by omega))) ?_;refine xr [7] O O (xq 8 O O ((by exact Ai O O (AMn (i:=i) (j:=0) (C3.mono hJq) (by omega) O))) ?_);refine xr [9,10] O O ?_;refine xq 11 O O ((by exact AN O Rg O2 O O (Sl.shape (C3.mono hJq) (Af _)) (by omega))) ?_;refine xr [12] O O (xq 13 O O ((by exact Ai O O (AMn (i:=i) (j:=1) (C3.mono hJq) (by omega) O))) ?_);refine xq 14 O O (qc O O O ((fun w hw=>Gi (AG (Eh L h2).2.1 i H2).2 w hAi.1))) (xe 15 O O (ec O O O (fun w hw=>MV p.vb hh.vars (AG (Eh L h2).2.1 i H2).1 (Lib.itoa (AG (Eh L h2).2.1 i H2).2) lvi p.gv M6.ar.one M6.vn (by omega) _ M6.li (row p.eb 41 (Ow p av2 [])::Ap 9 1 Ce av2 hh.asked::row b3 147 (Aa x)::F) _ w (OP (row p.vb 49 [lvi,p.gv]) (row p.eb 41 (Ow p av2 [])) (Ap 9 1 Ce av2 hh.asked) (row b3 147 (Aa x)) hw))) ?_);rintro _ J93 _ ⟨XB,rfl,lv3,rfl,AQH⟩;refine⟨XB,.inr Fs.sub,?_⟩;refine xr [16] rfl rfl (CX (AS (AK rfl (AA rfl (fun B4=>?_) (fun B4=>?_)))))
  ·simp at B4
   have XD:(Cm hh.vars (AG (Eh L h2).2.1 i H2).1 (Lib.itoa (AG (Eh L h2).2.1 i H2).2)).1≠0:=by omega
   have N2:Ca J93 p lv3 (hh.put (Cm hh.vars (AG (Eh L h2).2.1 i H2).1 (Lib.itoa (AG (Eh L h2).2.1 i H2).2)).2):=⟨M6.sp.mono XB,M6.ou.mono XB,AQH,M6.ar.mono XB,M6.on,M6.an,Ik M6.vn⟩
   rw[Hx.put_keep XD]at N2;refine AK O (Ak (Aj O O O (fun w' hw=>?_)));exact⟨_,O,J93,DN p lv3 av2 hh [] F,⟨hJ.trans XB,(Cm hh.vars (AG (Eh L h2).2.1 i H2).1 (Lib.itoa (AG (Eh L h2).2.1 i H2).2)).1,[],[],hh,lv3,av2,As,O,O,N2,J7,by rw[UN hev,CS,Qi DK,AI XD];exact⟨AAH (ACj _ _ _),XD,O,O⟩⟩,AD hw⟩
  simp at B4
  have XD:(Cm hh.vars (AG (Eh L h2).2.1 i H2).1 (Lib.itoa (AG (Eh L h2).2.1 i H2).2)).1=0:=by omega
  have N2:Ca J93 p lv3 (hh.put (Cm hh.vars (AG (Eh L h2).2.1 i H2).1 (Lib.itoa (AG (Eh L h2).2.1 i H2).2)).2):=⟨M6.sp.mono XB,M6.ou.mono XB,AQH,M6.ar.mono XB,M6.on,M6.an,Ik M6.vn⟩
  refine AY (AL (AS (AC (yq O (AM O O O (by omega)) ?_))));refine AU O (DJ ((i+1,hh.put (Cm hh.vars (AG (Eh L h2).2.1 i H2).1 (Lib.itoa (AG (Eh L h2).2.1 i H2).2)).2,lv3,J93)) ?_ ?_)
  ·dsimp only;refine⟨(show i+1<=_ by omega),hJ.trans XB,hJq.trans XB,N2,?_⟩;rw[CS,Qi DK,AB (by omega)]
  dsimp only
  show(Eh L h2).2.1.length-(i+1)<(Eh L h2).2.1.length-i
  omega
 simp at Bj
 have DK:i=(Eh L h2).2.1.length:=by omega
 rw[DK,K7,HU]at CS;refine Av (AE (AE (AO (AS (AF (Bo [4] [] [row b3 147 (Aa x)] mo (by kernel_rfl) (fun _ _ _ _ _ h=>h) (xr [0] O O (xq 1 O O (qc O O O ((fun w hw=>Gi (Eh L h2).1 w hEI.1))) (xr [2] O O ?_)))))))));refine xq 3 O O ((by exact Az O O (by rfl))) ?_;refine xe 4 O O (ec O O O (fun w hw=>D2 (Lib.itoa (Eh L h2).1) x.q _ _ _ w hw)) ?_;rintro v101 J101 _ ⟨AQy,rfl,AZU⟩;refine⟨AQy,.inr Fs.sub,?_⟩;refine xr [5,6] rfl rfl (CX (AS (AX (Aj rfl rfl rfl (fun w' hw=>?_)))));exact⟨_,rfl,J101,DN p lvi av2 hh [] F,⟨hJ.trans AQy,0,[],_,hh,lvi,av2,v101,rfl,rfl,M6.mono AQy,AZU,by rw[UN hev,CS];exact⟨rfl,rfl,rfl,rfl⟩⟩,AD hw⟩
theorem ATK{h:Hx}{x:PE}(hk:x.kind=1):CZ b h x.pt=.ok (SQ x.text x.q b) h:=OM (by rw[hk];decide) (by rw[hk];decide) (by rw[hk];decide) (by rw[hk];rintro⟨h,_⟩;cases h)
theorem AZN{h:Hx}{x:PE}(hk:x.kind=5)(ht:x.text=[126]/\x.q=false)(hh:(FH h ND).2=false):CZ b h x.pt=.ok (SQ [126] false b) h:=by
 have h1:=OM (wi:=b) (h:=h) (k:=x.kind) (t:=x.text) (op:=x.op) (w:=x.word) (q:=x.q) (by rw[hk];decide) (by rw[hk];decide) (by rw[hk];decide) (by rintro⟨_,h1⟩;rw[hh]at h1;cases h1)
 rw[ht.1,ht.2]at h1
 show CZ b h (.mk x.kind x.text x.op x.word x.q)=_
 rw[ht.1,ht.2];exact h1
set_option maxHeartbeats 2000000 in
theorem Qa(L:List PE)(v:Value)(b:Bool)(I0:AQ)(C3:Sl I0 5 v (L.map Aa))(hW:∀x∈L,JS x.wv)(hL:L.length<=1000000)(p:HP)(h:Hx)(HOk:Nat->Hx->Prop)(hh0:HOk 0 h)(JG:∀i,i<L.length->∀h',HOk i h'->(HB h'/\h'.asked.length<=1000000/\KdT (AG L i Ct).pt)/\((AG L i Ct).kind=2->AQA (AG L i Ct) I0 p h' (CZ b h' (AG L i Ct).pt))/\((AG L i Ct).kind=4->AYC (AG L i Ct) I0 p h' (CZ b h' (AG L i Ct).pt))/\∀m h'',CZ b h' (AG L i Ct).pt=.ok m h''->HOk (i+1) h''/\m.length<=1000000)(I:AQ)(lv av:Value)(F:List HA)(w0 w:World)(P2:Le I0 I)(hi:Ca I p lv h)(BZ:St w0 I (DN p lv av h [] F) w):Calls prog 45 [.pointer (some ⟨p.eb,0,none⟩),v,.bool b].toArray w (ER w fun v I' H'=>Le I I'/\TM p F (CE b h [] (L.map PE.pt)) v I' H'):=by
 refine enter func45 O ntmps45 O (BZ.self) (AK O (AK O (AF (AK O (AJ (EB (ι:=Nat×Value×List Px×Hx×Value×Value×AQ) [0,1,2] (fun zz=>zz.1<=L.length/\Le I zz.2.2.2.2.2.2/\Ca zz.2.2.2.2.2.2 p zz.2.2.2.2.1 zz.2.2.2.1/\HOk zz.1 zz.2.2.2.1/\zz.2.2.1.length<=1000000 * zz.1/\CE b h [] (L.map PE.pt)=CE b zz.2.2.2.1 zz.2.2.1 ((L.drop zz.1).map PE.pt)) (fun zz=>L.length-zz.1) (fun zz=>[(9,.int .i64 (zz.1:Int)),(8,zz.2.1)]) (fun zz=>zz.2.2.2.2.2.2) (fun zz=>(DN p zz.2.2.2.2.1 zz.2.2.2.2.2.1 zz.2.2.2.1 [] (Ap 81 4 Hz zz.2.1 zz.2.2.1::F))) (0,.slice none 0 0,[],h,lv,av,I) O ?_ ?_ (hh:=(fun _ k=>AD (CI 81 4 Hz k)))))))))
 ·dsimp only;exact⟨Aw _,Le.refl _,hi,hh0,A5 _,by rw[PB]⟩
 rintro⟨i,vo,acc,hh,lvi,avi,J⟩ ⟨Rj,hJ,M6,hho,hal,hgo⟩;dsimp only at *;refine AF (tr ?_);refine yq rfl ((by exact BH rfl Fw rfl (Sl.lenOf C3 (Af _)))) ?_;refine AH rfl (AA rfl (fun Ab=>?_) (fun Ab=>?_))
 ·simp at Ab
  have DK:i<L.length:=by omega
  obtain⟨⟨hHB,hHn,hkd⟩,hrp,hra,hnx⟩:=JG i DK hh hho
  have Lc:=hW _ (BE (d:=Ct) DK)
  obtain⟨Ahy,_⟩:=(show(1<=(AG L i Ct).kind/\(AG L i Ct).kind<=5)/\_ from hkd);refine AV (AF (AJ (tr ?_)));refine yq rfl ((by exact AN rfl Fw BU rfl rfl (Sl.shape (C3.mono (P2.trans hJ)) (Af _)) (by omega))) ?_;refine yq rfl ((by exact Br rfl DG BU rfl rfl (AAt (i:=i) (C3.mono (P2.trans hJ)) (by omega)))) ?_
  refine HO _ O fun b10=>?_
  refine El (Aa (AG L i Ct)) O ?_ (by exact TQ Lc);refine DL (AH O (AK O (EZ (ι:=Value×List Px×Nat×Hx×Value×Value×List UInt8×AQ) [9,8,0,1,2,18,10] (fun zz=>Le J zz.2.2.2.2.2.2.2/\Ca zz.2.2.2.2.2.2.2 p zz.2.2.2.2.1 zz.2.2.2.1/\Wt zz.2.2.2.2.2.2.2 zz.1 zz.2.1/\YR (CZ b hh (AG L i Ct).pt) zz.2.2.1 zz.2.2.2.2.2.2.1 zz.2.1 zz.2.2.2.1) (fun zz=>[(11,zz.1),(12,.int .i64 (zz.2.2.1:Int))]) (fun zz=>zz.2.2.2.2.2.2.2) (fun zz=>(DN p zz.2.2.2.2.1 zz.2.2.2.2.2.1 zz.2.2.2.1 zz.2.2.2.2.2.2.1 (row b10 147 (Aa (AG L i Ct))::Ap 81 4 Hz vo acc::F))) O ?_ ?_)))
  ·refine tr (DE O ?_);refine ln (AJ (AK O (AA O (fun An=>?_) (fun An=>?_))))
   ·simp at An
    have Rn:(AG L i Ct).kind=1:=by omega
    refine AC (CL 10 (EA O ?_));refine EA O ?_
    refine zA 3 O (fun h38=>by
      refine EA O ?_;exact zv O
     ) ?_
    refine FR (Em (Ot ⟨(AG L i Ct).text,(AG L i Ct).q,b&& !(AG L i Ct).q⟩) O (Em (Hz ⟨⟨(AG L i Ct).text,(AG L i Ct).q,b&& !(AG L i Ct).q⟩,false⟩) O (NF _ O (fun b41=>?_) (by rfl))));refine CU b41 (fun J41 ATO hk=>?_)
    have Ey:=Kd (f:=Hz) (sz:=4) (SQ (AG L i Ct).text (AG L i Ct).q b) hk O O (fun _=>rfl)
    refine AU O (AL (CB ((.slice (some ⟨b41,0,none⟩) 1 1,SQ (AG L i Ct).text (AG L i Ct).q b,0,hh,lvi,avi,[],J41)) ?_))
    dsimp only;exact⟨ATO,M6.mono ATO,Ey,by rw[ATK Rn];exact⟨O,O,O,O⟩⟩
   simp at An
   refine AK O (AA O (fun A6=>?_) (fun A6=>?_))
   ·simp at A6
    have PJ:(AG L i Ct).kind=2:=by omega
    refine AC (yq O ((by exact A7 O DG BU O O O)) ?_);refine yc O (fun w hw=>hrp PJ J lvi avi (row b10 147 (Aa (AG L i Ct))::Ap 81 4 Hz vo acc::F) _ w (P2.trans hJ) M6 (Hp hw)) ?_;rintro _ J47 _ ⟨ATX,e,m2,M,h3,lv3,av3,vl3,rfl,rfl,N2,Ey,hr⟩;refine AU rfl (AL (CB ((vl3,M,e,h3,lv3,av3,m2,J47)) ?_))
    dsimp only;exact⟨ATX,N2,Ey,hr⟩
   simp at A6
   refine AK O (AA O (fun BJ=>?_) (fun BJ=>?_))
   ·simp at BJ
    have Td:(AG L i Ct).kind=3:=by omega
    refine AC (yq O ((by exact A7 O DG BU O O O)) ?_);refine yc O (fun w hw=>Vt (AG L i Ct) Lc p hh hHB hHn J lvi avi (row b10 147 (Aa (AG L i Ct))::Ap 81 4 Hz vo acc::F) _ w M6 (Hp hw)) ?_;rintro _ J55 _ ⟨AKH,e,m2,M,h3,lv3,av3,vl3,rfl,rfl,N2,Ey,hr⟩;refine AU rfl (AL (CB ((vl3,M,e,h3,lv3,av3,m2,J55)) ?_))
    dsimp only;exact⟨AKH,N2,Ey,by rw[PE.pt,Td,Se];exact hr⟩
   simp at BJ
   refine AK O (AA O (fun Bj=>?_) (fun Bj=>?_))
   ·simp at Bj
    have hk4:(AG L i Ct).kind=4:=by omega
    refine AC (yq O ((by exact A7 O DG BU O O O)) ?_);refine yc O (fun w hw=>hra hk4 J lvi avi (row b10 147 (Aa (AG L i Ct))::Ap 81 4 Hz vo acc::F) _ w (P2.trans hJ) M6 (Hp hw)) ?_;rintro _ J63 _ ⟨APc,e,m2,M,h3,lv3,av3,vl3,rfl,rfl,N2,Ey,hr⟩;refine AU rfl (AL (CB ((vl3,M,e,h3,lv3,av3,m2,J63)) ?_))
    dsimp only;exact⟨APc,N2,Ey,hr⟩
   simp at Bj
   refine AK O (AA O (fun B4=>?_) (fun B4=>?_))
   ·simp at B4
    have hk5:(AG L i Ct).kind=5:=by omega
    refine tr (yp O ((fun w hw=>Gk p lvi hh ND w (by decide) (UO M6 hw))) ?_);refine AH O (AK O (AA O (fun CP=>?_) (fun CP=>?_)))
    ·refine AC (yc O (fun w hw=>D2 (FH hh ND).1 true _ _ _ w hw) ?_);rintro v75 J75 _ ⟨Abz,rfl,Acz⟩;refine AU rfl (AL (CB ((v75,B0 (FH hh ND).1 true,0,hh,lvi,avi,[],J75)) ?_))
     dsimp only;exact⟨Abz,M6.mono Abz,Acz,by rw[PE.pt,hk5,WL CP];exact⟨O,O,O,O⟩⟩
    refine AC (Em (Ot ⟨[126],false,b⟩) O (Em (Hz ⟨⟨[126],false,b⟩,false⟩) O (NF _ O (fun b79=>?_) (by rfl))));refine CU b79 (fun J79 Aeu hk=>?_)
    have Ey:=Kd (f:=Hz) (sz:=4) ([⟨⟨[126],false,b⟩,false⟩]:List Px) hk O O (fun _=>rfl)
    refine AU O (AL (CB ((.slice (some ⟨b79,0,none⟩) 1 1,[⟨⟨[126],false,b⟩,false⟩],0,hh,lvi,avi,[],J79)) ?_))
    dsimp only;exact⟨Aeu,M6.mono Aeu,Ey,by rw[AZN hk5 (hkd.2.1 hk5) CP];exact⟨O,by unfold SQ;simp,O,O⟩⟩
   simp at B4
   exact Ac Ahy (by omega)
  rintro⟨vl2,M,e2,h3,lv3,av3,m3,J3⟩ ⟨hJ3,N2,Ey,hr⟩;dsimp only at *;refine AF (AK rfl (AA rfl (fun DF=>?_) (fun DF=>?_)))
  ·simp at DF
   have he:e2≠0:=by omega
   have JL:=hr.bad he
   refine AK O (Ak (Aj O O O (fun w' hw=>?_)));exact⟨_,O,J3,DN p lv3 av3 h3 m3 F,⟨hJ.trans hJ3,e2,m3,[],h3,lv3,av3,As,O,O,N2,J7,by rw[hgo,LI DK,JL];exact⟨O,he,O,O⟩⟩,AD hw⟩
  simp at DF
  have he:e2=0:=by omega
  subst he;obtain⟨JL,rfl⟩:=hr.ok rfl
  have Cz:=hnx M h3 JL
  have hML:=Cz.2
  refine AV (AC ?_);refine ye O (BG (f:=Hz) (l:=acc) (ls:=M) O QF Wo O O O O (Ey) O (fun _=>rfl) HY (by simp only[maxLen];omega) (by omega)) ?_;rintro v85 _ _ ⟨rfl,rfl⟩;refine AU rfl (AL (AS (AC (yq rfl (AM rfl rfl rfl (by omega)) ?_))));refine AU rfl (DJ ((i+1,v85,acc++M,h3,lv3,av3,J3)) ?_ ?_)
  ·dsimp only;refine⟨(show i+1<=_ by omega),hJ.trans hJ3,N2,Cz.1,?_,?_⟩
   ·have:=Cz.2
    rw[Bh];show _<=1000000 * (i+1);omega
   rw[hgo,LI DK,JL]
  dsimp only
  show L.length-(i+1)<L.length-i
  omega
 simp at Ab
 have DK:i=L.length:=by omega
 rw[DK,K7,WI,CE]at hgo;refine Av (AE (AE (AO (AS (AK O (AX (Aj O O O (fun w' hw=>?_))))))));obtain⟨J2,g1,g2,g3⟩:=FV (v:=vo) (f:=Hz) (l:=acc) (Al (Ap 81 4 Hz vo acc) hw) (fun _=>rfl);exact⟨_,rfl,J2,DN p lvi avi hh [] F,⟨hJ.trans g1,0,[],acc,hh,lvi,avi,vo,rfl,rfl,M6.mono g1,g3,by rw[hgo];exact⟨rfl,rfl,rfl,rfl⟩⟩,AD g2⟩
theorem AGo(p:HP):∀(n:Nat) (l:List PT),C5 l<=n->C5 l<=2000->NH l->Kr l->∀(v:Value) (wi:Bool) (I0:AQ) (h:Hx),QU I0 v l->HB h->h.asked.length+C5 l<=1000000->Nr (v,wi) I0 p h (CE wi h [] l):=by
 intro n
 induction n with
 |zero=>
  intro l hn hc ho hk v wi I0 h hv hB ha;obtain⟨L,rfl,C3,hW⟩:=hv.un
  have:=Ue L
  exact Qa L v wi I0 C3 (fun x hx=>(hW x hx).one) (by omega) p h (fun _ _=>True) trivial (fun i hi=>Ac hi (by omega))
 |succ n ih=>
  intro l hn hc ho hk v wi I0 h hv hB ha;obtain⟨L,rfl,C3,hW⟩:=hv.un
  have Dg:=Ue L
  refine Qa L v wi I0 C3 (fun x hx=>(hW x hx).one) (by omega) p h (fun i h'=>HB h'/\h'.asked.length+C5 ((L.drop i).map PE.pt)<=1000000) ⟨hB,by simpa using ha⟩ (fun i hi h' hh=>?_);obtain⟨hB',ha'⟩:=hh
  have hx:AG L i Ct∈L:=BE hi
  have hxo:=AEC ho (FL.2 ⟨_,hx,O⟩)
  have hxk:=(UY _).1 hk _ (FL.2 ⟨_,hx,O⟩)
  have I4:=X5 hi
  have hdl:=QE L i
  have hxp:=hW _ hx
  generalize AG L i Ct=x at *
  have hcx:x.pt.cnt=1+C5 x.word:=rfl
  have AZh:x.text.length<=65536/\NH x.word:=hxo
  obtain⟨htx,hwo⟩:=AZh
  have hwk:Kr x.word:=(show(1<=x.kind/\x.kind<=5)/\(x.kind=5->x.text=[126]/\x.q=false)/\Kr x.word from hxk).2.2
  have hb:=SO x.pt wi h' hxo hB'
  refine⟨⟨hB',by omega,hxk⟩,fun PJ=>?_,fun hk4=>?_,fun m h'' e=>?_⟩
  ·rw[PE.pt,PJ]
   exact ZJ x hxp.one wi I0 p h' hB' (ih x.word (by omega) (by omega) hwo hwk x.wv false I0 h' hxp hB' (by omega)) (IQ (Ei x.word false h' [] hwo hB') (by omega))
    (ih x.word (by omega) (by omega) hwo hwk x.wv true I0 h' hxp hB' (by omega)) (IQ (Ei x.word true h' [] hwo hB') (by omega)) (by omega)
  ·have hF:=Ei x.word false h' [] hwo hB'
   rw[PE.pt,hk4,Yc];exact AHF x hxp.one I0 p h' _ (ih x.word (by omega) (by omega) hwo hwk x.wv false I0 h' hxp hB' (by omega)) (IQ hF (by omega)) (MF _ _ _ Ub _) (fun L h9 e=>by rw[e]at hF;exact hF.1)
  rw[e]at hb;obtain⟨h1,h2,h3,h4⟩:=hb;exact⟨⟨h1,by omega⟩,by omega⟩
def AGH(p:HP)(h:Hx)(s:List UInt8)(kd:Int):Prop:=∀l,Di s kd=.ok l->∀(v:Value) (I0:AQ),QU I0 v l->Nr (v,false) I0 p h (CE false h [] l)
theorem AKI{h:Hx}{s:List UInt8}{kd:Int}(p:HP)(hB:HB h)(ha:h.asked.length<=900000)(ho:∀l,Di s kd=.ok l->C5 l<=2000/\NH l):AGH p h s kd:=fun l hl v I0 hv=>by
 obtain⟨h1,h2⟩:=ho l hl
 have hK:=AHP s kd
 rw[hl]at hK;exact AGo p _ l (A5 _) h1 h2 hK v false I0 h hv hB (by omega)
theorem XL(p:HP)(s:List UInt8)(kd:Int)(hs:s.length<=1000000000)(h:Hx)(DD:AGH p h s kd)(m0:List UInt8)(lv av:Value)(I:AQ)(F:List HA)(w0 w:World)(hi:Ca I p lv h)(BZ:St w0 I (DN p lv av h m0 F) w):Calls prog 23 [.pointer (some ⟨p.eb,0,none⟩),Au s,.int .i64 kd].toArray w (ER w fun v I' H'=>Le I I'/\TM p F (IS h s kd) v I' H'):=by
 refine enter func23 O ntmps23 O (BZ.self) (AK O (tr (Eu _ O ?_ (by exact⟨O,O⟩) O (by(simp only[Iw,DS];try rfl)))));refine FB (H':=row p.eb 41 (Ow p av [])::_) ?_ (fun _ h=>h);refine DL (yc O (fun w hw=>XI s kd _ _ _ w hs hw) ?_);rintro _ J16 _ ⟨Ok,rfl,vl,e1,rfl,W4⟩;refine AH rfl (AF (AK rfl (AA rfl (fun Ab=>?_) (fun Ab=>?_))))
 ·simp at Ab
  have Kn:e1≠0:=by omega
  obtain⟨ADt,rfl⟩:=W4.f Kn;refine AK rfl (Ak (Aj rfl rfl rfl (fun w' hw=>?_)));exact⟨_,rfl,J16,DN p lv av h [] F,⟨Ok,e1,[],[],h,lv,av,As,rfl,rfl,hi.mono Ok,J7,by unfold IS;rw[ADt];exact⟨AAH (by have hK:=AHP s kd;rw[ADt]at hK;exact hK),Kn,rfl,rfl⟩⟩,AD hw⟩
 simp at Ab
 have Kn:e1=0:=by omega
 obtain⟨l,hl,EU⟩:=W4.t Kn;refine AV (tr (yc rfl (fun w hw=>DD l hl vl J16 EU J16 lv av F _ w (Le.refl _) (hi.mono Ok) (Hp hw)) ?_));rintro _ J24 _ ⟨R3,e,m2,M,h3,lv3,av3,vl3,rfl,rfl,N2,Ey,hr⟩;refine AH rfl (AX (Aj rfl rfl rfl (fun w' hw=>?_)));exact⟨_,rfl,J24,DN p lv3 av3 h3 m2 F,⟨Ok.trans R3,e,m2,M,h3,lv3,av3,vl3,rfl,rfl,N2,Ey,by unfold IS;rw[hl];exact hr⟩,AD hw⟩
structure Na(pf:List Ch->List (List UInt8))(ifs:List UInt8)(L:List Px)(i:Nat)(g:List Pc)(o:List (List UInt8)):Prop where
 le:i<=L.length+1
 go:Jo pf ifs [] (Bc L)=Jo pf ifs o (if i<=L.length then Ku g (L.drop i)else[])
 mem:i<=L.length->∀x∈Ku g (L.drop i),x∈Bc L
 gl:g.length<=i
 ol:o.length<=200000 * i
section
variable {pf:List Ch->List (List UInt8)} {ifs:List UInt8} {L:List Px} {i:Nat} {g:List Pc} {o:List (List UInt8)}
theorem AFb:Na pf ifs L 0 [] []:=⟨Aw _,by rw[AI (Aw _),PB];rfl,fun _ x hx=>by rw[PB]at hx;exact hx,A5 _,A5 _⟩
theorem Na.piece(k:Na pf ifs L i g o)(hi:i<L.length)(hs:(AG L i FD).st=false):Na pf ifs L (i+1) (g++[(AG L i FD).p]) o:=by
 have hg:=Qs hi g
 rw[AB (by rw[hs];simp)]at hg
 have h1:=k.go
 rw[AI (by omega),hg]at h1;exact⟨by omega,by rw[AI (by omega)];exact h1,fun _ x hx=>k.mem (by omega) x (by rw[hg];exact hx),by rw[Bh];have:=k.gl;simp;omega,by have:=k.ol;omega⟩
theorem Na.head(k:Na pf ifs L i g o)(hi:i<=L.length)(hs:i<L.length->(AG L i FD).st=true):∃r,Ku g (L.drop i)=g::r/\(if i+1<=L.length then Ku [] (L.drop (i+1))else[])=r:=by
 by_cases h:i<L.length
 ·exact⟨_,by rw[Qs h g,AI (hs h)],AI (by omega)⟩
 exact⟨[],by rw[NR (by omega),Ku],AB (by omega)⟩
theorem Na.ing(k:Na pf ifs L i g o)(hi:i<=L.length)(hs:i<L.length->(AG L i FD).st=true):g∈Bc L:=by
 obtain⟨r,h1,_⟩:=k.head hi hs;exact k.mem hi g (by rw[h1];exact CQ ..)
theorem Na.bad(k:Na pf ifs L i g o)(hi:i<=L.length)(hs:i<L.length->(AG L i FD).st=true)(ho:Da (Aq g ifs)=false):Jo pf ifs [] (Bc L)=([],66):=by
 obtain⟨r,h1,_⟩:=k.head hi hs;rw[k.go,AI hi,h1,Jo,AB (by rw[ho];simp)]
theorem Na.close(k:Na pf ifs L i g o)(hi:i<=L.length)(hs:i<L.length->(AG L i FD).st=true)(ho:Da (Aq g ifs)=true)(hpf:∀f,(pf f).length<=1000):Na pf ifs L (i+1) [] (o++(Aq g ifs).flatMap (Dh pf)):=by
 obtain⟨r,h1,h2⟩:=k.head hi hs
 have h3:=k.go
 rw[AI hi,h1,Jo,AI ho,<-h2]at h3
 have h4:=UL hpf (Aq g ifs)
 have h5:=(FQ.1 ho).2
 refine⟨by omega,h3,fun h6 x hx=>k.mem hi x ?_,Aw _,?_⟩
 ·rw[h1,<-h2,AI h6];exact List.mem_cons_of_mem _ hx
 rw[Bh];have:=k.ol;omega
theorem Na.fin(k:Na pf ifs L i g o)(hi:¬i<=L.length):Jo pf ifs [] (Bc L)=(o,0):=by
 rw[k.go,AB hi,Jo]
theorem ATp{I:AQ}{H:List HA}{v:Value}(h:Sl I 4 v (L.map Hz))(hi:i<L.length):Rds w0 I H (Eb v).block ((Eb v).off+i * 4+0) (Ot (AG L i FD).p):=fun k u hk=>ZV h hi k u (by
 show(Ot (AG L i FD).p++[_])[k]? =_
 have h9:k<(Ot (AG L i FD).p).length:=(List.getElem?_eq_some_iff.1 hk).1
 rw[List.getElem?_append_left h9];exact hk)
theorem AVS{h:Hx}(hB:HB h):(Cf h).length<=9223372036854775807:=by
 have:=ZR hB Pz
 unfold Cf
 split
 ·omega
 decide
theorem Yv(fs:List Nd)(d:Int)(p:List Ch):(CG fs d p).length<=1000:=by
 unfold CG
 split
 ·exact Aw _
 split
 ·exact Aw _
 rw[BL];omega
theorem Xt{v1:Value}(Ln:List Ne)(NK:NG (Ln.map Ne.nd))(Hy:Q9 Ln)(Hb:SB (Ln.map Ne.nd))(bf:Nat)(vf:Value)(hv:v1=.pointer (some ⟨bf,0,none⟩))(pv:Value)(p:List Ch)(EU:p.length<=100000)(I:AQ)(F:List HA)(w0 w:World)(k:FsI I bf vf Ln)(UG:Sl I 2 pv (p.map D5))(BZ:St w0 I F w):Calls prog 27 [v1,.int .i64 1,pv].toArray w (ER w fun v I' H'=>Le I I'/\F=H'/\Sl I' 1 v ((CG (Ln.map Ne.nd) 1 p).map Ce)):=by
 subst hv;exact ZM Ln NK Hy Hb bf vf 1 pv p EU I F w0 w k UG BZ
end
set_option maxHeartbeats 1000000 in
theorem Wa(p:HP)(Ln:List Ne)(NK:NG (Ln.map Ne.nd))(Hy:Q9 Ln)(Hb:SB (Ln.map Ne.nd))(bf:Nat)(vf:Value)(hfv:p.fv=.pointer (some ⟨bf,0,none⟩))(s:List UInt8)(hs:s.length<=1000000000)(h:Hx)(DD:AGH p h s 0)(hS:Small (IS h s 0))(hB2:∀L h',IS h s 0=.ok L h'->HB h')(m0:List UInt8)(lv av:Value)(I:AQ)(hFs:FsI I bf vf Ln)(F:List HA)(w0 w:World)(hi:Ca I p lv h)(BZ:St w0 I (DN p lv av h m0 F) w):Calls prog 8 [.pointer (some ⟨p.eb,0,none⟩),Au s].toArray w (ER w fun v I' H'=>Le I I'/\∃e9:Nat,∃(lv av v1:Value),v=.tuple #[v1,.int .i64 ((e9:Nat):Int)]/\H'=DN p lv av (Dz (fun _ f=>CG (Ln.map Ne.nd) 1 f) h s).2.2.2 (Dz (fun _ f=>CG (Ln.map Ne.nd) 1 f) h s).2.1 F/\Ca I' p lv (Dz (fun _ f=>CG (Ln.map Ne.nd) 1 f) h s).2.2.2/\Sl I' 1 v1 ((Dz (fun _ f=>CG (Ln.map Ne.nd) 1 f) h s).1.map Ce)/\erN e9=(Dz (fun _ f=>CG (Ln.map Ne.nd) 1 f) h s).2.2.1):=by
 have hpf:=Yv (Ln.map Ne.nd) 1
 refine enter func8 O ntmps8 O (BZ.self) (AK O (tr (yc O (fun w hw=>XL p s 0 hs h DD m0 lv av I _ _ w hi (Hp hw)) ?_)));rintro _ J20 _ ⟨Lz,e,m2,L,h2,lv2,av2,vl,rfl,rfl,EG,Ey,hr⟩;refine AH rfl (AF (AK rfl (AA rfl (fun Ab=>?_) (fun Ab=>?_))))
 ·simp at Ab
  have he:e≠0:=by omega
  have JL:=hr.bad he
  have hfx:=YA (pf:=(fun _ f=>CG (Ln.map Ne.nd) 1 f)) JL
  refine AK O (Ak (Aj O O O (fun w' hw=>?_)));refine⟨_,O,J20,DN p lv2 av2 h2 m2 F,⟨Lz,e,?_⟩,AD hw⟩;rw[hfx];exact⟨lv2,av2,As,O,O,EG,Gv,O⟩
 simp at Ab
 have he:e=0:=by omega
 subst he;obtain⟨JL,rfl⟩:=hr.ok rfl;obtain⟨hS1,hS2⟩:=hS L h2 JL
 have hfx:=VR (pf:=(fun _ f=>CG (Ln.map Ne.nd) 1 f)) JL
 refine AV (tr (yp O ((fun w hw=>Gk p lv2 h2 Pz w (by decide) (UO EG hw))) ?_));refine AH O (EZ (ι:=List UInt8) [0,1,4,5,6,7,24,9] (fun zz=>zz=Cf h2) (fun zz=>[(8,Au zz)]) (fun zz=>J20) (fun zz=>(DN p lv2 av2 h2 [] F)) O ?_ ?_)
 ·refine AK O (AA O (fun An=>?_) (fun An=>?_))
  ·refine AC (AU O (CB (ALG) ?_))
   exact(AB (by rw[FJ]at An;rw[An];simp)).symm
  refine AY (CB ((FH h2 Pz).1) ?_)
  exact(AI (by rw[Bool.not_eq_false']at An;exact An)).symm
 rintro ifs AZA;subst AZA
 have Aid:(Cf h2).length<=9223372036854775807:=AVS (hB2 L h2 JL)
 refine AK O (AK O (AF (AK O (AJ (EB (ι:=Nat×Value×List (List UInt8)×Value×List Pc×AQ) [8,0,1,6,7,24,9] (fun zz=>Na (CG (Ln.map Ne.nd) 1) (Cf h2) L zz.1 zz.2.2.2.2.1 zz.2.2.1/\Le J20 zz.2.2.2.2.2) (fun zz=>L.length+1-zz.1) (fun zz=>[(12,.int .i64 (zz.1:Int)),(10,zz.2.1),(11,zz.2.2.2.1)]) (fun zz=>zz.2.2.2.2.2) (fun zz=>(DN p lv2 av2 h2 [] (Ap 9 1 Ce zz.2.1 zz.2.2.1::Ap 79 3 Ot zz.2.2.2.1 zz.2.2.2.2.1::F))) (0,.slice none 0 0,[],.slice none 0 0,[],J20) O ?_ ?_ (hh:=(fun _ k=>AD (CI 9 1 Ce (CI 79 3 Ot k)))))))))
 ·dsimp only;exact⟨AFb,Le.refl _⟩
 rintro⟨i,vo,o,vg,g,Ji⟩ ⟨hG,Wg⟩;dsimp only at *
 have hgl:=hG.gl
 have hol:=hG.ol
 have DK:=hG.le
 refine AF (tr ?_);refine yq O ((by exact BH O QF O (Sl.lenOf Ey (Af _)))) ?_;refine AH O (AA O (fun A6=>?_) (fun A6=>?_))
 ·simp at A6
  have Rl:i<=L.length:=by omega
  refine AV (EZ (ι:=Value×List (List UInt8)×Value×List Pc×AQ) [12,8,0,1,6,7,24,9,36] (fun zz=>Na (CG (Ln.map Ne.nd) 1) (Cf h2) L (i+1) zz.2.2.2.1 zz.2.1/\Le Ji zz.2.2.2.2) (fun zz=>[(10,zz.1),(11,zz.2.2.1)]) (fun zz=>zz.2.2.2.2) (fun zz=>(DN p lv2 av2 h2 [] (Ap 9 1 Ce zz.1 zz.2.1::Ap 79 3 Ot zz.2.2.1 zz.2.2.2.1::F))) O ?_ ?_)
  ·refine AJ (AF (tq ?_));refine zq O ((by exact BH O QF O (Sl.lenOf Ey (Af _)))) ?_
   refine zA 6 O (fun h50=>by
     simp at h50
     refine zq O ((by exact AN O QF Wo O O (Sl.shape (Ey.mono Wg) (Af _)) (by omega))) ?_;refine zq O ((by exact Ai O O (Sl.rd (i:=i) (j:=3) (Ey.mono Wg) (CN L Hz FD (by omega)) O))) ?_;exact zv O
    ) ?_
   refine Dp (AA O (fun BJ=>?_) (fun BJ=>?_))
   ·rw[Ay,BC,FJ]at BJ;obtain⟨AoC,hpc⟩:=BJ;refine tr ?_;refine yq rfl ((by exact AN rfl QF Wo rfl rfl (Sl.shape (Ey.mono Wg) (Af _)) (by omega))) ?_;refine yq rfl ((by exact Br rfl AUU ZS rfl rfl (ATp (i:=i) (Ey.mono Wg) (by omega)))) ?_;refine NF _ rfl (fun b57=>?_) (by rfl);refine V4 (f:=Ot) ((AG L i FD).p) rfl (fun v58=>?_) (Q3 _) (by simp only[maxLen];omega) (by omega);refine AH rfl (Av (AE (AO (CB ((vo,o,v58,g++[(AG L i FD).p],Ji)) ?_))))
    dsimp only;exact⟨hG.piece (by omega) hpc,Le.refl _⟩
   have hbk:i<L.length->(AG L i FD).st=true:=fun h9=>by rw[BK (show(i:Int)<(L.length:Int) by omega),Bool.true_and,Bool.not_eq_false']at BJ;exact BJ
   refine AV (AF (Bf (f:=Ot) (l:=g) vg (fun _=>rfl) (fun Jg Oy hvg=>?_)))
   have hgm:=hG.ing Rl hbk
   have htt:=ADb L [] _ hgm
   have hgc:=Xf L [] _ hgm
   have htn:tot ([]:List Pc)=0:=rfl
   have AhN:([]:List Pc).length=0:=rfl
   refine AC (yc O (fun w hw=>T9 vg g (Cf h2) _ _ _ w Aid (by omega) (by omega) hvg hw) ?_);rintro _ J62 _ ⟨ATR,rfl,fv,err,rfl,No⟩;refine AH rfl (AF (AK rfl (AA rfl (fun Bj=>?_) (fun Bj=>?_))))
   ·have Wk:Da (Aq g (Cf h2))=false:=by
     cases ho:Da (Aq g (Cf h2))with
     |false=>rfl
     |true=>rw[AI ho]at No;exact Ac No.1 (BM Bj)
    rw[AB (by rw[Wk];simp)]at No;obtain⟨rfl,rfl⟩:=No
    have NM:=hG.bad Rl hbk Wk
    refine AK O (Ak (Aj O O O (fun w' hw=>?_)));refine⟨_,O,J62,DN p lv2 av2 h2 [] F,⟨Lz.trans (Wg.trans (Oy.trans ATR)),66,?_⟩,AD hw⟩;rw[hfx,TW NM];exact⟨lv2,av2,As,O,O,EG.mono (Wg.trans (Oy.trans ATR)),Gv,O⟩
   have Wk:Da (Aq g (Cf h2))=true:=by
    cases ho:Da (Aq g (Cf h2))with
    |true=>rfl
    |false=>rw[AB (by rw[ho];simp)]at No;exact Ac (show err≠0 by rw[No.1];decide) (BW Bj)
   rw[AI Wk]at No;obtain⟨rfl,us,AGB,LA⟩:=No
   have hul:=LA.1
   obtain⟨AKh,Aim⟩:=FQ.1 Wk;refine AV (AK rfl (AK rfl (AJ (EB (ι:=Nat×Value×AQ) [12,11,8,0,1,6,7,24,9,36,50,13,14,66] (fun zz=>zz.1<=(Aq g (Cf h2)).length/\Le J62 zz.2.2) (fun zz=>(Aq g (Cf h2)).length-zz.1) (fun zz=>[(15,.int .i64 (zz.1:Int)),(10,zz.2.1)]) (fun zz=>zz.2.2) (fun zz=>(DN p lv2 av2 h2 [] (Ap 9 1 Ce zz.2.1 (o++((Aq g (Cf h2)).take zz.1).flatMap (Dh (CG (Ln.map Ne.nd) 1)))::F))) (0,vo,J62) rfl ?_ ?_ (hh:=(fun _ k=>by dsimp only;rw[Qo,List.flatMap_nil,Nj];exact AD k))))))
   ·dsimp only;exact⟨Aw _,Le.refl _⟩
   rintro⟨j,vo,Jj⟩ ⟨hj1,hJj⟩;dsimp only at *
   have Abu:Le J20 Jj:=Wg.trans (Oy.trans (ATR.trans hJj))
   have AYU:=UL (pf:=(CG (Ln.map Ne.nd) 1)) hpf ((Aq g (Cf h2)).take j)
   rw[BL]at AYU
   have hp1:=SD hpf (AG (Aq g (Cf h2)) j [])
   refine AF (tr ?_);refine yq O ((by exact BH O Tr O (Sl.lenOf AGB ((Af _).trans hul)))) ?_;refine AH O (AA O (fun B4=>?_) (fun B4=>?_))
   ·simp at B4
    have hjL:j<(Aq g (Cf h2)).length:=by omega
    refine AV (AF (AJ (AK O (EZ (ι:=Value×AQ) [15,10,12,11,8,0,1,6,7,24,9,36,50,13,14,66,71] (fun zz=>Le Jj zz.2/\Sl zz.2 1 zz.1 ((psX (CG (Ln.map Ne.nd) 1) (AG (Aq g (Cf h2)) j [])).map Ce)) (fun zz=>[(16,zz.1)]) (fun zz=>zz.2) (fun zz=>(DN p lv2 av2 h2 [] (Ap 9 1 Ce vo (o++((Aq g (Cf h2)).take j).flatMap (Dh (CG (Ln.map Ne.nd) 1)))::F))) O ?_ ?_))))
    ·refine tr ?_;refine yq O ((by exact AN O Tr XP O O (Sl.shape (AGB.mono (by exact hJj)) ((Af _).trans hul)) (by omega))) ?_;refine yq O ((by exact Ai O O (Oe (i:=j) (AGB.mono (by exact hJj)) (by omega)))) ?_;refine yp O ((fun w hw=>MR _ (AG (Aq g (Cf h2)) j []) w (by have:=AKh j (by omega);omega) ((LA.at_ (i:=j) (by omega)).mono (hJj.trans hw.le)))) ?_;refine ln (AA O (fun CP=>?_) (fun CP=>?_))
     ·have CP:Fa (AG (Aq g (Cf h2)) j [])=true:=CP
      refine Bo [12] [] [row p.eb 41 (Ow p av2 [])] mo (by kernel_rfl) (fun _ _ _ _ _ h=>h) (xr [0,1,2] O O (xq 3 O O ((by exact Az O O (by rfl))) ?_));refine xr [4,5,6] O O (xq 7 O O ((by exact Az O O (by rfl))) ?_);refine xr [8,9] O O ?_;refine xq 10 O O ((by exact AN O Tr XP O O (Sl.shape (AGB.mono (by exact hJj)) ((Af _).trans hul)) (by omega))) ?_;refine xq 11 O O ((by exact Ai O O (Oe (i:=j) (AGB.mono (by exact hJj)) (by omega)))) ?_;refine xe 12 O O (ec O O O (fun w hw=>Xt Ln NK Hy Hb bf vf hfv _ (AG (Aq g (Cf h2)) j []) (by have:=AKh j (by omega);omega) _ _ _ w (hFs.mono (Lz.trans Abu)) ((LA.at_ (i:=j) (by omega)).mono hJj) hw)) ?_;rintro v91 J91 _ ⟨Ul,rfl,Adk⟩;refine⟨Ul,.inr Fs.sub,?_⟩;refine xr [13] rfl rfl (CX (CB ((v91,J91)) ?_))
      dsimp only;exact⟨Ul,by unfold psX;rw[AI CP];exact Adk⟩
     have CP:Fa (AG (Aq g (Cf h2)) j [])=false:=CP
     refine AY (CB ((.slice none 0 0,Jj)) ?_)
     dsimp only;exact⟨Le.refl _,by unfold psX;rw[AB (by rw[CP];simp)];exact Gv⟩
    rintro⟨pv,J4⟩ ⟨hJ4,UG⟩;dsimp only at *;refine EZ (ι:=Value×AQ) [15,10,12,11,8,0,1,6,7,24,9,36,50,13,14,66,71] (fun zz=>Le Jj zz.2/\Sl zz.2 1 zz.1 ((Dh (CG (Ln.map Ne.nd) 1) (AG (Aq g (Cf h2)) j [])).map Ce)) (fun zz=>[(16,zz.1)]) (fun zz=>zz.2) (fun zz=>(DN p lv2 av2 h2 [] (Ap 9 1 Ce vo (o++((Aq g (Cf h2)).take j).flatMap (Dh (CG (Ln.map Ne.nd) 1)))::F))) rfl ?_ ?_
    ·refine tr ?_;refine yq O ((by exact BH O BT O (Sl.lenOf UG (Af _)))) ?_;refine AH O (AA O (fun DF=>?_) (fun DF=>?_))
     ·have AGp:psX (CG (Ln.map Ne.nd) 1) (AG (Aq g (Cf h2)) j [])=[]:=List.eq_nil_of_length_eq_zero (by have:=BM DF;omega)
      refine AC ?_;refine yq O ((by exact AN O Tr XP O O (Sl.shape (AGB.mono (by exact hJj)) ((Af _).trans hul)) (by omega))) ?_;refine yq O ((by exact Ai O O (Oe (i:=j) (AGB.mono (by exact hJj.trans hJ4)) (by omega)))) ?_;refine yp O ((fun w hw=>AAI _ (AG (Aq g (Cf h2)) j []) w (by have:=AKh j (by omega);omega) ((LA.at_ (i:=j) (by omega)).mono (hJj.trans (hJ4.trans hw.le))))) ?_;refine NF _ O (fun b100=>?_) (by rfl);refine CU b100 (fun J100 ANs Acy=>?_)
      have AZX:=Kd (f:=Ce) (sz:=1) [Cj (AG (Aq g (Cf h2)) j [])] Acy O O (fun _=>rfl)
      refine AU O (CB ((.slice (some ⟨b100,0,none⟩) 1 1,J100)) ?_)
      dsimp only;exact⟨hJ4.trans ANs,by unfold Dh;rw[AI AGp];exact AZX⟩
     have AGp:psX (CG (Ln.map Ne.nd) 1) (AG (Aq g (Cf h2)) j [])≠[]:=fun h9=>by have:=BW DF;rw[h9]at this;exact this O
     refine AY (CB ((pv,J4)) ?_)
     dsimp only;exact⟨hJ4,by unfold Dh;rw[AB AGp];exact UG⟩
    rintro⟨pw,J5⟩ ⟨hJ5,hpw⟩;dsimp only at *;refine AC ?_;refine ye rfl (BG (f:=Ce) (l:=(o++((Aq g (Cf h2)).take j).flatMap (Dh (CG (Ln.map Ne.nd) 1)))) (ls:=Dh (CG (Ln.map Ne.nd) 1) (AG (Aq g (Cf h2)) j [])) rfl BT Co rfl rfl rfl rfl (hpw) rfl (fun _=>rfl) B1 (by rw[Bh];simp only[maxLen];omega) (by rw[Bh];omega)) ?_;rintro v103 _ _ ⟨rfl,rfl⟩;refine AU rfl (AL (AS (AC (yq rfl (AM rfl rfl rfl (by omega)) ?_))));refine AU rfl (DJ ((j+1,v103,J5)) ?_ ?_ (hh:=(fun _ k=>by dsimp only;rw[ZD hjL,<-Ka];exact AD k)))
    ·dsimp only;exact⟨(show j+1<=_ by omega),hJj.trans hJ5⟩
    dsimp only
    show _-(j+1)<_-j
    omega
   simp at B4
   have hjL:j=(Aq g (Cf h2)).length:=by omega
   refine Av (AE (AE (AO (AL (CB ((vo,(o++((Aq g (Cf h2)).take j).flatMap (Dh (CG (Ln.map Ne.nd) 1))),.slice none 0 0,[],Jj)) ?_ (hh:=(fun _ k=>AD (CI 79 3 Ot k))))))))
   dsimp only;rw[hjL,Gb];exact⟨hG.close Rl hbk Wk hpf,Oy.trans (ATR.trans hJj)⟩
  rintro⟨vo2,o2,vg2,g2,J2⟩ ⟨hG2,Pe⟩;dsimp only at *;refine AC (yq rfl (AM rfl rfl rfl (by omega)) ?_);refine AU rfl (DJ ((i+1,vo2,o2,vg2,g2,J2)) ?_ ?_)
  ·dsimp only;exact⟨hG2,Wg.trans Pe⟩
  dsimp only
  show L.length+1-(i+1)<L.length+1-i
  omega
 simp at A6
 have NM:=hG.fin (by omega)
 refine Av (AE (AE (AO (AS (AF (AF (Tj vo (fun Agm=>?_))))))));refine AC ?_;refine yq O ((by exact IP O BT O)) ?_;refine AH O (AA O (fun GQ=>?_) (fun GQ=>?_))
 ·simp at GQ
  have V2:200<o.length:=by omega
  refine AK O (Ak (Aj O O O (fun w' hw=>?_)));refine⟨_,O,Ji,DN p lv2 av2 h2 [] F,⟨Lz.trans Wg,66,?_⟩,AD hw⟩;rw[hfx,Rc NM V2];exact⟨lv2,av2,As,O,O,EG.mono Wg,Gv,O⟩
 simp at GQ
 have V2:¬200<o.length:=by omega
 refine AV (AF (Bf (f:=Ce) (l:=o) vo (fun _=>rfl) (fun Jf IL Rm=>?_)));refine AC (AH O (AX (Aj O O O (fun w' hw=>?_))));refine⟨_,O,Jf,DN p lv2 av2 h2 [] F,⟨Lz.trans (Wg.trans IL),0,?_⟩,AD hw⟩;rw[hfx,Ps NM V2];exact⟨lv2,av2,vo,O,O,EG.mono (Wg.trans IL),Rm,O⟩
end Go.Tri
