/-
 What begins with a dollar.
-/
import Derived.Test.YtbndcpjklngfhaaGreatDoorEB4
namespace Go.Tri
open Go.Proofs.Tryz
open Go.Proofs Go.RowKit
set_option maxRecDepth 10000
variable {kd e:Nat} {c:UInt8} {inner:List UInt8}
theorem AQm{W:Nat->List UInt8->PR}{I:AQ}{x:PE}(hc:c=123)(h:W8 (Dm W kd inner) I x e):(e=0->Ko W kd c inner=.ok x.pt)/\(e≠0->Ko W kd c inner=.bad e):=by
 unfold Ko;rw[AI hc];exact⟨fun he=>(h.t he).1,fun he=>h.f he⟩
theorem AYh{W:Nat->List UInt8->PR}{wl:List PT}(hc:¬c=123)(he:H4 inner (decide (kd≠0))=true)(hw:W 2 ((inner.take (inner.length-1)).drop 1)=.ok wl):Ko W kd c inner=.ok (.mk 4 [] [] wl (decide (kd≠0))):=by
 unfold Ko;rw[AB hc,AI he,hw]
theorem ATo{W:Nat->List UInt8->PR}(hc:¬c=123)(he:H4 inner (decide (kd≠0))=true)(hw:W 2 ((inner.take (inner.length-1)).drop 1)=.bad e):Ko W kd c inner=.bad e:=by
 unfold Ko;rw[AB hc,AI he,hw]
theorem AYc(h:(decide ((48:Int)<=(c.toNat:Int))&&decide ((c.toNat:Int)<=57))=true):48<=c.toNat/\c.toNat<=57:=by
 rw[Ay,BC,BC]at h
 omega
theorem ATg(h:(decide ((48:Int)<=(c.toNat:Int))&&decide ((c.toNat:Int)<=57))=false):¬(48<=c.toNat/\c.toNat<=57):=fun⟨h1,h2⟩=>by
 rw[BK (show(48:Int)<=(c.toNat:Int) by omega),BK (show(c.toNat:Int)<=57 by omega)]at h
 cases h
theorem Wp(n:Nat)(hW:∀m,n=m+1->L6 m)(b:Nat)(s:List UInt8)(kd dp:Nat)(v:Value)(L:List PE)(i:Nat)(I:AQ)(F:List HA)(w0 w:World)(hn:L.length<=200000000)(AcM:Gl L<=200000000)(hn9:24-dp=n)(hd:dp<=24)(hi:i<s.length)(hs:s.length<=100000000)(hc:AG s i 0=36)(hkd:kd<=2)(hG:Fr I)(P4:Cg I L)(BZ:St w0 I (row b 164 (GR s kd dp v)::Ap 147 5 Aa v L::F) w):Calls prog 103 [.pointer (some ⟨b,0,none⟩),Au (s.drop i)].toArray w (fun e w'=> ∃v0,e=.returned v0/\∃I' H',(Dv b s kd dp (Ks n (Wn n) kd (s.drop i) (L.map PE.pt)) v0 I I' F H')/\St w I' H' w'):=by
 have hdl:(s.drop i).length=s.length-i:=BA
 refine enter func103 O ntmps103 O (BZ.self) (AK O (tr (DE O ?_)));refine yq O (AW O BX O) (yq O (AW O BX O) (yq O (Bl O O O (by omega)) ?_));rw[show(s.length:Int)-((s.drop i).length:Int)=(i:Int) by omega];refine AH O (AF (Bd mo (by kernel_rfl) (fun _ _ _ _ _ h=>h) (EA O ?_)));refine EA O ?_;refine zp O ((fun w hw=>GJ b s kd dp v w (B5 hw))) (zp O ((fun w _=>VO s i dp (decide (kd≠0)) w (by omega))) ?_);rw[ARu hi hd hc,hn9];obtain⟨r,hr⟩:∃r,r=(lv n).2 (decide (kd≠0)) (s.drop i):=⟨_,rfl⟩;obtain⟨bg,W5⟩:∃bg,bg=Dr s i:=⟨_,rfl⟩;rw[<-hr,<-W5]
 have hfy:Fv r:=hr ▸ (HH n).2 _ _
 have hr3:∀k,r=.ok k->1<=k:=fun k h=>by have:=Nu (hr.symm.trans h);omega
 refine De O (AF (AK O (AA O (fun Ab=>?_) (fun Ab=>?_))))
 ·simp at Ab
  have hx:dl bg (JP r)≠0:=by omega
  obtain⟨hbt,a,hrb⟩:=ABu hx;refine AK rfl (Ak (Aj rfl rfl rfl (fun w' hw=>?_)));exact⟨_,rfl,I,_,Dv.fail (v':=v) (L':=L) (Le.refl _) (ACJ (W5.symm.trans hbt) (hr.symm.trans hrb)) hx rfl P4,AD hw⟩
 simp at Ab
 have hx:dl bg (JP r)=0:=by omega
 have hz:=AIc (i:=i) hx hfy hr3
 refine AV (AF (AK O (AA O (fun An=>?_) (fun An=>?_))))
 ·simp at An
  have hb:Hv (s.drop i)=false:=W5.symm.trans (hz.1 (by omega))
  have hdp:=ACM (n:=n) (W:=Wn n) (kd:=kd) (acc:=(L.map PE.pt)) hb
  have AXR:=Lj ((s.drop i).drop 1)
  rw[BA]at AXR;refine tr (yq O (BF O BX O O (by omega)) ?_);refine yp O ((fun w _=>PP ((s.drop i).drop 1) w (by rw[BA];omega))) ?_;refine AH O (EZ (ι:=Nat) [0,1,6,7,9,38,41] (fun zz=>zz=(if 48<=(AG (s.drop i) 1 0).toNat/\(AG (s.drop i) 1 0).toNat<=57 then 1 else Ag ((s.drop i).drop 1))/\¬Ag ((s.drop i).drop 1)=0/\zz<=Ag ((s.drop i).drop 1)) (fun zz=>[(10,.int .i64 (zz:Int))]) (fun zz=>I) (fun zz=>(row b 164 (GR s kd dp v)::Ap 147 5 Aa v L::F)) O ?_ ?_)
  ·refine AJ (AK O (AA O (fun A6=>?_) (fun A6=>?_)))
   ·have PU:Ag ((s.drop i).drop 1)=0:=by have:=BM A6;omega
    refine tr (yp O ((fun w hw=>GJ b s kd dp v w (B5 hw))) (yc O (fun w hw=>HE b s kd dp v L [36] (decide (kd≠0)) _ _ _ w (by omega) (by simp) (fun x hx=>by have:=D4 hx;omega) (Bm (row b 164 (GR s kd dp v)) (Ap 147 5 Aa v L) hw)) ?_));rintro _ _ _ ⟨rfl,rfl,v51,rfl⟩;refine DL (AH rfl (Ak (Aj rfl rfl rfl (fun w' hw=>?_))));exact⟨_,rfl,I,_,Dv.good (v':=v51) (L':=ES L [36] (decide (kd≠0))) (Le.refl _) (hdp.1 PU) rfl (Dj P4) (Fz _ _ _),AD hw⟩
   have PU:¬Ag ((s.drop i).drop 1)=0:=by have:=BW A6;omega
   refine tq (zq O ((by exact Bu O BX O O (by omega))) ?_)
   refine zA 3 O (fun h60=>by
     simp at h60
     refine zq O ((by exact Bu O BX O O (by omega))) ?_;exact zv O
    ) ?_
   refine De O (AA O (fun BJ=>?_) (fun BJ=>?_))
   ·have AOt:48<=(AG (s.drop i) 1 0).toNat/\(AG (s.drop i) 1 0).toNat<=57:=AYc BJ
    refine AC (AU O (AL (CB (1) ?_)))
    exact⟨by rw[AI AOt],PU,by omega⟩
   have AZb:¬(48<=(AG (s.drop i) 1 0).toNat/\(AG (s.drop i) 1 0).toNat<=57):=ATg BJ
   refine AY (AL (CB (Ag ((s.drop i).drop 1)) ?_))
   exact⟨by rw[AB AZb],PU,A5 _⟩
  rintro x ⟨hx,PU,hxl⟩;dsimp only at *;refine AF (Tj v (fun Ew=>?_));refine Bo [12,13,15,18] [15,18] [row b 164 (GR s kd dp v)] mo (by kernel_rfl) (fun _ _ _ _ _ h=>h) (xr [0,1,2] rfl rfl (x0 3 rfl (Le.refl _) rfl (fun _ hI=>Az rfl rfl (by rfl)) ?_));refine xr [4,5] rfl rfl (xf 6 rfl rfl (fun _=>AM rfl rfl rfl (by omega)) ?_);refine xf 7 rfl rfl (fun _=>CK rfl BX rfl rfl rfl (by omega)) ?_;refine xr [8] rfl rfl (x0 9 rfl (Le.refl _) rfl (fun _ hI=>qc rfl rfl rfl ((fun w hw=>GJ b s kd dp v w (B5 hw)))) (xf 10 rfl rfl (fun _=>C0 (pl:=[(_,_),(_,_),(_,_),(_,_),(_,_)]) (cs:=(Aa (⟨2,(((s.drop i).drop 1).take (((x:Int)+1).toNat-1)),[],As,[],(decide (kd≠0))⟩:PE)).toArray) rfl DG BU ⟨rfl,⟨_,_,I2⟩,rfl,⟨_,_,Co⟩,rfl,⟨_,_,Co⟩,rfl,⟨_,_,XA⟩,rfl,⟨_,_,NL⟩,trivial⟩ rfl rfl) ?_));refine xf 11 rfl rfl (fun _=>(by exact BH rfl E5 rfl (Gf Ew))) ?_;refine xe 12 rfl rfl (BD rfl E5 BU rfl rfl rfl (by rfl) rfl) ?_;rintro _ _ _ ⟨b73,rfl,rfl,rfl⟩;refine xk ?_;refine xe 13 rfl rfl (B8 (f:=Aa) (c:=Ct) rfl E5 BU rfl rfl rfl rfl rfl rfl rfl (by exact A9 (I:=I) (Be I)) (by simp only[maxLen];omega) (by omega)) ?_;rintro v74 _ _ ⟨rfl,rfl⟩;refine xk ?_
  have AjF:(L++[Ct]).length=L.length+1:=by simp
  refine Fd v74 (fun Abn Ma=>?_);refine xf 14 O O (fun _=>(by exact AN O E5 BU O O (Abn) (by omega))) ?_;refine xr [16,17] O O (Gp 15 18 (by kernel_rfl) (by kernel_rfl) ?_ ?_)
  ·refine Tx 15 O O (Le.refl _) O O (Df ((⟨2,(((s.drop i).drop 1).take (((x:Int)+1).toNat-1)),[],As,[],(decide (kd≠0))⟩:PE)) O BU O O (A9 (I:=I) (Be I)) (fun _=>rfl) (by simp) (by decide)) ?_;rintro _ _ _ ⟨rfl,rfl⟩;refine⟨Le.refl _,.inl rfl,?_⟩;refine Bx (H':=Ap 147 5 Aa v74 (L++[(⟨2,(((s.drop i).drop 1).take (((x:Int)+1).toNat-1)),[],As,[],(decide (kd≠0))⟩:PE)])::_) ?_ (fun _ h=>by rw[FX]at h;exact h);refine FP 18 (by kernel_rfl) (by kernel_rfl) rfl (Le.refl _) rfl rfl (Bz rfl MD rfl rfl (by assumption) rfl (by rfl)) ?_;rintro _ _ _ ⟨rfl,rfl⟩;refine⟨Le.refl _,.inl rfl,?_⟩;refine Bx (H':=row b 164 (GR s kd dp v74)::_) ?_ (fun _ h=>h);refine CX (AS (tr (yq rfl (AM rfl rfl rfl (by omega)) ?_)));refine AH rfl (Ak (Aj rfl rfl rfl (fun w' hw=>?_)));exact⟨_,rfl,I,_,Dv.good (v':=v74) (L':=L++[(⟨2,(((s.drop i).drop 1).take (((x:Int)+1).toNat-1)),[],As,[],(decide (kd≠0))⟩:PE)]) (k:=x+1) (Le.refl _) (hdp.2 x PU hx) rfl (P4.app (Eo (Be I))) (by rw[Gm];show _++[PT.mk 2 (((s.drop i).drop 1).take (((x:Int)+1).toNat-1)) [] [] (decide (kd≠0))]=_;rw[show((x:Int)+1).toNat-1=x by omega]),AD hw⟩
  refine Tx 18 O O (Le.refl _) O O (Bz O MD O O (by assumption) O (by rfl)) ?_;rintro _ _ _ ⟨rfl,rfl⟩;refine⟨Le.refl _,.inl rfl,?_⟩;refine Bx (H':=row b 164 (GR s kd dp v74)::_) ?_ (fun _ h=>h);refine FP 15 (by kernel_rfl) (by kernel_rfl) rfl (Le.refl _) rfl rfl (Df ((⟨2,(((s.drop i).drop 1).take (((x:Int)+1).toNat-1)),[],As,[],(decide (kd≠0))⟩:PE)) rfl BU rfl rfl (A9 (I:=I) (Be I)) (fun _=>rfl) (by simp) (by decide)) ?_;rintro _ _ _ ⟨rfl,rfl⟩;refine⟨Le.refl _,.inl rfl,?_⟩;refine Bx (H':=Ap 147 5 Aa v74 (L++[(⟨2,(((s.drop i).drop 1).take (((x:Int)+1).toNat-1)),[],As,[],(decide (kd≠0))⟩:PE)])::_) ?_ (fun _ h=>by rw[FX]at h;exact h);refine CX (AS (tr (yq rfl (AM rfl rfl rfl (by omega)) ?_)));refine AH rfl (Ak (Aj rfl rfl rfl (fun w' hw=>?_)));exact⟨_,rfl,I,_,Dv.good (v':=v74) (L':=L++[(⟨2,(((s.drop i).drop 1).take (((x:Int)+1).toNat-1)),[],As,[],(decide (kd≠0))⟩:PE)]) (k:=x+1) (Le.refl _) (hdp.2 x PU hx) rfl (P4.app (Eo (Be I))) (by rw[Gm];show _++[PT.mk 2 (((s.drop i).drop 1).take (((x:Int)+1).toNat-1)) [] [] (decide (kd≠0))]=_;rw[show((x:Int)+1).toNat-1=x by omega]),AD hw⟩
 simp at An
 obtain⟨hbt,k,QJ⟩:=hz.2 (by omega)
 have We:Hv (s.drop i)=true:=W5.symm.trans hbt
 have Td:=Nu (hr.symm.trans QJ)
 have Om:=(GM n).2 (decide (kd≠0)) (s.drop i) (Kz We)
 rw[hr.symm.trans QJ]at Om
 have Om:k<=(s.drop i).length:=Om.2
 rw[show dl bg (Ob i r)=i+k by rw[hbt,QJ];rfl];refine AV (tr (DE O ?_));refine yq O (AM O O O (by omega)) ?_;refine yq O (Bl O O O (by omega)) ?_;refine yq O (CK O BX O O O (by omega)) ?_;obtain⟨inner,KM⟩:∃x,x=((s.drop i).take (k-1)).drop 2:=⟨_,rfl⟩;rw[show(s.drop ((i:Int)+2).toNat).take (((((i+k:Nat):Int))-1).toNat-((i:Int)+2).toNat)=inner by rw[KM,X3,show((i:Int)+2).toNat=i+2 by omega,show(((((i+k:Nat):Int))-1).toNat-(i+2))=k-3 by omega]]
 have DK:inner.length=k-3:=by rw[KM,BA,BL];omega
 have hds:=AED (n:=n) (W:=Wn n) (kd:=kd) (acc:=(L.map PE.pt)) We (hr.symm.trans QJ) KM
 obtain⟨m,rfl⟩:=AEW (hr.symm.trans QJ);refine AH rfl (tr (yp rfl ((fun w hw=>GJ b s kd dp v w (B5 hw))) (Em (Aa (⟨3,inner,[],As,[],(decide (kd≠0))⟩:PE)) rfl (HO _ rfl fun b12=>?_))));refine El _ rfl ?_ (by exact A9 (I:=I) (Be I));refine ln (EZ (ι:=PE×Nat×AQ) [0,1,4,5,6,7,38,41,11,12] (fun zz=>Le I zz.2.2/\QU zz.2.2 zz.1.wv zz.1.word/\(zz.2.1=0->Ko (Wn (m+1)) kd (AG (s.drop i) 1 0) inner=.ok zz.1.pt)/\(zz.2.1≠0->Ko (Wn (m+1)) kd (AG (s.drop i) 1 0) inner=.bad zz.2.1)) (fun zz=>[(9,.int .i64 (zz.2.1:Int))]) (fun zz=>zz.2.2) (fun zz=>(row b12 147 (Aa zz.1)::row b 164 (GR s kd dp v)::Ap 147 5 Aa v L::F)) rfl ?_ ?_)
 ·refine AJ (tr (yq O ((by exact Bu O BX O O (by omega))) ?_));refine yq O (Ae O O O O) (AH O (AA O (fun Bj=>?_) (fun Bj=>?_)))
  ·simp only[BC]at Bj
   have h5:AG (s.drop i) 1 0=123:=Bj
   refine AC (yc O (fun w hw=>Z0 m (hW m O) b s kd dp v inner _ _ _ w (by omega) hkd (by omega) hG (Al (row b 164 (GR s kd dp v)) hw)) ?_);rintro _ J100 _ ⟨ANs,x1,e1,rfl,rfl,ET⟩;refine El _ rfl ?_ (by exact A9 ET.w);refine AU rfl (AL (CB ((x1,e1,J100)) ?_))
   dsimp only;exact⟨ANs,ET.w,(AQm h5 ET).1,(AQm h5 ET).2⟩
  simp only[CA]at Bj
  have h5:¬AG (s.drop i) 1 0=123:=Bj
  refine tr (yp O ((fun w hw=>GJ b s kd dp v w (B5 hw))) (yp O ((fun w _=>ALf inner (decide (kd≠0)) w (by omega))) ?_));refine AH O (AA O (fun B4=>?_) (fun B4=>?_))
  ·have hel:=Xr B4
   refine tr (Eu _ O ?_ (by exact⟨O,O⟩) O (by rfl));refine Eu (Aa (⟨4,[],[],As,[],(decide (kd≠0))⟩:PE)) O ?_ (by exact⟨O,O⟩);refine ln (Bo [10,15] [] [] mo (by kernel_rfl) (fun _ _ _ _ _ h=>h) (xr [0,1] O O (xf 2 O O (fun _=>AW O BX O) (xf 3 O O (fun _=>Bl O O O (by omega)) ?_))));refine xf 4 O O (fun _=>CK O BX O O O (by omega)) ?_;rw[show(inner.drop (1:Int).toNat).take (((inner.length:Int)-1).toNat-(1:Int).toNat)=(inner.take (inner.length-1)).drop 1 by rw[Ti,show((inner.length:Int)-1).toNat-(1:Int).toNat=inner.length-2 by omega];rfl];refine xr [5,6,7] O O (xq 8 O O (Az O O (by rfl)) ?_);refine xf 9 O O (fun _=>AM O O O (by omega)) ?_;refine xe 10 O O (ec O O O (fun w hw=>hW m O ((inner.take (inner.length-1)).drop 1) 2 (dp+1) _ _ _ w (by omega) (by omega) (by omega) (by rw[BA,BL];omega) hG hw)) ?_;rintro _ J121 _ ⟨AOS,rfl,vl,e1,rfl,ET⟩;refine⟨AOS,.inr Fs.sub,?_⟩;obtain⟨wl,hpw,Lg,JM⟩:=ET.w
   have Ahq:=hpw.one
   refine xr [11,12,13,14] O O ?_;refine FP 15 (by kernel_rfl) (by kernel_rfl) O (AOS) O O (Bz O XA O O (by assumption) O (by rfl)) ?_;rintro _ _ _ ⟨rfl,rfl⟩;refine xk (Bx (H':=row b12 147 (Aa (⟨4,[],[],vl,wl,(decide (kd≠0))⟩:PE))::_) ?_ (fun _ h=>h));refine xr [16] rfl rfl (CX (AL (CB ((⟨4,[],[],vl,wl,(decide (kd≠0))⟩,e1,J121)) ?_)))
   dsimp only;exact⟨AOS,hpw,fun h=>AYh h5 B4 (Lg h),fun h=>ATo h5 B4 (JM h)⟩
  have CP:H4 inner (decide (kd≠0))=false:=B4
  refine AY (AL (Dd (((⟨3,inner,[],As,[],(decide (kd≠0))⟩:PE),0,I)) ?_ (A0 O (by show Value.int IntKind.i64 (dl bg (JP r):Int)=_;rw[hx]) (Bk)) (BS O) (fun _ h=>by dsimp only;exact AD h)))
  dsimp only;exact⟨Le.refl _,Be _,fun _=>by rw[Ko,AB h5,AB (by rw[CP];simp)];rfl,fun h=>Ac O h⟩
 rintro⟨y,e2,J⟩ ⟨PL,hy,hd0,hd1⟩;dsimp only at *;refine AF (AK rfl (AA rfl (fun CP=>?_) (fun CP=>?_)))
 ·simp at CP
  have P3:e2≠0:=by omega
  have ADt:=hds.1 _ (hd1 P3)
  refine AK O (Ak (Aj O O O (fun w' hw=>?_)));exact⟨_,O,J,_,Dv.fail (v':=v) (L':=L) PL ADt P3 O (P4.mono PL),AD hw⟩
 simp at CP
 have P3:e2=0:=by omega
 have AWf:=hds.2 _ (hd0 P3)
 refine AV (AF (Tj v (fun Ew=>?_)));refine Bo [6,7,9,12] [9,12] [row b 164 (GR s kd dp v),row b12 147 (Aa y)] mo (by kernel_rfl) (fun _ _ _ _ _ h=>h) (xr [0,1,2] O O (x0 3 O (Le.refl _) O (fun _ hI=>Az O O (by rfl)) ?_));refine x0 4 O (Le.refl _) O (fun _ hI=>A7 O DG BU O O O) ?_;refine xf 5 O O (fun _=>(by exact BH O E5 O (Gf Ew))) ?_;refine xe 6 O O (BD O E5 BU O O O (by rfl) O) ?_;rintro _ _ _ ⟨b134,rfl,rfl,rfl⟩;refine xk ?_;refine xe 7 rfl rfl (B8 (f:=Aa) (c:=Ct) rfl E5 BU rfl rfl rfl rfl rfl rfl rfl (by exact A9 (I:=I) (Be I)) (by simp only[maxLen];omega) (by omega)) ?_;rintro v135 _ _ ⟨rfl,rfl⟩;refine xk ?_
 have AgC:(L++[Ct]).length=L.length+1:=by simp
 refine Fd v135 (fun AZv Ma=>?_);refine xf 8 O O (fun _=>(by exact AN O E5 BU O O (AZv) (by omega))) ?_;refine xr [10,11] O O (Gp 9 12 (by kernel_rfl) (by kernel_rfl) ?_ ?_)
 ·refine Tx 9 O O (Le.refl _) O O (Df (y) O BU O O (A9 hy) (fun _=>rfl) (by simp) (by decide)) ?_;rintro _ _ _ ⟨rfl,rfl⟩;refine⟨Le.refl _,.inl rfl,?_⟩;refine Bx (H':=Ap 147 5 Aa v135 (L++[y])::_) ?_ (fun _ h=>by rw[FX]at h;exact h);refine FP 12 (by kernel_rfl) (by kernel_rfl) rfl (Le.refl _) rfl rfl (Bz rfl MD rfl rfl (by assumption) rfl (by rfl)) ?_;rintro _ _ _ ⟨rfl,rfl⟩;refine⟨Le.refl _,.inl rfl,?_⟩;refine Bx (H':=row b 164 (GR s kd dp v135)::_) ?_ (fun _ h=>h);refine CX (AS (tr (yq rfl (Bl rfl rfl rfl (by omega)) ?_)));refine AH rfl (AX (Aj rfl rfl rfl (fun w' hw=>?_)));rw[show(((i+k:Nat):Int))-(i:Int)=(k:Int) by omega];exact⟨_,rfl,J,_,Dv.good (v':=v135) (L':=L++[y]) PL AWf rfl ((P4.mono PL).app (Eo hy)) (by rw[Gm];try rfl),AD hw⟩
 refine Tx 12 O O (Le.refl _) O O (Bz O MD O O (by assumption) O (by rfl)) ?_;rintro _ _ _ ⟨rfl,rfl⟩;refine⟨Le.refl _,.inl rfl,?_⟩;refine Bx (H':=row b 164 (GR s kd dp v135)::_) ?_ (fun _ h=>h);refine FP 9 (by kernel_rfl) (by kernel_rfl) rfl (Le.refl _) rfl rfl (Df (y) rfl BU rfl rfl (A9 hy) (fun _=>rfl) (by simp) (by decide)) ?_;rintro _ _ _ ⟨rfl,rfl⟩;refine⟨Le.refl _,.inl rfl,?_⟩;refine Bx (H':=Ap 147 5 Aa v135 (L++[y])::_) ?_ (fun _ h=>by rw[FX]at h;exact h);refine CX (AS (tr (yq rfl (Bl rfl rfl rfl (by omega)) ?_)));refine AH rfl (AX (Aj rfl rfl rfl (fun w' hw=>?_)));rw[show(((i+k:Nat):Int))-(i:Int)=(k:Int) by omega];exact⟨_,rfl,J,_,Dv.good (v':=v135) (L':=L++[y]) PL AWf rfl ((P4.mono PL).app (Eo hy)) (by rw[Gm];try rfl),AD hw⟩
end Go.Tri
