/-
 A text read into parts.
-/
import Derived.Test.YtbndcpjklngfhaaGreatDoorEB5
namespace Go.Tri
open Go.Proofs.Tryz
open Go.Proofs Go.RowKit
set_option maxRecDepth 10000
variable {e kd:Nat} {s:List UInt8} {c:UInt8}
def ARM(r:PR)(I:AQ)(L:List PE)(e:Nat):Prop:=match r with
 | .ok l=>e=0/\l=L.map PE.pt/\Cg I L
 | .bad e2=>e=e2/\e≠0
theorem ARM.t{r:PR}{I:AQ}{L:List PE}(h:ARM r I L e)(he:e=0):r=.ok (L.map PE.pt)/\Cg I L:=by
 cases r with
 |ok l=>exact⟨by rw[h.2.1],h.2.2⟩
 |bad e2=>exact Ac he h.2
theorem ARM.f{r:PR}{I:AQ}{L:List PE}(h:ARM r I L e)(he:e≠0):r=.bad e:=by
 cases r with
 |ok l=>exact Ac h.1 he
 |bad e2=>rw[h.1]
theorem YF{b:Bool}(h:(decide ((kd:Int)=0)&&(decide (s=[126])||Dl s [126,47]))=b):JH kd s=b:=by
 rw[<-h];unfold JH
 by_cases h1:kd=0
 ·rw[BK h1,BK (show(kd:Int)=0 by omega)]
 rw[DC h1,DC (show ¬(kd:Int)=0 by omega)]
theorem YV(h:JH kd s=true):1<=s.length:=by
 unfold JH at h;rw[Ay,C4]at h;rcases h.2 with h|h
 ·have h2:=BM h
  subst h2;decide
 have:=Hq h;simp at this;omega
theorem AKr(h:((decide (c=39)||decide (c=34))&&decide ((kd:Int)=0))=true):(c=39\/c=34)/\kd=0:=by
 simp only[Ay,C4,BC]at h;exact⟨h.1,by omega⟩
theorem AGw(h:((decide (c=39)||decide (c=34))&&decide ((kd:Int)=0))=false):¬((c=39\/c=34)/\kd=0):=fun⟨h1,h2⟩=>by
 have h3:((decide (c=39)||decide (c=34))&&decide ((kd:Int)=0))=true:=by
  simp only[Ay,C4,BC];exact⟨h1,by omega⟩
 rw[h3]at h;cases h
theorem AHH(n:Nat)(hW:∀m,n=m+1->L6 m)(b:Nat)(s:List UInt8)(kd dp:Nat)(I:AQ)(F:List HA)(w0 w:World)(hn9:24-dp=n)(hd:dp<=24)(hs:s.length<=100000000)(hkd:kd<=2)(hG:Fr I)(BZ:St w0 I (row b 164 (GR s kd dp As)::Ap 147 5 Aa As []::F) w):Calls prog 79 [.pointer (some ⟨b,0,none⟩)].toArray w (fun e w'=> ∃v0,e=.returned v0/\∃I' H',(Le I I'/\∃(v':Value) (L':List PE) (e:Nat),v0=.int .i64 (e:Int)/\H'=row b 164 (GR s kd dp v')::Ap 147 5 Aa v' L'::F/\ARM (Hr n (Wn n) kd s) I' L' e)/\St w I' H' w'):=by
 refine enter func79 O ntmps79 O (BZ.self) (AK O (tr (DE O ?_)));refine AH O (EZ (ι:=Value×List PE×Nat) [0,2] (fun zz=>Hr n (Wn n) kd s=HJ n (Wn n) kd s.length (s.drop zz.2.2) (zz.2.1.map PE.pt)/\Cg I zz.2.1/\zz.2.1.length<=zz.2.2/\Gl zz.2.1<=zz.2.2/\zz.2.2<=s.length) (fun zz=>[(3,Au (s.drop zz.2.2))]) (fun zz=>I) (fun zz=>(row b 164 (GR s kd dp zz.1)::Ap 147 5 Aa zz.1 zz.2.1::F)) O ?_ ?_)
 ·refine tq (EA O ?_)
  refine zA 6 O (fun UQ=>by
    simp at UQ
    refine zq O (AR O O O) ?_
    refine zO 2 O (fun h22=>by
      simp at h22
      refine zp O ((fun w _=>FA s [126,47] w)) ?_;exact zv O
     ) ?_
    exact zv O
   ) ?_
  refine Dp (AA O (fun Ab=>?_) (fun Ab=>?_))
  ·have htl:=YF Ab
   refine AF ?_
   have Aky:([]:List PE).length=0:=rfl
   refine Tj As (fun Ew=>?_);refine Bo [6,7,9,12] [9,12] [row b 164 (GR s kd dp As)] mo (by kernel_rfl) (fun _ _ _ _ _ h=>h) (xr [0,1,2] O O (x0 3 O (Le.refl _) O (fun _ hI=>Az O O (by rfl)) ?_));refine xf 4 O O (fun _=>C0 (pl:=[(_,_),(_,_),(_,_),(_,_),(_,_)]) (cs:=(Aa (⟨5,[126],[],As,[],false⟩:PE)).toArray) O DG BU ⟨O,⟨_,_,I2⟩,O,⟨_,_,Co⟩,O,⟨_,_,Co⟩,O,⟨_,_,XA⟩,O,⟨_,_,NL⟩,trivial⟩ O O) ?_;refine xf 5 O O (fun _=>(by exact BH O E5 O (Gf Ew))) ?_;refine xe 6 O O (BD O E5 BU O O O (by rfl) O) ?_;rintro _ _ _ ⟨b30,rfl,rfl,rfl⟩;refine xk ?_;refine xe 7 rfl rfl (B8 (f:=Aa) (c:=Ct) rfl E5 BU rfl rfl rfl rfl rfl rfl rfl (by exact A9 (I:=I) (Be I)) (by simp only[maxLen];omega) (by omega)) ?_;rintro v31 _ _ ⟨rfl,rfl⟩;refine xk ?_
   have Ahl:(([]:List PE)++[Ct]).length=([]:List PE).length+1:=by simp
   refine Fd v31 (fun Acq Ma=>?_);refine xf 8 O O (fun _=>(by exact AN O E5 BU O O (Acq) (by omega))) ?_;refine xr [10,11] O O (Gp 9 12 (by kernel_rfl) (by kernel_rfl) ?_ ?_)
   ·refine Tx 9 O O (Le.refl _) O O (Df ((⟨5,[126],[],As,[],false⟩:PE)) O BU O O (A9 (I:=I) (Be I)) (fun _=>rfl) (by simp) (by decide)) ?_;rintro _ _ _ ⟨rfl,rfl⟩;refine⟨Le.refl _,.inl rfl,?_⟩;refine Bx (H':=Ap 147 5 Aa v31 (([]:List PE)++[(⟨5,[126],[],As,[],false⟩:PE)])::_) ?_ (fun _ h=>by rw[FX]at h;exact h);refine FP 12 (by kernel_rfl) (by kernel_rfl) rfl (Le.refl _) rfl rfl (Bz rfl MD rfl rfl (by assumption) rfl (by rfl)) ?_;rintro _ _ _ ⟨rfl,rfl⟩;refine⟨Le.refl _,.inl rfl,?_⟩;refine Bx (H':=row b 164 (GR s kd dp v31)::_) ?_ (fun _ h=>h);refine CX (AS ?_)
    have Lh:=YV htl
    refine AC (yq O (BF O BX O O (by omega)) ?_);refine AU O (CB ((v31,[]++[(⟨5,[126],[],As,[],false⟩:PE)],1)) ?_)
    dsimp only;exact⟨by rw[Hr,AI htl];rfl,Eo (Be I),A5 _,A5 _,Lh⟩
   refine Tx 12 O O (Le.refl _) O O (Bz O MD O O (by assumption) O (by rfl)) ?_;rintro _ _ _ ⟨rfl,rfl⟩;refine⟨Le.refl _,.inl rfl,?_⟩;refine Bx (H':=row b 164 (GR s kd dp v31)::_) ?_ (fun _ h=>h);refine FP 9 (by kernel_rfl) (by kernel_rfl) rfl (Le.refl _) rfl rfl (Df ((⟨5,[126],[],As,[],false⟩:PE)) rfl BU rfl rfl (A9 (I:=I) (Be I)) (fun _=>rfl) (by simp) (by decide)) ?_;rintro _ _ _ ⟨rfl,rfl⟩;refine⟨Le.refl _,.inl rfl,?_⟩;refine Bx (H':=Ap 147 5 Aa v31 (([]:List PE)++[(⟨5,[126],[],As,[],false⟩:PE)])::_) ?_ (fun _ h=>by rw[FX]at h;exact h);refine CX (AS ?_)
   have Lh:=YV htl
   refine AC (yq O (BF O BX O O (by omega)) ?_);refine AU O (CB ((v31,[]++[(⟨5,[126],[],As,[],false⟩:PE)],1)) ?_)
   dsimp only;exact⟨by rw[Hr,AI htl];rfl,Eo (Be I),A5 _,A5 _,Lh⟩
  have htl:=YF Ab
  refine AY (CB ((As,[],0)) ?_)
  dsimp only;exact⟨by rw[Hr,AB (by rw[htl];simp)];rfl,Ur I,A5 _,A5 _,Aw _⟩
 rintro⟨v,L,i⟩ ⟨hx0,P4,hLn,hLs,Rj⟩;dsimp only at *;refine AF (AJ (EB (ι:=Value×List PE×Nat×Nat×AQ) [0] (fun zz=>zz.2.2.1<=s.length/\Le I zz.2.2.2.2/\Cg zz.2.2.2.2 zz.2.1/\zz.2.1.length<=zz.2.2.1/\Gl zz.2.1<=zz.2.2.1/\Hr n (Wn n) kd s=HJ n (Wn n) kd zz.2.2.2.1 (s.drop zz.2.2.1) (zz.2.1.map PE.pt)/\s.length-zz.2.2.1<=zz.2.2.2.1) (fun zz=>s.length-zz.2.2.1) (fun zz=>[(3,Au (s.drop zz.2.2.1))]) (fun zz=>zz.2.2.2.2) (fun zz=>(row b 164 (GR s kd dp zz.1)::Ap 147 5 Aa zz.1 zz.2.1::F)) (v,L,i,s.length,I) rfl ?_ ?_))
 ·dsimp only;exact⟨Rj,Le.refl _,P4,hLn,hLs,hx0,by omega⟩
 rintro⟨v,L,i,g,J⟩ ⟨Rj,PL,hWJ,hLn,hLs,hx,hg⟩;dsimp only at *;refine AF (tr (yq rfl (Bs rfl rfl rfl) (ln (AA rfl (fun An=>?_) (fun An=>?_)))))
 ·have Dk:s.drop i≠[]:=BM An
  have hdl:(s.drop i).length=s.length-i:=BA
  have hdp:=BV.2 Dk
  have hi:i<s.length:=by omega
  have CS:=SH hx Dk (by omega)
  refine AV (AJ (AK O (EZ (ι:=Value×List PE×Nat×Nat×AQ) [3,0,38] (fun zz=>Le J zz.2.2.2.2/\Cg zz.2.2.2.2 zz.2.1/\(zz.2.2.2.1=0->DI n (Wn n) kd (s.drop i) (L.map PE.pt)=.ok (zz.2.1.map PE.pt) zz.2.2.1)/\(zz.2.2.2.1≠0->DI n (Wn n) kd (s.drop i) (L.map PE.pt)=.bad zz.2.2.2.1)) (fun zz=>[(4,.int .i64 (zz.2.2.1:Int)),(5,.int .i64 (zz.2.2.2.1:Int))]) (fun zz=>zz.2.2.2.2) (fun zz=>(row b 164 (GR s kd dp zz.1)::Ap 147 5 Aa zz.1 zz.2.1::F)) O ?_ ?_)))
  ·refine tr (yq O ((by exact AZ O BX O O (by omega))) ?_);refine AH O (AJ (tr (yq O (Ae O O O O) (AH O (AA O (fun A6=>?_) (fun A6=>?_))))))
   ·simp only[BC]at A6
    have h2:AG (s.drop i) 0 0=92:=A6
    refine AC (yc O (fun w hw=>AKJ b s kd dp v L (s.drop i) _ _ _ w (by omega) (by omega) Dk (by omega) hWJ (Bm (row b 164 (GR s kd dp v)) (Ap 147 5 Aa v L) hw)) ?_);rintro _ _ _ ⟨rfl,v2,L2,k2,rfl,rfl,hW2,hbs⟩;refine AU rfl (AL (CB ((v2,L2,k2,0,J)) ?_))
    dsimp only;exact⟨Le.refl _,hW2,fun _=>by rw[DI,AI h2];exact hbs,fun h=>Ac O h⟩
   simp only[CA]at A6
   have h2:¬AG (s.drop i) 0 0=92:=A6
   refine tq (zq O (Ae O O O O) ?_)
   refine zO 2 O (fun h59=>by
     simp at h59
     refine zq O (Ae O O O O) ?_;exact zv O
    ) ?_
   refine zA 5 O (fun h66=>by
     simp at h66
     refine EA O ?_;exact zv O
    ) ?_
   refine De O (AA O (fun BJ=>?_) (fun BJ=>?_))
   ·have hq:=AKr BJ
    refine AC (yc O (fun w hw=>Z3 n hW b s kd dp v L i _ _ _ w (by omega) (by omega) hn9 hd hi hs (by rw[D0]at hq;exact hq.1) hkd (hG.mono PL) hWJ (Bm (row b 164 (GR s kd dp v)) (Ap 147 5 Aa v L) hw)) ?_);rintro _ J2 _ ⟨Pe,v2,L2,k2,e2,rfl,rfl,hW2,ET⟩;refine AU rfl (AL (CB ((v2,L2,k2,e2,J2)) ?_))
    dsimp only;exact⟨Pe,hW2,fun h=>by rw[DI,AB h2,AI hq];exact ET.t h,fun h=>by rw[DI,AB h2,AI hq];exact ET.f h⟩
   have hq:=AGw BJ
   refine tr (yq O (Ae O O O O) (AH O (AA O (fun Bj=>?_) (fun Bj=>?_))))
   ·simp only[BC]at Bj
    have h4:AG (s.drop i) 0 0=36:=Bj
    refine AC (yc O (fun w hw=>Wp n hW b s kd dp v L i _ _ _ w (by omega) (by omega) hn9 hd hi hs (by rw[D0]at h4;exact h4) hkd (hG.mono PL) hWJ (Bm (row b 164 (GR s kd dp v)) (Ap 147 5 Aa v L) hw)) ?_);rintro _ J2 _ ⟨Pe,v2,L2,k2,e2,rfl,rfl,hW2,ET⟩;refine AU rfl (AL (CB ((v2,L2,k2,e2,J2)) ?_))
    dsimp only;exact⟨Pe,hW2,fun h=>by rw[DI,AB h2,AB hq,AI h4];exact ET.t h,fun h=>by rw[DI,AB h2,AB hq,AI h4];exact ET.f h⟩
   simp only[CA]at Bj
   have h4:¬AG (s.drop i) 0 0=36:=Bj
   refine tr (yq O (Ae O O O O) (AH O (AA O (fun B4=>?_) (fun B4=>?_))))
   ·simp only[BC]at B4
    have h5:AG (s.drop i) 0 0=96:=B4
    refine AC (AU O (AL (CB ((v,L,1,55,J)) ?_)))
    dsimp only;exact⟨Le.refl _,hWJ,fun h=>Ac h (by decide),fun _=>by rw[DI,AB h2,AB hq,AB h4,AI h5]⟩
   simp only[CA]at B4
   have h5:¬AG (s.drop i) 0 0=96:=B4
   refine Bo [5] [] [] mo (by kernel_rfl) (fun _ _ _ _ _ h=>h) (xr [0,1] O O (xq 2 O O (Ba O BX O O (by omega)) ?_));refine xr [3] O O (xq 4 O O (qc O O O ((fun w hw=>GJ b s kd dp v w (B5 hw)))) (xe 5 O O (ec O O O (fun w hw=>HE b s kd dp v L ((s.drop i).take 1) (decide (kd≠0)) _ _ _ w (by omega) (by rw[BL];omega) (fun x hx=>by have:=D4 hx;omega) (Bm (row b 164 (GR s kd dp v)) (Ap 147 5 Aa v L) hw))) ?_));rintro _ _ _ ⟨rfl,rfl,v2,rfl⟩;refine xk (CX (AL (CB ((v2,ES L ((s.drop i).take 1) (decide (kd≠0)),1,0,J)) ?_)))
   dsimp only;exact⟨Le.refl _,Dj hWJ,fun _=>by rw[DI,AB h2,AB hq,AB h4,AB h5,Fz],fun h=>Ac O h⟩
  rintro⟨v2,L2,k2,e2,J2⟩ ⟨hJJ,hW2,OL,Lh⟩;dsimp only at *;refine AF (AK rfl (AA rfl (fun CP=>?_) (fun CP=>?_)))
  ·simp at CP
   have P3:e2≠0:=by omega
   have ADt:=CS.1 _ (Lh P3)
   refine AK O (Ak (AP O O (fun w' hw=>?_)));exact⟨_,O,J2,_,⟨PL.trans hJJ,v2,L2,e2,O,O,(by rw[ADt];exact⟨O,P3⟩)⟩,AD hw⟩
  simp at CP
  have P3:e2=0:=by omega
  have hgo:=CS.2 _ _ (OL P3)
  have hsb:=GB (QC n) Dk (OL P3)
  refine AV (AC (yq O (BF O BX O O (by omega)) ?_));refine AU O (AL (Fl ((v2,L2,i+k2,g-1,J2)) ?_ ?_ (A0 O (by show Au ((s.drop i).drop k2)=_;rw[Cp]) (Bk)) (BS O) (fun _ h=>by dsimp only;exact AD h)))
  ·dsimp only;refine⟨by omega,PL.trans hJJ,hW2,?_,?_,by rw[hgo,Cp],by omega⟩
   ·rw[Af,Af]at hsb;omega
   rw[IW,IW]at hsb;omega
  dsimp only
  show s.length-(i+k2)<s.length-i
  omega
 have hem:s.drop i=[]:=Classical.not_not.1 (BW An)
 rw[hem,AEE]at hx;refine Av (AE (AE (AO (AS (AK O (AX (AP O O (fun w' hw=>?_))))))));exact⟨_,O,J,_,⟨PL,v,L,0,O,O,(by rw[hx];exact⟨O,O,hWJ⟩)⟩,AD hw⟩
theorem TX(n:Nat)(hW:∀m,n=m+1->L6 m)(s:List UInt8)(kind d:Nat)(I:AQ)(F:List HA)(w0 w:World)(hn9:24-d=n)(hd:d<=24)(hk:kind<=2)(hs:s.length<=100000000)(hG:Fr I)(BZ:St w0 I F w):Calls prog 60 [Au s,.int .i64 (kind:Int),.int .i64 (d:Int)].toArray w (ER w fun v I' H'=>Le I I'/\F=H'/\∃vl,∃e1:Nat,v=.tuple #[vl,.int .i64 (e1:Int)]/\On (wP n kind s) I' vl e1):=by
 refine enter func60 O ntmps60 O (BZ.self) (AK O (tr (Em (GR s kind d As) O (JC _ O fun b14=>?_))));refine AH O (AF (tr (yc O (fun w hw=>AHH n hW b14 s kind d _ F _ w hn9 hd hs hk hG (AD (show St _ _ (Ap 147 5 Aa As []::_) _ from CI 147 5 Aa (Al (row b14 164 (GR s kind d As)) hw)))) ?_)));rintro _ J16 _ ⟨Ok,v',L',e16,rfl,rfl,ET⟩;refine AH rfl (AK rfl (AA rfl (fun Ab=>?_) (fun Ab=>?_)))
 ·simp at Ab
  have he:e16≠0:=by omega
  have hr:=ET.f he
  refine AK O (Ak (Aj O O O (fun w' hw=>?_)));exact⟨_,O,J16,_,⟨Ok,O,As,e16,O,(by rw[RI,hr];exact⟨O,he,O⟩)⟩,AD hw⟩
 simp at Ab
 have he:e16=0:=by omega
 obtain⟨hr,P4⟩:=ET.t he;refine AV (AF (Bf (f:=Aa) (l:=L') v' (fun _=>rfl) (fun Jf IL hvf=>?_)));refine AC (DE rfl ?_);refine AH rfl (AX (Aj rfl rfl rfl (fun w' hw=>?_)));exact⟨_,rfl,Jf,_,⟨Ok.trans IL,rfl,v',0,rfl,(by rw[RI,hr];exact⟨rfl,.mk v' L' hvf (P4.mono IL)⟩)⟩,AD hw⟩
theorem XZ:∀n,L6 n
 |0=>fun s kind d I F w0 w h1 h2 h3 h4 h5 h6=>TX 0 (fun m h=>by cases h) s kind d I F w0 w h1 h2 h3 h4 h5 h6
 |n+1=>fun s kind d I F w0 w h1 h2 h3 h4 h5 h6=>TX (n+1) (fun m h=>(show n=m by omega) ▸ XZ n) s kind d I F w0 w h1 h2 h3 h4 h5 h6
end Go.Tri
