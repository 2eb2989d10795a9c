/-
 What stands between the braces.
-/
import Derived.Test.YtbndcpjklngfhaaGreatDoorEB2
namespace Go.Tri
open Go.Proofs.Tryz
open Go.Proofs Go.RowKit
set_option maxRecDepth 10000
variable {kd e:Nat} {l:List UInt8}
theorem Uq{w0:World}{I:AQ}{H:List HA}{b T:Nat}{k:Nat}(hm:row b T (Fj.map Au)∈H)(hk:k<12):Rd w0 I H b (0+k * 1) (Au (AG Fj k [])):=by
 rw[Nat.zero_add,Nat.mul_one];refine PO hm ?_
 have h:k<Fj.length:=hk
 rw[List.getElem?_map,LC h,CT h];try rfl
theorem ARV{W:Nat->List UInt8->PR}(h:(Dl l [35]&&decide (1<(l.length:Int))&&decide ((Ag (l.drop 1):Int)=(l.length:Int)-1))=true):Dm W kd l=.ok (.mk 2 (l.drop 1) R8 [] (decide (kd≠0))):=by
 unfold Dm;rw[AI];simp only[Ay,BC]at h ⊢;exact⟨⟨h.1.1,by omega⟩,by omega⟩
theorem AHs{W:Nat->List UInt8->PR}(h:(Dl l [35]&&decide (1<(l.length:Int))&&decide ((Ag (l.drop 1):Int)=(l.length:Int)-1))=false):Dm W kd l=if Ag l=0 then .bad 55 else if l.drop (Ag l)=[]then .ok (.mk 2 (l.take (Ag l)) [] [] (decide (kd≠0)))else if CC (l.drop (Ag l))=[]then .bad 55
    else match W (if Lib.contains [37,37,35,35] (CC (l.drop (Ag l)))=true then 0 else kd) ((l.drop (Ag l)).drop (CC (l.drop (Ag l))).length)with
    | .bad e=>.bad e
    | .ok w=>.ok (.mk 2 (l.take (Ag l)) (CC (l.drop (Ag l))) w (decide (kd≠0))):=by
  have AhE:¬(Dl l [35]&&decide (1<l.length)&&decide (Ag (l.drop 1)=l.length-1))=true:=fun h2=>by
   have h3:(Dl l [35]&&decide (1<(l.length:Int))&&decide ((Ag (l.drop 1):Int)=(l.length:Int)-1))=true:=by
    simp only[Ay,BC]at h2 ⊢;exact⟨⟨h2.1.1,by omega⟩,by omega⟩
   rw[h3]at h;cases h
  unfold Dm;rw[AB AhE]
  rfl
theorem Yf(s:List UInt8):(CC s).length<=s.length:=by
 unfold CC
 cases h:Fj.find? (fun o=>Dl s o)with
 |none=>exact Aw _
 |some o=>exact Hq (List.find?_some h)
def W8(r:BR)(I:AQ)(x:PE)(e:Nat):Prop:=match r with
 | .ok p=>e=0/\x.pt=p/\QU I x.wv x.word
 | .bad e2=>e=e2/\e≠0/\QU I x.wv x.word
theorem W8.w{r:BR}{I:AQ}{x:PE}(h:W8 r I x e):QU I x.wv x.word:=by
 cases r with
 |ok p=>exact h.2.2
 |bad e2=>exact h.2.2
theorem W8.t{r:BR}{I:AQ}{x:PE}(h:W8 r I x e)(he:e=0):r=.ok x.pt/\QU I x.wv x.word:=by
 cases r with
 |ok p=>exact⟨by rw[h.2.1],h.2.2⟩
 |bad e2=>exact Ac he h.2.1
theorem W8.f{r:BR}{I:AQ}{x:PE}(h:W8 r I x e)(he:e≠0):r=.bad e:=by
 cases r with
 |ok p=>exact Ac h.1 he
 |bad e2=>rw[h.1]
theorem ATj(hn:¬Ag l=0)(h:(decide ((Ag l:Int)=0)||decide (l.drop (Ag l)=[]))=true):l.drop (Ag l)=[]:=by
 rw[C4,BC,BC]at h;rcases h with h|h
 ·omega
 exact h
theorem Z0(m:Nat)(hW:L6 m)(b:Nat)(s:List UInt8)(kd dp:Nat)(v:Value)(l:List UInt8)(I:AQ)(F:List HA)(w0 w:World)(hm:24-dp=m+1)(hkd:kd<=2)(UU:l.length<=100000000)(hG:Fr I)(BZ:St w0 I (row b 164 (GR s kd dp v)::F) w):Calls prog 132 [.pointer (some ⟨b,0,none⟩),Au l].toArray w (fun e w'=> ∃v0,e=.returned v0/\∃I' H',(Le I I'/\∃(x:PE) (e:Nat),v0=.tuple #[.agg (Aa x).toArray,.int .i64 (e:Int)]/\H'=row b 164 (GR s kd dp v)::F/\W8 (Dm (wP m) kd l) I' x e)/\St w I' H' w'):=by
 refine enter func132 O ntmps132 O (BZ.self) (tr (HO _ O fun b4=>?_));refine AH O (tr (yp O ((fun w hw=>GJ b s kd dp v w (B5 hw))) (Em (Aa (⟨2,[],[],As,[],(decide (kd≠0))⟩:PE)) O (HO _ O fun b6=>?_))));refine El _ O ?_ (by exact A9 (I:=I) (Be I));refine lnt (tq (zp O ((fun w _=>FA l [35] w)) ?_))
 refine zA 3 O (fun UQ=>by
   refine zq O (AW O BX O) ?_;exact zv O
  ) ?_
 refine zA 7 O (fun h32=>by
   simp at h32
   have Ri:1<l.length:=by have:=h32.2;omega
   refine zq O (BF O BX O O (by omega)) ?_;refine zp O ((fun w _=>PP (l.drop 1) w (by rw[BA];omega))) ?_;refine zq O (AW O BX O) (zq O (Bl O O O (by omega)) ?_);exact zv O
  ) ?_
 refine Dp (AA O (fun Ab=>?_) (fun Ab=>?_))
 ·have KA:=ARV (W:=wP m) (kd:=kd) Ab
  have Ri:1<l.length:=by
   have h:=Ab
   simp only[Ay,BC]at h
   omega
  refine tr (yq O (BF O BX O O (by omega)) ?_);refine Eu _ O ?_ (by exact⟨O,O⟩) O (by rfl);refine Eu (Aa (⟨2,(l.drop 1),R8,As,[],(decide (kd≠0))⟩:PE)) O ?_ (by exact⟨O,O⟩);refine DL (yq O (A7 O DG BU O O O) (El _ O ?_ (by exact A9 (I:=I) (Be I))));refine AH O (AX (Ah (B6 (.inl O) O (by exact Cb O DG BU O O (Du O (Cc))) (fun w' hw=>?_))));exact⟨_,O,I,_,⟨Le.refl _,(⟨2,(l.drop 1),R8,As,[],(decide (kd≠0))⟩:PE),0,O,O,(by rw[KA];exact⟨O,O,Be _⟩)⟩,AD hw⟩
 have KA:=AHs (W:=wP m) (kd:=kd) Ab
 refine AV (tr (yp O ((fun w _=>PP l w (by omega))) ?_));refine AH O (AF ?_)
 have AiK:=Lj l
 refine AC (yq O (BF O BX O O (by omega)) ?_);refine AH O (tr (yq O (Ba O BX O O (by omega)) ?_));refine Eu (Aa (⟨2,(l.take (Ag l)),[],As,[],(decide (kd≠0))⟩:PE)) O ?_ (by exact⟨O,O⟩);refine lnt (tq ?_)
 refine zO 2 O (fun h52=>by
   simp at h52
   refine zq O (AR O O O) ?_;exact zv O
  ) ?_
 refine Dp (AA O (fun An=>?_) (fun An=>?_))
 ·refine AF (AK O (AA O (fun A6=>?_) (fun A6=>?_)))
  ·simp at A6
   have NZ:Ag l=0:=by omega
   rw[AI NZ]at KA;refine tr (Em (Aa Ct) O (El _ O ?_ (by exact A9 (I:=I) (Be I))));refine AH O (AX (Ah (Ah (B6 (.inl O) O (by exact Cb O DG BU O O (Du O (Cc))) (fun w' hw=>?_)))));exact⟨_,O,I,_,⟨Le.refl _,Ct,55,O,O,(by rw[KA];exact⟨O,by decide,Be _⟩)⟩,AD hw⟩
  simp at A6
  have NZ:¬Ag l=0:=by omega
  have h1:(l.drop (Ag l))=[]:=ATj NZ An
  rw[AB NZ,AI h1]at KA;refine AV (tr (yq O (A7 O DG BU O O O) (El _ O ?_ (by exact A9 (I:=I) (Be I)))));refine AH O (AX (Ah (B6 (.inl O) O (by exact Cb O DG BU O O (Du O (Cc))) (fun w' hw=>?_))));exact⟨_,O,I,_,⟨Le.refl _,(⟨2,(l.take (Ag l)),[],As,[],(decide (kd≠0))⟩:PE),0,O,O,(by rw[KA];exact⟨O,O,Be _⟩)⟩,AD hw⟩
 have h1:=An
 rw[Bool.or_eq_false_iff,CA,CA]at h1
 have Tv:¬l.drop (Ag l)=[]:=h1.2
 rw[AB (show ¬Ag l=0 by omega),AB Tv]at KA;refine AV (AF (tr (ye O (Cl (vs:=[_,_,_,_,_,_,_,_,_,_,_,_]) (css:=[[Au [58,45]],[Au [58,61]],[Au [58,63]],[Au [58,43]],[Au [37,37]],[Au [35,35]],[Au [45]],[Au [61]],[Au [63]],[Au [43]],[Au [37]],[Au [35]]]) O BT Co O O O O (O) (by simp[])) ?_)));rintro _ _ _ ⟨b57,rfl,rfl,rfl⟩;refine yq rfl ((by exact BH rfl BT rfl (⟨_,_,rfl⟩))) ?_;refine AH rfl (AJ (EB (ι:=Nat) [0,1,4,5,6,32,7,8,52,57,58] (fun zz=>zz<=12) (fun zz=>12-zz) (fun zz=>[(59,.int .i64 (zz:Int))]) (fun zz=>I) (fun zz=>(row b57 9 (Fj.map Au)::row b6 147 (Aa (⟨2,(l.take (Ag l)),(((Fj.take zz).find? (fun o=>Dl (l.drop (Ag l)) o)).getD []),As,[],(decide (kd≠0))⟩:PE))::row b4 147 (Aa Ct)::row b 164 (GR s kd dp v)::F)) 0 rfl ?_ ?_ (hh:=(fun _ h=>h))))
 ·exact Aw _
 rintro k hk;dsimp only at *;refine AK rfl (AF (AA rfl (fun BJ=>?_) (fun BJ=>?_)))
 ·simp at BJ
  have AYL:k<12:=by omega
  have LS:=Yh (s:=(l.drop (Ag l))) Fj k (((Fj.take k).find? (fun o=>Dl (l.drop (Ag l)) o)).getD []) hk O (by decide) AYL
  refine AV (AF (AJ (tr ?_)));refine yq O ((by exact AN O BT Co O O (⟨_,_,O,fun _ _ h=>by cases h;rfl,fun _ h=>by cases h⟩) (by omega))) ?_;refine yq rfl ((by exact Ai rfl rfl (Uq (b:=b57) (T:=9) (k:=k) (CQ) (by omega)))) ?_;refine AH rfl (tq (zq rfl ((by exact Az rfl rfl (by rfl))) ?_));refine zq rfl (AR rfl rfl rfl) ?_
  refine zA 3 O (fun h70=>by
    simp at h70
    refine zp O ((fun w _=>FA (l.drop (Ag l)) (AG Fj k []) w)) ?_;exact zv O
   ) ?_
  refine Dp (AA O (fun Bj=>?_) (fun Bj=>?_))
  ·have AXs:(((Fj.take k).find? (fun o=>Dl (l.drop (Ag l)) o)).getD [])=[]/\Dl (l.drop (Ag l)) (AG Fj k [])=true:=by simpa using Bj
   refine AC (Eu (Aa (⟨2,(l.take (Ag l)),(AG Fj k []),As,[],(decide (kd≠0))⟩:PE)) O ?_ (by exact⟨O,O⟩));refine C7 (AL (AS (AC (yq O (AM O O O (by omega)) ?_))));refine AU O (DJ (k+1) ?_ ?_ (hh:=(fun _ h=>by dsimp only;rw[LS,AI AXs];exact AD h)))
   ·omega
   show 12-(k+1)<12-k
   omega
  have AYZ:¬((((Fj.take k).find? (fun o=>Dl (l.drop (Ag l)) o)).getD [])=[]/\Dl (l.drop (Ag l)) (AG Fj k [])=true):=fun h=>by
   have h5:(decide ((((Fj.take k).find? (fun o=>Dl (l.drop (Ag l)) o)).getD [])=[])&&Dl (l.drop (Ag l)) (AG Fj k []))=false:=Bj
   rw[h.2,BK h.1]at h5
   cases h5
  refine AY (AL (AS (AC (yq O (AM O O O (by omega)) ?_))));refine AU O (DJ (k+1) ?_ ?_ (hh:=(fun _ h=>by dsimp only;rw[LS,AB AYZ];exact AD h)))
  ·omega
  show 12-(k+1)<12-k
  omega
 simp at BJ
 obtain rfl:k=12:=by omega
 refine Av (AE (AE (AO (AS (AF (AEx (H':=row b57 9 (Fj.map Au)::row b6 147 (Aa (⟨2,(l.take (Ag l)),(CC (l.drop (Ag l))),As,[],(decide (kd≠0))⟩:PE))::row b4 147 (Aa Ct)::row b 164 (GR s kd dp v)::F) ?_ (fun _ h=>h)))))));refine AC (yq O ((by exact Az O O (by rfl))) ?_);refine AH O (EZ (ι:=Nat) [59,0,1,4,6,32,7,8,52,57,58,60] (fun zz=>(zz=if Lib.contains [37,37,35,35] (CC (l.drop (Ag l)))=true then 0 else kd)/\¬CC (l.drop (Ag l))=[]) (fun zz=>[(11,.int .i64 (zz:Int))]) (fun zz=>I) (fun zz=>(row b6 147 (Aa (⟨2,(l.take (Ag l)),(CC (l.drop (Ag l))),As,[],(decide (kd≠0))⟩:PE))::row b4 147 (Aa Ct)::row b 164 (GR s kd dp v)::F)) O ?_ ?_)
 ·refine AJ (tr (yq O ((by exact Az O O (by rfl))) ?_));refine yq O (AR O O O) (AH O (AA O (fun B4=>?_) (fun B4=>?_)))
  ·have Zp:CC (l.drop (Ag l))=[]:=BM B4
   rw[AI Zp]at KA;refine tr (Em (Aa Ct) O (El _ O ?_ (by exact A9 (I:=I) (Be I))));refine AH O (AX (A4 (Ah (B6 (.inl O) O (by exact Cb O DG BU O O (Du O (Cc))) (fun w' hw=>?_)))));exact⟨_,O,I,_,⟨Le.refl _,Ct,55,O,O,(by rw[KA];exact⟨O,by decide,Be _⟩)⟩,AD hw⟩
  have Zp:¬CC (l.drop (Ag l))=[]:=BW B4
  rw[AB Zp]at KA;refine tr (yq O ((by exact Az O O (by rfl))) ?_);refine yp O ((fun w hw=>IY [37,37,35,35] (CC (l.drop (Ag l))) w (by decide) (hG.mono hw.le))) ?_;refine AH O (AA O (fun CP=>?_) (fun CP=>?_))
  ·refine AC (AU O (AL (CB (0) ?_)))
   exact⟨by rw[AI CP],Zp⟩
  refine AY (AL (CB (kd) ?_))
  exact⟨by rw[AB (by rw[CP];simp)],Zp⟩
 rintro kk ⟨hkk,Zp⟩;rw[AB Zp]at KA
 have AZY:kk<=2:=by rw[hkk];split<;>omega
 refine AF ?_
 have Wk:=Yf (l.drop (Ag l))
 have Ahf:(⟨2,(l.take (Ag l)),(CC (l.drop (Ag l))),As,[],(decide (kd≠0))⟩:PE).op.length<=(l.drop ((Ag l:Int)).toNat).length:=Wk
 rw[BA]at Wk;refine Bo [11] [] [] mo (by kernel_rfl) (fun _ _ _ _ _ h=>h) (xr [0,1] O O (xq 2 O O ((by exact Az O O (by rfl))) ?_));refine xf 3 O O (fun _=>AW O BX O) (xf 4 O O (fun _=>BF O BX O O (by omega)) ?_);refine xr [5,6,7,8] O O (xq 9 O O ((by exact Az O O (by rfl))) ?_);refine xf 10 O O (fun _=>AM O O O (by omega)) ?_;refine xe 11 O O (ec O O O (fun w hw=>hW ((l.drop (Ag l)).drop (CC (l.drop (Ag l))).length) kk (dp+1) _ _ _ w (by omega) (by omega) AZY (by rw[BA,BA];omega) hG hw)) ?_;rintro _ J99 _ ⟨AYx,rfl,vl,e1,rfl,ET⟩;refine⟨AYx,.inr Fs.sub,?_⟩;refine xr [12,13,14,15,16] rfl rfl (CX (AS (AF (AK rfl (AA rfl (fun DF=>?_) (fun DF=>?_))))))
 ·simp at DF
  have Kn:e1≠0:=by omega
  have W4:=ET.f Kn
  rw[<-hkk,W4.1]at KA;refine tr (Em (Aa Ct) O (El _ O ?_ (by exact A9 (I:=I) (Be I))));refine AH O (AX (Ah (B6 (.inl O) O (by exact Cb O DG BU O O (Du O (Cc))) (fun w' hw=>?_))));exact⟨_,O,J99,_,⟨AYx,Ct,e1,O,O,(by rw[KA];exact⟨O,Kn,Be _⟩)⟩,AD hw⟩
 simp at DF
 have Kn:e1=0:=by omega
 obtain⟨l2,W4,EU⟩:=ET.t Kn;rw[<-hkk,W4]at KA;refine AV (tr (Eu (Aa (⟨2,(l.take (Ag l)),(CC (l.drop (Ag l))),vl,l2,(decide (kd≠0))⟩:PE)) rfl ?_ (by exact EU.one)));refine DL (yq rfl (A7 rfl DG BU rfl rfl rfl) (El _ rfl ?_ (by exact A9 (x:=⟨2,(l.take (Ag l)),CC (l.drop (Ag l)),vl,l2,(decide (kd≠0))⟩) EU)));refine AH rfl (AX (B6 (.inl rfl) rfl (by exact Cb rfl DG BU rfl rfl (Du rfl (Cc))) (fun w' hw=>?_)));exact⟨_,rfl,J99,_,⟨AYx,(⟨2,(l.take (Ag l)),(CC (l.drop (Ag l))),vl,l2,(decide (kd≠0))⟩:PE),0,rfl,rfl,(by rw[KA];exact⟨rfl,rfl,EU⟩)⟩,AD hw⟩
end Go.Tri
