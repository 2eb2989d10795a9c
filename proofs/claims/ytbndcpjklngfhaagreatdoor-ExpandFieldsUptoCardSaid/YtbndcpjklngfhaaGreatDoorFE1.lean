/-
 The reference of expressions: digits, numbers.
-/
import Derived.Test.YtbndcpjklngfhaaGreatDoorFC4
import Derived.Test.YtbndcpjklngfhaaGreatDoorPRf
import Derived.Test.YtbndcpjklngfhaaGreatDoorEH9
namespace Go.Tri
open Go.Proofs.Tryz
open Go.Proofs Go.RowKit
set_option maxRecDepth 10000
variable {s t l op:List UInt8} {b:Bool} {p i g e r:Nat} {w0:World} {sv:Value}
theorem APL:∀c:UInt8,(decide (c=9)||decide (c=10)||decide (c=32))=C1.contains c:=G7 (by decide+kernel)
theorem AZi:∀c:UInt8,BO c=true->IntKind.i64.wrap (IntKind.u8.wrap ((c.toNat:Int)-48))=Es c:=G7 (by decide+kernel)
theorem AXY:∀c:UInt8,BO c=false->(decide ((97:Int)<=(c.toNat:Int))&&decide ((c.toNat:Int)<=102))=true->IntKind.i64.wrap (IntKind.i64.wrap (IntKind.u8.wrap ((c.toNat:Int)-97))+10)=Es c:=G7 (by decide+kernel)
theorem AZS:∀c:UInt8,BO c=false->(decide ((97:Int)<=(c.toNat:Int))&&decide ((c.toNat:Int)<=102))=false->(decide ((65:Int)<=(c.toNat:Int))&&decide ((c.toNat:Int)<=70))=true->IntKind.i64.wrap (IntKind.i64.wrap (IntKind.u8.wrap ((c.toNat:Int)-65))+10)=Es c:=G7 (by decide+kernel)
theorem AZV:∀c:UInt8,BO c=false->(decide ((97:Int)<=(c.toNat:Int))&&decide ((c.toNat:Int)<=102))=false->(decide ((65:Int)<=(c.toNat:Int))&&decide ((c.toNat:Int)<=70))=false->(99:Int)=Es c:=G7 (by decide+kernel)
theorem AVi{a:Nat}(h:(decide (((a+1:Nat):Int)<(s.length:Int))&&(decide (AG s (a+1) 0=120)||decide (AG s (a+1) 0=88)))=b):decide (1<(s.drop a).length/\(AG (s.drop a) 1 0=120\/AG (s.drop a) 1 0=88))=b:=by
 rw[<-h,Fo,BA,Bool.decide_and,Bool.decide_or,show decide (1<s.length-a)=decide (((a+1:Nat):Int)<(s.length:Int))from decide_eq_decide.2 (by omega)]
theorem AWB{a:Nat}(h:(decide (((a+2:Nat):Int)≥(s.length:Int))||decide (Es (AG s (a+2) 0)≥16))=b):decide (¬(2<(s.drop a).length/\Es (AG (s.drop a) 2 0)<16))=b:=by
 rw[<-h,Fo,BA,<-Bool.decide_or];exact decide_eq_decide.2 (by omega)
theorem AQp{a j u:Nat}(h:(decide (((a+j:Nat):Int)<(s.length:Int))&&decide (Es (AG s (a+j) 0)<(u:Int)))=b):decide (j<(s.drop a).length/\Es (AG (s.drop a) j 0)<(u:Int))=b:=by
 rw[<-h,Fo,BA,<-Bool.decide_and];exact decide_eq_decide.2 (by omega)
theorem X2{a j:Nat}(h:(decide (((a+j:Nat):Int)<(s.length:Int))&&(CV (AG s (a+j) 0)||BO (AG s (a+j) 0)))=b):decide (j<(s.drop a).length/\(CV (AG (s.drop a) j 0)||BO (AG (s.drop a) j 0))=true)=b:=by
 rw[<-h,Fo,BA,Bool.decide_and,show decide (j<s.length-a)=decide (((a+j:Nat):Int)<(s.length:Int))from decide_eq_decide.2 (by omega),Bool.decide_eq_true]
theorem M2(c:UInt8)(w:World):B2 prog 212 [u8 c] w (.bool (C1.contains c)):=by
 refine enter func212 O ntmps212 O (St.start w (Ao w) (Le.refl _)) (AK O (tq (zq O (Ae O O O O) ?_)))
 refine zO 2 O (fun h8=>by
   simp at h8
   refine zq O (Ae O O O O) ?_;exact zv O
  ) ?_
 refine zO 2 O (fun Tv=>by
   simp at Tv
   refine zq O (Ae O O O O) ?_;exact zv O
  ) ?_
 refine De O (AX (AP O O (fun w' hw=>?_)));refine⟨?_,hw.below⟩
 rw[<-APL];try rfl
theorem HV(c:UInt8)(w:World):B2 prog 213 [u8 c] w (.bool (BO c)):=by
 refine enter func213 O ntmps213 O (St.start w (Ao w) (Le.refl _)) (AK O (tq ?_))
 refine zA 2 O (fun h8=>by
   simp at h8
   exact zv O
  ) ?_
 refine De O (AX (AP O O (fun w' hw=>?_)));exact⟨O,hw.below⟩
theorem IZ(c:UInt8)(w:World):B2 prog 215 [u8 c] w (.bool (CV c)):=by
 refine enter func215 O ntmps215 O (St.start w (Ao w) (Le.refl _)) (AK O (tq ?_))
 refine zA 2 O (fun h8=>by
   simp at h8
   exact zv O
  ) ?_
 refine zO 6 O (fun h16=>by
   simp at h16
   refine zA 2 O (fun h15=>by
     simp at h15
     exact zv O
    ) ?_
   exact zv O
  ) ?_
 refine zO 2 O (fun h20=>by
   simp at h20
   refine zq O (Ae O O O O) ?_;exact zv O
  ) ?_
 refine De O (AX (AP O O (fun w' hw=>?_)));exact⟨O,hw.below⟩
theorem NX(c:UInt8)(w:World):B2 prog 230 [u8 c] w (.int .i64 (Es c)):=by
 refine enter func230 O ntmps230 O (St.start w (Ao w) (Le.refl _)) (AK O (AF (AJ (tr (yp O ((fun w _=>HV _ w)) (AH O (AA O (fun Ab=>?_) (fun Ab=>?_))))))))
 ·refine tr (yq O (TU O O O) (yq O (G1 O un5 un2 O O) (AH O (Ak (AP O O (fun w' hw=>?_))))));refine⟨?_,hw.below⟩
  rw[<-AZi c Ab];try rfl
 refine tq ?_
 refine zA 2 O (fun h15=>by
   simp at h15
   exact zv O
  ) ?_
 refine De O (AA O (fun An=>?_) (fun An=>?_))
 ·refine tr (yq O (TU O O O) (yq O (G1 O un5 un2 O O) (yq O (Up O O O) (AH O (Ak (AP O O (fun w' hw=>?_)))))));refine⟨?_,hw.below⟩
  rw[<-AXY c Ab An];try rfl
 refine tq ?_
 refine zA 2 O (fun h26=>by
   simp at h26
   exact zv O
  ) ?_
 refine De O (AA O (fun A6=>?_) (fun A6=>?_))
 ·refine tr (yq O (TU O O O) (yq O (G1 O un5 un2 O O) (yq O (Up O O O) (AH O (Ak (AP O O (fun w' hw=>?_)))))));refine⟨?_,hw.below⟩
  rw[<-AZS c Ab An A6];try rfl
 refine AY (AL (AS (AK O (AX (AP O O (fun w' hw=>?_))))));refine⟨?_,hw.below⟩;rw[<-AZV c Ab An A6]
theorem Vn(s:List UInt8)(a:Nat)(w:World)(hs:s.length<=1000000000)(ha:a<s.length)(hd:BO (AG (s.drop a) 0 0)=true):B2 prog 214 [Au s,.int .i64 (a:Int)] w (.tuple #[.agg (Qb (Kt (s.drop a)).1).toArray,.int .i64 ((a+(Kt (s.drop a)).2:Nat):Int)]):=by
 have hl:(s.drop a).length=s.length-a:=BA
 refine enter func214 O ntmps214 O (St.start w (Ao w) (Le.refl _)) (tr (HO _ O fun b4=>?_));refine AH O (AK O (AK O (EZ (ι:=Nat×Nat×Nat) [0,1,4] (fun zz=>Wu (s.drop a) zz.1 zz.2.1 zz.2.2 0) (fun zz=>[(6,.int .i64 (zz.1:Int)),(7,.int .i64 ((a+zz.2.1:Nat):Int))]) (fun zz=>Ao w) (fun zz=>[row b4 255 [Au [],.int .i64 0,.bool false]]) O ?_ ?_)))
 ·refine tr (yq O ((by exact AZ O BX O O (by omega))) ?_);rw[show AG s a 0=AG (s.drop a) 0 0 from(D0 s a).symm];refine yq O (Ae O O O O) (ln (AA O (fun Ab=>?_) (fun Ab=>?_)))
  ·have h48:AG (s.drop a) 0 0=48:=BM Ab
   refine AK O (tr (yq O (AM O O O (by omega)) ?_));rw[show(a:Int)+1=((a+1:Nat):Int)from O];refine AH O (tq (zq O (AW O BX O) ?_))
   refine zA 10 O (fun h31=>by
     simp at h31
     have hl2:a+1<s.length:=by omega
     refine zq O ((by exact AZ O BX O O (by omega))) ?_;refine zq O (Ae O O O O) ?_
     refine zO 4 O (fun h30=>by
       simp at h30
       have hl2:a+1<s.length:=by omega
       refine zq O ((by exact AZ O BX O O (by omega))) ?_;refine zq O (Ae O O O O) ?_;exact zv O
      ) ?_
     exact zv O
    ) ?_
   refine Dp (AA O (fun An=>?_) (fun An=>?_))
   ·have hx:=BM (AVi An)
    refine AK O (tr (yq O (AM O O O (by omega)) ?_));rw[show((a+1:Nat):Int)+1=((a+2:Nat):Int)from O];refine AH O (tq (zq O (AW O BX O) ?_))
    refine zO 5 O (fun h44=>by
      simp at h44
      refine zq O ((by exact AZ O BX O O (by omega))) ?_;refine zp O ((fun w _=>NX _ w)) ?_;exact zv O
     ) ?_
    refine Dp (AA O (fun A6=>?_) (fun A6=>?_))
    ·refine tr (Em (Qb Mg) O (El _ O ?_ (by exact GE _)));refine AH O (AX (Ah (B6 (.inl O) O (by exact Cb O RY JQ O O (Du O (Cc))) (fun w' hw=>?_))));refine⟨?_,hw.below⟩;rw[AFs h48 hx (BM (AWB A6))]
     rfl
    refine AY (CB ((16,2,(s.drop a).length)) ?_)
    dsimp only;exact AQv h48 hx (Classical.not_not.1 (BW (AWB A6)))
   have hnx:=BW (AVi An)
   refine AY (CB ((8,1,(s.drop a).length-1)) ?_)
   dsimp only;exact AQb h48 (by omega) hnx
  have h48:¬AG (s.drop a) 0 0=48:=BW Ab
  refine AY (CB ((10,0,(s.drop a).length)) ?_)
  dsimp only;exact AQj h48 (by omega) hd
 rintro⟨u,j,g⟩ h0;dsimp only at *;refine AK rfl (AF (AJ (EB (ι:=Int×Nat×Nat) [6,0,1,4] (fun zz=>Wu (s.drop a) u zz.2.1 zz.2.2 zz.1) (fun zz=>(s.drop a).length-zz.2.1) (fun zz=>[(8,.int .i64 zz.1),(7,.int .i64 ((a+zz.2.1:Nat):Int))]) (fun zz=>Ao w) (fun zz=>[row b4 255 [Au [],.int .i64 0,.bool false]]) (0,j,g) rfl ?_ ?_)))
 ·dsimp only;exact h0
 rintro⟨n,j,g⟩ h0;dsimp only at *
 have hj:=h0.hj
 refine AF (tq (zq O (AW O BX O) ?_))
 refine zA 6 O (fun h58=>by
   simp at h58
   have hl3:a+j<s.length:=by omega
   refine zq O ((by exact AZ O BX O O (by omega))) ?_;refine zp O ((fun w _=>NX _ w)) ?_;exact zv O
  ) ?_
 refine Dp (AA O (fun BJ=>?_) (fun BJ=>?_))
 ·have CS:=BM (AQp BJ)
  refine AV (AJ (tr (yq O (ADX O O O) (yq O ((by exact AZ O BX O O (by omega))) ?_))))
  have CS:=BM (AQp BJ)
  rw[show AG s (a+j) 0=AG (s.drop a) j 0 from(Fo a j).symm];refine yp O ((fun w _=>NX _ w)) (yq O (Up O O O) (AH O (AC (yq O (AM O O O (by omega)) ?_))));rw[show((a+j:Nat):Int)+1=((a+(j+1):Nat):Int)from O];refine AU O (AL (DJ ((F4 (F4 (n * (u:Int))+Es (AG (s.drop a) j 0)),j+1,g-1)) ?_ ?_))
  ·dsimp only;exact h0.step CS.1 CS.2
  dsimp only
  show _-(j+1)<_-j
  omega
 have ACS:=h0.stop (BW (AQp BJ))
 have Kp:=AUB ACS.1 ACS.2
 refine Av (AE (AE (AO (AS (AF (tq (zq O (AW O BX O) ?_)))))))
 refine zA 10 O (fun h84=>by
   simp at h84
   have hl3:a+j<s.length:=by omega
   refine zq O ((by exact AZ O BX O O (by omega))) ?_;refine zp O ((fun w _=>IZ _ w)) ?_
   refine zO 4 O (fun h83=>by
     have hl3:a+j<s.length:=by omega
     refine zq O ((by exact AZ O BX O O (by omega))) ?_;refine zp O ((fun w _=>HV _ w)) ?_;exact zv O
    ) ?_
   exact zv O
  ) ?_
 refine Dp (AA O (fun Bj=>?_) (fun Bj=>?_))
 ·refine tr (Em (Qb Mg) O (El _ O ?_ (by exact GE _)));refine AH O (AX (Ah (B6 (.inl O) O (by exact Cb O RY JQ O O (Du O (Cc))) (fun w' hw=>?_))));refine⟨?_,hw.below⟩;rw[Kp.1 (BM (X2 Bj))]
  rfl
 refine AV (tr (Em (Qb ⟨[48],n,1⟩) O (El _ O ?_ (by exact GE _))));refine AH O (AX (B6 (.inl O) O (by exact Cb O RY JQ O O (Du O (Cc))) (fun w' hw=>?_)));refine⟨?_,hw.below⟩;rw[Kp.2 (BW (X2 Bj))]
 rfl
theorem XY(h:(decide ((p:Int)<(s.length:Int))&&C1.contains (AG s p 0))=b):decide (p<s.length/\C1.contains (AG s p 0)=true)=b:=by
 rw[<-h,Bool.decide_and,show decide (p<s.length)=decide ((p:Int)<(s.length:Int))from decide_eq_decide.2 (by omega),Bool.decide_eq_true]
theorem AAl{I:AQ}{H:List HA}{b T:Nat}{k:Nat}(hm:row b T (D3.map Au)∈H)(hk:k<35):Rd w0 I H b (0+k * 1) (Au (AG D3 k [])):=by
 rw[Nat.zero_add,Nat.mul_one];refine PO hm ?_
 have h:k<D3.length:=hk
 rw[List.getElem?_map,LC h,CT h];try rfl
theorem AVD{k:Nat}(hk:k<35):1<=(AG D3 k []).length/\(AG D3 k []).length<=3:=(AAS _ (BE hk)).2
theorem Nx{a n:Nat}{x:Lx}(ht:Lib.trimLeftS (s.drop a) C1=t)(hp:t=s.drop p)(EU:p<=s.length)(hx:Qb (Bp t).1=Qb x)(hn:Nn t=n):(Value.tuple #[.agg (Qb x).toArray,.int .i64 ((p+n:Nat):Int)])=.tuple #[.agg (Qb (Bp (Lib.trimLeftS (s.drop a) C1)).1).toArray,.int .i64 ((s.length-(Lib.trimLeftS (s.drop a) C1).length+Nn (Lib.trimLeftS (s.drop a) C1):Nat):Int)]:=by
 rw[ht,hx,hn]
 have:s.length-t.length=p:=by rw[hp,BA];omega
 rw[this]
theorem AGn(s:List UInt8)(a:Nat)(w:World)(hs:s.length<=1000000000)(ha:a<=s.length):B2 prog 179 [Au s,.int .i64 (a:Int)] w (.tuple #[.agg (Qb (Bp (Lib.trimLeftS (s.drop a) C1)).1).toArray,.int .i64 ((s.length-(Lib.trimLeftS (s.drop a) C1).length+Nn (Lib.trimLeftS (s.drop a) C1):Nat):Int)]):=by
 refine enter func179 O ntmps179 O (St.start w (Ao w) (Le.refl _)) (tr (HO _ O fun b4=>?_));refine AH O (AF (AJ (EB (ι:=Nat) [0,4,5] (fun zz=>zz<=s.length/\(Lib.trimLeftS (s.drop a) C1)=Lib.trimLeftS (s.drop zz) C1) (fun zz=>s.length-zz) (fun zz=>[(1,.int .i64 (zz:Int))]) (fun zz=>Ao w) (fun zz=>[row b4 255 [Au [],.int .i64 0,.bool false]]) a O ?_ ?_)))
 ·exact⟨ha,O⟩
 rintro p ⟨hp,htr⟩;dsimp only at *;refine AF (tq (zq rfl (AW rfl BX rfl) ?_))
 refine zA 4 O (fun h19=>by
   simp at h19
   have hl3:p<s.length:=by omega
   refine zq O ((by exact AZ O BX O O (by omega))) ?_;refine zp O ((fun w _=>M2 _ w)) ?_;exact zv O
  ) ?_
 refine Dp (AA O (fun Ab=>?_) (fun Ab=>?_))
 ·refine AV (AJ (AC (yq O (AM O O O (by omega)) ?_)));rw[show(p:Int)+1=((p+1:Nat):Int)from O];refine AU O (AL (DJ (p+1) ?_ ?_))
  ·exact⟨(BM (XY Ab)).1,by rw[ATy (BM (XY Ab)).1 (BM (XY Ab)).2];exact htr⟩
  have:=(BM (XY Ab)).1
  omega
 refine Av (AE (AE (AO (AS (AF (tr (yq O (AW O BX O) (AH O (AA O (fun An=>?_) (fun An=>?_))))))))))
 ·simp at An
  have EU:¬p<s.length:=by omega
  rw[AIB (BW (XY Ab))]at htr;refine tr (Em (Qb JF) O (El _ O ?_ (by exact GE _)));refine AH O (AX (Ah (B6 (.inl O) O (by exact Cb O RY JQ O O (Du O (Cc))) (fun w' hw=>?_))));refine⟨?_,hw.below⟩;exact B3 Ending.returned (Nx (x:=JF) (n:=0) htr O hp (by rw[NR (by omega)];try rfl) (by rw[NR (by omega)];try rfl))
 simp at An
 have EU:p<s.length:=by omega
 rw[AIB (BW (XY Ab))]at htr
 have Dk:=EQ EU
 have hdl:(s.drop p).length=s.length-p:=BA
 refine AV (AF (tr (yq O ((by exact AZ O BX O O (by omega))) ?_)));refine yp O ((fun w _=>HV _ w)) (ln (AA O (fun A6=>?_) (fun A6=>?_)))
 ·have hdg:BO (AG (s.drop p) 0 0)=true:=by rw[D0];exact A6
  have hnf:=AJz Dk hdg
  refine tr (yp O ((fun w _=>Vn s p w hs EU (by rw[D0];exact A6))) ?_);refine El _ O ?_ (by exact GE _);refine AH O (AX (Ah (B6 (.inl O) O (by exact Cb O RY JQ O O (Du O (Cc))) (fun w' hw=>?_))));refine⟨?_,hw.below⟩;exact B3 Ending.returned (Nx (x:=(Kt (s.drop p)).1) (n:=(Kt (s.drop p)).2) htr O hp hnf.1 hnf.2)
 have hdg:BO (AG (s.drop p) 0 0)=false:=by rw[D0];exact A6
 have hnx:=AFO (t:=s.drop p) (fun h=>by rw[hdg]at h;cases h.2)
 refine AV (AF (tr (yq O ((by exact AZ O BX O O (by omega))) ?_)));refine yp O ((fun w _=>IZ _ w)) (ln (AA O (fun BJ=>?_) (fun BJ=>?_)))
 ·have Eg:CV (AG (s.drop p) 0 0)=true:=by rw[D0];exact BJ
  refine AK O (AF (AJ (EB (ι:=Nat×Nat) [1,0,4,5,19,25,31,40] (fun zz=>zz.1<=(s.drop p).length/\Dc (s.drop p).length 1 (s.drop p)=Dc zz.2 (max zz.1 1) (s.drop p)/\(s.drop p).length-max zz.1 1<=zz.2/\CF ((s.drop p).take (max zz.1 1))=true) (fun zz=>(s.drop p).length-zz.1) (fun zz=>[(6,.int .i64 ((p+zz.1:Nat):Int))]) (fun zz=>Ao w) (fun zz=>[row b4 255 [Au [],.int .i64 0,.bool false]]) (0,(s.drop p).length) O ?_ ?_)))
  ·dsimp only;exact⟨Aw _,O,Nat.sub_le _ _,by rw[show max 0 1=1 from O,Pg (by omega)];exact Eg⟩
  rintro⟨m,g⟩ ⟨hm,Hb,hg,hnb⟩;dsimp only at *;refine AF (tq (zq rfl (AW rfl BX rfl) ?_))
  refine zA 10 O (fun h57=>by
    simp at h57
    have hl4:p+m<s.length:=by omega
    refine zq O ((by exact AZ O BX O O (by omega))) ?_;refine zp O ((fun w _=>IZ _ w)) ?_
    refine zO 4 O (fun h56=>by
      have hl4:p+m<s.length:=by omega
      refine zq O ((by exact AZ O BX O O (by omega))) ?_;refine zp O ((fun w _=>HV _ w)) ?_;exact zv O
     ) ?_
    exact zv O
   ) ?_
  refine Dp (AA O (fun Bj=>?_) (fun Bj=>?_))
  ·refine AV (AJ (AC (yq O (AM O O O (by omega)) ?_)));rw[show((p+m:Nat):Int)+1=((p+(m+1):Nat):Int)from O];refine AU O (AL (DJ ((m+1,if m=0 then g else g-1)) ?_ ?_))
   ·dsimp only;obtain⟨h1,h2⟩:=BM (X2 Bj)
    by_cases h0:m=0
    ·subst h0;exact⟨by omega,Hb,hg,hnb⟩
    rw[Nat.max_eq_left (by omega)]at Hb hg hnb
    have h3:=X6 (by omega) h1 hnb
    rw[h2]at h3;rw[AB h0,Nat.max_eq_left (by omega)];exact⟨by omega,Hb.trans (KU hg h1 h3),by omega,h3⟩
   dsimp only
   have:=(BM (X2 Bj)).1
   show _-(m+1)<_-m
   omega
  have hm1:1<=m:=by
   rcases Nat.eq_zero_or_pos m with h0|h0
   ·exact Ac ⟨by omega,by rw[h0,Eg];try rfl⟩ (BW (X2 Bj))
   exact h0
  rw[Nat.max_eq_left hm1]at Hb
  have OG:=AFl Dk hdg Eg
  rw[Hb,Lu (fun h=>(BW (X2 Bj)) ⟨h.1,by rw[Nat.max_eq_left hm1]at hnb;rw[<-X6 hm1 h.1 hnb];exact h.2⟩)]at OG;refine Av (AE (AE (AO (AS (tr (yq O (CK O BX O O O (by omega)) ?_))))));rw[show(s.drop (p:Int).toNat).take (((p+m:Nat):Int).toNat-(p:Int).toNat)=(s.drop p).take m by rw[show((p+m:Nat):Int).toNat-(p:Int).toNat=m by omega];rfl];refine Em (Qb ⟨(s.drop p).take m,0,2⟩) O (El _ O ?_ (by exact GE _));refine AH O (AX (Ah (B6 (.inl O) O (by exact Cb O RY JQ O O (Du O (Cc))) (fun w' hw=>?_))));refine⟨?_,hw.below⟩;exact B3 Ending.returned (Nx (x:=⟨(s.drop p).take m,0,2⟩) (n:=m) htr O hp (by rw[OG]) (by rw[hnx,OG]))
 have Eg:CV (AG (s.drop p) 0 0)=false:=by rw[D0];exact BJ
 have hsg:=AFE Dk hdg Eg
 refine AV (tr (ye O (Cl (vs:=[_,_,_,_,_,_,_,_,_,_,_,_,_,_,_,_,_,_,_,_,_,_,_,_,_,_,_,_,_,_,_,_,_,_,_]) (css:=[[Au [60,60,61]],[Au [62,62,61]],[Au [42,61]],[Au [47,61]],[Au [37,61]],[Au [43,61]],[Au [45,61]],[Au [38,61]],[Au [94,61]],[Au [124,61]],[Au [124,124]],[Au [38,38]],[Au [61,61]],[Au [33,61]],[Au [60,61]],[Au [62,61]],[Au [60,60]],[Au [62,62]],[Au [61]],[Au [63]],[Au [58]],[Au [124]],[Au [94]],[Au [38]],[Au [60]],[Au [62]],[Au [43]],[Au [45]],[Au [42]],[Au [47]],[Au [37]],[Au [33]],[Au [126]],[Au [40]],[Au [41]]]) O BT Co O O O O (O) (by simp[])) ?_));rintro _ _ _ ⟨b66,rfl,rfl,rfl⟩;refine FB (H':=row b66 9 (D3.map Au)::_) ?_ (fun _ h=>h);refine AH rfl (AF (AK rfl (AJ (EB (ι:=Nat) [1,0,4,19,25,31,40,7] (fun zz=>zz<=35/\(D3.take zz).find? (fun o=>Dl (s.drop p) o)=none) (fun zz=>35-zz) (fun zz=>[(8,.int .i64 (zz:Int))]) (fun zz=>Ao w) (fun zz=>[row b66 9 (D3.map Au),row b4 255 [Au [],.int .i64 0,.bool false]]) 0 rfl ?_ ?_))))
 ·exact⟨Aw _,O⟩
 rintro k ⟨hk,Cz⟩;dsimp only at *;refine AF (tr ?_);refine yq rfl ((by exact BH rfl BT rfl (⟨_,_,rfl⟩))) ?_;refine AH rfl (AA rfl (fun B4=>?_) (fun B4=>?_))
 ·simp at B4
  have AFt:k<35:=by omega
  refine AV (AF (AJ (AF ?_)))
  have hol:=AVD AFt
  refine AC ?_;refine yq O ((by exact AN O BT Co O O (⟨_,_,O,fun _ _ h=>by cases h;rfl,fun _ h=>by cases h⟩) (by omega))) ?_;refine yq rfl ((by exact Ai rfl rfl (AAl (b:=b66) (T:=9) (k:=k) (CQ) AFt))) ?_;refine yq rfl (AW rfl BX rfl) (AH rfl (AF (Bd mo (by kernel_rfl) (fun _ _ _ _ _ h=>h) (zq rfl (AM rfl rfl rfl (by omega)) ?_))));refine zq rfl (AW rfl BX rfl) ?_
  refine zA 11 O (fun h96=>by
    simp at h96
    have hl5:p+(AG D3 k []).length<=s.length:=by omega
    refine zq O (AM O O O (by omega)) ?_;refine zq O (CK O BX O O O (by omega)) ?_;rw[show(s.drop (p:Int).toNat).take (((p:Int)+((AG D3 k []).length:Int)).toNat-(p:Int).toNat)=(s.drop p).take (AG D3 k []).length by rw[show((p:Int)+((AG D3 k []).length:Int)).toNat-(p:Int).toNat=(AG D3 k []).length by omega];rfl];refine zq O ((by exact AN O BT Co O O (⟨_,_,O,fun _ _ h=>by cases h;rfl,fun _ h=>by cases h⟩) (by omega))) ?_;refine zq rfl ((by exact Ai rfl rfl (AAl (b:=b66) (T:=9) (k:=k) (CQ) AFt))) ?_;refine zq rfl (AR rfl rfl rfl) ?_;exact zv rfl
   ) ?_
  refine Dp (AA O (fun CP=>?_) (fun CP=>?_))
  ·have AfI:=hsg.2 _ (ASQ AFt Cz (AZH CP))
   refine tr ?_;refine yq O ((by exact AN O BT Co O O (⟨_,_,O,fun _ _ h=>by cases h;rfl,fun _ h=>by cases h⟩) (by omega))) ?_;refine yq rfl ((by exact Ai rfl rfl (AAl (b:=b66) (T:=9) (k:=k) (CQ) AFt))) ?_;refine Em (Qb ⟨AG D3 k [],0,3⟩) rfl (yq rfl (AM rfl rfl rfl (by omega)) ?_);rw[show(p:Int)+((AG D3 k []).length:Int)=((p+(AG D3 k []).length:Nat):Int)from rfl];refine El _ rfl ?_ (by exact GE _);refine AH rfl (AX (A4 (Ah (Ah (A4 (Ah (B6 (.inl rfl) rfl (by exact Cb rfl RY JQ rfl rfl (Du rfl (Cc))) (fun w' hw=>?_))))))));refine⟨?_,hw.below⟩;exact B3 Ending.returned (Nx (x:=⟨AG D3 k [],0,3⟩) (n:=(AG D3 k []).length) htr rfl hp (by rw[AfI]) (by rw[hnx,AfI]))
  refine AY (AL (AS (AC (yq O (AM O O O (by omega)) ?_))));refine AU O (DJ (k+1) ?_ ?_)
  ·exact⟨AFt,AMy AFt Cz (AYQ hol.1 CP)⟩
  omega
 simp at B4
 obtain rfl:k=35:=by omega
 have TP:=hsg.1 Cz
 refine Av (AE (AE (AO (AS (tr (Em (Qb Mg) O (El _ O ?_ (by exact GE _))))))));refine AH O (AX (B6 (.inl O) O (by exact Cb O RY JQ O O (Du O (Cc))) (fun w' hw=>?_)));refine⟨?_,hw.below⟩;exact B3 Ending.returned (Nx (x:=Mg) (n:=0) htr O hp (by rw[TP]) (by rw[hnx,TP]))
theorem XG(s:List UInt8)(I:AQ)(F:List HA)(w0 w:World)(hs:s.length<=900000000)(BZ:St w0 I F w):Calls prog 150 [Au s].toArray w (ER w fun v I' H'=>Le I I'/\H'=F/\Sl I' 3 v ((DM s).map Qb)):=by
 have UU:=N4 s
 refine enter func150 O ntmps150 O (BZ.self) (AK O (AK O (AK O (AJ (EB (ι:=Value×List Lx×Nat×Nat) [0] (fun zz=>DM s=zz.2.1++Li zz.2.2.2 (Lib.trimLeftS (s.drop zz.2.2.1) C1)/\(Lib.trimLeftS (s.drop zz.2.2.1) C1).length<zz.2.2.2/\zz.2.2.1<=s.length) (fun zz=>s.length+1-zz.2.2.1) (fun zz=>[(3,zz.1),(4,.int .i64 (zz.2.2.1:Int))]) (fun zz=>I) (fun zz=>(Ap 255 3 Qb zz.1 zz.2.1::F)) (.slice none 0 0,[],0,s.length+1) O ?_ ?_ (hh:=(fun _ h=>CI 255 3 Qb h)))))))
 ·dsimp only;exact⟨(Xp s).1,(Xp s).2,Aw _⟩
 rintro⟨v,D,a,g⟩ ⟨hD,hg,ha⟩;dsimp only at *;obtain⟨x,hx⟩:∃x,x=(Bp (Lib.trimLeftS (s.drop a) C1)).1:=⟨_,rfl⟩;obtain⟨q,hq⟩:∃q,q=s.length-(Lib.trimLeftS (s.drop a) C1).length+Nn (Lib.trimLeftS (s.drop a) C1):=⟨_,rfl⟩
 have hnx:=ARZ hD hg ha
 rw[<-hx]at hnx
 have hxW:T8 x:=hx ▸ AIk _
 have hDl:D.length<=(DM s).length:=by rw[hD,Bh];omega
 refine AJ (tr (yp O ((fun w _=>AGn s a w (by omega) ha)) ?_));rw[<-hx,<-hq]
 refine HO _ O fun b5=>?_
 refine El _ O ?_ (by exact GE _);refine AH O (tr (yq O (A7 O RY JQ O O O) (NF _ O (fun b15=>?_) (by rfl))));refine V4 (f:=Qb) x O (fun v16=>?_) (GE _) (by simp only[maxLen];omega) (by omega);refine AH O (AF (tq (EA O ?_)))
 refine zO 3 O (fun UQ=>by
   simp at UQ
   refine EA O ?_;refine zq O (AR O O O) ?_;exact zv O
  ) ?_
 refine Dp (AA O (fun Ab=>?_) (fun Ab=>?_))
 ·have CS:Ed x=true:=(AIJ hxW).symm.trans Ab
  refine AK O (Ak (AP O O (fun w' hw=>?_)));obtain⟨J,h1,h2,h3⟩:=FV (v:=v16) (f:=Qb) (l:=D++[x]) (Al (Ap 255 3 Qb v16 (D++[x])) hw) (fun _=>rfl);rw[<-hnx.1 CS]at h3;exact⟨_,rfl,J,_,⟨h1,rfl,h3⟩,AD h2⟩
 have CS:Ed x=false:=(AIJ hxW).symm.trans Ab
 refine AV (AC (AU O (AL (DJ ((v16,D++[x],q,g-1)) ?_ ?_))))
 ·dsimp only
  have h:=hnx.2 CS q hq
  exact⟨h.1,h.2.1,h.2.2.1⟩
 dsimp only
 have h:=hnx.2 CS q hq
 show s.length+1-q<s.length+1-a
 have:=h.2.2
 omega
def Iq(tv:Value)(k:Nat)(vv sv:Value)(e:Nat):List Value:=[tv,.int .i64 (k:Int),vv,sv,.int .i64 (e:Int)]
theorem SI{I:AQ}{H:List HA}{v:Value}{l:List Lx}(h:Sl I 3 v (l.map Qb)){j:Nat}{u:Value}(hi:i<l.length)(hu:(Qb (AG l i JF))[j]? =some u):Rd w0 I H (Eb v).block ((Eb v).off+i * 3+j) u:=h.rd (CN l Qb JF hi) hu
def Rk(d e:Nat):Nat:=if e=0 then(if 24<d then 52 else 0)else e
theorem AeB{I:AQ}{H:List HA}{b T:Nat}{k:Nat}(hm:row b T (KT.map Au)∈H)(hk:k<10):Rd w0 I H b (0+k * 1) (Au (AG KT k [])):=by
 rw[Nat.zero_add,Nat.mul_one];refine PO hm ?_
 have h:k<KT.length:=hk
 rw[List.getElem?_map,LC h,CT h];try rfl
theorem AXE(h:i<10):(RF i).length<=11/\(AG KT i []).length<=10:=(show ∀i,i<10->(RF i).length<=11/\(AG KT i []).length<=10 by decide+kernel) i h
theorem AUh{k m:Nat}(hk:k<l.length)(hg:l.length-k<g):(AG l k 0=32->(l.drop m).take (k-m)=op->H1 l op g k m=true)/\(AG l k 0=32->¬(l.drop m).take (k-m)=op->H1 l op g k m=H1 l op (g-1) (k+1) (k+1))/\(¬AG l k 0=32->H1 l op g k m=H1 l op (g-1) (k+1) m):=by
 obtain⟨f,rfl⟩:∃f,g=f+1:=⟨g-1,by omega⟩;rw[H1,AI hk];exact⟨fun h1 h2=>by rw[AI h1,AI h2],fun h1 h2=>by rw[AI h1,AB h2];rfl,fun h1=>by rw[AB h1];try rfl⟩
theorem AXu{k m:Nat}(hk:¬k<l.length):H1 l op g k m=false:=by
 cases g with
 |zero=>rfl
 |succ g=>rw[H1,AB hk]
theorem GK(b:Nat)(tv:Value)(k:Nat)(vv sv:Value)(e:Nat)(T:List Lx)(w:World)(hT:T.length<=1000000000)(hb:HR (Ao w) b (Iq tv k vv sv e))(C3:Sl (Ao w) 3 tv (T.map Qb))(hk:k<T.length):B2 prog 152 [Gg b] w (Au (JA (AG T k JF))):=by
 refine enter func152 O ntmps152 O (St.start w (Ao w) (Le.refl _)) (AK O (AF (AF (Bd mo (by kernel_rfl) (fun _ _ _ _ _ h=>h) (zq O ((by exact Ai O O (A8 (hb 0 _ O)))) ?_)))));refine zq O ((by exact Ai O O (A8 (hb 1 _ O)))) ?_;refine zq O ((by exact AN O Xg JQ O O (Sl.shape C3 (Af _)) (by omega))) ?_;refine zq O ((by exact Ai O O (SI (i:=k) (j:=2) C3 hk O))) ?_;refine Dp (AA O (fun Ab=>?_) (fun Ab=>?_))
 ·refine AK O (Ak (AP O O (fun w' hw=>?_)));refine⟨?_,hw.below⟩
  rw[JA,AI (BM Ab)];try rfl
 refine AV (AF (Bd mo (by kernel_rfl) (fun _ _ _ _ _ h=>h) (zq O ((by exact Ai O O (A8 (hb 0 _ O)))) ?_)));refine zq O ((by exact Ai O O (A8 (hb 1 _ O)))) ?_;refine zq O ((by exact AN O Xg JQ O O (Sl.shape C3 (Af _)) (by omega))) ?_;refine zq O ((by exact Ai O O (SI (i:=k) (j:=0) C3 hk O))) ?_;refine De O (AX (AP O O (fun w' hw=>?_)));refine⟨?_,hw.below⟩
 rw[JA,AB (BW Ab)];try rfl
theorem NN(b:Nat)(tv:Value)(k:Nat)(vv sv:Value)(e c:Nat)(I:AQ)(F:List HA)(w0 w:World)(BZ:St w0 I (row b 253 (Iq tv k vv sv e)::F) w):Calls prog 153 [Gg b,.int .i64 (c:Int)].toArray w (ER w fun v I' H'=>v=.int .i64 0/\I=I'/\H'=row b 253 (Iq tv k vv sv (if e=0 then c else e))::F):=by
 refine enter func153 O ntmps153 O (BZ.self) (AK O (EZ (ι:=Unit) [0,1,4] (fun _=>True) (fun _=>[]) (fun _=>I) (fun _=>(row b 253 (Iq tv k vv sv (if e=0 then c else e))::F)) O ?_ ?_))
 ·refine tr (DE O ?_);refine AH O (AA O (fun Ab=>?_) (fun Ab=>?_))
  ·simp at Ab
   have Ab:e=0:=by omega
   refine AC (Eu (Iq tv k vv sv c) O ?_ (by exact⟨O,O⟩));refine C7 (CB (()) ?_ (hh:=(fun _ h=>by rw[AI Ab];exact AD h)))
   trivial
  simp at Ab
  have Ab:¬e=0:=by omega
  refine AY (CB (()) ?_ (hh:=(fun _ h=>by rw[AB Ab];exact AD h)))
  trivial
 rintro _ _;refine AK rfl (AX (AP rfl rfl (fun w' hw=>?_)));exact⟨_,rfl,I,_,⟨rfl,rfl,rfl⟩,AD hw⟩
theorem IX(b:Nat)(tv:Value)(k:Nat)(vv sv:Value)(e d:Nat)(I:AQ)(F:List HA)(w0 w:World)(BZ:St w0 I (row b 253 (Iq tv k vv sv e)::F) w):Calls prog 180 [Gg b,.int .i64 (d:Int)].toArray w (ER w fun v I' H'=>v=.bool (decide (Rk d e≠0))/\I=I'/\H'=row b 253 (Iq tv k vv sv (Rk d e))::F):=by
 refine enter func180 O ntmps180 O (BZ.self) (AK O (EZ (ι:=Unit) [0,1,4] (fun _=>True) (fun _=>[]) (fun _=>I) (fun _=>(row b 253 (Iq tv k vv sv (Rk d e))::F)) O ?_ ?_))
 ·refine AK O (AA O (fun Ab=>?_) (fun Ab=>?_))
  ·simp at Ab
   have Ab:24<d:=by omega
   refine AC (yc O (fun w hw=>NN b tv k vv sv e 52 _ _ _ w hw) ?_);rintro _ _ _ ⟨rfl,rfl,rfl⟩;refine C7 (CB (()) ?_ (hh:=(fun _ h=>by unfold Rk;rw[AI Ab];exact AD h)))
   trivial
  simp at Ab
  have Ab:¬24<d:=by omega
  refine AY (CB (()) ?_ (hh:=(fun _ h=>by rw[show Rk d e=e by unfold Rk;rw[AB Ab];split<;>simp[*]];exact AD h)))
  trivial
 rintro _ _;refine tr (DE rfl ?_);refine AH rfl (AX (AP rfl rfl (fun w' hw=>?_)));exact⟨_,rfl,I,_,⟨by rw[show decide (((Rk d e:Nat):Int)≠0)=decide (Rk d e≠0)from decide_eq_decide.2 (by omega)],rfl,rfl⟩,AD hw⟩
theorem TS(s:List UInt8)(w:World):B2 prog 181 [Au s] w (.bool (decide (s≠[])&&CV (AG s 0 0))):=by
 refine enter func181 O ntmps181 O (St.start w (Ao w) (Le.refl _)) (AK O (tq (zq O (Bs O O O) ?_)))
 refine zA 3 O (fun h9=>by
   simp at h9
   have T4:0<s.length:=BV.2 h9
   refine zq O ((by exact AZ O BX O O (by omega))) ?_;refine zp O ((fun w _=>IZ _ w)) ?_;exact zv O
  ) ?_
 refine De O (AX (AP O O (fun w' hw=>?_)));exact⟨O,hw.below⟩
theorem ACw(s:List UInt8)(w:World)(hs:s.length<=1000000000):B2 prog 231 [Au s] w (Au (Lib.trimS s C1)):=by
 refine enter func231 O ntmps231 O (St.start w (Ao w) (Le.refl _)) (AK O (AF (AJ (EB (ι:=List UInt8) [2] (fun zz=>Lib.trimLeftS zz C1=Lib.trimLeftS s C1/\zz.length<=s.length) (fun zz=>zz.length) (fun zz=>[(0,Au zz)]) (fun zz=>Ao w) (fun zz=>[]) s O ?_ ?_))))
 ·exact⟨O,A5 _⟩
 rintro t ⟨ht,htl⟩;dsimp only at *;refine AF (tq (zq rfl (Bs rfl rfl rfl) ?_))
 refine zA 3 O (fun h9=>by
   simp at h9
   have T4:0<t.length:=BV.2 h9
   refine zq O ((by exact AZ O BX O O (by omega))) ?_;refine zp O ((fun w _=>M2 _ w)) ?_;exact zv O
  ) ?_
 refine Dp (AA O (fun Ab=>?_) (fun Ab=>?_))
 ·refine AV (AJ ?_)
  have h9:=(AIl Ab).2
  refine AC (yq O (BF O BX O O (by omega)) ?_);refine AU O (AL ?_)
  have h1:=AIl Ab
  refine DJ (t.drop 1) ?_ ?_
  ·exact⟨h1.1.trans ht,by rw[BA];omega⟩
  rw[BA];omega
 refine Av (AE (AE (AO (AS (AF (AJ (EB (ι:=List UInt8) [2,9] (fun zz=>Lib.trimRightS zz C1=Lib.trimS s C1/\zz.length<=s.length) (fun zz=>zz.length) (fun zz=>[(0,Au zz)]) (fun zz=>Ao w) (fun zz=>[]) t O ?_ ?_)))))))
 ·exact⟨by rw[ALh,<-ht,AaF Ab],htl⟩
 rintro t ⟨ht,htl⟩;dsimp only at *;refine AF (tq (zq rfl (Bs rfl rfl rfl) ?_))
 refine zA 6 O (fun h21=>by
   simp at h21
   have T4:0<t.length:=BV.2 h21
   refine zq O (AW O BX O) (zq O (Bl O O O (by omega)) ?_);refine zq O ((by exact Bu O BX O O (by omega))) ?_;refine zp O ((fun w _=>M2 _ w)) ?_;exact zv O
  ) ?_
 refine Dp (AA O (fun An=>?_) (fun An=>?_))
 ·refine AV (AJ ?_)
  have h9:=(AJK (k:=((t.length:Int)-1).toNat) (by omega) An).2
  refine AC (yq O (AW O BX O) (yq O (Bl O O O (by omega)) ?_));refine yq O (Ba O BX O O (by omega)) ?_;refine AU O (AL ?_)
  have h1:=AJK (by omega) An
  refine DJ (t.take ((t.length:Int)-1).toNat) ?_ ?_
  ·exact⟨h1.1.trans ht,by rw[BL];omega⟩
  rw[BL];omega
 refine Av (AE (AE (AO (AS (AK O (AX (AP O O (fun w' hw=>?_))))))));refine⟨?_,hw.below⟩;rw[<-ht,AYl (by omega) An]
theorem ACG(op:List UInt8)(w:World):B2 prog 233 [Au op] w (.int .i64 (NV op:Int)):=by
 refine enter func233 O ntmps233 O (St.start w (Ao w) (Le.refl _)) (AK O (tr (ye O (Cl (vs:=[_,_,_,_,_,_,_,_,_,_]) (css:=[[Au [124,124]],[Au [38,38]],[Au [124]],[Au [94]],[Au [38]],[Au [61,61,32,33,61]],[Au [60,32,60,61,32,62,32,62,61]],[Au [60,60,32,62,62]],[Au [43,32,45]],[Au [42,32,47,32,37]]]) O BT Co O O O O (O) (by simp[])) ?_)));rintro _ _ _ ⟨b8,rfl,rfl,rfl⟩;refine FB (H':=row b8 9 (KT.map Au)::_) ?_ (fun _ h=>h);refine AH rfl (AF (AK rfl (AJ (EB (ι:=Nat) [0,3] (fun zz=>zz<=10/\∀j,j<zz->H1 (RF j) op 12 0 0=false) (fun zz=>10-zz) (fun zz=>[(4,.int .i64 (zz:Int))]) (fun zz=>Ao w) (fun zz=>[row b8 9 (KT.map Au)]) 0 rfl ?_ ?_))))
 ·exact⟨Aw _,fun j h=>Ac h (Nat.not_lt_zero _)⟩
 rintro i ⟨hi,Cz⟩;dsimp only at *;refine AF (tr ?_);refine yq rfl ((by exact BH rfl BT rfl (⟨_,_,rfl⟩))) ?_;refine AH rfl (AA rfl (fun Ab=>?_) (fun Ab=>?_))
 ·simp at Ab
  have ATD:i<10:=by omega
  refine AV (AF (AJ (AK O (AF ?_))))
  have hrl:=AXE ATD
  refine AC ?_;refine yq O ((by exact AN O BT Co O O (⟨_,_,O,fun _ _ h=>by cases h;rfl,fun _ h=>by cases h⟩) (by omega))) ?_;refine yq rfl ((by exact Ai rfl rfl (AeB (b:=b8) (T:=9) (k:=i) (CQ) ATD))) ?_;refine yq rfl (F1 rfl rfl rfl (by(simp only[CD,Bb];omega))) ?_;rw[show AG KT i []++[32]=RF i from rfl];refine AH rfl (AK rfl (AJ (EB (ι:=Nat×Nat×Nat) [4,0,3,12,6] (fun zz=>H1 (RF i) op 12 0 0=H1 (RF i) op zz.2.2 zz.1 zz.2.1/\zz.1<=(RF i).length/\zz.2.1<=zz.1/\(RF i).length-zz.1<zz.2.2) (fun zz=>(RF i).length-zz.1) (fun zz=>[(7,.int .i64 (zz.1:Int)),(5,.int .i64 (zz.2.1:Int))]) (fun zz=>Ao w) (fun zz=>[row b8 9 (KT.map Au)]) (0,0,12) rfl ?_ ?_)))
  ·dsimp only;exact⟨O,Aw _,A5 _,by omega⟩
  rintro⟨k,m,g⟩ ⟨hgo,hk,hm,hg⟩;dsimp only at *;refine AF (tr (yq rfl (AW rfl BX rfl) (AH rfl (AA rfl (fun An=>?_) (fun An=>?_)))))
  ·simp at An
   have Om:k<(RF i).length:=by omega
   refine AV (EZ (ι:=Nat×Nat) [7,4,0,3,12,6,23] (fun zz=>H1 (RF i) op 12 0 0=H1 (RF i) op zz.2 (k+1) zz.1/\(RF i).length-(k+1)<zz.2/\zz.1<=k+1) (fun zz=>[(5,.int .i64 (zz.1:Int))]) (fun zz=>Ao w) (fun zz=>[row b8 9 (KT.map Au)]) O ?_ ?_)
   ·refine AJ (AF ?_)
    have CS:=AUh (op:=op) (m:=m) Om hg
    refine AC (yq O ((by exact AZ O BX O O (by omega))) ?_);refine yq O (Ae O O O O) (ln (AA O (fun A6=>?_) (fun A6=>?_)))
    ·refine AF (tr (yq O (CK O BX O O O (by omega)) ?_));rw[show((RF i).drop (m:Int).toNat).take ((k:Int).toNat-(m:Int).toNat)=((RF i).drop m).take (k-m)from O];refine yq O (AR O O O) (ln (AA O (fun BJ=>?_) (fun BJ=>?_)))
     ·refine tr (yq O (AM O O O (by omega)) ?_);refine AH O (Ak (AP O O (fun w' hw=>?_)));refine⟨?_,hw.below⟩
      rw[AMf ATD Cz (hgo.trans (CS.1 (BM A6) (BM BJ)))];try rfl
     refine AV (AC (yq O (AM O O O (by omega)) ?_));refine AU O (AL (CB ((k+1,g-1)) ?_))
     dsimp only;exact⟨hgo.trans (CS.2.1 (BM A6) (BW BJ)),by omega,A5 _⟩
    refine AY (AL (CB ((m,g-1)) ?_))
    dsimp only;exact⟨hgo.trans (CS.2.2 (BW A6)),by omega,by omega⟩
   rintro⟨m2,g2⟩ ⟨AhM,hg2,hm2⟩;dsimp only at *;refine AC (yq rfl (AM rfl rfl rfl (by omega)) ?_);refine AU rfl (DJ ((k+1,m2,g2)) ?_ ?_)
   ·dsimp only;exact⟨AhM,Om,hm2,hg2⟩
   dsimp only
   show _-(k+1)<_-k
   omega
  simp at An
  have Om:¬k<(RF i).length:=by omega
  refine Av (AE (AE (AO (AL (AS (AC (yq O (AM O O O (by omega)) ?_)))))));refine AU O (DJ (i+1) ?_ ?_)
  ·refine⟨ATD,fun j hj=>?_⟩;rcases Nat.lt_succ_iff_lt_or_eq.1 hj with h|rfl
   ·exact Cz j h
   exact hgo.trans (AXu Om)
  omega
 simp at Ab
 obtain rfl:i=10:=by omega
 refine Av (AE (AE (AO (AS (AK O (AX (AP O O (fun w' hw=>?_))))))));refine⟨?_,hw.below⟩
 rw[AKU Cz];try rfl
theorem GX(b:Nat)(tv:Value)(k:Nat)(vv sv:Value)(c:Nat)(I:AQ)(F:List HA)(w0 w:World)(BZ:St w0 I (row b 253 (Iq tv k vv sv 0)::F) w):Calls prog 153 [Gg b,.int .i64 (c:Int)].toArray w (ER w fun v I' H'=>v=.int .i64 0/\I=I'/\H'=row b 253 (Iq tv k vv sv c)::F):=NN b tv k vv sv 0 c I F w0 w BZ
theorem Ga{b:Nat}{tv:Value}{k:Nat}{vv:Value}{I:AQ}{F:List HA}{x:Int×Nat}{a:Int}(h:x=(a,e)):(Value.int .i64 a=.int .i64 x.1)/\I=I/\(row b 253 (Iq tv k vv sv e)::F=row b 253 (Iq tv k vv sv x.2)::F):=by rw[h];exact⟨rfl,rfl,rfl⟩
theorem AEN(b:Nat)(tv:Value)(k:Nat)(vv sv:Value)(t:List UInt8)(I:AQ)(F:List HA)(w0 w:World)(ht:t.length<=1000000000)(BZ:St w0 I (row b 253 (Iq tv k vv sv 0)::F) w):Calls prog 216 [Gg b,Au t].toArray w (ER w fun v I' H'=>v=.int .i64 (HM t).1/\I=I'/\H'=row b 253 (Iq tv k vv sv (HM t).2)::F):=by
 refine enter func216 O ntmps216 O (BZ.self) (AK O (tr (yp O ((fun w _=>ACw t w ht)) ?_)));obtain⟨s,hs⟩:∃s,s=Lib.trimS t C1:=⟨_,rfl⟩;rw[<-hs]
 have C3:s.length<=t.length:=hs ▸ ABf t C1
 refine AH O (AF (tr (yq O (AR O O O) (ln (AA O (fun Ab=>?_) (fun Ab=>?_))))))
 ·have OL:Lib.trimS t C1=[]:=hs.symm.trans (BM Ab)
  refine AK O (Ak (AP O O (fun w' hw=>?_)));exact⟨_,O,I,_,Ga (AXD OL),AD hw⟩
 have TP:s≠[]:=BW Ab
 refine AV (AF ?_)
 have T4:0<s.length:=BV.2 TP
 refine AC (yq O ((by exact AZ O BX O O (by omega))) ?_);refine yq O (Ae O O O O) (AH O (EZ (ι:=List UInt8) [0,1,4,12,6] (fun zz=>zz=AJy s/\zz.length<=s.length) (fun zz=>[(5,Au zz)]) (fun zz=>I) (fun zz=>(row b 253 (Iq tv k vv sv 0)::F)) O ?_ ?_))
 ·refine tq ?_
  refine zO 3 O (fun h21=>by
    simp at h21
    have T4:0<s.length:=BV.2 TP
    refine zq O ((by exact AZ O BX O O (by omega))) ?_;refine zq O (Ae O O O O) ?_;exact zv O
   ) ?_
  refine Dp (AA O (fun An=>?_) (fun An=>?_))
  ·refine AC (yq O (BF O BX O O (by omega)) ?_);refine AU O (CB (s.drop 1) ?_)
   exact⟨by rw[AOJ An];rfl,by rw[BA];omega⟩
  refine AY (CB (s) ?_)
  exact⟨by rw[AOJ An];rfl,A5 _⟩
 rintro r ⟨hr,hrl⟩;dsimp only at *;refine AF (tq (zq rfl (AR rfl rfl rfl) ?_))
 refine zO 4 O (fun h31=>by
   simp at h31
   have T4:0<r.length:=BV.2 h31
   refine zq O ((by exact AZ O BX O O (by omega))) ?_;refine zp O ((fun w _=>HV _ w)) ?_;exact zv O
  ) ?_
 refine Dp (AA O (fun A6=>?_) (fun A6=>?_))
 ·refine tr (yc O (fun w hw=>GX b tv k vv sv 60 _ _ _ w (Al (row b 253 (Iq tv k vv sv 0)) hw)) ?_);rintro _ _ _ ⟨rfl,rfl,rfl⟩;refine AH rfl (Ak (AP rfl rfl (fun w' hw=>?_)));exact⟨_,rfl,I,_,Ga (AcX hs TP hr A6),AD hw⟩
 refine AV (AF ?_)
 have hry:=AYO A6
 have hr0:0<r.length:=BV.2 hry.1
 refine AC (yp O ((fun w _=>Vn r 0 w (by omega) hr0 (by rw[PB];exact hry.2))) ?_);rw[PB]
 refine HO _ O fun b7=>?_
 refine El _ O ?_ (by exact GE _);refine AH O (AF (tq (EA O ?_)))
 refine zO 4 O (fun h46=>by
   simp at h46
   refine zq O (AW O BX O) ?_;exact zv O
  ) ?_
 refine Dp (AA O (fun BJ=>?_) (fun BJ=>?_))
 ·have Zo:=ANh hs TP hr hry BJ
  rw[AI O]at Zo;refine tr (yc O (fun w hw=>GX b tv k vv sv 60 _ _ _ w (Al (row b 253 (Iq tv k vv sv 0)) hw)) ?_);rintro _ _ _ ⟨rfl,rfl,rfl⟩;refine AH rfl (Ak (AP rfl rfl (fun w' hw=>?_)));exact⟨_,rfl,I,_,Ga (Zo),AD hw⟩
 have Zo:=ANh hs TP hr hry BJ
 rw[AB (by simp)]at Zo;refine AV (AF (AK O (AA O (fun Bj=>?_) (fun Bj=>?_))))
 ·have h45:AG s 0 0=45:=BM Bj
  rw[AI h45]at Zo;refine tr (DE O ?_);refine yq O (Vu O O) (AH O (Ak (AP O O (fun w' hw=>?_))));exact⟨_,O,I,_,Ga (Zo),AD hw⟩
 have h45:¬AG s 0 0=45:=BW Bj
 rw[AB h45]at Zo;refine AV (tr (DE O ?_));refine AH O (AX (AP O O (fun w' hw=>?_)));exact⟨_,O,I,_,Ga (Zo),AD hw⟩
theorem TV(b:Nat)(tv:Value)(k:Nat)(vv sv:Value)(V:List Vr)(n:List UInt8)(I:AQ)(F:List HA)(w0 w:World)(hv:Sl I 5 vv (V.map DP))(hV:I3 V)(BZ:St w0 I (row b 253 (Iq tv k vv sv 0)::F) w):Calls prog 182 [Gg b,Au n].toArray w (ER w fun v I' H'=>v=.int .i64 (atV V n).1/\I=I'/\H'=row b 253 (Iq tv k vv sv (atV V n).2)::F):=by
 have hV1:=hV.1
 refine enter func182 O ntmps182 O (BZ.self) (AK O (AF (AK O (AJ (EB (ι:=Nat) [0,1] (fun zz=>zz<=V.length/\∀j,j<zz->(AG V j Ez).name≠n) (fun zz=>V.length-zz) (fun zz=>[(5,.int .i64 (zz:Int))]) (fun zz=>I) (fun zz=>(row b 253 (Iq tv k vv sv 0)::F)) 0 O ?_ ?_)))))
 ·exact⟨Aw _,fun j h=>Ac h (Nat.not_lt_zero _)⟩
 rintro i ⟨hi,Cz⟩;dsimp only at *;refine AF (tr (yq rfl ((by exact Az rfl rfl (by rfl))) ?_));refine yq rfl ((by exact BH rfl Dn rfl (Sl.lenOf hv (Af _)))) ?_;refine AH rfl (AA rfl (fun Ab=>?_) (fun Ab=>?_))
 ·simp at Ab
  have hiV:i<V.length:=by omega
  refine AV (AF (AJ (tr (yq O ((by exact Az O O (by rfl))) ?_))));refine yq O ((by exact AN O Dn DY O O (Sl.shape hv (Af _)) (by omega))) ?_;refine yq O ((by exact Ai O O (Md (i:=i) (j:=0) hv (by omega) O))) ?_;refine yq O (AR O O O) (ln (AA O (fun An=>?_) (fun An=>?_)))
  ·have ZB:=ARy hiV Cz (BM An)
   refine tr (yq O ((by exact Az O O (by rfl))) ?_);refine yq O ((by exact AN O Dn DY O O (Sl.shape hv (Af _)) (by omega))) ?_;refine yq O ((by exact Ai O O (Md (i:=i) (j:=1) hv (by omega) O))) ?_;refine yc O (fun w hw=>AEN b tv k vv sv (AG V i Ez).value _ _ _ w (hV.2 _ (BE hiV)) (Al (row b 253 (Iq tv k vv sv 0)) hw)) ?_;rintro _ _ _ ⟨rfl,rfl,rfl⟩;refine AH rfl (Ak (AP rfl rfl (fun w' hw=>?_)));exact⟨_,rfl,I,_,Ga (a:=(HM (AG V i Ez).value).1) (e:=(HM (AG V i Ez).value).2) ZB,AD hw⟩
  refine AY (AL (AS (AC (yq O (AM O O O (by omega)) ?_))));refine AU O (DJ (i+1) ?_ ?_)
  ·refine⟨hiV,fun j hj=>?_⟩;rcases Nat.lt_succ_iff_lt_or_eq.1 hj with h|rfl
   ·exact Cz j h
   exact BW An
  omega
 simp at Ab
 obtain rfl:i=V.length:=by omega
 refine Av (AE (AE (AO (AS (AK O (AX (AP O O (fun w' hw=>?_))))))));exact⟨_,O,I,_,Ga (ANl Cz),AD hw⟩
theorem AFI(b:Nat)(tv:Value)(k:Nat)(vv sv:Value)(S:List Dw)(V:List Vr)(n:List UInt8)(a:Int)(I:AQ)(F:List HA)(w0 w:World)(ha:E7 a)(hS:S.length<=1000000000)(hVl:V.length<=1000000000)(hv:Sl I 5 vv (V.map DP))(BZ:St w0 I (row b 253 (Iq tv k vv sv 0)::Ap 190 2 F5 sv S::F) w):Calls prog 184 [Gg b,Au n,.int .i64 a].toArray w (ER w fun v I' H'=>Le I I'/\v=.tuple #[]/\∃vv' sv',H'=row b 253 (Iq tv k vv' sv' 0)::Ap 190 2 F5 sv' (S++[(n,a)])::F/\Sl I' 5 vv' ((asV (n,a)::V).map DP)):=by
 refine enter func184 O ntmps184 O (BZ.self) (tr (DE O ?_));refine Em (F5 (n,a)) O (NF _ O (fun b14=>?_) (by rfl));refine V4 (f:=F5) ((n,a)) O (fun v15=>?_) (Qw _) (by simp only[maxLen];omega) (by omega);refine Un v15 (fun Ma=>?_);refine Eu (Iq tv k vv v15 0) O ?_ (by assumption);refine ln (Bo [5,10,13] [13] [row b 253 (Iq tv k vv v15 0)] mo (by kernel_rfl) (fun _ _ _ _ _ h=>h) (xr [0,1,2] O O (xq 3 O O (qc O O O ((fun w hw=>Gi a w ha))) (xq 4 O O (C0 (pl:=[(_,_),(_,_),(_,_),(_,_),(_,_)]) (cs:=(DP (asV (n,a))).toArray) O Ov DY ⟨O,⟨_,_,Co⟩,O,⟨_,_,Co⟩,O,⟨_,_,NL⟩,O,⟨_,_,NL⟩,O,⟨_,_,NL⟩,trivial⟩ O O) (xr [6,7,8] O O (x0 9 O (Le.refl _) O (fun _ hI=>Az O O (by rfl)) ?_))))));refine xe 5 O O (BD O Dn DY O O O (by rfl) O) ?_;rintro _ _ _ ⟨b23,rfl,rfl,rfl⟩;refine xk (Bx (H':=Ap 46 5 DP (.slice (some ⟨b23,0,none⟩) 1 1) [asV (n,a)]::_) ?_ (fun _ h=>H5 h rfl (by decide)));refine xe 10 rfl rfl (G6 (f:=DP) (l:=[asV (n,a)]) rfl Dn DY rfl rfl rfl rfl (hv) rfl (fun _=>rfl) (fun x _=>C8 x) (by simp only[maxLen,CD,Bb];omega) (by simp only[CD,Bb];omega)) ?_;rintro v28 _ _ ⟨rfl,rfl⟩;refine xk (AHY v28 (fun AlV=>?_));refine xr [11,12] rfl rfl ?_
 refine FP 13 (by kernel_rfl) (by kernel_rfl) O (Le.refl _) O O (Bz O Mf O O (by assumption) O (by rfl)) ?_;rintro _ _ _ ⟨rfl,rfl⟩;refine⟨Le.refl _,.inl rfl,?_⟩;refine Bx (H':=row b 253 (Iq tv k v28 v15 0)::_) ?_ (fun _ h=>h);refine CX (EK rfl (fun w' hw=>?_));obtain⟨J,h1,h2,h3⟩:=FV (v:=v28) (f:=DP) (l:=[asV (n,a)]++V) (Al (Ap 46 5 DP v28 ([asV (n,a)]++V)) hw) (fun _=>rfl);exact⟨_,rfl,J,_,⟨h1,rfl,v28,v15,rfl,h3⟩,AD h2⟩
theorem Aet{a b:Int}(ho:op=[47]\/op=[37])(hb:b=0):CO op a b=(0,61):=by
 subst hb
 rcases ho with rfl|rfl<;>rfl
theorem AcO{a:Int}:CO [37] a (-1)=(0,0):=by
 unfold CO;simp
theorem AbQ{a:Int}:CO [47] a (-1)=(F4 (-a),0):=by
 rw[AUn]
 unfold CO;simp only[List.cons.injEq]
 by_cases h:a= -9223372036854775808<;>simp[h]
theorem Acf{a b:Int}(h0:¬b=0)(h1:¬b= -1):CO [47] a b=(F4 (a.tdiv b),0):=by
 unfold CO;simp[h0,h1]
theorem AdK{a b:Int}(h0:¬b=0)(h1:¬b= -1):CO [37] a b=(a.tmod b,0):=by
 unfold CO;simp[h0,h1]
theorem Vh(b:Nat)(tv:Value)(k:Nat)(vv sv:Value)(op:List UInt8)(a b2:Int)(I:AQ)(F:List HA)(w0 w:World)(LS:op∈ASB)(BZ:St w0 I (row b 253 (Iq tv k vv sv 0)::F) w):Calls prog 183 [Gg b,Au op,.int .i64 a,.int .i64 b2].toArray w (ER w fun v I' H'=>v=.int .i64 (CO op a b2).1/\I=I'/\H'=row b 253 (Iq tv k vv sv (CO op a b2).2)::F):=by
 have MN:=AWa b2
 refine enter func183 O ntmps183 O (BZ.self) (AK O (AF (AK O (AJ (tr (yq O (AR O O O) (AH O (AA O (fun Ab=>?_) (fun Ab=>?_)))))))))
 ·obtain rfl:op=[124]:=BM Ab;refine tr (yq rfl (AeW rfl rfl rfl) (AH rfl (Ak (AP rfl rfl (fun w' hw=>?_)))));exact⟨_,rfl,I,_,Ga (x:=CO [124] a b2) (rfl),AD hw⟩
 have ho0:¬op=[124]:=BW Ab
 refine tr (yq O (AR O O O) (AH O (AA O (fun An=>?_) (fun An=>?_))))
 ·obtain rfl:op=[94]:=BM An;refine tr (yq rfl (AWp rfl rfl rfl) (AH rfl (Ak (AP rfl rfl (fun w' hw=>?_)))));exact⟨_,rfl,I,_,Ga (x:=CO [94] a b2) (rfl),AD hw⟩
 have ho1:¬op=[94]:=BW An
 refine tr (yq O (AR O O O) (AH O (AA O (fun A6=>?_) (fun A6=>?_))))
 ·obtain rfl:op=[38]:=BM A6;refine tr (yq rfl (TZ rfl rfl rfl) (AH rfl (Ak (AP rfl rfl (fun w' hw=>?_)))));exact⟨_,rfl,I,_,Ga (x:=CO [38] a b2) (rfl),AD hw⟩
 have ho2:¬op=[38]:=BW A6
 refine tr (yq O (AR O O O) (AH O (AA O (fun BJ=>?_) (fun BJ=>?_))))
 ·obtain rfl:op=[60,60]:=BM BJ;refine tr (yq rfl (TZ rfl rfl rfl) (yq rfl (G1 (r:=MU b2 63) rfl un2 AfE rfl (IntWalk.u64_in _ (by omega))) ?_));refine yq rfl (AWj rfl rfl rfl MN.1) (AH rfl (Ak (AP rfl rfl (fun w' hw=>?_))));exact⟨_,rfl,I,_,Ga (x:=CO [60,60] a b2) (rfl),AD hw⟩
 have ho3:¬op=[60,60]:=BW BJ
 refine tr (yq O (AR O O O) (AH O (AA O (fun Bj=>?_) (fun Bj=>?_))))
 ·obtain rfl:op=[62,62]:=BM Bj;refine tr (yq rfl (TZ rfl rfl rfl) (yq rfl (G1 (r:=MU b2 63) rfl un2 AfE rfl (IntWalk.u64_in _ (by omega))) ?_));refine yq rfl (AVs rfl rfl rfl MN.1) (AH rfl (Ak (AP rfl rfl (fun w' hw=>?_))));exact⟨_,rfl,I,_,Ga (x:=CO [62,62] a b2) (rfl),AD hw⟩
 have ho4:¬op=[62,62]:=BW Bj
 refine tr (yq O (AR O O O) (AH O (AA O (fun B4=>?_) (fun B4=>?_))))
 ·obtain rfl:op=[43]:=BM B4;refine tr (yq rfl (Up rfl rfl rfl) (AH rfl (Ak (AP rfl rfl (fun w' hw=>?_)))));exact⟨_,rfl,I,_,Ga (x:=CO [43] a b2) (rfl),AD hw⟩
 have ho5:¬op=[43]:=BW B4
 refine tr (yq O (AR O O O) (AH O (AA O (fun CP=>?_) (fun CP=>?_))))
 ·obtain rfl:op=[45]:=BM CP;refine tr (yq rfl (TU rfl rfl rfl) (AH rfl (Ak (AP rfl rfl (fun w' hw=>?_)))));exact⟨_,rfl,I,_,Ga (x:=CO [45] a b2) (rfl),AD hw⟩
 have ho6:¬op=[45]:=BW CP
 refine tr (yq O (AR O O O) (AH O (AA O (fun DF=>?_) (fun DF=>?_))))
 ·obtain rfl:op=[42]:=BM DF;refine tr (yq rfl (ADX rfl rfl rfl) (AH rfl (Ak (AP rfl rfl (fun w' hw=>?_)))));exact⟨_,rfl,I,_,Ga (x:=CO [42] a b2) (rfl),AD hw⟩
 have ho7:¬op=[42]:=BW DF
 refine AY (AL (AS (AF (tq (zq O (AR O O O) ?_)))))
 refine zO 2 O (fun h60=>by
   simp at h60
   refine zq O (AR O O O) ?_;exact zv O
  ) ?_
 refine Dp (AA O (fun GQ=>?_) (fun GQ=>?_))
 ·have Yi:(op=[47]\/op=[37]):=by have h:=GQ;rw[C4,BC,BC]at h;exact h
  refine AF (AK O (AA O (fun KD=>?_) (fun KD=>?_)))
  ·have NW:=BM KD
   refine tr (yc O (fun w hw=>GX b tv k vv sv 61 _ _ _ w (Al (row b 253 (Iq tv k vv sv 0)) hw)) ?_);rintro _ _ _ ⟨rfl,rfl,rfl⟩;refine AH rfl (Ak (AP rfl rfl (fun w' hw=>?_)));exact⟨_,rfl,I,_,Ga (Aet Yi NW),AD hw⟩
  have NW:¬b2=0:=BW KD
  refine AV (AF (AK O (AA O (fun EW=>?_) (fun EW=>?_))))
  ·obtain rfl:b2= -1:=BM EW;refine AF (tr (yq rfl (AR rfl rfl rfl) (ln (AA rfl (fun Eq=>?_) (fun Eq=>?_)))))
   ·obtain rfl:op=[37]:=BM Eq;refine AK rfl (Ak (AP rfl rfl (fun w' hw=>?_)));exact⟨_,rfl,I,_,Ga (AcO),AD hw⟩
   obtain rfl:op=[47]:=Yi.resolve_right (BW Eq);refine AV (tr (yq rfl (Vu rfl rfl) (AH rfl (Ak (AP rfl rfl (fun w' hw=>?_))))));exact⟨_,rfl,I,_,Ga (AbQ),AD hw⟩
  have Oi:¬b2= -1:=BW EW
  refine AV (AF (tr (yq O (AR O O O) (ln (AA O (fun Fb=>?_) (fun Fb=>?_))))))
  ·obtain rfl:op=[47]:=BM Fb;refine tr (yq rfl (AJT rfl rfl rfl NW) (AH rfl (Ak (AP rfl rfl (fun w' hw=>?_)))));exact⟨_,rfl,I,_,Ga (Acf NW Oi),AD hw⟩
  obtain rfl:op=[37]:=Yi.resolve_left (BW Fb);refine AV (tr (yq rfl (AHz rfl rfl rfl NW) (AH rfl (Ak (AP rfl rfl (fun w' hw=>?_))))));exact⟨_,rfl,I,_,Ga (AdK NW Oi),AD hw⟩
 have Aby:¬(op=[47]\/op=[37]):=by have h:=GQ;rw[Bool.or_eq_false_iff,CA,CA]at h;exact fun h2=>h2.elim h.1 h.2
 refine AV (AK O (EZ (ι:=Bool) [0,1,2,3,8,10,11,16,21,26,33,40,45,50,60] (fun zz=>CO op a b2=(Zy zz,0)) (fun zz=>[(9,.bool zz)]) (fun zz=>I) (fun zz=>(row b 253 (Iq tv k vv sv 0)::F)) O ?_ ?_))
 ·refine AK O (AJ (tr (yq O (AR O O O) (AH O (AA O (fun GC=>?_) (fun GC=>?_))))))
  ·obtain rfl:op=[61,61]:=BM GC;refine AC (AU rfl (AL (CB (decide (a=b2)) ?_)))
   rfl
  have Aji:¬op=[61,61]:=BW GC
  refine tr (yq O (AR O O O) (AH O (AA O (fun I8=>?_) (fun I8=>?_))))
  ·obtain rfl:op=[33,61]:=BM I8;refine AC (AU rfl (AL (CB (decide (a≠b2)) ?_)))
   rfl
  have Agy:¬op=[33,61]:=BW I8
  refine tr (yq O (AR O O O) (AH O (AA O (fun Kg=>?_) (fun Kg=>?_))))
  ·obtain rfl:op=[60]:=BM Kg;refine AC (AU rfl (AL (CB (decide (a<b2)) ?_)))
   rfl
  have Ajk:¬op=[60]:=BW Kg
  refine tr (yq O (AR O O O) (AH O (AA O (fun MT=>?_) (fun MT=>?_))))
  ·obtain rfl:op=[60,61]:=BM MT;refine AC (AU rfl (AL (CB (decide (a<=b2)) ?_)))
   rfl
  have Aia:¬op=[60,61]:=BW MT
  refine tr (yq O (AR O O O) (AH O (AA O (fun Qm=>?_) (fun Qm=>?_))))
  ·obtain rfl:op=[62]:=BM Qm;refine AC (AU rfl (AL (CB (decide (b2<a)) ?_)))
   rfl
  have AkD:¬op=[62]:=BW Qm
  refine tr (yq O (AR O O O) (AH O (AA O (fun Pd=>?_) (fun Pd=>?_))))
  ·obtain rfl:op=[62,61]:=BM Pd;refine AC (AU rfl (AL (CB (decide (b2<=a)) ?_)))
   rfl
  have Ago:¬op=[62,61]:=BW Pd
  exact Ac LS (by unfold ASB;simp only[Ci,List.not_mem_nil,or_false];rintro(h|h|h|h|h|h|h|h|h|h|h|h|h|h|h|h)<;>first |exact ho0 h|exact ho1 h|exact ho2 h|exact ho3 h|exact ho4 h|exact ho5 h|exact ho6 h|exact ho7 h|exact Aby (.inl h)|exact Aby (.inr h)|exact Aji h|exact Agy h|exact Ajk h|exact Aia h|exact AkD h|exact Ago h)
 rintro y hy;refine AF (AK rfl (AA rfl (fun AYj=>?_) (fun AYj=>?_)))
 ·refine AK O (Ak (AP O O (fun w' hw=>?_)));exact⟨_,O,I,_,Ga (hy.trans (by rw[AYj];try rfl)),AD hw⟩
 refine AV (AK O (AX (AP O O (fun w' hw=>?_))));exact⟨_,O,I,_,Ga (hy.trans (by rw[AYj];try rfl)),AD hw⟩
@[reducible] def Kq(b:Nat)(tv:Value)(k:Nat)(vv sv:Value)(S:List Dw)(e:Nat)(F:List HA):List HA:=row b 253 (Iq tv k vv sv e)::Ap 190 2 F5 sv S::F
theorem Gx{H:List HA}{I:AQ}{w:World}{F:List HA}{b:Nat}{tv:Value}{k:Nat}{vv:Value}{S:List Dw}[hq:K3 [row b 253 (Iq tv k vv sv e),Ap 190 2 F5 sv S] F H](hw:St w0 I H w):St w0 I (Kq b tv k vv sv S e F) w:=hw.perm hq.perm
structure Qp(I:AQ)(tv:Value)(T:List Lx)(vs:List Vr)(m:Nat):Prop where
 sl:Sl I 3 tv (T.map Qb)
 lw:∀x∈T,T8 x
 ok:Ju m T
 tk:Tk T
 ln:T.length<=900000001
 vl:vs.length<=1000000
 vv:∀v∈vs,v.value.length<=1000000000
theorem Qp.mono{I J:AQ}{tv:Value}{T:List Lx}{vs:List Vr}{m:Nat}(h:Qp I tv T vs m)(hJ:Le I J):Qp J tv T vs m:=⟨h.sl.mono hJ,h.lw,h.ok,h.tk,h.ln,h.vl,h.vv⟩
structure WSt(I:AQ)(T:List Lx)(vs:List Vr)(m k:Nat)(vv:Value)(S:List Dw):Prop where
 hk:k<T.length
 sa:SU m S
 ln:S.length+(T.length-k)<=950000000
 hv:Sl I 5 vv ((Jx S vs).map DP)
def WkR(b:Nat)(tv:Value)(T:List Lx)(vs:List Vr)(S:List Dw)(live:Bool)(P:PA)(F:List HA)(v:Value)(I':AQ)(H':List HA):Prop:= ∃(a:Int) (k':Nat) (vv' sv':Value) (S':List Dw) (e':Nat),v=.int .i64 a/\H'=Kq b tv k' vv' sv' S' e' F/\Rw live P (vs.map Vr.nv) S T k' S' e' a/\(e'=0->Sl I' 5 vv' ((Jx S' vs).map DP))
def T1(fid:Nat)(args:List Value)(rd:List Lx->PA):Prop:=∀(live:Bool) (b:Nat) (tv:Value) (T:List Lx) (k:Nat) (vv sv:Value) (vs:List Vr) (m:Nat) (S:List Dw) (I:AQ) (F:List HA) (w0 w:World),Qp I tv T vs m->WSt I T vs m k vv S->(live=true->M9 (rd (T.drop k)))->St w0 I (Kq b tv k vv sv S 0 F) w→
 Calls prog fid (Gg b::args++[Value.bool live]).toArray w (ER w fun v I' H'=>Le I I'/\WkR b tv T vs S live (rd (T.drop k)) F v I' H')
def ABa(d:Int)(n:Nat):Prop:=T1 151 [.int .i64 d] (FM n).asg/\(n≠0->T1 185 [.int .i64 d] (FM n).cho)/\T1 232 [.int .i64 d] (FM n).opd
section
variable {I J:AQ} {tv vv vv2:Value} {T L:List Lx} {vs:List Vr} {m k k2:Nat} {S S2:List Dw} {live:Bool} {P:PA} {a:Int}
theorem E9:Ar (T.drop k)=AG T k JF:=by
 unfold Ar AG
 rw[Cy,Cy,List.getElem?_drop];try rfl
theorem Hu(h:Tk T)(hk:k<T.length):Tk (T.drop k):=by
 refine⟨BV.1 (by rw[BA];omega),?_,fun x hx=>h.2.2 x (List.mem_of_mem_drop hx)⟩
 have h2:=h.2.1
 have:AG (T.drop k) ((T.drop k).length-1) JF=AG T (T.length-1) JF:=by
  unfold AG;rw[Cy,Cy,List.getElem?_drop,BA,show k+(T.length-k-1)=T.length-1 by omega]
 rw[this];exact h2
theorem Qp.now(h:Qp I tv T vs m)(hk:k<T.length):T8 (Ar (T.drop k)):=E9 ▸ h.lw _ (BE hk)
theorem Y1(h:Tk (T.drop k))(hs:Ed (Ar (T.drop k))=false):k+1<T.length/\T.drop (k+1)=Am (T.drop k)/\BP (T.drop k)=AG T (k+1) JF:=by
 have h2:=h.two hs
 have h3:(T.drop k).length=T.length-k:=BA
 refine⟨by omega,?_,?_⟩
 ·unfold Am;rw[AB (by omega),Cp]
 unfold BP AG;rw[AB (by omega),Cy,Cy,List.getElem?_drop]
theorem WSt.step(hE:Qp I tv T vs m)(h:WSt I T vs m k vv S)(hs:Ed (Ar (T.drop k))=false):WSt I T vs m (k+1) vv S/\T.drop (k+1)=Am (T.drop k):=by
 obtain⟨h1,h2,_⟩:=Y1 (Hu hE.tk h.hk) hs
 have h3:=h.ln
 exact⟨⟨h1,h.sa,by omega,h.hv⟩,h2⟩
theorem WSt.next(hE:Qp I tv T vs m)(h:WSt I T vs m k vv S)(hg:Ni (T.drop k) P)(hz:Sz (T.drop k) P)(hd:Gd m P)(hr:Rw live P (vs.map Vr.nv) S T k2 S2 0 a)(hv:Sl J 5 vv2 ((Jx S2 vs).map DP)):WSt J T vs m k2 vv2 S2/\(live=true->E7 a):=by
 obtain⟨x,M,h1,h2,h3,h4⟩:=hr.ok rfl;obtain⟨g1,g2⟩:=hg x M h1
 have z1:=hz x M h1
 obtain⟨d1,_⟩:=hd x M h1
 have hp:=g1.pos
 have hl:(T.drop k).length=T.length-k:=BA
 have hl2:M.length=T.length-k2:=by rw[<-h2];exact BA
 have hln:=h.ln
 cases live with
 |false=>rw[h4 O]at hv ⊢;exact⟨⟨by omega,h.sa,by omega,hv⟩,fun h=>by cases h⟩
 |true=>
  have hw:=h3 O
  have hI:=Mz (vs.map Vr.nv) x S d1 h.sa _ _ hw
  have hn:=EE x S S2 a hw
  exact⟨⟨by omega,hI.2,by omega,hv⟩,fun _=>hI.1⟩
theorem AGz(hW:T8 (Ar L)):(decide (JA (Ar L)=[43])||decide (JA (Ar L)=[45])||decide (JA (Ar L)=[33])||decide (JA (Ar L)=[126]))=IB L:=by
 unfold IB;rw[I9 hW (by decide),I9 hW (by decide),I9 hW (by decide),I9 hW (by decide)]
theorem RH(hW:T8 (Ar L))(ht:t∈D3)(h:JA (Ar L)=t):(Ar L).text=t:=((Of hW ht).1 h).2
theorem APV(hW:T8 (Ar L))(h:IB L=true)(h1:¬JA (Ar L)=[45])(h2:¬JA (Ar L)=[126])(h3:¬JA (Ar L)=[33]):(Ar L).text=[43]:=by
 rw[<-AGz hW,DC h1,DC h2,DC h3]at h;simp only[Bool.or_false,BC]at h;exact RH hW (by decide) h
end
theorem AHd{m:Nat}{S:List Dw}{vs:List Vr}(h:SU m S)(hl:vs.length<=1000000)(hv:∀v∈vs,v.value.length<=1000000000)(hS:S.length<=950000000):I3 (Jx S vs):=by
 refine⟨by rw[ABs];omega,fun v hm=>?_⟩;unfold Jx at hm;rcases Ic.1 hm with h1|h1
 ·obtain⟨a,h2,rfl⟩:=FL.1 h1
  have:=AJd a.2 (h a (List.mem_reverse.1 h2)).1
  show(Lib.itoa a.2).length<=_
  omega
 exact hv v h1
set_option maxHeartbeats 1000000 in
theorem WV(n d:Nat)(hn:25-d=n)(hd:d<=25)(hR:∀q,n=q+1->ABa ((d:Int)+1) q)(live:Bool)(b:Nat)(tv:Value)(T:List Lx)(k:Nat)(vv sv:Value)(vs:List Vr)(m:Nat)(S:List Dw)(I:AQ)(F:List HA)(w0 w:World)(hE:Qp I tv T vs m)(hT:WSt I T vs m k vv S)(hl:live=true->M9 ((FM n).opd (T.drop k)))(BZ:St w0 I (Kq b tv k vv sv S 0 F) w):Calls prog 232 [Gg b,.int .i64 (d:Int),.bool live].toArray w (ER w fun v I' H'=>Le I I'/\WkR b tv T vs S live ((FM n).opd (T.drop k)) F v I' H'):=by
 have hk:=hT.hk
 have hln:=hE.ln
 have hW:=hE.now hT.hk
 refine enter func232 O ntmps232 O (BZ.self) (AK O (AF (tr (yc O (fun w hw=>IX b tv k vv sv 0 d _ _ _ w hw) ?_))));rintro _ _ _ ⟨rfl,rfl,rfl⟩;refine ln (AA rfl (fun Ab=>?_) (fun Ab=>?_))
 ·have AQE:24<d:=by have h:=BM Ab;unfold Rk at h;rw[AI O]at h;rcases Nat.lt_or_ge 24 d with h1|h1;exact h1;exact Ac (AB (by omega)) h
  obtain rfl:n=0:=by omega
  rw[show Rk d 0=52 by unfold Rk;rw[AI rfl,AI AQE]];refine AK O (Ak (AP O O (fun w' hw=>?_)));exact⟨_,O,I,Kq b tv k vv sv S 52 F,⟨(Le.refl _),0,k,vv,sv,S,52,O,O,HW O (by decide) hl,(fun h=>Ac h (by decide))⟩,AD hw⟩
 have AeQ:d<=24:=by have h:=Classical.not_not.1 (BW Ab);unfold Rk at h;rw[AI O]at h;rcases Nat.lt_or_ge 24 d with h1|h1;rw[AI h1]at h;cases h;exact h1
 obtain⟨q,rfl⟩:∃q,n=q+1:=⟨n-1,by omega⟩
 have hR:=hR q O
 rw[show Rk d 0=0 by unfold Rk;rw[AI rfl,AB (by omega)]];refine AV (tr (yp O ((fun w hw=>GK b tv k vv sv 0 T w (by have:=hE.ln;omega) (D7 (b:=b) hw) (hE.sl.mono (hw.le)) hT.hk)) ?_));rw[show AG T k JF=Ar (T.drop k)from E9.symm];refine AH O (AF (Bd mo (by kernel_rfl) (fun _ _ _ _ _ h=>h) (zq O ((by exact Az O O (by rfl))) ?_)));refine zq O ((by exact Az O O (by rfl))) ?_;refine zq O ((by exact AN O Xg JQ O O (Sl.shape hE.sl (Af _)) (by omega))) ?_;refine zq O ((by exact Ai O O (SI (i:=k) (j:=1) hE.sl hT.hk O))) ?_;refine De O (AF (AJ (tq (zq O (AR O O O) ?_))))
 refine zO 2 O (fun Tu=>by
   simp at Tu
   refine zq O (AR O O O) ?_;exact zv O
  ) ?_
 refine zO 2 O (fun h37=>by
   simp at h37
   refine zq O (AR O O O) ?_;exact zv O
  ) ?_
 refine zO 2 O (fun h41=>by
   simp at h41
   refine zq O (AR O O O) ?_;exact zv O
  ) ?_
 refine De O (AA O (fun An=>?_) (fun An=>?_))
 ·have Tz:=(AGz hW).symm.trans An
  refine AF ?_
  have CS:=hT.step hE (ACk Tz)
  refine AC (yq O ((by exact Az O O (by rfl))) ?_);refine yq O (AM O O O (by omega)) ?_;rw[show(k:Int)+1=((k+1:Nat):Int)from O];refine Eu (Iq tv (k+1) vv sv 0) O ?_ (by exact⟨O,O⟩);refine DL (yq O (AM O O O (by omega)) ?_);refine yc O (fun w hw=>hR.2.2 live b tv T (k+1) vv sv vs m S _ _ _ w hE CS.1 (fun hv=>by rw[CS.2];exact ARv Tz hl hv) (Gx hw)) ?_;rintro _ J53 _ ⟨ANJ,a53,k53,vv53,sv53,S53,e53,rfl,rfl,ANY,APv⟩;refine AH rfl (AF (AJ (tr (yq rfl (AR rfl rfl rfl) (AH rfl (AA rfl (fun A6=>?_) (fun A6=>?_)))))))
  ·have h45:JA (Ar (T.drop k))=[45]:=BM A6
   refine tr (yq O (Vu O O) (AH O (Ak (AP O O (fun w' hw=>?_)))));exact⟨_,O,J53,Kq b tv k53 vv53 sv53 S53 e53 F,⟨ANJ,_,k53,vv53,sv53,S53,e53,O,O,Uj Tz (CS.2 ▸ ANY) (by rw[RH hW (by decide) h45];try rfl),APv⟩,AD hw⟩
  have h45:¬JA (Ar (T.drop k))=[45]:=BW A6
  refine tr (yq O (AR O O O) (AH O (AA O (fun BJ=>?_) (fun BJ=>?_))))
  ·have AZd:JA (Ar (T.drop k))=[126]:=BM BJ
   refine tr (yq O (Vu O O) (yq O (TU O O O) (AH O (Ak (AP O O (fun w' hw=>?_))))));exact⟨_,O,J53,Kq b tv k53 vv53 sv53 S53 e53 F,⟨ANJ,_,k53,vv53,sv53,S53,e53,O,O,Uj Tz (CS.2 ▸ ANY) (by rw[RH hW (by decide) AZd];exact ANL _),APv⟩,AD hw⟩
  have AZd:¬JA (Ar (T.drop k))=[126]:=BW BJ
  refine tq (zq O (AR O O O) ?_)
  refine zA 2 O (fun h71=>by
    simp at h71
    exact zv O
   ) ?_
  refine De O (AA O (fun Bj=>?_) (fun Bj=>?_))
  ·have Tu:JA (Ar (T.drop k))=[33]/\a53=0:=by have h:=Bj;rw[Ay,BC,BC]at h;exact h
   refine AK O (Ak (AP O O (fun w' hw=>?_)));exact⟨_,O,J53,Kq b tv k53 vv53 sv53 S53 e53 F,⟨ANJ,_,k53,vv53,sv53,S53,e53,O,O,Uj Tz (CS.2 ▸ ANY) (by rw[RH hW (by decide) Tu.1,Tu.2];try rfl),APv⟩,AD hw⟩
  refine tr (yq O (AR O O O) (AH O (AA O (fun B4=>?_) (fun B4=>?_))))
  ·have Tu:JA (Ar (T.drop k))=[33]:=BM B4
   have ha0:¬a53=0:=fun h=>by have h4:=Bj;rw[BK h,Bool.and_true]at h4;exact BW h4 Tu
   refine AK O (Ak (AP O O (fun w' hw=>?_)));exact⟨_,O,J53,Kq b tv k53 vv53 sv53 S53 e53 F,⟨ANJ,_,k53,vv53,sv53,S53,e53,O,O,Uj Tz (CS.2 ▸ ANY) (by rw[RH hW (by decide) Tu];exact(show Zy (decide (a53=0))=0 by rw[DC ha0];try rfl).symm),APv⟩,AD hw⟩
  have Tu:¬JA (Ar (T.drop k))=[33]:=BW B4
  refine AY (AL (AS (AK O (Ak (AP O O (fun w' hw=>?_))))));exact⟨_,O,J53,Kq b tv k53 vv53 sv53 S53 e53 F,⟨ANJ,_,k53,vv53,sv53,S53,e53,O,O,Uj Tz (CS.2 ▸ ANY) (by rw[APV hW Tz h45 AZd Tu];try rfl),APv⟩,AD hw⟩
 have Tz:=(AGz hW).symm.trans An
 refine tr (yq O (AR O O O) (AH O (AA O (fun CP=>?_) (fun CP=>?_))))
 ·have hpa:G3 (T.drop k) [40]=true:=(I9 hW (by decide)).trans CP
  refine AF ?_
  have CS:=hT.step hE (Ig hpa)
  refine AC (yq O ((by exact Az O O (by rfl))) ?_);refine yq O (AM O O O (by omega)) ?_;rw[show(k:Int)+1=((k+1:Nat):Int)from O];refine Eu (Iq tv (k+1) vv sv 0) O ?_ (by exact⟨O,O⟩);refine DL (yq O (AM O O O (by omega)) ?_);refine yc O (fun w hw=>hR.1 live b tv T (k+1) vv sv vs m S _ _ _ w hE CS.1 (fun hv=>by rw[CS.2];exact ATf Tz hpa hl hv) (Gx hw)) ?_;rintro _ J90 _ ⟨AEw,a90,k90,vv90,sv90,S90,e90,rfl,rfl,AXk,AZM⟩;refine AH rfl (AF (tr (yq rfl ((by exact Az rfl rfl (by rfl))) ?_)));refine AH rfl (AA rfl (fun DF=>?_) (fun DF=>?_))
  ·simp at DF
   have he:e90≠0:=by omega
   refine AK O (Ak (AP O O (fun w' hw=>?_)));exact⟨_,O,J90,Kq b tv k90 vv90 sv90 S90 e90 F,⟨AEw,0,k90,vv90,sv90,S90,e90,O,O,ATx Tz hpa (CS.2 ▸ AXk) he hl,AZM⟩,AD hw⟩
  simp at DF
  have he:e90=0:=by omega
  subst he
  have hL1:Ju m (T.drop (k+1)):=fun x hx=>hE.ok x (List.mem_of_mem_drop hx)
  have UD:=(CS.1.next hE ((DT q).asg _ (Hu hE.tk CS.1.hk)) ((Ki q).asg _ (Hu hE.tk CS.1.hk)) ((Ke q).asg _ hL1) AXk (AZM O)).1
  have hW2:=hE.now UD.hk
  have hpe:=AVd (S2:=S90) (b:=0) Tz hpa (CS.2 ▸ AXk) O hl
  refine AV (AF (tr (yp O ((fun w hw=>GK b tv k90 vv90 sv90 0 T w (by have:=hE.ln;omega) (D7 (b:=b) hw) (hE.sl.mono (AEw.trans hw.le)) UD.hk)) ?_)));rw[show AG T k90 JF=Ar (T.drop k90)from E9.symm];refine yq O (Bs O O O) (ln (AA O (fun GQ=>?_) (fun GQ=>?_)))
  ·have FW:G3 (T.drop k90) [41]=false:=(I9 hW2 (by decide)).trans (DC (BM GQ))
   refine tr (yc O (fun w hw=>GX b tv k90 vv90 sv90 60 _ _ _ w (Al (row b 253 (Iq tv k90 vv90 sv90 0)) hw)) ?_);rintro _ _ _ ⟨rfl,rfl,rfl⟩;refine AH rfl (Ak (AP rfl rfl (fun w' hw=>?_)));exact⟨_,rfl,J90,Kq b tv k90 vv90 sv90 S90 60 F,⟨AEw,0,k90,vv90,sv90,S90,60,rfl,rfl,hpe.2 FW,(fun h=>Ac h (by decide))⟩,AD hw⟩
  have FW:G3 (T.drop k90) [41]=true:=(I9 hW2 (by decide)).trans (BK (Classical.not_not.1 (BW GQ)))
  have AjP:=UD.step (hE.mono AEw) (Ig FW)
  have PJ:=UD.hk
  refine AV (tr (yq O ((by exact Az O O (by rfl))) ?_));refine yq O (AM O O O (by omega)) ?_;rw[show(k90:Int)+1=((k90+1:Nat):Int)from O];refine Eu (Iq tv (k90+1) vv90 sv90 0) O ?_ (by exact⟨O,O⟩);refine DL (AH O (Ak (AP O O (fun w' hw=>?_))));exact⟨_,O,J90,Kq b tv (k90+1) vv90 sv90 S90 0 F,⟨AEw,a90,(k90+1),vv90,sv90,S90,0,O,O,hpe.1 FW _ AjP.2,AZM⟩,AD hw⟩
 have hpa:G3 (T.drop k) [40]=false:=(I9 hW (by decide)).trans CP
 refine tr (yq O (AR O O O) (AH O (AA O (fun KD=>?_) (fun KD=>?_))))
 ·have h1:(Ar (T.drop k)).what=1:=(ARO hW).1 (BM KD)
  refine AF ?_
  have CS:=hT.step hE (IM h1 (by decide))
  refine AC (yq O ((by exact Az O O (by rfl))) ?_);refine yq O (AM O O O (by omega)) ?_;rw[show(k:Int)+1=((k+1:Nat):Int)from O];refine Eu (Iq tv (k+1) vv sv 0) O ?_ (by exact⟨O,O⟩);refine DL (AH O (Ak (AP O O (fun w' hw=>?_))));rw[<-E9]at *;exact⟨_,O,I,Kq b tv (k+1) vv sv S 0 F,⟨(Le.refl _),_,(k+1),vv,sv,S,0,O,O,AYu Tz hpa h1 CS.2,(fun _=>hT.hv)⟩,AD hw⟩
 have h1:¬(Ar (T.drop k)).what=1:=fun h=>BW KD ((ARO hW).2 h)
 refine tr (yp O ((fun w _=>TS _ w)) (AH O (AA O (fun EW=>?_) (fun EW=>?_))))
 ·have h2:(Ar (T.drop k)).what=2:=BM ((Oa hW).1.symm.trans EW)
  refine AF ?_
  have CS:=hT.step hE (IM h2 (by decide))
  refine AC (yq O ((by exact Az O O (by rfl))) ?_);refine yq O (AM O O O (by omega)) ?_;rw[show(k:Int)+1=((k+1:Nat):Int)from O];refine Eu (Iq tv (k+1) vv sv 0) O ?_ (by exact⟨O,O⟩);refine XN (AH O (AA O (fun Eq=>?_) (fun Eq=>?_)))
  ·refine AF ?_
   have hVs:I3 (Jx S vs):=AHd hT.sa hE.vl hE.vv (by have:=hT.ln;omega)
   have hrw:=Y6 hT.sa vs (Ar (T.drop k)).text
   refine AC (yc O (fun w hw=>TV b tv (k+1) vv sv (Jx S vs) (JA (Ar (T.drop k))) _ _ _ w hT.hv hVs (Al (row b 253 (Iq tv (k+1) vv sv 0)) hw)) ?_);rintro _ _ _ ⟨rfl,rfl,rfl⟩;refine AH rfl (Ak (AP rfl rfl (fun w' hw=>?_)));exact⟨_,rfl,I,Kq b tv (k+1) vv sv S (atV (Jx S vs) (JA (Ar (T.drop k)))).2 F,⟨(Le.refl _),(atV (Jx S vs) (JA (Ar (T.drop k)))).1,(k+1),vv,sv,S,(atV (Jx S vs) (JA (Ar (T.drop k)))).2,rfl,rfl,ANX Tz hpa h2 CS.2 (fun _=>by rw[(Oa hW).2 h2,hrw]) (fun h=>by rw[Eq]at h;cases h),(fun _=>hT.hv)⟩,AD hw⟩
  refine AV (AK O (Ak (AP O O (fun w' hw=>?_))));exact⟨_,O,I,Kq b tv (k+1) vv sv S 0 F,⟨(Le.refl _),0,(k+1),vv,sv,S,0,O,O,ANX Tz hpa h2 CS.2 (fun h=>by rw[Eq]at h;cases h) (fun _=>rfl),(fun _=>hT.hv)⟩,AD hw⟩
 have h2:¬(Ar (T.drop k)).what=2:=BW ((Oa hW).1.symm.trans EW)
 refine AY (AL (AS (tr (yc O (fun w hw=>GX b tv k vv sv 60 _ _ _ w (Al (row b 253 (Iq tv k vv sv 0)) hw)) ?_))));rintro _ _ _ ⟨rfl,rfl,rfl⟩;refine AH rfl (AX (AP rfl rfl (fun w' hw=>?_)));exact⟨_,rfl,I,Kq b tv k vv sv S 60 F,⟨(Le.refl _),0,k,vv,sv,S,60,rfl,rfl,ARz Tz hpa h1 h2 hl,(fun h=>Ac h (by decide))⟩,AD hw⟩
theorem AeK(hi:i<=9)(h:(decide ((e:Int)=0)&&decide ((r:Int)=(13:Int)-((i+1:Nat):Int)))=true):e=0/\r=9-i+3:=by
 rw[Ay,BC,BC]at h;omega
theorem AYs(hi:i<=9)(h:(decide ((e:Int)=0)&&decide ((r:Int)=(13:Int)-((i+1:Nat):Int)))=false)(he:e=0):¬r=9-i+3:=fun hr=>by
 rw[BK (show(e:Int)=0 by omega),BK (show(r:Int)=(13:Int)-((i+1:Nat):Int) by omega)]at h
 cases h
theorem AOv{L:List Lx}{v:Nat}(hW:T8 (Ar L))(h:HQ v L=true):JA (Ar L)=(Ar L).text/\(Ar L).text∈D3:=by
 unfold HQ at h;rw[Ay,BC]at h
 have hm:=hW.2.2.2.1 h.1
 exact⟨(Of hW hm).2 ⟨h.1,O⟩,hm⟩
set_option maxHeartbeats 2000000 in
theorem Yn(n d j:Nat)(hd:d<=24)(hj:j<=10)(hO:T1 232 [.int .i64 (d:Int)] (EH (FM n)))(hN:∀i,j=i+1->T1 217 [.int .i64 ((13:Int)-(i:Int)),.int .i64 (d:Int)] (CJ (FM n) i))(live:Bool)(b:Nat)(tv:Value)(T:List Lx)(k:Nat)(vv sv:Value)(vs:List Vr)(m:Nat)(S:List Dw)(I:AQ)(F:List HA)(w0 w:World)(hE:Qp I tv T vs m)(hT:WSt I T vs m k vv S)(hl:live=true->M9 (CJ (FM n) j (T.drop k)))(BZ:St w0 I (Kq b tv k vv sv S 0 F) w):Calls prog 217 [Gg b,.int .i64 ((13:Int)-(j:Int)),.int .i64 (d:Int),.bool live].toArray w (ER w fun v I' H'=>Le I I'/\WkR b tv T vs S live (CJ (FM n) j (T.drop k)) F v I' H'):=by
 have hk:=hT.hk
 have hln:=hE.ln
 refine enter func217 O ntmps217 O (BZ.self) (AK O (AF (AK O (AA O (fun Ab=>?_) (fun Ab=>?_)))))
 ·simp at Ab
  obtain rfl:j=0:=by omega
  refine tr (yc O (fun w hw=>hO live b tv T k vv sv vs m S _ _ _ w hE hT hl (Gx hw)) ?_);rintro _ J19 _ ⟨AXw,a19,k19,vv19,sv19,S19,e19,rfl,rfl,AiO,Aif⟩;refine AH rfl (Ak (AP rfl rfl (fun w' hw=>?_)));exact⟨_,rfl,J19,Kq b tv k19 vv19 sv19 S19 e19 F,⟨AXw,a19,k19,vv19,sv19,S19,e19,rfl,rfl,AiO,Aif⟩,AD hw⟩
 simp at Ab
 obtain⟨i,rfl⟩:∃i,j=i+1:=⟨j-1,by omega⟩
 have hN:=hN i O
 refine AV (tr (yq O (AM O O O (by omega)) ?_));rw[show(13:Int)-((i+1:Nat):Int)+1=(13:Int)-(i:Int) by omega];refine yc O (fun w hw=>hN live b tv T k vv sv vs m S _ _ _ w hE hT (ALu hl) (Gx hw)) ?_;rintro _ J25 _ ⟨Agj,a25,k25,vv25,sv25,S25,e25,rfl,rfl,ANk,Aiy⟩;refine AH rfl (AF (AJ ?_))
 have hL0:Ju m (T.drop k):=fun x hx=>hE.ok x (List.mem_of_mem_drop hx)
 obtain⟨OL,x0,Aje⟩:=ALo hl ANk;refine EB (ι:=Int×Nat×Value×Value×List Dw×Nat×Ex×Nat×AQ) [0,1,2,3,15] (fun zz=>Le I zz.2.2.2.2.2.2.2.2/\(zz.2.2.2.2.2.1≠0->Rw live (CJ (FM n) (i+1) (T.drop k)) (vs.map Vr.nv) S T zz.2.1 zz.2.2.2.2.1 zz.2.2.2.2.2.1 zz.1)/\(zz.2.2.2.2.2.1=0->WSt zz.2.2.2.2.2.2.2.2 T vs m zz.2.1 zz.2.2.1 zz.2.2.2.2.1/\Sl3 live i (FM n) (CJ (FM n) (i+1) (T.drop k)) (vs.map Vr.nv) S zz.2.2.2.2.2.2.1 (T.drop zz.2.1) zz.2.2.2.2.2.2.2.1 zz.2.2.2.2.1 zz.1)) (fun zz=>T.length-zz.2.1) (fun zz=>[(9,.int .i64 zz.1)]) (fun zz=>zz.2.2.2.2.2.2.2.2) (fun zz=>(Kq b tv zz.2.1 zz.2.2.1 zz.2.2.2.1 zz.2.2.2.2.1 zz.2.2.2.2.2.1 F)) (a25,k25,vv25,sv25,S25,e25,x0,(T.drop k25).length,J25) rfl ?_ ?_
 ·dsimp only;refine⟨Agj,OL,fun h=>⟨?_,Aje h⟩⟩;subst h;exact(hT.next hE (E8 (DT n) i _ (Hu hE.tk hT.hk)) (Od (Ki n) (DT n) i _ (Hu hE.tk hT.hk)) (Sk (Ke n) i _ hL0) ANk (Aiy rfl)).1
 rintro⟨a1,k1,vv1,sv1,S1,e1,x1,g1,J⟩ ⟨PL,Cz,KM⟩;dsimp only at *;refine AF (tq (EA rfl ?_))
 refine zA 5 O (fun h37=>by
   simp at h37
   have Ahz:=KM (by omega)
   refine zp O ((fun w hw=>GK b tv k1 vv1 sv1 e1 T w (by omega) (D7 (b:=b) hw) (hE.sl.mono (PL.trans hw.le)) Ahz.1.hk)) ?_;refine zp O ((fun w _=>ACG _ w)) ?_;exact zv O
  ) ?_
 refine Dp (AA O (fun An=>?_) (fun An=>?_))
 ·obtain⟨rfl,QJ⟩:=AeK (by omega) An;obtain⟨Sr,Lh⟩:=KM rfl
  have hW1:=(hE.mono PL).now Sr.hk
  have We:HQ (9-i) (T.drop k1)=true:=(Y9 hW1 (by omega)).trans (BK (by rw[E9];exact QJ))
  have CS:=Sr.step (hE.mono PL) (S4 We)
  have htd:=Hu hE.tk Sr.hk
  have Rn:=Sr.hk
  have AjH:NV (JA (Ar (T.drop k1)))=9-i+3:=by rw[E9];exact QJ
  refine AV (AJ (tr (yp O ((fun w hw=>GK b tv k1 vv1 sv1 0 T w (by have:=hE.ln;omega) (D7 (b:=b) hw) (hE.sl.mono (PL.trans hw.le)) Sr.hk)) ?_)));obtain⟨op,LS⟩:∃op,op=JA (AG T k1 JF):=⟨_,rfl⟩;rw[<-LS];rw[<-E9]at LS;obtain⟨hbt,hbo⟩:=AOv hW1 We
  have ADC:(Ar (T.drop k1)).text=op:=(LS.trans hbt).symm
  refine AH O (tr (DE O ?_));refine yq O (AM O O O (by omega)) ?_;rw[show(k1:Int)+1=((k1+1:Nat):Int)from O];refine Eu (Iq tv (k1+1) vv1 sv1 0) O ?_ (by exact⟨O,O⟩);refine DL (AH O (EZ (ι:=Bool) [9,0,1,2,3,15,37,10] (fun zz=>zz=if op=[124,124]then live&&decide (a1=0)else live) (fun zz=>[(11,.bool zz)]) (fun zz=>J) (fun zz=>(Kq b tv (k1+1) vv1 sv1 S1 0 F)) O ?_ ?_))
  ·refine tr (yq O (AR O O O) (ln (AA O (fun A6=>?_) (fun A6=>?_))))
   ·refine FU ?_
    refine zA 2 O (fun h54=>by
      exact zv O
     ) ?_
    refine K5 1 O (KY (CB (live&&decide (a1=0)) ?_))
    rw[AI (BM A6)]
   refine AY (CB (live) ?_)
   rw[AB (BW A6)]
  rintro nx hnx;refine EZ (ι:=Bool) [9,0,1,2,3,15,37,10] (fun zz=>zz=PY live op a1) (fun zz=>[(11,.bool zz)]) (fun zz=>J) (fun zz=>(Kq b tv (k1+1) vv1 sv1 S1 0 F)) rfl ?_ ?_
  ·refine tr (yq O (AR O O O) (ln (AA O (fun BJ=>?_) (fun BJ=>?_))))
   ·refine FU ?_
    refine zA 2 O (fun h61=>by
      exact zv O
     ) ?_
    refine K5 1 O (KY (CB (live&&decide (a1≠0)) ?_))
    unfold PY;rw[AI (BM BJ)]
   refine AY (CB (nx) ?_)
   unfold PY;rw[AB (BW BJ)];exact hnx
  rintro nw Zo;refine tr (yq rfl (AM rfl rfl rfl (by omega)) ?_);rw[show(13:Int)-((i+1:Nat):Int)+1=(13:Int)-(i:Int) by omega];refine yc rfl (fun w hw=>hN nw b tv T (k1+1) vv1 sv1 vs m S1 _ _ _ w (hE.mono PL) CS.1 (fun hv=>by rw[CS.2];exact AQh Lh htd.pos We hl (Wb (Zo ▸ hv))) (Gx hw)) ?_;rintro _ J67 _ ⟨ARU,a67,k67,vv67,sv67,S67,e67,rfl,rfl,Zg,AfB⟩;refine AH rfl (AF (tr (DE rfl ?_)));refine AH rfl (AA rfl (fun Bj=>?_) (fun Bj=>?_))
  ·simp at Bj
   have he:e67≠0:=by omega
   refine AK O (Ak (AP O O (fun w' hw=>?_)));exact⟨_,O,J67,Kq b tv k67 vv67 sv67 S67 e67 F,⟨(PL.trans ARU),0,k67,vv67,sv67,S67,e67,O,O,ATF Lh htd.pos We hl (CS.2 ▸ Zg) he (fun h=>⟨Wb (Zo ▸ h),by rw[ADC];exact ANr (Zo ▸ h)⟩),AfB⟩,AD hw⟩
  simp at Bj
  obtain rfl:e67=0:=by omega
  have hL1:Ju m (T.drop (k1+1)):=fun x hx=>hE.ok x (List.mem_of_mem_drop hx)
  have AOI:=Hu hE.tk CS.1.hk
  have UD:=(CS.1.next (hE.mono PL) (E8 (DT n) i _ AOI) (Od (Ki n) (DT n) i _ AOI) (Sk (Ke n) i _ hL1) Zg (AfB O)).1
  rw[CS.2]at Zg
  have hgs:=E8 (DT n) i _ htd.step
  have C3:=Gu htd (S4 We)
  have Acb:k1<k67:=by
   obtain⟨y,N,_,h2,h3,_⟩:=UX hgs Zg
   have h4:(T.drop k67).length=T.length-k67:=BA
   have h5:(T.drop k1).length=T.length-k1:=BA
   have:=UD.hk
   rw[h2]at h4;omega
  have AmV:=UD.hk
  refine AV (AK O (EZ (ι:=Bool) [11,0,1,2,3,15,37,10,12,72] (fun zz=> ∃x2,Sl3 live i (FM n) (CJ (FM n) (i+1) (T.drop k)) (vs.map Vr.nv) S x2 (T.drop k67) (g1-1) S67 (Zy zz)) (fun zz=>[(13,.bool zz)]) (fun zz=>J67) (fun zz=>(Kq b tv k67 vv67 sv67 S67 0 F)) O ?_ ?_))
  ·refine AJ (tr (yq O (AR O O O) (AH O (AA O (fun B4=>?_) (fun B4=>?_)))))
   ·have h5:op=[124,124]:=BM B4
    refine FU ?_
    refine zO 2 O (fun h81=>by
      simp at h81
      exact zv O
     ) ?_
    refine K5 1 O (KY (AL (CB (decide (a1≠0)||decide (a67≠0)) ?_)))
    exact ZI Lh htd.pos C3 We hgs ADC (.inr h5) (Zo ▸ Zg) (by rw[AI h5])
   have h5:¬op=[124,124]:=BW B4
   refine tr (yq O (AR O O O) (AH O (AA O (fun CP=>?_) (fun CP=>?_))))
   ·have h6:op=[38,38]:=BM CP
    refine FU ?_
    refine zA 2 O (fun h90=>by
      simp at h90
      exact zv O
     ) ?_
    refine K5 1 O (KY (AL (CB (decide (a1≠0)&&decide (a67≠0)) ?_)))
    exact ZI Lh htd.pos C3 We hgs ADC (.inl h6) (Zo ▸ Zg) (by rw[AB h5])
   have AUe:¬(op=[38,38]\/op=[124,124]):=fun h=>h.elim (BW CP) h5
   rw[Zo,AOw AUe]at Zg;refine AK O (AA O (fun DF=>?_) (fun DF=>?_))
   ·refine tr (yc O (fun w hw=>Vh b tv k67 vv67 sv67 op a1 a67 _ _ _ w (((ASd _ hbo (9-i) (by omega) (by rw[ADC];exact LS ▸ AjH)).resolve_left (fun h=>AUe (.inl (ADC ▸ h)))).resolve_left (fun h=>AUe (.inr (ADC ▸ h))) |> fun h=>ADC ▸ h) (Al (row b 253 (Iq tv k67 vv67 sv67 0)) hw)) ?_);rintro _ _ _ ⟨rfl,rfl,rfl⟩;refine AH rfl (Av (GT rfl (AE (AO ?_))));obtain⟨hpe,x2,hpo⟩:=AMB Lh htd.pos C3 We hgs ADC AUe Zg DF hl;refine DJ (((CO op a1 a67).1,k67,vv67,sv67,S67,(CO op a1 a67).2,x2,g1-1,J67)) ?_ ?_
    ·dsimp only;exact⟨PL.trans ARU,hpe,fun h=>⟨UD,hpo h⟩⟩
    dsimp only
    show T.length-k67<T.length-k1
    omega
   refine Av (GT O (AE (AO ?_)));obtain⟨x2,hpo⟩:=AQY Lh htd.pos C3 We hgs Zg DF;refine DJ ((a1,k67,vv67,sv67,S67,0,x2,g1-1,J67)) ?_ ?_
   ·dsimp only;exact⟨PL.trans ARU,fun h=>Ac O h,fun _=>⟨UD,hpo⟩⟩
   dsimp only
   show T.length-k67<T.length-k1
   omega
  rintro y ⟨x2,hpo⟩;refine AK rfl (AK rfl (AA rfl (fun GQ=>?_) (fun GQ=>?_)))
  ·refine AC (AU O (AL ?_));rw[GQ]at hpo;refine DJ ((1,k67,vv67,sv67,S67,0,x2,g1-1,J67)) ?_ ?_
   ·dsimp only;exact⟨PL.trans ARU,fun h=>Ac O h,fun _=>⟨UD,hpo⟩⟩
   dsimp only
   show T.length-k67<T.length-k1
   omega
  refine AY (AL ?_);rw[GQ]at hpo;refine DJ ((0,k67,vv67,sv67,S67,0,x2,g1-1,J67)) ?_ ?_
  ·dsimp only;exact⟨PL.trans ARU,fun h=>Ac O h,fun _=>⟨UD,hpo⟩⟩
  dsimp only
  show T.length-k67<T.length-k1
  omega
 have Kp:Rw live (CJ (FM n) (i+1) (T.drop k)) (vs.map Vr.nv) S T k1 S1 e1 a1:=by
  by_cases he:e1=0
  ·obtain⟨Sr,Lh⟩:=KM he;subst he;exact AUP Lh rfl ((Y9 ((hE.mono PL).now Sr.hk) (by omega)).trans (DC (by rw[E9];exact AYs (by omega) An rfl)))
  exact Cz he
 refine Av (AE (AE (AO (AS (AK O (AX (AP O O (fun w' hw=>?_))))))));exact⟨_,O,J,Kq b tv k1 vv1 sv1 S1 e1 F,⟨PL,a1,k1,vv1,sv1,S1,e1,O,O,Kp,(fun h=>(KM h).1.hv)⟩,AD hw⟩
theorem AJP(n d:Nat)(hd:d<=24)(hO:T1 232 [.int .i64 (d:Int)] (EH (FM n))):∀j:Nat,j<=10->T1 217 [.int .i64 ((13:Int)-(j:Int)),.int .i64 (d:Int)] (CJ (FM n) j)
 |0,hj=>fun live b tv T k vv sv vs m S I F w0 w h1 h2 h3 h4=>Yn n d 0 hd hj hO (fun i h=>by cases h) live b tv T k vv sv vs m S I F w0 w h1 h2 h3 h4
 |j+1,hj=>fun live b tv T k vv sv vs m S I F w0 w h1 h2 h3 h4=>Yn n d (j+1) hd hj hO (fun i h=>(show j=i by omega) ▸ AJP n d hd hO j (by omega)) live b tv T k vv sv vs m S I F w0 w h1 h2 h3 h4
set_option maxHeartbeats 1000000 in
theorem AFH(n d:Nat)(hn:24-d=n)(hd:d<=24)(hS:T1 217 [.int .i64 3,.int .i64 (d:Int)] (CJ (FM n) 10))(hR:ABa ((d:Int)+1) n)(live:Bool)(b:Nat)(tv:Value)(T:List Lx)(k:Nat)(vv sv:Value)(vs:List Vr)(m:Nat)(S:List Dw)(I:AQ)(F:List HA)(w0 w:World)(hE:Qp I tv T vs m)(hT:WSt I T vs m k vv S)(hl:live=true->M9 (ED (FM n) (T.drop k)))(BZ:St w0 I (Kq b tv k vv sv S 0 F) w):Calls prog 185 [Gg b,.int .i64 (d:Int),.bool live].toArray w (ER w fun v I' H'=>Le I I'/\WkR b tv T vs S live (ED (FM n) (T.drop k)) F v I' H'):=by
 have hk:=hT.hk
 have hln:=hE.ln
 have htd:=Hu hE.tk hk
 have hL0:Ju m (T.drop k):=fun x hx=>hE.ok x (List.mem_of_mem_drop hx)
 refine enter func185 O ntmps185 O (BZ.self) (AK O (tr (yc O (fun w hw=>hS live b tv T k vv sv vs m S _ _ _ w hE hT (AQS hl) (Gx hw)) ?_)));rintro _ J13 _ ⟨En,a13,k13,vv13,sv13,S13,e13,rfl,rfl,UA,ARp⟩;refine AH rfl (AF (AF ?_))
 have Sr:e13=0->WSt J13 T vs m k13 vv13 S13:=fun h=>by
  subst h;exact(hT.next hE (E8 (DT n) 10 _ htd) (Od (Ki n) (DT n) 10 _ htd) (Sk (Ke n) 10 _ hL0) UA (ARp rfl)).1
 refine FU (EA O ?_)
 refine zO 3 O (fun UQ=>by
   simp at UQ
   have Ail:=Sr (by omega)
   refine zp O ((fun w hw=>GK b tv k13 vv13 sv13 e13 T w (by omega) (D7 (b:=b) hw) (hE.sl.mono (En.trans hw.le)) Ail.hk)) ?_;rw[show AG T k13 JF=Ar (T.drop k13)from E9.symm];refine zq O (Bs O O O) ?_;exact zv O
  ) ?_
 refine Dp (AA O (fun Ab=>?_) (fun Ab=>?_))
 ·have Kp:Rw live (ED (FM n) (T.drop k)) (vs.map Vr.nv) S T k13 S13 e13 a13:=by
   by_cases he:e13=0
   ·have hW1:=(hE.mono En).now (Sr he).hk
    subst he
    have MN:¬JA (Ar (T.drop k13))=[63]:=by simpa using Ab
    exact ARn UA O ((I9 hW1 (by decide)).trans (DC MN))
   exact AQf UA he hl
  refine AK O (Ak (AP O O (fun w' hw=>?_)));exact⟨_,O,J13,Kq b tv k13 vv13 sv13 S13 e13 F,⟨En,a13,k13,vv13,sv13,S13,e13,O,O,Kp,(fun h=>(Sr h).hv)⟩,AD hw⟩
 have h0:e13=0/\JA (Ar (T.drop k13))=[63]:=by
  have h:=Ab
  rw[Bool.or_eq_false_iff,CA,CA,Classical.not_not,Classical.not_not]at h;exact⟨by omega,h.2⟩
 obtain⟨rfl,MN⟩:=h0
 have Sr:=Sr O
 have Rn:=Sr.hk
 have hq:G3 (T.drop k13) [63]=true:=(I9 ((hE.mono En).now Rn) (by decide)).trans (BK MN)
 have CS:=Sr.step (hE.mono En) (Ig hq)
 obtain⟨x,M,Lc,hxM,TF,hx3⟩:=UA.ok rfl;subst hxM;refine AV (tr (DE rfl ?_));refine yq rfl (AM rfl rfl rfl (by omega)) ?_;rw[show(k13:Int)+1=((k13+1:Nat):Int)from rfl];refine Eu (Iq tv (k13+1) vv13 sv13 0) rfl ?_ (by exact⟨rfl,rfl⟩);refine DL (CL 8 (zq rfl (AM rfl rfl rfl (by omega)) ?_))
 refine zA 2 O (fun h39=>by
   exact zv O
  ) ?_
 refine FR (yc O (fun w hw=>hR.1 (live&&decide (a13≠0)) b tv T (k13+1) vv13 sv13 vs m S13 _ _ _ w (hE.mono En) CS.1 (fun hv=>by rw[CS.2];exact ANg Lc hq hl (by rw[Ay]at hv;exact hv.1)) (Gx hw)) ?_);rintro _ J40 _ ⟨Qj,a40,k40,vv40,sv40,S40,e40,rfl,rfl,AKX,AdE⟩;refine AH rfl (AF (tr (DE rfl ?_)));refine AH rfl (AA rfl (fun An=>?_) (fun An=>?_))
 ·simp at An
  have he:e40≠0:=by omega
  refine AK O (Ak (AP O O (fun w' hw=>?_)));exact⟨_,O,J40,Kq b tv k40 vv40 sv40 S40 e40 F,⟨(En.trans Qj),0,k40,vv40,sv40,S40,e40,O,O,AXi Lc hq TF (CS.2 ▸ AKX) he hl,AdE⟩,AD hw⟩
 simp at An
 obtain rfl:e40=0:=by omega
 have hL1:Ju m (T.drop (k13+1)):=fun x hx=>hE.ok x (List.mem_of_mem_drop hx)
 have AOI:=Hu hE.tk CS.1.hk
 have UD:=(CS.1.next (hE.mono En) ((DT n).asg _ AOI) ((Ki n).asg _ AOI) ((Ke n).asg _ hL1) AKX (AdE O)).1
 have PJ:=UD.hk
 rw[CS.2]at AKX;obtain⟨y,N,hy1,hyN,hy2,hy3⟩:=AKX.ok rfl;subst hyN;refine AV (AF (tr (yp rfl ((fun w hw=>GK b tv k40 vv40 sv40 0 T w (by have:=hE.ln;omega) (D7 (b:=b) hw) (hE.sl.mono ((En.trans Qj).trans hw.le)) UD.hk)) ?_)));rw[show AG T k40 JF=Ar (T.drop k40)from E9.symm];refine yq rfl (Bs rfl rfl rfl) (ln (AA rfl (fun A6=>?_) (fun A6=>?_)))
 ·have AFD:G3 (T.drop k40) [58]=false:=(I9 (((hE.mono En).mono Qj).now PJ) (by decide)).trans (DC (BM A6))
  refine tr (yc O (fun w hw=>GX b tv k40 vv40 sv40 60 _ _ _ w (Al (row b 253 (Iq tv k40 vv40 sv40 0)) hw)) ?_);rintro _ _ _ ⟨rfl,rfl,rfl⟩;refine AH rfl (Ak (AP rfl rfl (fun w' hw=>?_)));exact⟨_,rfl,J40,Kq b tv k40 vv40 sv40 S40 60 F,⟨(En.trans Qj),0,k40,vv40,sv40,S40,60,rfl,rfl,ALM Lc hq hy1 AFD hl,(fun h=>Ac h (by decide))⟩,AD hw⟩
 have AFD:G3 (T.drop k40) [58]=true:=(I9 (((hE.mono En).mono Qj).now PJ) (by decide)).trans (BK (Classical.not_not.1 (BW A6)))
 have OF:=UD.step ((hE.mono En).mono Qj) (Ig AFD)
 refine AV (tr (DE O ?_));refine yq O (AM O O O (by omega)) ?_;rw[show(k40:Int)+1=((k40+1:Nat):Int)from O];refine Eu (Iq tv (k40+1) vv40 sv40 0) O ?_ (by exact⟨O,O⟩);refine XN (yq O (AM O O O (by omega)) ?_);rw[show(d:Int)+1=((d+1:Nat):Int)from O];refine yc O (fun w hw=>IX b tv (k40+1) vv40 sv40 0 (d+1) _ _ _ w hw) ?_;rintro _ _ _ ⟨rfl,rfl,rfl⟩;refine ln (AA rfl (fun BJ=>?_) (fun BJ=>?_))
 ·have AQE:24<d+1:=by have h:=BM BJ;unfold Rk at h;rw[AI O]at h;rcases Nat.lt_or_ge 24 (d+1)with h1|h1;exact h1;exact Ac (AB (by omega)) h
  obtain rfl:n=0:=by omega
  rw[show Rk (d+1) 0=52 by unfold Rk;rw[AI rfl,AI AQE]];refine AK O (Ak (AP O O (fun w' hw=>?_)));exact⟨_,O,J40,Kq b tv (k40+1) vv40 sv40 S40 52 F,⟨(En.trans Qj),0,(k40+1),vv40,sv40,S40,52,O,O,HW ((RQ Lc hq hy1 AFD).trans O) (by decide) hl,(fun h=>Ac h (by decide))⟩,AD hw⟩
 have AeQ:d+1<=24:=by have h:=Classical.not_not.1 (BW BJ);unfold Rk at h;rw[AI O]at h;rcases Nat.lt_or_ge 24 (d+1)with h1|h1;rw[AI h1]at h;cases h;exact h1
 rw[show Rk (d+1) 0=0 by unfold Rk;rw[AI rfl,AB (by omega)]];refine AV (tr (CL 8 (zq O (AM O O O (by omega)) ?_)))
 refine zA 2 O (fun h69=>by
   exact zv O
  ) ?_
 refine FR (yc O (fun w hw=>(hR.2.1 (by omega)) (live&&decide (a13=0)) b tv T (k40+1) vv40 sv40 vs m S40 _ _ _ w ((hE.mono En).mono Qj) OF.1 (fun hv=>by rw[OF.2];exact AOG Lc hq hy1 AFD hl (by rw[Ay]at hv;exact hv.1)) (Gx hw)) ?_);rintro _ J70 _ ⟨Zm,a70,k70,vv70,sv70,S70,e70,rfl,rfl,Acd,ASY⟩;refine AH rfl (AF (AK rfl (AA rfl (fun Bj=>?_) (fun Bj=>?_))))
 ·have ha:=BM Bj
  refine AK O (Ak (AP O O (fun w' hw=>?_)));exact⟨_,O,J70,Kq b tv k70 vv70 sv70 S70 e70 F,⟨(En.trans (Qj.trans Zm)),a40,k70,vv70,sv70,S70,e70,O,O,AJO Lc hq hy1 AFD TF hx3 hy2 hy3 (OF.2 ▸ Acd) (fun _=>by rw[AI ha]) hl,ASY⟩,AD hw⟩
 have ha:¬a13≠0:=BW Bj
 refine AV (AK O (AX (AP O O (fun w' hw=>?_))));exact⟨_,O,J70,Kq b tv k70 vv70 sv70 S70 e70 F,⟨(En.trans (Qj.trans Zm)),a70,k70,vv70,sv70,S70,e70,O,O,AJO Lc hq hy1 AFD TF hx3 hy2 hy3 (OF.2 ▸ Acd) (fun _=>by rw[AB ha]) hl,ASY⟩,AD hw⟩
theorem Z8(d b:Nat)(tv:Value)(k:Nat)(vv sv:Value)(e:Nat)(live:Bool)(he:e≠0)(I:AQ)(F:List HA)(w0 w:World)(BZ:St w0 I (row b 253 (Iq tv k vv sv e)::F) w):Calls prog 151 [Gg b,.int .i64 (d:Int),.bool live].toArray w (ER w fun v I' H'=>v=.int .i64 0/\I=I'/\H'=row b 253 (Iq tv k vv sv e)::F):=by
 refine enter func151 O ntmps151 O (BZ.self) (AK O (AF (tr (yc O (fun w hw=>IX b tv k vv sv e d _ _ _ w hw) ?_))));rintro _ _ _ ⟨rfl,rfl,rfl⟩;refine ln ?_;rw[show Rk d e=e by unfold Rk;rw[AB he]];refine AA rfl (fun Ab=>?_) (fun Ab=>?_)
 ·refine AK O (Ak (AP O O (fun w' hw=>?_)));exact⟨_,O,I,_,⟨O,O,O⟩,AD hw⟩
 exact Ac he (BW Ab)
theorem AYD(d:Nat){rd:List Lx->PA}(h:T1 151 [.int .i64 (d:Int)] rd)(e0:Nat)(live:Bool)(b:Nat)(tv:Value)(T:List Lx)(k:Nat)(vv sv:Value)(vs:List Vr)(m:Nat)(S:List Dw)(I:AQ)(F:List HA)(w0 w:World)(hE:Qp I tv T vs m)(hT:WSt I T vs m k vv S)(hl:e0=0->live=true->M9 (rd (T.drop k)))(hw:St w0 I (Kq b tv k vv sv S e0 F) w):
  Calls prog 151 [Gg b,.int .i64 (d:Int),.bool live].toArray w (ER w fun v I' H'=>Le I I'/\∃(a:Int) (k':Nat) (vv' sv':Value) (S':List Dw) (e':Nat),v=.int .i64 a/\H'=Kq b tv k' vv' sv' S' e' F/\(e0≠0->e'=e0)/\(e0=0->Rw live (rd (T.drop k)) (vs.map Vr.nv) S T k' S' e' a/\(e'=0->Sl I' 5 vv' ((Jx S' vs).map DP)))):=by
 by_cases he:e0=0
 ·subst he;refine Calls.mono (h live b tv T k vv sv vs m S I F w0 w hE hT (hl rfl) hw) ?_;rintro _ _ ⟨v,rfl,I',_,⟨h1,a,k',vv',sv',S',e',rfl,rfl,h2,h3⟩,h4⟩;exact⟨_,rfl,I',_,⟨h1,a,k',vv',sv',S',e',rfl,rfl,fun h=>Ac rfl h,fun _=>⟨h2,h3⟩⟩,h4⟩
 refine Calls.mono (Z8 d b tv k vv sv e0 live he I _ w0 w hw) ?_;rintro _ _ ⟨v,rfl,I',_,⟨rfl,rfl,rfl⟩,h4⟩;exact⟨_,rfl,I,_,⟨Le.refl _,0,k,vv,sv,S,e0,rfl,rfl,fun _=>rfl,fun h=>Ac h he⟩,h4⟩
theorem AVR:∀t∈AFP,t≠[61]->t.take (t.length-1)=Lib.trimSuffix t [61]/\t.take (t.length-1)∈ASB/\1<=t.length/\t.length<=3:=by decide+kernel
theorem AQB{L:List Lx}(h1:T8 (Ar L))(h2:(Ar L).what=2->T8 (BP L)/\op=tkT (BP L))(h3:¬(Ar L).what=2->op=[]):HL L=decide (op∈AFP):=by
 by_cases hw:(Ar L).what=2
 ·obtain⟨h4,rfl⟩:=h2 hw;rw[AVV h1 h4,BK hw,Bool.true_and]
 unfold HL
 rw[DC hw,h3 hw];try rfl
theorem APU{L:List Lx}(h:HL L=true)(h2:T8 (BP L))(ho:op=tkT (BP L)):(BP L).text=op:=by
 unfold HL at h;simp only[Ay,BC]at h
 rw[ho];unfold tkT;rw[AB (by omega)]
set_option maxHeartbeats 2000000 in
theorem Vx(n d:Nat)(hn:25-d=n)(hd:d<=25)(hC:∀q,n=q+1->T1 185 [.int .i64 (d:Int)] (ED (FM q)))(hR:∀q,n=q+1->ABa ((d:Int)+1) q)(live:Bool)(b:Nat)(tv:Value)(T:List Lx)(k:Nat)(vv sv:Value)(vs:List Vr)(m:Nat)(S:List Dw)(I:AQ)(F:List HA)(w0 w:World)(hE:Qp I tv T vs m)(hT:WSt I T vs m k vv S)(hl:live=true->M9 ((FM n).asg (T.drop k)))(BZ:St w0 I (Kq b tv k vv sv S 0 F) w):Calls prog 151 [Gg b,.int .i64 (d:Int),.bool live].toArray w (ER w fun v I' H'=>Le I I'/\WkR b tv T vs S live ((FM n).asg (T.drop k)) F v I' H'):=by
 have hk:=hT.hk
 have hln:=hE.ln
 have hW:=hE.now hT.hk
 have htd:=Hu hE.tk hk
 refine enter func151 O ntmps151 O (BZ.self) (AK O (AF (tr (yc O (fun w hw=>IX b tv k vv sv 0 d _ _ _ w hw) ?_))));rintro _ _ _ ⟨rfl,rfl,rfl⟩;refine ln (AA rfl (fun Ab=>?_) (fun Ab=>?_))
 ·have AQE:24<d:=by have h:=BM Ab;unfold Rk at h;rw[AI O]at h;rcases Nat.lt_or_ge 24 d with h1|h1;exact h1;exact Ac (AB (by omega)) h
  obtain rfl:n=0:=by omega
  rw[show Rk d 0=52 by unfold Rk;rw[AI rfl,AI AQE]];refine AK O (Ak (AP O O (fun w' hw=>?_)));exact⟨_,O,I,Kq b tv k vv sv S 52 F,⟨(Le.refl _),0,k,vv,sv,S,52,O,O,HW O (by decide) hl,(fun h=>Ac h (by decide))⟩,AD hw⟩
 have AeQ:d<=24:=by have h:=Classical.not_not.1 (BW Ab);unfold Rk at h;rw[AI O]at h;rcases Nat.lt_or_ge 24 d with h1|h1;rw[AI h1]at h;cases h;exact h1
 obtain⟨q,rfl⟩:∃q,n=q+1:=⟨n-1,by omega⟩
 have hR:=hR q O
 rw[show Rk d 0=0 by unfold Rk;rw[AI rfl,AB (by omega)]]
 have hC:=hC q O
 refine AV (tr (yp O ((fun w hw=>GK b tv k vv sv 0 T w (by have:=hE.ln;omega) (D7 (b:=b) hw) (hE.sl.mono (hw.le)) hT.hk)) ?_));rw[show AG T k JF=Ar (T.drop k)from E9.symm];refine AH O (AK O (EZ (ι:=List UInt8) [0,1,2,6,13,7] (fun zz=>((Ar (T.drop k)).what=2->T8 (BP (T.drop k))/\zz=tkT (BP (T.drop k)))/\(¬(Ar (T.drop k)).what=2->zz=[])) (fun zz=>[(8,Au zz)]) (fun zz=>I) (fun zz=>(Kq b tv k vv sv S 0 F)) O ?_ ?_))
 ·refine tr (yp O ((fun w _=>TS _ w)) (ln (AA O (fun An=>?_) (fun An=>?_))))
  ·have h2:(Ar (T.drop k)).what=2:=BM ((Oa hW).1.symm.trans An)
   have hns:=IM h2 (by decide)
   obtain⟨Rn,_,hth⟩:=Y1 htd hns;refine Bd mo (by kernel_rfl) (fun _ _ _ _ _ h=>h) (zq rfl ((by exact Az rfl rfl (by rfl))) ?_);refine zq rfl ((by exact Az rfl rfl (by rfl))) ?_;refine zq rfl (AM rfl rfl rfl (by omega)) ?_;rw[show(k:Int)+1=((k+1:Nat):Int)from rfl];refine zq rfl ((by exact AN rfl Xg JQ rfl rfl (Sl.shape hE.sl (Af _)) (by omega))) ?_;refine zq rfl ((by exact Ai rfl rfl (SI (i:=k+1) (j:=0) hE.sl Rn rfl))) ?_;refine K5 1 rfl (KY (CB (tkT (AG T (k+1) JF)) ?_))
   exact⟨fun _=>⟨by rw[hth];exact hE.lw _ (BE Rn),by rw[hth]⟩,fun h=>Ac h2 h⟩
  have h2:¬(Ar (T.drop k)).what=2:=BW ((Oa hW).1.symm.trans An)
  refine AY (CB ([]) ?_)
  exact⟨fun h=>Ac h h2,fun _=>rfl⟩
 rintro op LS;refine AF (AK rfl (AJ (EZ (ι:=Bool) [8,0,1,2,6,13,7,30] (fun zz=>zz=HL (T.drop k)) (fun zz=>[(31,.bool zz)]) (fun zz=>I) (fun zz=>(Kq b tv k vv sv S 0 F)) rfl ?_ ?_)))
 ·refine AF ?_
  have hz:=AQB hW LS.1 LS.2
  refine AC (yq O (AR O O O) (AH O (AA O (fun A6=>?_) (fun A6=>?_))))
  ·refine AY (CB (decide (op=[61])) ?_)
   exact A6.trans (hz.trans (BK (by rw[BM A6];decide))).symm
  refine tr (yq O (AR O O O) (AH O (AA O (fun BJ=>?_) (fun BJ=>?_))))
  ·refine AY (CB (decide (op=[42,61])) ?_)
   exact BJ.trans (hz.trans (BK (by rw[BM BJ];decide))).symm
  refine tr (yq O (AR O O O) (AH O (AA O (fun Bj=>?_) (fun Bj=>?_))))
  ·refine AY (CB (decide (op=[47,61])) ?_)
   exact Bj.trans (hz.trans (BK (by rw[BM Bj];decide))).symm
  refine tr (yq O (AR O O O) (AH O (AA O (fun B4=>?_) (fun B4=>?_))))
  ·refine AY (CB (decide (op=[37,61])) ?_)
   exact B4.trans (hz.trans (BK (by rw[BM B4];decide))).symm
  refine tr (yq O (AR O O O) (AH O (AA O (fun CP=>?_) (fun CP=>?_))))
  ·refine AY (CB (decide (op=[43,61])) ?_)
   exact CP.trans (hz.trans (BK (by rw[BM CP];decide))).symm
  refine tr (yq O (AR O O O) (AH O (AA O (fun DF=>?_) (fun DF=>?_))))
  ·refine AY (CB (decide (op=[45,61])) ?_)
   exact DF.trans (hz.trans (BK (by rw[BM DF];decide))).symm
  refine tr (yq O (AR O O O) (AH O (AA O (fun GQ=>?_) (fun GQ=>?_))))
  ·refine AY (CB (decide (op=[60,60,61])) ?_)
   exact GQ.trans (hz.trans (BK (by rw[BM GQ];decide))).symm
  refine tr (yq O (AR O O O) (AH O (AA O (fun KD=>?_) (fun KD=>?_))))
  ·refine AY (CB (decide (op=[62,62,61])) ?_)
   exact KD.trans (hz.trans (BK (by rw[BM KD];decide))).symm
  refine tr (yq O (AR O O O) (AH O (AA O (fun EW=>?_) (fun EW=>?_))))
  ·refine AY (CB (decide (op=[38,61])) ?_)
   exact EW.trans (hz.trans (BK (by rw[BM EW];decide))).symm
  refine tr (yq O (AR O O O) (AH O (AA O (fun Eq=>?_) (fun Eq=>?_))))
  ·refine AY (CB (decide (op=[94,61])) ?_)
   exact Eq.trans (hz.trans (BK (by rw[BM Eq];decide))).symm
  refine AC (yq O (AR O O O) (AU O (CB (decide (op=[124,61])) ?_)))
  rw[hz]
  exact decide_eq_decide.2 ⟨fun h=>by rw[h];decide,fun h=>by
   simp only[AFP,Ci,List.not_mem_nil,or_false]at h
   simpa only[BW A6,BW BJ,BW Bj,BW B4,BW CP,BW DF,BW GQ,BW KD,BW EW,BW Eq,false_or]using h⟩
 rintro z hzb;dsimp only at *;refine AA rfl (fun Fb=>?_) (fun Fb=>?_)
 ·have hab:HL (T.drop k)=true:=hzb.symm.trans Fb
  have hz0:=AQB hW LS.1 LS.2
  refine AF ?_
  have CS:=hT.step hE (Su hab).1
  have OF:=CS.1.step hE (by rw[CS.2,YN htd.1];exact(Su hab).2)
  rw[CS.2]at OF
  have JM:(Ar (T.drop k)).what=2:=by have h:=hab;unfold HL at h;simp only[Ay,BC]at h;exact h.1.1
  have hot:=APU hab (LS.1 JM).1 (LS.1 JM).2
  have hrw:=Y6 hT.sa vs (Ar (T.drop k)).text
  have hlk:=(Oa hW).2 JM
  have hom:op∈AFP:=BM (hz0.symm.trans hab)
  refine AC (yq O ((by exact Az O O (by rfl))) ?_);refine yq O (AM O O O (by omega)) ?_;rw[show(k:Int)+2=((k+2:Nat):Int)from O];refine Eu (Iq tv (k+2) vv sv 0) O ?_ (by exact⟨O,O⟩);refine DL (AH O (EZ (ι:=Int×Nat) [31,8,0,1,2,6,13,7,30] (fun zz=>(live=true->op≠[61]->zz.1=(Bt (vs.map Vr.nv) S (Ar (T.drop k)).text).1/\zz.2=(Bt (vs.map Vr.nv) S (Ar (T.drop k)).text).2)/\((live=false\/op=[61])->zz.2=0)) (fun zz=>[(9,.int .i64 zz.1)]) (fun zz=>I) (fun zz=>(Kq b tv (k+2) vv sv S zz.2 F)) O ?_ ?_))
  ·refine tq ?_
   refine zA 2 O (fun h55=>by
     refine zq O (Bs O O O) ?_;exact zv O
    ) ?_
   refine Dp (AA O (fun GC=>?_) (fun GC=>?_))
   ·have hlo:live=true/\op≠[61]:=by have h:=GC;rw[Ay,BC]at h;exact h
    have hVs:I3 (Jx S vs):=AHd hT.sa hE.vl hE.vv (by have:=hT.ln;omega)
    refine AC (yc O (fun w hw=>TV b tv (k+2) vv sv (Jx S vs) (JA (Ar (T.drop k))) _ _ _ w hT.hv hVs (Al (row b 253 (Iq tv (k+2) vv sv 0)) hw)) ?_);rintro _ _ _ ⟨rfl,rfl,rfl⟩;refine AU rfl (CB (((atV (Jx S vs) (JA (Ar (T.drop k)))).1,(atV (Jx S vs) (JA (Ar (T.drop k)))).2)) ?_)
    dsimp only;exact⟨fun _ _=>by rw[hlk,hrw];exact⟨O,O⟩,fun h=>h.elim (fun h=>by rw[hlo.1]at h;cases h) (fun h=>Ac h hlo.2)⟩
   have hlo:¬(live=true/\op≠[61]):=fun h=>by have h4:=GC;rw[h.1,BK h.2]at h4;cases h4
   refine AY (CB ((0,0)) ?_)
   dsimp only;exact⟨fun h1 h2=>Ac ⟨h1,h2⟩ hlo,fun _=>rfl⟩
  rintro⟨a0,e0⟩ ⟨hr1,hr0⟩;dsimp only at *;refine tr (yq rfl (AM rfl rfl rfl (by omega)) ?_);refine yc rfl (fun w hw=>AYD (d+1) hR.1 e0 live b tv T (k+2) vv sv vs m S _ _ _ w hE OF.1 (fun _ hv=>by rw[OF.2];exact AIh hab hl hv) (Gx hw)) ?_;rintro _ J63 _ ⟨APc,a63,k63,vv63,sv63,S63,e63,rfl,rfl,AdL,AfO⟩;refine AH rfl (AF (tq (zq rfl ((by exact Az rfl rfl (by rfl))) ?_)))
  refine zO 2 O (fun h72=>by
    simp at h72
    exact zv O
   ) ?_
  refine Dp (AA O (fun I8=>?_) (fun I8=>?_))
  ·have Kp:Rw live (Gn (FM q) (T.drop k)) (vs.map Vr.nv) S T k63 S63 e63 0/\(e63=0->Sl J63 5 vv63 ((Jx S63 vs).map DP)):=by
    by_cases h0:e0=0
    ·subst h0;obtain⟨h1,h3⟩:=AfO rfl;rw[OF.2]at h1;refine⟨?_,h3⟩
     by_cases he:e63=0
     ·subst he;exact AQo hab h1 (by simpa using I8)
     exact AKA hab h1 he (fun hv ho=>by rw[hot]at ho;exact(hr1 hv ho).2.symm) hl
    have hv:live=true:=by cases hv:live with
     |true=>rfl
     |false=>exact Ac (hr0 (.inl hv)) h0
    have ho:op≠[61]:=fun h=>h0 (hr0 (.inr h))
    rw[AdL h0];exact⟨AKb hab hv (by rw[hot];exact ho) (hr1 hv ho).2.symm h0 hl,fun h=>Ac h h0⟩
   refine AK O (Ak (AP O O (fun w' hw=>?_)));exact⟨_,O,J63,Kq b tv k63 vv63 sv63 S63 e63 F,⟨APc,0,k63,vv63,sv63,S63,e63,O,O,Kp.1,Kp.2⟩,AD hw⟩
  have hz:e63=0/\live=true:=by
   have h:=I8
   rw[Bool.or_eq_false_iff,CA,Classical.not_not,Bool.not_eq_false']at h;exact⟨by omega,h.2⟩
  obtain⟨rfl,hv⟩:=hz
  have h00:e0=0:=Classical.byContradiction fun h=>h (AdL h).symm
  subst h00;obtain⟨AUM,Agc⟩:=AfO rfl
  have hL1:Ju m (T.drop (k+2)):=fun x hx=>hE.ok x (List.mem_of_mem_drop hx)
  have Aez:=Hu hE.tk OF.1.hk
  obtain⟨UD,AeD⟩:=OF.1.next hE ((DT q).asg _ Aez) ((Ki q).asg _ Aez) ((Ke q).asg _ hL1) AUM (Agc rfl);rw[OF.2]at AUM;refine AV (EZ (ι:=Int×Nat) [9,31,8,0,1,2,6,13,7,30,72] (fun zz=>(op=[61]/\zz.1=a63/\zz.2=0)\/(op≠[61]/\(CO (Lib.trimSuffix op [61]) a0 a63)=(zz.1,zz.2))) (fun zz=>[(10,.int .i64 zz.1)]) (fun zz=>J63) (fun zz=>(Kq b tv k63 vv63 sv63 S63 zz.2 F)) rfl ?_ ?_)
  ·refine tr (yq O (Bs O O O) (ln (AA O (fun Kg=>?_) (fun Kg=>?_))))
   ·have GV:=AVR op hom (BM Kg)
    have Ri:=GV.2.2.1
    have hl3:=GV.2.2.2
    refine AC (yq O (AW O BX O) (yq O (Bl O O O (by omega)) ?_));refine yq O (Ba O BX O O (by omega)) ?_;rw[show op.take ((op.length:Int)-1).toNat=Lib.trimSuffix op [61] by rw[show((op.length:Int)-1).toNat=op.length-1 by omega];exact GV.1];refine yc O (fun w hw=>Vh b tv k63 vv63 sv63 (Lib.trimSuffix op [61]) a0 a63 _ _ _ w (GV.1 ▸ GV.2.1) (Al (row b 253 (Iq tv k63 vv63 sv63 0)) hw)) ?_;rintro _ _ _ ⟨rfl,rfl,rfl⟩;refine AU rfl (CB (((CO (Lib.trimSuffix op [61]) a0 a63).1,(CO (Lib.trimSuffix op [61]) a0 a63).2)) ?_)
    dsimp only;exact .inr ⟨BM Kg,O⟩
   refine AY (CB ((a63,0)) ?_)
   dsimp only;exact .inl ⟨Classical.not_not.1 (BW Kg),O,O⟩
  rintro⟨a2,e2⟩ hd2;dsimp only at *;refine AF (tr (yq rfl ((by exact Az rfl rfl (by rfl))) ?_));refine AH rfl (AA rfl (fun MT=>?_) (fun MT=>?_))
  ·simp at MT
   have P3:e2≠0:=by omega
   obtain⟨ho,ht⟩:=hd2.resolve_left (fun h=>P3 h.2.2)
   have hr1:=hr1 hv ho
   refine AK O (Ak (AP O O (fun w' hw=>?_)));exact⟨_,O,J63,Kq b tv k63 vv63 sv63 S63 e2 F,⟨APc,0,k63,vv63,sv63,S63,e2,O,O,ARQ hab AUM hv (by rw[hot];exact ho) hr1.2.symm (by rw[hot,<-hr1.1,ht]) P3,(fun h=>Ac h P3)⟩,AD hw⟩
  simp at MT
  obtain rfl:e2=0:=by omega
  have hI2:E7 a2:=by
   rcases hd2 with ⟨_,rfl,_⟩|⟨ho,ht⟩
   ·exact AeD hv
   have h5:=ARF (op:=Lib.trimSuffix op [61]) ((hr1 hv ho).1 ▸ AAO (vars:=(vs.map Vr.nv)) hT.sa (Ar (T.drop k)).text) (AeD hv)
   rw[ht]at h5;exact h5
  refine AV (tr (yc O (fun w hw=>AFI b tv k63 vv63 sv63 S63 (Jx S63 vs) (JA (Ar (T.drop k))) a2 _ _ _ w hI2 (by have:=UD.ln;omega) (by rw[ABs];have:=UD.ln;have:=hE.vl;omega) UD.hv (Gx hw)) ?_));rintro _ J92 _ ⟨ABD,rfl,vv92,sv92,rfl,AiH⟩;refine DL (AH rfl (Ak (AP rfl rfl (fun w' hw=>?_))))
  have ATr:=AUl (a:=a2) hab AUM hv (by rw[hot];exact hd2.elim (fun h=>.inl ⟨h.1,h.2.1⟩) (fun h=>.inr ⟨h.1,(hr1 hv h.1).2.symm,by rw[<-(hr1 hv h.1).1];exact h.2⟩))
  rw[<-hlk]at ATr;exact⟨_,O,J92,Kq b tv k63 vv92 sv92 (S63++[(JA (Ar (T.drop k)),a2)]) 0 F,⟨(APc.trans ABD),a2,k63,vv92,sv92,(S63++[(JA (Ar (T.drop k)),a2)]),0,O,O,ATr,(fun _=>by rw[ALs];exact AiH)⟩,AD hw⟩
 have hab:HL (T.drop k)=false:=hzb.symm.trans Fb
 refine AY (AL (AS (tr (yc O (fun w hw=>hC live b tv T k vv sv vs m S _ _ _ w hE hT (fun hv=>by have h:=hl hv;rw[show(FM (q+1)).asg (T.drop k)=Gn (FM q) (T.drop k)from O,ACR hab]at h;exact h) (Gx hw)) ?_))));rintro _ J97 _ ⟨AjY,a97,k97,vv97,sv97,S97,e97,rfl,rfl,AiV,AiZ⟩;refine AH rfl (AX (AP rfl rfl (fun w' hw=>?_)));exact⟨_,rfl,J97,Kq b tv k97 vv97 sv97 S97 e97 F,⟨AjY,a97,k97,vv97,sv97,S97,e97,rfl,rfl,(ACR hab ▸ AiV:Rw live (Gn (FM q) (T.drop k)) _ _ _ _ _ _ _),AiZ⟩,AD hw⟩
theorem Ads:∀(n d:Nat),25-d=n->d<=25->ABa (d:Int) n
 |0,d,hn,hd=>⟨fun live b tv T k vv sv vs m S I F w0 w h1 h2 h3 h4=>Vx 0 d hn hd (fun q h=>by cases h) (fun q h=>by cases h) live b tv T k vv sv vs m S I F w0 w h1 h2 h3 h4,fun h=>Ac rfl h,fun live b tv T k vv sv vs m S I F w0 w h1 h2 h3 h4=>WV 0 d hn hd (fun q h=>by cases h) live b tv T k vv sv vs m S I F w0 w h1 h2 h3 h4⟩
 |q+1,d,hn,hd=>by
  have ih:ABa ((d:Int)+1) q:=Ads q (d+1) (by omega) (by omega)
  have hO:T1 232 [.int .i64 (d:Int)] (FM (q+1)).opd:=fun live b tv T k vv sv vs m S I F w0 w h1 h2 h3 h4=>WV (q+1) d hn hd (fun i h=>(show q=i by omega) ▸ ih) live b tv T k vv sv vs m S I F w0 w h1 h2 h3 h4
  have hS:=AJP q d (by omega) hO 10 (A5 _)
  have hC:T1 185 [.int .i64 (d:Int)] (ED (FM q)):=fun live b tv T k vv sv vs m S I F w0 w h1 h2 h3 h4=>AFH q d (by omega) (by omega) hS ih live b tv T k vv sv vs m S I F w0 w h1 h2 h3 h4
  exact⟨fun live b tv T k vv sv vs m S I F w0 w h1 h2 h3 h4=>Vx (q+1) d hn hd (fun i h=>(show q=i by omega) ▸ hC) (fun i h=>(show q=i by omega) ▸ ih) live b tv T k vv sv vs m S I F w0 w h1 h2 h3 h4,fun _=>hC,hO⟩
theorem ASN{I:AQ}{tv vv:Value}{vs:List Vr}(hs:s.length<=900000000)(h:Sl I 3 tv ((DM s).map Qb))(Wl:vs.length<=1000000)(Wh:∀v∈vs,v.value.length<=1000000000)(hv:Sl I 5 vv (vs.map DP)):Qp I tv (DM s) vs 900000000/\WSt I (DM s) vs 900000000 0 vv []:=by
 have hl:=N4 s
 have ht:=UW (s:=s) (by omega)
 exact⟨⟨h,ANQ _ _,ARG hs,ht,by omega,Wl,Wh⟩,⟨ht.pos,(fun _ h=>by cases h),(by show 0+((DM s).length-0)<=_;omega),hv⟩⟩
set_option maxHeartbeats 1000000 in
theorem U9(s:List UInt8)(vv:Value)(vs:List Vr)(live:Bool)(I:AQ)(F:List HA)(w0 w:World)(hs:s.length<=900000000)(Wl:vs.length<=1000000)(Wh:∀v∈vs,v.value.length<=1000000000)(hv:Sl I 5 vv (vs.map DP))(hl:live=true->∃x,Dy s=.ok x)(BZ:St w0 I F w):Calls prog 126 [Au s,vv,.bool live].toArray w (ER w fun v I' H'=>Le I I'/\H'=F/\∃(a:Int) (sv:Value) (S1:List Dw) (e:Nat),v=.tuple #[.int .i64 a,sv,.int .i64 (e:Int)]/\ADf live s (vs.map Vr.nv) a S1 e/\Sl I' 2 sv (S1.map F5)):=by
 refine enter func126 O ntmps126 O (BZ.self) (AK O (tr (yc O (fun w hw=>XG s _ _ _ w hs hw) ?_)));rintro tv J12 F ⟨Ts,rfl,QO⟩
 have hE:=ASN hs QO Wl Wh (hv.mono Ts)
 have hTl:=N4 s
 have hT0:=hE.2.hk
 refine Em (Iq tv 0 vv As 0) O ?_ (by obtain⟨A,c,h⟩:=Sl.lenOf QO (Af _);obtain⟨A2,c2,h2⟩:=Sl.lenOf (hv.mono Ts) (Af _);rw[h,h2];try rfl)
 refine JC (Iq tv 0 vv As 0) O fun b15=>(AH O (AF (AF (AEx (H':=Ap 190 2 F5 As []::_) ?_ (fun _ h=>CI 190 2 F5 h)))))
 refine FU (zq O ((by exact Az O O (by rfl))) ?_);refine zq O ((by exact AN O Xg JQ O O (Sl.shape QO (Af _)) (by omega))) ?_;refine zq O ((by exact Ai O O (SI (i:=0) (j:=0) QO hT0 O))) ?_;refine zq O (AR O O O) ?_
 refine zA 8 O (fun Tu=>by
   simp at Tu
   refine zq O ((by exact Az O O (by rfl))) ?_;refine zq O ((by exact AN O Xg JQ O O (Sl.shape QO (Af _)) (by omega))) ?_;refine zq O ((by exact Ai O O (SI (i:=0) (j:=2) QO hT0 O))) ?_;exact zv O
  ) ?_
 refine Dp (AA O (fun Ab=>?_) (fun Ab=>?_))
 ·have hbl:=(Xn s).1 (BM (ACW (hE.1.now hT0) Ab))
  refine AK O (Ak (Cu O O O O (fun w' hw=>?_)));exact⟨_,O,J12,_,⟨Ts,O,0,As,[],0,O,AKN hbl,(E3 (fun _ h=>by cases h))⟩,AD hw⟩
 have hnb:¬Lib.trimS s C1=[]:=fun h=>BW (ACW (hE.1.now hT0) Ab) ((Xn s).2 h)
 refine AV (tr (yc O (fun w hw=>(Ads 25 0 O (by decide)).1 live b15 tv (DM s) 0 vv As vs 900000000 [] _ _ _ w hE.1 hE.2 (ASI hnb hl) (Gx hw)) ?_));rintro _ J36 _ ⟨AHA,a36,k36,vv36,sv36,S36,e36,rfl,rfl,ATS,ASF⟩;refine AH rfl (EZ (ι:=Nat) [0,1,2,6,7,8,9,33,10] (fun zz=>(e36≠0/\zz=e36)\/(e36=0/\((zz=60/\¬(Ar ((DM s).drop k36)).what=0)\/(zz=0/\(Ar ((DM s).drop k36)).what=0)))) (fun zz=>[]) (fun zz=>J36) (fun zz=>(Kq b15 tv k36 vv36 sv36 S36 zz F)) rfl ?_ ?_)
 ·refine AF ?_
  have AXM:e36=0->k36<(DM s).length:=fun h=>by
   subst h;exact(hE.2.next hE.1 ((DT 25).asg _ hE.1.tk) ((Ki 25).asg _ hE.1.tk) ((Ke 25).asg _ hE.1.ok) ATS (ASF rfl)).1.hk
  refine FU (zq O ((by exact Az O O (by rfl))) ?_)
  refine zA 3 O (fun h46=>by
    simp at h46
    refine zp O ((fun w hw=>GK b15 tv k36 vv36 sv36 e36 (DM s) w (by omega) (D7 (b:=b15) hw) (QO.mono (AHA.trans hw.le)) (AXM (by omega)))) ?_;refine zq O (Bs O O O) ?_;exact zv O
   ) ?_
  refine Dp (AA O (fun An=>?_) (fun An=>?_))
  ·have h46:e36=0/\¬JA (Ar ((DM s).drop k36))=[]:=by
    have h:=An
    rw[Ay,BC,BC]at h;exact⟨by omega,by rw[E9];exact h.2⟩
   refine AC (yc O (fun w hw=>NN b15 tv k36 vv36 sv36 e36 60 _ _ _ w (Al (row b15 253 (Iq tv k36 vv36 sv36 e36)) hw)) ?_);rintro _ _ _ ⟨rfl,rfl,rfl⟩;refine C7 (CB ((if e36=0 then 60 else e36)) ?_)
   rw[AI h46.1];exact .inr ⟨h46.1,.inl ⟨O,fun h=>h46.2 ((AAX (hE.1.now (AXM h46.1))).2 h)⟩⟩
  have Agd:e36=0->JA (Ar ((DM s).drop k36))=[]:=fun h=>by
   have h2:=An
   rw[BK (show(e36:Int)=0 by omega),Bool.true_and,CA,Classical.not_not]at h2
   rw[E9];exact h2
  refine AY (CB (e36) ?_)
  by_cases h:e36=0
  ·exact .inr ⟨h,.inr ⟨h,(AAX (hE.1.now (AXM h))).1 (Agd h)⟩⟩
  exact .inl ⟨h,O⟩
 rintro e2 P3;refine AF (tr (yq rfl ((by exact Az rfl rfl (by rfl))) ?_));refine AH rfl (AA rfl (fun A6=>?_) (fun A6=>?_))
 ·simp at A6
  have hz:e2≠0:=by omega
  refine AF (Bd mo (by kernel_rfl) (fun _ _ _ _ _ h=>h) (zq O ((by exact Az O O (by rfl))) ?_));refine De O (Ak (Cu O O O O (fun w' hw=>?_)));exact⟨_,O,J36,_,⟨(Ts.trans AHA),O,0,As,[],e2,O,(P3.elim (fun h=>h.2 ▸ ARm hnb hl ATS h.1) (fun h=>h.2.elim (fun h2=>by have h3:=h.1;subst h3;rw[h2.1];exact ANG hnb hl ATS h2.2) (fun h2=>Ac h2.1 hz))),(E3 (fun _ h=>by cases h))⟩,AD hw⟩
 simp at A6
 have hz:e2=0:=by omega
 obtain⟨h0,h1⟩:=P3.resolve_left (fun h=>h.1 (h.2.symm.trans hz))
 have h1:=(h1.resolve_left (fun h=>by omega)).2
 subst h0;refine AV (AF (Bd mo (by kernel_rfl) (fun _ _ _ _ _ h=>h) (zq rfl ((by exact Az rfl rfl (by rfl))) ?_)));refine De rfl (AX (Cu rfl rfl rfl rfl (fun w' hw=>?_)));obtain⟨J,g1,g2,g3⟩:=FV (v:=sv36) (f:=F5) (l:=S36) (Al (Ap 190 2 F5 sv36 S36) hw) (fun _=>rfl);exact⟨_,rfl,J,_,⟨(Ts.trans (AHA.trans g1)),rfl,a36,sv36,S36,0,rfl,AYA hnb ATS h1,g3⟩,AD g2⟩
theorem AAD(s:List UInt8)(I:AQ)(F:List HA)(w0 w:World)(hs:s.length<=900000000)(BZ:St w0 I F w):Calls prog 125 [Au s].toArray w (ER w fun v I' H'=>Le I I'/\H'=F/\∃(a:Int) (S1:List Dw) (e:Nat),v=.int .i64 (e:Int)/\ADf false s [] a S1 e):=by
 refine enter func125 O ntmps125 O (BZ.self) (AK O (tr (yc O (fun w hw=>U9 s As [] false _ _ _ w hs (by decide) (fun _ h=>by cases h) (E3 (fun _ h=>by cases h)) (fun h=>by cases h) hw) ?_)));rintro _ J8 _ ⟨hJ8,rfl,a8,sv8,S8,e8,rfl,hr8,hs8⟩;refine AH rfl (AK rfl (AX (AP rfl rfl (fun w' hw=>?_))));exact⟨_,rfl,J8,_,⟨hJ8,rfl,a8,S8,e8,rfl,hr8⟩,AD hw⟩
theorem ADA(s:List UInt8)(vv:Value)(vs:List Vr)(I:AQ)(F:List HA)(w0 w:World)(hs:s.length<=900000000)(Wl:vs.length<=1000000)(Wh:∀v∈vs,v.value.length<=1000000000)(hv:Sl I 5 vv (vs.map DP))(BZ:St w0 I F w):Calls prog 97 [Au s,vv].toArray w (ER w fun v I' H'=>Le I I'/\H'=F/\∃sv,v=.tuple #[.int .i64 (Fc s (vs.map Vr.nv)).1,sv,.int .i64 ((Fc s (vs.map Vr.nv)).2.2:Int)]/\Sl I' 2 sv ((Fc s (vs.map Vr.nv)).2.1.map F5)):=by
 refine enter func97 O ntmps97 O (BZ.self) (AK O (AF (tr (yc O (fun w hw=>AAD s _ _ _ w hs hw) ?_))));rintro _ J9 _ ⟨hJ9,rfl,a9,S9,e9,rfl,hr9⟩;refine AH rfl (AK rfl (AA rfl (fun Ab=>?_) (fun Ab=>?_)))
 ·simp at Ab
  have he:e9≠0:=by omega
  have hev:=AJX hr9 he (vs.map Vr.nv)
  refine AK O (Ak (Cu O O O O (fun w' hw=>?_)));rw[hev];exact⟨_,O,J9,_,⟨hJ9,O,As,O,(E3 (fun _ h=>by cases h))⟩,AD hw⟩
 simp at Ab
 obtain rfl:e9=0:=by omega
 have hck:=AOH hr9
 refine AV (tr (yc O (fun w hw=>U9 s vv vs true _ _ _ w hs Wl Wh (hv.mono hJ9) (fun _=>hck) hw) ?_));rintro _ J15 _ ⟨AKy,rfl,a15,sv15,S15,e15,rfl,Aii,AhD⟩;refine AH rfl (AX (Cu rfl rfl rfl rfl (fun w' hw=>?_)))
 have hev:=Aii.2 O
 rw[hev];exact⟨_,O,J15,_,⟨hJ9.trans AKy,O,sv15,O,AhD⟩,AD hw⟩
end Go.Tri
