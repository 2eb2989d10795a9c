/-
 Quotes.
-/
import Derived.Test.YtbndcpjklngfhaaGreatDoorEB3
namespace Go.Tri
open Go.Proofs.Tryz
open Go.Proofs Go.RowKit
set_option maxRecDepth 10000
theorem Z3(n:Nat)(hW:∀m,n=m+1->L6 m)(b:Nat)(s:List UInt8)(kd dp:Nat)(v:Value)(L:List PE)(i:Nat)(I:AQ)(F:List HA)(w0 w:World)(hn:L.length<=200000000)(AcM:Gl L<=200000000)(hn9:24-dp=n)(hd:dp<=24)(hi:i<s.length)(hs:s.length<=100000000)(hc:AG s i 0=39\/AG s i 0=34)(hkd:kd<=2)(hG:Fr I)(P4:Cg I L)(BZ:St w0 I (row b 164 (GR s kd dp v)::Ap 147 5 Aa v L::F) w):Calls prog 102 [.pointer (some ⟨b,0,none⟩),Au (s.drop i)].toArray w (fun e w'=> ∃v0,e=.returned v0/\∃I' H',(Dv b s kd dp (Iv n (Wn n) (s.drop i) (L.map PE.pt)) v0 I I' F H')/\St w I' H' w'):=by
 have hdl:(s.drop i).length=s.length-i:=BA
 refine enter func102 O ntmps102 O (BZ.self) (AK O (tr (DE O ?_)));refine yq O (AW O BX O) (yq O (AW O BX O) (yq O (Bl O O O (by omega)) ?_));rw[show(s.length:Int)-((s.drop i).length:Int)=(i:Int) by omega];refine AH O (AF (Bd mo (by kernel_rfl) (fun _ _ _ _ _ h=>h) (EA O ?_)));refine EA O ?_;refine zp O ((fun w _=>VO s i dp false w (by omega))) ?_;rw[AJZ hi hd hc,hn9];obtain⟨r,hr⟩:∃r,r=Fh n (s.drop i):=⟨_,rfl⟩;rw[<-hr];refine De rfl (AF (AK rfl (AA rfl (fun Ab=>?_) (fun Ab=>?_))))
 ·simp at Ab
  have hx:JP r≠0:=by omega
  obtain⟨a,hrb⟩:=AAK hx;refine AK rfl (Ak (Aj rfl rfl rfl (fun w' hw=>?_)));exact⟨_,rfl,I,_,Dv.fail (v':=v) (L':=L) (Le.refl _) (Sx (hr.symm.trans hrb)) hx rfl P4,AD hw⟩
 simp at Ab
 have hx:JP r=0:=by omega
 obtain⟨k,QJ⟩:=AIt (hr ▸ MX n _) hx
 have hk:=N0 (EQ hi) (hr.symm.trans QJ)
 rw[show Ob i r=i+k by rw[QJ];rfl];refine AV (tr (DE O ?_));refine yq O (AM O O O (by omega)) ?_;refine yq O (Bl O O O (by omega)) ?_;refine yq O (CK O BX O O O (by omega)) ?_;obtain⟨inner,KM⟩:∃x,x=((s.drop i).take (k-1)).drop 1:=⟨_,rfl⟩;rw[show(s.drop ((i:Int)+1).toNat).take (((((i+k:Nat):Int))-1).toNat-((i:Int)+1).toNat)=inner by rw[KM,Rr,show((i:Int)+1).toNat=i+1 by omega,show(((((i+k:Nat):Int))-1).toNat-(i+1))=k-2 by omega]]
 have DK:inner.length=k-2:=by rw[KM,BA,BL];omega
 refine AH O (AF (tq (zq O ((by exact Bu O BX O O (by omega))) ?_)));refine zq O (Ae O O O O) ?_
 refine zO 2 O (fun h52=>by
   simp at h52
   refine zq O (AR O O O) ?_;exact zv O
  ) ?_
 refine Dp (AA O (fun An=>?_) (fun An=>?_))
 ·have h1:AG (s.drop i) 0 0=39\/inner=[]:=by simpa using An
  have hq:=Rq (W:=Wn n) (acc:=(L.map PE.pt)) (hr.symm.trans QJ) KM h1
  refine tr (yc O (fun w hw=>HE b s kd dp v L inner true _ _ _ w (by omega) (by omega) (fun x hx=>by have:=D4 hx;omega) (Bm (row b 164 (GR s kd dp v)) (Ap 147 5 Aa v L) hw)) ?_);rintro _ _ _ ⟨rfl,rfl,v55,rfl⟩;refine DL (yq rfl (Bl rfl rfl rfl (by omega)) ?_);refine AH rfl (Ak (Aj rfl rfl rfl (fun w' hw=>?_)));rw[show(((i+k:Nat):Int))-(i:Int)=(k:Int) by omega];exact⟨_,rfl,I,_,Dv.good (v':=v55) (L':=ES L inner true) (Le.refl _) hq rfl (Dj P4) (Fz _ _ _),AD hw⟩
 have h1:¬(AG (s.drop i) 0 0=39\/inner=[]):=by
  have h:=An
  rw[Bool.or_eq_false_iff,CA,CA]at h
  exact fun h2=>h2.elim h.1 h.2
 have hq:=ACE (W:=Wn n) (acc:=(L.map PE.pt)) (hr.symm.trans QJ) KM h1
 have KE:Fh n (s.drop i)=(lv n).1 (s.drop i):=by
  unfold Fh;rw[AI];rw[D0]at h1 ⊢;exact hc.resolve_left (fun h=>h1 (.inl h))
 obtain⟨m,rfl⟩:=AJB (KE.symm.trans (hr.symm.trans QJ));refine AV (tr (DE rfl ?_));refine yq rfl (AM rfl rfl rfl (by omega)) ?_;refine yc rfl (fun w hw=>hW m rfl inner 1 (dp+1) _ _ _ w (by omega) (by omega) (by omega) (by omega) hG hw) ?_;rintro _ J66 _ ⟨Zf,rfl,vl,e1,rfl,ET⟩;refine AH rfl (AF (AK rfl (AA rfl (fun A6=>?_) (fun A6=>?_))))
 ·simp at A6
  have Kn:e1≠0:=by omega
  have W4:=ET.f Kn
  have hqq:=hq.1 _ W4.1
  refine AK O (Ak (Aj O O O (fun w' hw=>?_)));exact⟨_,O,J66,_,Dv.fail (v':=v) (L':=L) Zf hqq Kn O (P4.mono Zf),AD hw⟩
 simp at A6
 have Kn:e1=0:=by omega
 obtain⟨l2,W4,EU⟩:=ET.t Kn
 have hqq:=hq.2 _ W4
 obtain⟨M,hM,C3,Wj⟩:=EU.un;refine AV (EZ (ι:=Value×List PE) [0,1,4,5,6,7,9,35,10,52,11,70] (fun zz=>zz.2=(if M=[]then ES L [] true else L)) (fun zz=>[]) (fun zz=>J66) (fun zz=>(row b 164 (GR s kd dp zz.1)::Ap 147 5 Aa zz.1 zz.2::F)) rfl ?_ ?_)
 ·refine tr ?_;refine yq O ((by exact BH O Fw O (Sl.lenOf C3 (Af _)))) ?_;refine AH O (AA O (fun BJ=>?_) (fun BJ=>?_))
  ·have hM0:M=[]:=List.eq_nil_of_length_eq_zero (by have:=BM BJ;omega)
   refine AC (yc O (fun w hw=>HE b s kd dp v L [] true _ _ _ w (by omega) (by simp) (fun x hx=>by have:=D4 hx;omega) (Bm (row b 164 (GR s kd dp v)) (Ap 147 5 Aa v L) hw)) ?_);rintro _ _ _ ⟨rfl,rfl,v76,rfl⟩;refine C7 (CB ((v76,ES L [] true)) ?_)
   dsimp only;rw[AI hM0]
  have hM0:¬M=[]:=fun h=>BW BJ (by rw[h];try rfl)
  refine AY (CB ((v,L)) ?_)
  dsimp only;rw[AB hM0]
 rintro⟨v',L1⟩ hL1;dsimp only at *
 have Oi:=WE L [] true
 have Wi:=ACp L [] true
 have hwb:=QC (m+1) 1 inner _ W4
 rw[hM,Af,IW]at hwb
 have AjG:L1.length<=L.length+1/\Gl L1=Gl L:=by
  rw[hL1];split
  ·exact⟨Oi,by rw[Wi];simp⟩
  exact⟨by omega,O⟩
 have AhU:Cg J66 L1:=by
  rw[hL1];split
  ·exact Dj (P4.mono Zf)
  exact P4.mono Zf
 refine tr (yc O (fun w hw=>AKv b s kd dp v' L1 M vl _ _ _ w (by omega) (by omega) C3 Wj (Bm (row b 164 (GR s kd dp v')) (Ap 147 5 Aa v' L1) hw)) ?_);rintro _ _ _ ⟨rfl,rfl,v79,rfl⟩;refine DL (yq rfl (Bl rfl rfl rfl (by omega)) ?_);refine AH rfl (AX (Aj rfl rfl rfl (fun w' hw=>?_)));rw[show(((i+k:Nat):Int))-(i:Int)=(k:Int) by omega]
 have Kp:(FZ L1 M).map PE.pt=Jk (if l2=[]then G2 (L.map PE.pt) [] true else L.map PE.pt) l2:=by
  rw[Q4,hM,hL1];congr 1;by_cases h:M=[]
  ·rw[AI h,AI (by rw[h];try rfl),Fz]
  rw[AB h,AB (fun h2=>h (List.map_eq_nil_iff.1 h2))]
 exact⟨_,O,J66,_,Dv.good (v':=v79) (L':=FZ L1 M) Zf hqq O (GA M L1 AhU Wj) Kp,AD hw⟩
end Go.Tri
