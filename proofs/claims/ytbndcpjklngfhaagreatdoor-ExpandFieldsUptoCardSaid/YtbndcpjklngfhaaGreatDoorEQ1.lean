/-
 A small scene; texts compared.
-/
import Derived.Test.YtbndcpjklngfhaaGreatDoorEM8
namespace Go.Tri
open Go.Proofs.Tryz
open Go.Proofs Go.RowKit
set_option maxRecDepth 10000
theorem AFy(vars:List Vr)(al outs:List (List UInt8))(vv sv ov pv:Value)(UG:JS pv)(s:List UInt8)(w:World)(Wh:Sl (Ao w) 5 vv (vars.map DP))(hsv:Sl (Ao w) 1 sv (al.map Ce))(NE:Sl (Ao w) 1 ov (outs.map Ce))(hsm:LZ vars al outs s<=1000000000)(Wl:vars.length<=1000000000):B2 prog 5 [.agg #[vv,sv,ov,pv],Au s] w (.bool (AAp vars al outs s)):=by
 have Amt:s.length+LB vars+(Lib.lens al+al.length)+(Lib.lens outs+outs.length)<=1000000000:=hsm
 refine enter func5 O ntmps5 O (St.start w (Ao w) (Le.refl _)) (tr (JC _ O fun b2=>?_));refine AH O (tr (yq O (AW O BX O) (AH O (AF (tr (yq O ((by exact Az O O (by rfl))) ?_))))));refine yq O ((by exact BH O Dn O (Sl.lenOf Wh (Af _)))) ?_;refine AH O (AJ (EB (ι:=Nat×Nat) [0,1,2,4,15,16] (fun zz=>zz.1<=vars.length/\zz.2=s.length+LB (vars.take zz.1)) (fun zz=>vars.length-zz.1) (fun zz=>[(17,.int .i64 (zz.1:Int)),(5,.int .i64 (zz.2:Int))]) (fun zz=>Ao w) (fun zz=>[row b2 25 [vv,sv,ov,pv]]) (0,s.length) O ?_ ?_))
 ·dsimp only;exact⟨Aw _,O⟩
 rintro⟨i,n⟩ ⟨hi,hn⟩;dsimp only at *
 have Amn:=ACv vars i
 refine AK O (AF (AA O (fun Ab=>?_) (fun Ab=>?_)))
 ·simp at Ab
  have DK:i<vars.length:=by omega
  have Lh:=Vi DK
  have AjX:=ACv vars (i+1)
  refine AV (AF (AJ (tr ?_)));refine yq O ((by exact AN O Dn DY O O (Sl.shape Wh (Af _)) (by omega))) ?_;refine yq O ((by exact Br O Ov DY O O (Nq (i:=i) Wh (by omega)))) ?_
  refine HO _ O fun b7=>?_
  refine El (DP (AG vars i Ez)) O ?_ (by exact C8 _);refine ln (AC (yq O ((by exact Az O O (by rfl))) ?_));refine yq O (AW O BX O) (yq O (AM O O O (by omega)) ?_);refine AU O (AL (AS (AC (yq O (AM O O O (by omega)) ?_))));refine AU O (DJ ((i+1,n+(AG vars i Ez).value.length)) ?_ ?_)
  ·dsimp only;exact⟨by omega,by rw[Vi DK,hn];omega⟩
  dsimp only
  show vars.length-(i+1)<vars.length-i
  omega
 simp at Ab
 have DK:i=vars.length:=by omega
 rw[DK,Gb]at hn;refine Av (AE (AE (AO (AS (AF (tr (yq O ((by exact Az O O (by rfl))) ?_)))))));refine yq O ((by exact Az O O (by rfl))) ?_;refine ye O (Cl (vs:=[_,_]) (css:=[[sv],[ov]]) O AYF Gs O O O O (by simp[hsv.one.1,NE.one.1]) (by simp[])) ?_;rintro _ _ _ ⟨b31,rfl,rfl,rfl⟩;refine CU b31 (fun Jz hJz Ajv=>?_)
 have hrw:=Kd (f:=JB) (sz:=1) [sv,ov] Ajv O O (fun _=>rfl)
 have ASW:=hsv.mono hJz
 have ATq:=NE.mono hJz
 refine yq O ((by exact BH O AYF O (Sl.lenOf (n:=2) hrw O))) ?_;refine AH O (AJ (EB (ι:=Nat×Nat) [17,0,1,2,4,15,16,18,31,32] (fun zz=>zz.1<=2/\zz.2=s.length+LB vars+ABL ([al,outs].take zz.1)) (fun zz=>2-zz.1) (fun zz=>[(33,.int .i64 (zz.1:Int)),(5,.int .i64 (zz.2:Int))]) (fun zz=>Jz) (fun zz=>[row b2 25 [vv,sv,ov,pv]]) (0,n) O ?_ ?_))
 ·dsimp only;exact⟨Aw _,hn⟩
 rintro⟨j,n⟩ ⟨hj,hn⟩;dsimp only at *
 have CH:=AIu [al,outs] j
 have Eg:ABL [al,outs]=(Lib.lens al+al.length)+((Lib.lens outs+outs.length)+0):=rfl
 refine AK O (AF (AA O (fun An=>?_) (fun An=>?_)))
 ·simp at An
  have W7:j<2:=by omega
  have TP:=ZF (ll:=[al,outs]) (i:=j) (by simpa using W7)
  have AjX:=AIu [al,outs] (j+1)
  have MG:Sq (AG [al,outs] j [])=Lib.lens (AG [al,outs] j [])+(AG [al,outs] j []).length:=rfl
  refine AV (AF (AJ (tr ?_)));refine yq O ((by exact AN O AYF Gs O O (Sl.shape (n:=2) hrw O) (by omega))) ?_;refine yq O ((by exact Ai O O (Oe (i:=j) hrw (by simpa using W7)))) ?_;refine AH O (AF (tr ?_));refine yq O ((by exact BH O BT O (Sl.lenOf (ZU ASW ATq W7) (Af _)))) ?_;refine AH O (AJ (EB (ι:=Nat×Nat) [33,17,0,1,2,4,15,16,18,31,32,34,9,37,38] (fun zz=>zz.1<=(AG [al,outs] j []).length/\zz.2=n+Lib.lens ((AG [al,outs] j []).take zz.1)) (fun zz=>(AG [al,outs] j []).length-zz.1) (fun zz=>[(39,.int .i64 (zz.1:Int)),(5,.int .i64 (zz.2:Int))]) (fun zz=>Jz) (fun zz=>[row b2 25 [vv,sv,ov,pv]]) (0,n) O ?_ ?_))
  ·dsimp only;exact⟨Aw _,O⟩
  rintro⟨m,n2⟩ ⟨hm,hn2⟩;dsimp only at *
  have AnN:=Lib.lens_take_le (AG [al,outs] j []) m
  refine AK O (AF (AA O (fun A6=>?_) (fun A6=>?_)))
  ·simp at A6
   have hml:m<(AG [al,outs] j []).length:=by omega
   have hs2:=Lib.lens_take_succ _ _ _ (Jq (d:=[]) hml)
   have Ahv:=Lib.lens_take_le (AG [al,outs] j []) (m+1)
   refine AV (AF (AJ (tr ?_)));refine yq O ((by exact AN O BT Co O O (Sl.shape (ZU ASW ATq W7) (Af _)) (by omega))) ?_;refine yq O ((by exact Ai O O (Et (i:=m) (ZU ASW ATq W7) (by omega)))) ?_;refine AH O (AC (yq O (AW O BX O) (yq O (AM O O O (by omega)) ?_)));refine AU O (AL (AS (AC (yq O (AM O O O (by omega)) ?_))));refine AU O (DJ ((m+1,n2+(AG (AG [al,outs] j []) m []).length)) ?_ ?_)
   ·dsimp only;exact⟨by omega,by rw[Lib.lens_take_succ _ _ _ (Jq (d:=[]) hml),hn2];omega⟩
   dsimp only
   show(AG [al,outs] j []).length-(m+1)<(AG [al,outs] j []).length-m
   omega
  simp at A6
  have hml:m=(AG [al,outs] j []).length:=by omega
  rw[hml,Gb]at hn2;refine Av (AE (AE (AO (AS (AC ?_)))));refine yq O ((by exact BH O BT O (Sl.lenOf (ZU ASW ATq W7) (Af _)))) ?_;refine yq O (AM O O O (by omega)) ?_;refine AU O (AL (AS (AC (yq O (AM O O O (by omega)) ?_))));refine AU O (DJ ((j+1,n2+(AG [al,outs] j []).length)) ?_ ?_)
  ·dsimp only;exact⟨by omega,by rw[ZF (by simpa using W7),hn2,hn];unfold Sq;omega⟩
  dsimp only
  show 2-(j+1)<2-j
  omega
 simp at An
 have W7:j=2:=by omega
 subst W7
 have hn9:n=LZ vars al outs s:=by rw[hn];show _+((Lib.lens al+al.length)+((Lib.lens outs+outs.length)+0))=s.length+LB vars+(Lib.lens al+al.length)+(Lib.lens outs+outs.length);omega
 refine Av (AE (AE (AO (AS (tq ?_)))))
 refine zA 4 O (fun h60=>by
   simp at h60
   refine zq O ((by exact Az O O (by rfl))) ?_;refine zq O ((by exact BH O Dn O (Sl.lenOf Wh (Af _)))) ?_;exact zv O
  ) ?_
 refine De O (AX (AP O O (fun w' hw=>?_)));refine⟨?_,(hw.less hJz).below⟩;unfold AAp;rw[<-hn9,show decide (n<=1500)=decide ((n:Int)<=1500)from decide_eq_decide.2 (by omega),show decide (vars.length<=20)=decide ((vars.length:Int)<=20)from decide_eq_decide.2 (by omega)]
 try rfl
theorem VB(v1 v2:Value)(l m:List (List UInt8))(w:World)(h1:Sl (Ao w) 1 v1 (l.map Ce))(h2:Sl (Ao w) 1 v2 (m.map Ce))(hl:l.length<=1000000000):B2 prog 10 [v1,v2] w (.bool (decide (l=m))):=by
 refine enter func10 O ntmps10 O (St.start w (Ao w) (Le.refl _)) (AK O (AF (tr ?_)));refine yq O ((by exact BH O BT O (Sl.lenOf h1 (Af _)))) ?_;refine yq O ((by exact BH O BT O (Sl.lenOf h2 (Af _)))) ?_;refine AH O (AA O (fun Ab=>?_) (fun Ab=>?_))
 ·simp at Ab
  have Dk:l.length≠m.length:=by omega
  refine AK O (Ak (AP O O (fun w' hw=>?_)));refine⟨?_,hw.below⟩;rw[DC (fun h9=>Dk (by rw[h9]))]
 simp at Ab
 have hlm:l.length=m.length:=by omega
 refine AV (AF (AK O (AJ (EB (ι:=Nat) [0,1,10] (fun zz=>zz<=l.length/\∀k,k<zz->AG l k []=AG m k []) (fun zz=>l.length-zz) (fun zz=>[(5,.int .i64 (zz:Int))]) (fun zz=>Ao w) (fun zz=>[]) 0 O ?_ ?_))))
 ·exact⟨Aw _,fun k h=>Ac h (Nat.not_lt_zero _)⟩
 rintro i ⟨hi,heq⟩;dsimp only at *;refine AF (tr ?_);refine yq rfl ((by exact BH rfl BT rfl (Sl.lenOf h1 (Af _)))) ?_;refine AH rfl (AA rfl (fun An=>?_) (fun An=>?_))
 ·simp at An
  have DK:i<l.length:=by omega
  refine AV (AF (AJ (AF (Bd mo (by kernel_rfl) (fun _ _ _ _ _ h=>h) ?_))));refine zq O ((by exact AN O BT Co O O (Sl.shape h1 (Af _)) (by omega))) ?_;refine zq O ((by exact Ai O O (Et (i:=i) h1 (by omega)))) ?_;refine zq O ((by exact AN O BT Co O O (Sl.shape h2 (Af _)) (by omega))) ?_;refine zq O ((by exact Ai O O (Et (i:=i) h2 (by omega)))) ?_;refine zq O (Bs O O O) (Dp (AA O (fun A6=>?_) (fun A6=>?_)))
  ·have AMY:AG l i []≠AG m i []:=BM A6
   refine AK O (Ak (AP O O (fun w' hw=>?_)));refine⟨?_,hw.below⟩;rw[DC (fun h9=>AMY (by rw[h9]))]
  have AMY:AG l i []=AG m i []:=Decidable.of_not_not (BW A6)
  refine AY (AL (AS (AC (yq O (AM O O O (by omega)) ?_))));refine AU O (DJ (i+1) ?_ ?_)
  ·refine⟨by omega,fun k hk=>?_⟩;rcases Nat.lt_succ_iff_lt_or_eq.1 hk with h|rfl
   ·exact heq k h
   exact AMY
  show l.length-(i+1)<l.length-i
  omega
 simp at An
 have DK:i=l.length:=by omega
 have Aib:l=m:=AKd hlm [] (fun k hk=>heq k (by omega))
 refine Av (AE (AE (AO (AS (AK O (AX (AP O O (fun w' hw=>?_))))))));refine⟨?_,hw.below⟩;rw[BK Aib]
end Go.Tri
