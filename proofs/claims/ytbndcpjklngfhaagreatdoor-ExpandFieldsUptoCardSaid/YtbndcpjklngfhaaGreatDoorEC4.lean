/-
 A list of variables: what stands there.
-/
import Derived.Test.YtbndcpjklngfhaaGreatDoorEB8
import Derived.Test.YtbndcpjklngfhaaGreatDoorPExV
import Derived.Test.YtbndcpjklngfhaaGreatDoorTriY
import Derived.Test.YtbndcpjklngfhaaGreatDoorPNum
import Derived.Lib.SmallJoins
namespace Go.Tri
open Go.Proofs.Tryz
open Go.Proofs Go.RowKit
set_option maxRecDepth 10000
variable {w w' w0:World} {v av:Value} {i u:Nat} {l s:List UInt8}
theorem C8(x:Vr):∀u∈DP x,u.oneCell'=true:=fun u hu=>by
 simp only[DP,Ci,List.not_mem_nil,or_false]at hu
 rcases hu with rfl|rfl|rfl|rfl|rfl<;>rfl
theorem ADe:JS As:=⟨rfl,rfl⟩
theorem Iy.mono{b:Nat}{cs:List Value}(h:Iy w b cs)(CH:Le (Ao w) (Ao w')):Iy w' b cs:=fun k u hk=>(h k u hk).mono CH
theorem OS(b:Nat)(l:List Vr)(lv av:Value)(w:World)(hn:l.length<=1000)(hb:Iy w b [lv,av])(hl:Sl (Ao w) 5 lv (l.map DP))(n:List UInt8):B2 prog 31 [.pointer (some ⟨b,0,none⟩),Au n] w (.int .i64 (Gr l n)):=by
 refine enter func31 O ntmps31 O (St.start w (Ao w) (Le.refl _)) (AK O (AF (AK O (AJ (EB (ι:=Nat) [0,1] (fun zz=>zz<=l.length/\∀k,k<zz->(AG l k Ez).name≠n) (fun zz=>l.length-zz) (fun zz=>[(5,.int .i64 (zz:Int))]) (fun zz=>Ao w) (fun zz=>[]) 0 O ?_ ?_)))))
 ·exact⟨Aw _,fun k h=>Ac h (Nat.not_lt_zero _)⟩
 rintro i ⟨hi,Cz⟩;dsimp only at *;refine AF (tr (yq rfl ((by exact Ai rfl rfl (A8 (hb 0 _ rfl)))) ?_));refine yq rfl ((by exact BH rfl Dn rfl (Sl.lenOf hl (Af _)))) ?_;refine AH rfl (AA rfl (fun Ab=>?_) (fun Ab=>?_))
 ·simp at Ab
  have DK:i<l.length:=by omega
  refine AV (AF (AJ (tr (yq O ((by exact Ai O O (A8 (hb 0 _ O)))) ?_))));refine yq O ((by exact AN O Dn DY O O (Sl.shape hl (Af _)) (by omega))) ?_;refine yq O ((by exact Ai O O (Md (i:=i) (j:=0) hl (by omega) O))) ?_;refine yq O (AR O O O) (ln (AA O (fun An=>?_) (fun An=>?_)))
  ·simp only[BC]at An
   have h:=AFv DK An Cz
   refine AK O (Ak (AP O O (fun w' hw=>?_)));refine⟨?_,hw.below⟩;rw[h]
  simp only[CA]at An
  have An:(AG l i Ez).name≠n:=An
  refine AY (AL (AS (AC (yq O (AM O O O (by omega)) ?_))));refine AU O (DJ (i+1) ?_ ?_)
  ·refine⟨by omega,fun k hk=>?_⟩;rcases Nat.lt_succ_iff_lt_or_eq.1 hk with h|rfl
   ·exact Cz k h
   exact An
  show l.length-(i+1)<l.length-i
  omega
 simp at Ab
 have h:=AGS (n:=n) (l:=l) (fun k hk=>Cz k (by omega))
 refine Av (AE (AE (AO (AS (AK O (AX (AP O O (fun w' hw=>?_))))))));refine⟨?_,hw.below⟩;rw[h]
theorem AAn(b:Nat)(l:List Vr)(lv av:Value)(w:World)(hn:l.length<=1000)(hb:Iy w b [lv,av])(hl:Sl (Ao w) 5 lv (l.map DP))(n:List UInt8):B2 prog 29 [.pointer (some ⟨b,0,none⟩),Au n] w (.agg (DP (FC l n)).toArray):=by
 refine enter func29 O ntmps29 O (St.start w (Ao w) (Le.refl _)) (tr (HO _ O fun b4=>?_));refine XN (yp O ((fun w hw=>OS b l lv av w hn (hb.mono hw.le) (hl.mono hw.le) n)) (AH O (AK O (AA O (fun Ab=>?_) (fun Ab=>?_)))))
 ·simp at Ab
  obtain⟨hrl,hx⟩:=ABo (n:=n) (l:=l) (by omega);refine tr (yq rfl ((by exact Ai rfl rfl (A8 (hb 0 _ rfl)))) ?_);refine yq rfl ((by exact Bq rfl Dn DY rfl rfl (Sl.shape hl (Af _)) (by omega))) ?_;refine yq rfl ((by exact Br rfl Ov DY rfl rfl (Nq (i:=(Gr l n).toNat) hl (by omega)))) ?_;refine El _ rfl ?_ (by exact C8 _);refine ln (AX (Ah (B6 (.inl rfl) rfl (by exact Cb rfl Ov DY rfl rfl (Cc)) (fun w' hw=>?_))));refine⟨?_,hw.below⟩
  rw[hx];try rfl
 simp at Ab
 have hx:=ASO (n:=n) (l:=l) (by omega)
 refine AV (tr (Em [_,_,_,_,_] O (El _ O ?_ (by exact C8 ⟨n,[],false,false,true⟩))));refine ln (AX (B6 (.inl O) O (by exact Cb O Ov DY O O (Cc)) (fun w' hw=>?_)));refine⟨?_,hw.below⟩
 rw[hx];try rfl
theorem ARL(b:Nat)(l:List Vr)(lv av:Value)(w:World)(hn:l.length<=1000)(hb:Iy w b [lv,av])(hl:Sl (Ao w) 5 lv (l.map DP))(n:List UInt8):B2 prog 48 [.pointer (some ⟨b,0,none⟩),Au n] w (.tuple #[Au (FC l n).value,.bool (!(FC l n).u)]):=by
 refine enter func48 O ntmps48 O (St.start w (Ao w) (Le.refl _)) (AK O (tr (yp O ((fun w hw=>AAn b l lv av w hn (hb.mono hw.le) (hl.mono hw.le) n)) (HO _ O fun b6=>?_))));refine El _ O ?_ (by exact C8 _);refine lnt (Bd mo (by kernel_rfl) (fun _ _ _ _ _ h=>h) (EA O ?_));refine EA O ?_;refine De O (AX (Aj O O O (fun w' hw=>?_)));refine⟨?_,hw.below⟩
 rfl
theorem Ach(s:List UInt8)(i:Nat):(!CV (AG s i 0)&&(decide ((i:Int)=0)|| !BO (AG s i 0)))= !XJ s i:=by
 unfold XJ
 by_cases h1:(i:Int)=0<;>cases CV (AG s i 0)<;>cases BO (AG s i 0)<;>simp[h1]<;>omega
def Ce(s:List UInt8):List Value:=[Au s]
theorem B1(s:List UInt8):∀u∈Ce s,u.oneCell'=true:=fun u hu=>by
 rw[Ce,FK]at hu;subst hu;rfl
theorem AYn{I:AQ}{l:List Vr}(h:Sl I 5 v (l.map DP))(hi:i<=l.length):Sl I 5 (F7 5 0 i v) ((l.take i).map DP):=by
 have:=Sl.cutM h (Aw i) hi
 rwa [PB,Nat.sub_zero]at this
theorem AAP(c:UInt8)(w:World):B2 prog 52 [u8 c] w (.bool (CV c)):=by
 refine enter func52 O ntmps52 O (St.start w (Ao w) (Le.refl _)) (AK O (tq ?_))
 refine zA 2 O (fun h8=>by
   simp at h8
   exact zv O
  ) ?_
 refine zO 6 O (fun h16=>by
   simp at h16
   refine zA 2 O (fun h15=>by
     simp at h15
     exact zv O
    ) ?_
   exact zv O
  ) ?_
 refine zO 2 O (fun h20=>by
   simp at h20
   refine zq O (Ae O O O O) ?_;exact zv O
  ) ?_
 refine De O (AX (AP O O (fun w' hw=>?_)));refine⟨?_,hw.below⟩
 rfl
theorem ACn(c:UInt8)(w:World):B2 prog 53 [u8 c] w (.bool (BO c)):=by
 refine enter func53 O ntmps53 O (St.start w (Ao w) (Le.refl _)) (AK O (tq ?_))
 refine zA 2 O (fun h8=>by
   simp at h8
   exact zv O
  ) ?_
 refine De O (AX (AP O O (fun w' hw=>?_)));refine⟨?_,hw.below⟩
 rfl
theorem MZ(s:List UInt8)(w:World)(hs:s.length<=4611686018427387904):B2 prog 30 [Au s] w (.bool (CF s)):=by
 refine enter func30 O ntmps30 O (St.start w (Ao w) (Le.refl _)) (AK O (AF (AK O (AJ (EB (ι:=Nat) [0] (fun i=>i<=s.length/\∀k,k<i->XJ s k=true) (fun i=>s.length-i) (fun i=>[(3,.int .i64 (i:Int))]) (fun i=>Ao w) (fun i=>[]) 0 O ?_ ?_)))))
 ·exact⟨Aw _,fun k hk=>Ac hk (Nat.not_lt_zero _)⟩
 rintro i ⟨hi,DD⟩;refine AF (tr (yq rfl (AW rfl BX rfl) (AH rfl (AA rfl (fun Ab=>?_) (fun Ab=>?_)))))
 ·simp at Ab
  refine AV (AF (AJ (tq (zq O ((by exact AZ O BX O O (by omega))) ?_))));refine zp O ((fun w _=>AAP _ w)) ?_
  refine zA 9 O (fun h25=>by
    simp at h25
    refine zO 5 O (fun h24=>by
      simp at h24
      refine zq O ((by exact AZ O BX O O (by omega))) ?_;refine zp O ((fun w _=>ACn _ w)) ?_;exact zv O
     ) ?_
    exact zv O
   ) ?_
  refine Dp (AA O (fun An=>?_) (fun An=>?_))
  ·have AGe:XJ s i=false:=by have:=Ach s i;rw[show _=true from An]at this;simpa using this
   refine AK O (Ak (AP O O (fun w' hw=>?_)));refine⟨?_,hw.below⟩;rw[TG (by omega) AGe]
  have AGe:XJ s i=true:=by have:=Ach s i;rw[show _=false from An]at this;simpa using this
  refine AY (AL (AS (AC (yq O (AM O O O (by omega)) ?_))));refine AU O (DJ (i+1) ?_ ?_)
  ·refine⟨by omega,fun k hk=>?_⟩;rcases Nat.lt_succ_iff_lt_or_eq.1 hk with h|rfl
   ·exact DD k h
   exact AGe
  omega
 simp at Ab
 refine Av (AE (AE (AO (AS (tr (yq O (Bs O O O) (AH O (AX (AP O O (fun w' hw=>?_))))))))));refine⟨?_,hw.below⟩;rw[YU fun k hk=>DD k (by omega)]
theorem YH(b:Nat)(l:List Vr)(x:Vr)(lv av:Value)(hav:JS av)(hl:l.length<=64)(I:AQ)(Ew:Sl I 5 lv (l.map DP))(F:List HA)(w0 w:World)(BZ:St w0 I (row b 49 [lv,av]::F) w):Calls prog 32 [.pointer (some ⟨b,0,none⟩),.agg (DP x).toArray].toArray w (ER w fun v I' H'=>Le I I'/\v=.tuple #[]/\∃lv',H'=row b 49 [lv',av]::F/\Sl I' 5 lv' ((QT l x).map DP)):=by
 refine enter func32 O ntmps32 O (BZ.self) (tr (JC _ O fun b3=>?_));refine XN (yq O ((by exact Az O O (by rfl))) ?_);refine yp O ((fun w hw=>OS b l lv av w (by omega) (B5 hw) (Ew.mono hw.le) x.name)) ?_;refine AH O (AK O (AA O (fun Ab=>?_) (fun Ab=>?_)))
 ·simp at Ab
  obtain⟨hrl,hx⟩:=ABo (n:=x.name) (l:=l) (by omega)
  have hpt:=ATN (x:=x) (l:=l) (by omega)
  refine tr (ye O (Bn O Dn DY) ?_);rintro v13 _ _ ⟨⟨b13,AmZ⟩,rfl,rfl⟩;refine yq rfl ((by exact Az rfl rfl (by rfl))) ?_;refine ye rfl (BG (f:=DP) (l:=[]) (ls:=l) rfl Dn DY rfl rfl rfl rfl (Ew) rfl (fun _=>rfl) C8 (by(try simp only[maxLen,Bb]);omega) (by(try simp only[Bb]);omega)) ?_;rintro v18 _ _ ⟨rfl,rfl⟩;refine FB (H':=Ap 46 5 DP v18 l::_) ?_ (fun _ h=>h);refine AOd v18 (fun AlR AGl=>?_);refine AH rfl (tr (yq rfl (A7 rfl Ov DY rfl rfl rfl) ?_));refine yq rfl ((by exact HX rfl Dn DY rfl rfl (by omega))) ?_;refine y0 rfl (Df (x) rfl DY rfl rfl (C8 x) (fun _=>rfl) hrl (by decide)) ?_;rintro _ _ _ ⟨rfl,rfl⟩;refine FB (H':=Ap 46 5 DP v18 (l.set (Gr l x.name).toNat x)::_) ?_ (fun _ h=>h);refine DL (Eu [v18,av] rfl ?_ (by assumption));refine ln (Ak (I7 rfl (fun w' hw=>?_)));obtain⟨J,hJ,JM,C3⟩:=FV (f:=DP) (Bm (Ap 46 5 DP v18 (l.set (Gr l x.name).toNat x)) (row b 49 [v18,av]) hw) (fun _=>rfl);exact⟨_,rfl,J,_,⟨hJ,rfl,v18,rfl,by rw[hpt];exact C3⟩,AD JM⟩
 simp at Ab
 have OG:=OK (n:=x.name) (l:=l) (by omega)
 refine AV (AK O (AF (AJ (EB (ι:=Nat) [0,1,3,4,12] (fun zz=>zz<=l.length/\∀k,k<zz->Op.bytesLess (AG l k Ez).name x.name=true) (fun zz=>l.length-zz) (fun zz=>[(6,.int .i64 (zz:Int))]) (fun zz=>I) (fun zz=>(row b3 46 (DP x)::row b 49 [lv,av]::F)) 0 O ?_ ?_))))
 ·exact⟨Aw _,fun k h=>Ac h (Nat.not_lt_zero _)⟩
 rintro i ⟨hi,Eg⟩;dsimp only at *;refine AF (AF (Bd mo (by kernel_rfl) (fun _ _ _ _ _ h=>h) (zq rfl ((by exact Az rfl rfl (by rfl))) ?_)));refine zq rfl ((by exact BH rfl Dn rfl (Sl.lenOf Ew (Af _)))) ?_
 refine zA 11 O (fun h46=>by
   simp at h46
   have DK:i<l.length:=by omega
   refine zq O ((by exact Az O O (by rfl))) ?_;refine zq O ((by exact AN O Dn DY O O (Sl.shape Ew (Af _)) (by omega))) ?_;refine zq O ((by exact Ai O O (Md (i:=i) (j:=0) Ew (by omega) O))) ?_;refine zq O ((by exact Az O O (by rfl))) ?_;refine zq O (Rz O O O) ?_;exact zv O
  ) ?_
 refine Dp (AA O (fun An=>?_) (fun An=>?_))
 ·rw[Ay]at An
  have DK:i<l.length:=by have:=BM An.1;omega
  have hbl:=An.2
  refine AV (AJ (AC (yq O (AM O O O (by omega)) ?_)));refine AU O (AL (DJ (i+1) ?_ ?_))
  ·refine⟨by omega,fun k hk=>?_⟩;rcases Nat.lt_succ_iff_lt_or_eq.1 hk with h|rfl
   ·exact Eg k h
   exact hbl
  show l.length-(i+1)<l.length-i
  omega
 have AXd:ADn l x.name=i:=AUj hi Eg (fun DK=>by have h9:=An;rw[BK (show(i:Int)<(l.length:Int) by omega),Bool.true_and]at h9;exact h9)
 have hpt:=TD OG
 rw[AXd]at hpt;refine Av (AE (AE (AO (AS (Bo [1,8,10,11,18,21] [21] [row b 49 [lv,av],row b3 46 (DP x)] mo (by kernel_rfl) (fun _ _ _ _ _ h=>h) (xr [0,2,3,4] O O (x0 5 O (Le.refl _) O (fun _ hI=>(by exact Az O O (by rfl))) ?_)))))));refine xr [6] O O (xf 7 O O (fun _=>(by exact IK O Dn DY O O (Sl.capOf Ew (Af _)) (by omega))) ?_);refine x0 9 O (Le.refl _) O (fun _ hI=>A7 O Ov DY O O O) (xr [12,13,14] O O (x0 15 O (Le.refl _) O (fun _ hI=>(by exact Az O O (by rfl))) ?_));refine xr [16] O O (xf 17 O O (fun _=>(by exact CW O Dn DY O O (Sl.lenOf Ew (Af _)) (by omega))) ?_);refine Gp 1 10 (by kernel_rfl) (by kernel_rfl) ?_ ?_
 ·refine Oq 1 O O (Le.refl _) O O O (Bn O Dn DY) ?_;rintro v50 _ _ ⟨⟨b50,AjQ⟩,rfl,rfl⟩;refine xk (Gp 8 10 (by kernel_rfl) (by kernel_rfl) ?_ ?_)
  ·refine Oq 8 O O (Le.refl _) O O O (BG (f:=DP) (l:=[]) (ls:=l.take i) O Dn DY O O O O (AYn Ew hi) O (fun _=>rfl) C8 (by(try simp only[maxLen,Bb,BL]);omega) (by(try simp only[Bb,BL]);omega)) ?_;rintro v57 _ _ ⟨rfl,rfl⟩;refine xk (xe 10 rfl rfl (BD rfl Dn DY rfl rfl rfl (by rfl) rfl) ?_);rintro _ _ _ ⟨b59,rfl,rfl,rfl⟩;refine xk ?_;refine xe 11 rfl rfl (B8 (f:=DP) (l:=l.take i) (c:=x) rfl Dn DY rfl rfl rfl rfl rfl rfl rfl (C8 x) (by(try simp only[maxLen,BL]);omega) (by(try simp only[BL]);omega)) ?_;rintro v60 _ _ ⟨rfl,rfl⟩;refine xk ?_;refine xe 18 rfl rfl (BG (f:=DP) (l:=l.take i++[x]) (ls:=l.drop i) rfl Dn DY rfl rfl rfl rfl (Sl.dropM Ew rfl hi) rfl (fun _=>rfl) C8 (by(try simp only[maxLen,Bh,BL,BA,CD,Bb]);omega) (by(try simp only[Bh,BL,BA,CD,Bb]);omega)) ?_;rintro v67 _ _ ⟨rfl,rfl⟩;refine xk (Fd v67 (fun AWb AGl=>?_));refine xr [19,20] rfl rfl ?_;refine FP 21 (by kernel_rfl) (by kernel_rfl) rfl (Le.refl _) rfl rfl (Bz rfl Mf rfl rfl (by assumption) rfl (by rfl)) ?_;rintro _ _ _ ⟨rfl,rfl⟩;refine⟨Le.refl _,.inl rfl,?_⟩
   refine Bx (H':=row b 49 [v67,av]::_) ?_ (fun _ h=>h);refine CX (EK O (fun w' hw=>?_));obtain⟨J,hJ,JM,C3⟩:=FV (f:=DP) (Bm (Ap 46 5 DP v67 (l.take i++[x]++l.drop i)) (row b 49 [v67,av]) hw) (fun _=>rfl);exact⟨_,rfl,J,_,⟨hJ,rfl,v67,rfl,by rw[hpt];exact C3⟩,AD JM⟩
  refine Oq 10 O O (Le.refl _) O O O (BD O Dn DY O O O (by rfl) O) ?_;rintro _ _ _ ⟨b59,rfl,rfl,rfl⟩;refine xk ?_;refine xe 8 rfl rfl (BG (f:=DP) (l:=[]) (ls:=l.take i) rfl Dn DY rfl rfl rfl rfl (AYn Ew hi) rfl (fun _=>rfl) C8 (by(try simp only[maxLen,Bb,BL]);omega) (by(try simp only[Bb,BL]);omega)) ?_;rintro v57 _ _ ⟨rfl,rfl⟩;refine xk ?_;refine xe 11 rfl rfl (B8 (f:=DP) (l:=l.take i) (c:=x) rfl Dn DY rfl rfl rfl rfl rfl rfl rfl (C8 x) (by(try simp only[maxLen,BL]);omega) (by(try simp only[BL]);omega)) ?_;rintro v60 _ _ ⟨rfl,rfl⟩;refine xk ?_;refine xe 18 rfl rfl (BG (f:=DP) (l:=l.take i++[x]) (ls:=l.drop i) rfl Dn DY rfl rfl rfl rfl (Sl.dropM Ew rfl hi) rfl (fun _=>rfl) C8 (by(try simp only[maxLen,Bh,BL,BA,CD,Bb]);omega) (by(try simp only[Bh,BL,BA,CD,Bb]);omega)) ?_;rintro v67 _ _ ⟨rfl,rfl⟩;refine xk (Fd v67 (fun AWb AGl=>?_));refine xr [19,20] rfl rfl ?_;refine FP 21 (by kernel_rfl) (by kernel_rfl) rfl (Le.refl _) rfl rfl (Bz rfl Mf rfl rfl (by assumption) rfl (by rfl)) ?_;rintro _ _ _ ⟨rfl,rfl⟩;refine⟨Le.refl _,.inl rfl,?_⟩
  refine Bx (H':=row b 49 [v67,av]::_) ?_ (fun _ h=>h);refine CX (EK O (fun w' hw=>?_));obtain⟨J,hJ,JM,C3⟩:=FV (f:=DP) (Bm (Ap 46 5 DP v67 (l.take i++[x]++l.drop i)) (row b 49 [v67,av]) hw) (fun _=>rfl);exact⟨_,rfl,J,_,⟨hJ,rfl,v67,rfl,by rw[hpt];exact C3⟩,AD JM⟩
 refine Oq 10 O O (Le.refl _) O O O (BD O Dn DY O O O (by rfl) O) ?_;rintro _ _ _ ⟨b59,rfl,rfl,rfl⟩;refine xk (xe 1 rfl rfl (Bn rfl Dn DY) ?_);rintro v50 _ _ ⟨⟨b50,AjQ⟩,rfl,rfl⟩;refine xk ?_;refine xe 8 rfl rfl (BG (f:=DP) (l:=[]) (ls:=l.take i) rfl Dn DY rfl rfl rfl rfl (AYn Ew hi) rfl (fun _=>rfl) C8 (by(try simp only[maxLen,Bb,BL]);omega) (by(try simp only[Bb,BL]);omega)) ?_;rintro v57 _ _ ⟨rfl,rfl⟩;refine xk ?_;refine xe 11 rfl rfl (B8 (f:=DP) (l:=l.take i) (c:=x) rfl Dn DY rfl rfl rfl rfl rfl rfl rfl (C8 x) (by(try simp only[maxLen,BL]);omega) (by(try simp only[BL]);omega)) ?_;rintro v60 _ _ ⟨rfl,rfl⟩;refine xk ?_;refine xe 18 rfl rfl (BG (f:=DP) (l:=l.take i++[x]) (ls:=l.drop i) rfl Dn DY rfl rfl rfl rfl (Sl.dropM Ew rfl hi) rfl (fun _=>rfl) C8 (by(try simp only[maxLen,Bh,BL,BA,CD,Bb]);omega) (by(try simp only[Bh,BL,BA,CD,Bb]);omega)) ?_;rintro v67 _ _ ⟨rfl,rfl⟩;refine xk (Fd v67 (fun AWb AGl=>?_));refine xr [19,20] rfl rfl ?_
 refine FP 21 (by kernel_rfl) (by kernel_rfl) O (Le.refl _) O O (Bz O Mf O O (by assumption) O (by rfl)) ?_;rintro _ _ _ ⟨rfl,rfl⟩;refine⟨Le.refl _,.inl rfl,?_⟩;refine Bx (H':=row b 49 [v67,av]::_) ?_ (fun _ h=>h);refine CX (EK rfl (fun w' hw=>?_));obtain⟨J,hJ,JM,C3⟩:=FV (f:=DP) (Bm (Ap 46 5 DP v67 (l.take i++[x]++l.drop i)) (row b 49 [v67,av]) hw) (fun _=>rfl);exact⟨_,rfl,J,_,⟨hJ,rfl,v67,rfl,by rw[hpt];exact C3⟩,AD JM⟩
theorem MV(b:Nat)(l:List Vr)(n v:List UInt8)(lv av:Value)(hav:JS av)(hl:l.length<=64)(hn:n.length<=1000000000)(I:AQ)(Ew:Sl I 5 lv (l.map DP))(F:List HA)(w0 w:World)(BZ:St w0 I (row b 49 [lv,av]::F) w):Calls prog 13 [.pointer (some ⟨b,0,none⟩),Au n,Au v].toArray w (fun e w'=> ∃v0,e=.returned v0/\∃I' H',(Le I I'/\v0=.int .i64 ((Cm l n v).1:Int)/\∃lv',H'=row b 49 [lv',av]::F/\Sl I' 5 lv' ((Cm l n v).2.map DP))/\St w I' H' w'):=by
 refine enter func13 O ntmps13 O (BZ.self) (AK O (tr (yp O ((fun w hw=>AAn b l lv av w (by omega) (B5 hw) (Ew.mono hw.le) n)) ?_)))
 refine HO _ O fun b7=>?_
 refine El (DP (FC l n)) O ?_ (by exact C8 _);refine lnt (AJ (tr (yp O ((fun w _=>MZ n w (by omega))) ?_)));refine AH O (AA O (fun Ab=>?_) (fun Ab=>?_))
 ·have h1:CF n=false:=by rw[FJ]at Ab;exact Ab
  refine AK O (Ak (AP O O (fun w' hw=>?_)));rw[ALW h1];exact⟨_,O,I,_,⟨Le.refl _,O,lv,O,Ew⟩,AD hw⟩
 have h1:CF n=true:=by rw[Bool.not_eq_false']at Ab;exact Ab
 refine tr (DE O ?_);refine AH O (AA O (fun An=>?_) (fun An=>?_))
 ·refine AK O (Ak (AP O O (fun w' hw=>?_)));rw[AUD h1 An];exact⟨_,O,I,_,⟨Le.refl _,O,lv,O,Ew⟩,AD hw⟩
 refine tr (yq O (AW O BX O) (AH O (AA O (fun A6=>?_) (fun A6=>?_))))
 ·simp at A6
  have h3:65536<v.length:=by omega
  refine AK O (Ak (AP O O (fun w' hw=>?_)));rw[ALD h1 An h3];exact⟨_,O,I,_,⟨Le.refl _,O,lv,O,Ew⟩,AD hw⟩
 simp at A6
 have h3:¬65536<v.length:=by omega
 refine tq (zp O ((fun w hw=>OS b l lv av w (by omega) (B5 hw) (Ew.mono hw.le) n)) ?_)
 refine zA 6 O (fun KE=>by
   simp at KE
   refine EA O ?_;refine zq O ((by exact BH O Dn O (Sl.lenOf Ew (Af _)))) ?_;exact zv O
  ) ?_
 refine De O (AA O (fun BJ=>?_) (fun BJ=>?_))
 ·rw[Ay,BC,BC]at BJ
  have h4:=ALi h1 An h3 (OK BJ.1) (by omega)
  refine AK O (Ak (AP O O (fun w' hw=>?_)));rw[h4];exact⟨_,O,I,_,⟨Le.refl _,O,lv,O,Ew⟩,AD hw⟩
 have h4:=ATw h1 An h3 (fun h9=>by rw[BK (YW h9.1),BK (show(64:Int)<=(l.length:Int) by omega)]at BJ;cases BJ)
 refine AY (AL (AS (tr (Eu (DP ⟨(FC l n).name,v,(FC l n).e,(FC l n).r,(FC l n).u⟩) O ?_ (by exact⟨O,O⟩)))));refine DL (Eu (DP ⟨(FC l n).name,v,(FC l n).e,(FC l n).r,false⟩) O ?_ (by exact⟨O,O⟩));refine DL (yq O (A7 O Ov DY O O O) (yc O (fun w hw=>YH b l ⟨(FC l n).name,v,(FC l n).e,(FC l n).r,false⟩ lv av hav hl I Ew (row b7 46 (DP ⟨(FC l n).name,v,(FC l n).e,(FC l n).r,false⟩)::F) _ w (Bm (row b 49 [lv,av]) (row b7 46 (DP ⟨(FC l n).name,v,(FC l n).e,(FC l n).r,false⟩)) hw)) ?_));rintro _ J40 _ ⟨Qj,rfl,lv40,rfl,Ade⟩;refine DL (AH rfl (AX (AP rfl rfl (fun w' hw=>?_))));rw[h4];exact⟨_,rfl,J40,_,⟨Qj,rfl,lv40,rfl,Ade⟩,AD hw⟩
theorem AGX(b:Nat)(l:List Vr)(n:List UInt8)(ex ro:Bool)(lv av:Value)(hav:JS av)(hl:l.length<=64)(hn:n.length<=1000000000)(I:AQ)(Ew:Sl I 5 lv (l.map DP))(F:List HA)(w0 w:World)(BZ:St w0 I (row b 49 [lv,av]::F) w):Calls prog 14 [.pointer (some ⟨b,0,none⟩),Au n,.bool ex,.bool ro].toArray w (fun e w'=> ∃v0,e=.returned v0/\∃I' H',(Le I I'/\(∃r,v0=.int .i64 r)/\∃lv',H'=row b 49 [lv',av]::F/\Sl I' 5 lv' ((Ib l n ex ro).map DP))/\St w I' H' w'):=by
 refine enter func14 O ntmps14 O (BZ.self) (AK O (AF (AJ (tr (yp O ((fun w _=>MZ n w (by omega))) ?_)))));refine AH O (AA O (fun Ab=>?_) (fun Ab=>?_))
 ·have h1:CF n=false:=by rw[FJ]at Ab;exact Ab
  refine AK O (Ak (AP O O (fun w' hw=>?_)));rw[AGA h1];exact⟨_,O,I,_,⟨Le.refl _,⟨_,O⟩,lv,O,Ew⟩,AD hw⟩
 have h1:CF n=true:=by rw[Bool.not_eq_false']at Ab;exact Ab
 refine tq ?_
 refine zA 2 O (fun h20=>by
   simp at h20
   exact zv O
  ) ?_
 refine De O (AA O (fun An=>?_) (fun An=>?_))
 ·have h2:ex=false/\ro=false:=by cases ex<;>cases ro<;>first |exact⟨rfl,rfl⟩|cases An
  refine AK O (Ak (AP O O (fun w' hw=>?_)));rw[U8 h1 h2];exact⟨_,O,I,_,⟨Le.refl _,⟨_,O⟩,lv,O,Ew⟩,AD hw⟩
 have h2:¬(ex=false/\ro=false):=by rintro⟨rfl,rfl⟩;cases An
 refine tq (zp O ((fun w hw=>OS b l lv av w (by omega) (B5 hw) (Ew.mono hw.le) n)) ?_)
 refine zA 6 O (fun Tu=>by
   simp at Tu
   refine EA O ?_;refine zq O ((by exact BH O Dn O (Sl.lenOf Ew (Af _)))) ?_;exact zv O
  ) ?_
 refine De O (AA O (fun A6=>?_) (fun A6=>?_))
 ·rw[Ay,BC,BC]at A6
  have h4:=AFi h1 h2 (OK A6.1) (by omega)
  refine AK O (Ak (AP O O (fun w' hw=>?_)));rw[h4];exact⟨_,O,I,_,⟨Le.refl _,⟨_,O⟩,lv,O,Ew⟩,AD hw⟩
 have h4:=ANa h1 h2 (fun h9=>by rw[BK (YW h9.1),BK (show(64:Int)<=(l.length:Int) by omega)]at A6;cases A6)
 refine AY (AL (AS (tr (yp O ((fun w hw=>AAn b l lv av w (by omega) (B5 hw) (Ew.mono hw.le) n)) ?_))))
 refine HO _ O fun b9=>?_
 refine El (DP (FC l n)) O ?_ (by exact C8 _);refine DL (CL 5 (EA O ?_))
 refine zO 1 O (fun h41=>by
   exact zv O
  ) ?_
 refine FR (Eu (DP ⟨(FC l n).name,(FC l n).value,(FC l n).e||ex,(FC l n).r,(FC l n).u⟩) O ?_ (by exact⟨O,O⟩));refine DL (CL 5 (EA O ?_))
 refine zO 1 O (fun h47=>by
   simp at h47
   exact zv O
  ) ?_
 refine FR (Eu (DP ⟨(FC l n).name,(FC l n).value,(FC l n).e||ex,(FC l n).r||ro,(FC l n).u⟩) O ?_ (by exact⟨O,O⟩));refine DL (yq O (A7 O Ov DY O O O) (yc O (fun w hw=>YH b l ⟨(FC l n).name,(FC l n).value,(FC l n).e||ex,(FC l n).r||ro,(FC l n).u⟩ lv av hav hl I Ew (row b9 46 (DP ⟨(FC l n).name,(FC l n).value,(FC l n).e||ex,(FC l n).r||ro,(FC l n).u⟩)::F) _ w (Bm (row b 49 [lv,av]) (row b9 46 (DP ⟨(FC l n).name,(FC l n).value,(FC l n).e||ex,(FC l n).r||ro,(FC l n).u⟩)) hw)) ?_));rintro _ J51 _ ⟨Agi,rfl,lv51,rfl,AdH⟩;refine DL (AH rfl (AX (AP rfl rfl (fun w' hw=>?_))));rw[h4];exact⟨_,rfl,J51,_,⟨Agi,⟨_,rfl⟩,lv51,rfl,AdH⟩,AD hw⟩
theorem XS(b:Nat)(al:List (List UInt8))(lv sv:Value)(I:AQ)(hs:Sl I 1 sv (al.map Ce))(F:List HA)(w0 w:World)(BZ:St w0 I (row b 49 [lv,As]::F) w):Calls prog 15 [.pointer (some ⟨b,0,none⟩),sv].toArray w (ER w fun v I' H'=>Le I I'/\(∃r,v=.int .i64 r)/\∃av,H'=row b 49 [lv,av]::F/\Sl I' 1 av ((EM al).map Ce)):=by
 refine enter func15 O ntmps15 O (BZ.self) (AK O (AF (tr ?_)));refine yq O ((by exact BH O BT O (Sl.lenOf hs (Af _)))) ?_;refine AH O (AA O (fun Ab=>?_) (fun Ab=>?_))
 ·simp at Ab
  have h1:EM al=[]:=AB (by omega)
  refine AK O (Ak (AP O O (fun w' hw=>?_)));exact⟨_,O,I,_,⟨Le.refl _,⟨_,O⟩,As,O,by rw[h1];exact E3 (fun _ h=>by cases h)⟩,AD hw⟩
 simp at Ab
 have h1:EM al=al:=AI (by omega)
 refine AV (tr (ye O (Bn O BT Co) ?_));rintro v9 _ _ ⟨⟨b9,hb9⟩,rfl,rfl⟩;refine ye rfl (BG (f:=Ce) (l:=[]) (ls:=al) rfl BT Co rfl rfl rfl rfl (hs) rfl (fun _=>rfl) B1 (by(try simp only[maxLen,Bb]);omega) (by(try simp only[Bb]);omega)) ?_;rintro v11 _ _ ⟨rfl,rfl⟩;refine FB (H':=Ap 9 1 Ce v11 al::_) ?_ (fun _ h=>h);refine AOd v11 (fun Aku Ma=>?_);refine Eu [lv,v11] rfl ?_ (by assumption);refine KH (f:=Ce) (l:=al) v11 (fun _=>rfl) (fun J hJ C3=>?_);refine DL (AH rfl (AX (AP rfl rfl (fun w' hw=>?_))));exact⟨_,rfl,J,_,⟨hJ,⟨_,rfl⟩,v11,rfl,by rw[h1];exact C3⟩,AD hw⟩
open Go.Sort
def Vm(s:List UInt8):Value:=.tuple #[.int .i64 ((I5 s).getD 0),.bool (I5 s).isSome]
theorem ARI(n:Int)(w:World)(h: -9223372036854775808<=n/\n<=9223372036854775807)(hG:GW w):B2 prog 137 [.int .i64 n,.int .i64 10] w (Au (Lib.itoa n)):=
 (Tryz.strconv_FormatInt_10 n h.1 h.2 w hG.tab).mono fun e w' ⟨h1,k,os,h2⟩=>⟨h1,h2 ▸ ACh w k os⟩
theorem AOA:∀k n:Nat,n<10 ^ (k+1)->(Lib.decDigits n).length<=k+1
 |0,n,h=>by
  rw[EC (by omega)];simp
 |k+1,n,h=>by
  by_cases h1:n<10
  ·rw[EC h1];simp
  rw[GS h1,Bh]
  have:=AOA k (n / 10) (by
   rw[Nat.div_lt_iff_lt_mul (by omega)]
   rw[Nat.pow_succ]at h;exact h)
  simp;omega
theorem AUm{N:Nat}(h:Lib.decDigits N=Lib.decDigits u++l)(hu:¬u<10):Lib.decDigits N=Lib.decDigits (u / 10)++(UInt8.ofNat (48+u % 10)::l):=by
 rw[h,GS hu];simp
theorem AUT{N:Nat}(h:Lib.decDigits N=Lib.decDigits u++l)(hu:u<10):Lib.decDigits N=UInt8.ofNat (48+u % 10)::l:=by
 rw[h,EC hu];try rfl
theorem AHb(n:Int):Lib.itoa n=if n<0 then 45::Lib.decDigits n.natAbs else Lib.decDigits n.natAbs:=by
 unfold Lib.itoa
 split
 ·rfl
 congr 1;omega
theorem ALe(h:Pi s=[]):I5 s=none:=by unfold I5;rw[AI h]
theorem ARs{v:Nat}(ht:Pi s≠[])(hv:H0 0 (Pi s)=some v):I5 s=if Um s then(if v<=RJ then some (-(v:Int))else none)else if v<RJ then some (v:Int)else none:=by
 unfold I5;rw[AB ht,hv];try rfl
theorem LJ(h:I5 s=none):Vm s=.tuple #[.int .i64 0,.bool false]:=by unfold Vm;rw[h];try rfl
theorem Tp{n:Int}(h:I5 s=some n):Vm s=.tuple #[.int .i64 n,.bool true]:=by unfold Vm;rw[h];try rfl
theorem Xl(c:UInt8):(decide ((c.toNat:Int)<48)||decide (57<(c.toNat:Int)))= !BO c:=by
 unfold BO
 by_cases h2:(c.toNat:Int)<48<;>by_cases h3:57<(c.toNat:Int)<;>simp[h2,h3]<;>omega
theorem Mc(n:Int)(w:World)(h: -9223372036854775808<=n/\n<=9223372036854775807)(hG:GW w):B2 prog 109 [.int .i64 n] w (Au (Lib.itoa n)):=by
 refine enter func109 O ntmps109 O (St.start w (Ao w) (Le.refl _)) (AK O (tr (yp O ((fun w hw=>ARI n w h (hG.le hw.le))) (AH O (AX (AP O O (fun w' hw=>?_)))))));exact⟨O,hw.below⟩
theorem Gi(n:Int)(w:World)(h: -9223372036854775808<=n/\n<=9223372036854775807):B2 prog 47 [.int .i64 n] w (Au (Lib.itoa n)):=by
 have hdl:=AOA 18 n.natAbs (by omega)
 refine enter func47 O ntmps47 O (St.start w (Ao w) (Le.refl _)) (AK O (AK O (EZ (ι:=Nat) [0,2] (fun zz=>zz=n.natAbs) (fun zz=>[(3,.int .i64 (-(zz:Int)))]) (fun zz=>Ao w) (fun zz=>[]) O ?_ ?_)))
 ·refine AK O (AA O (fun Ab=>?_) (fun Ab=>?_))
  ·simp at Ab
   refine AC (yq O (AIg O O (by omega)) ?_);refine AU O (Dd (n.natAbs) ?_ (A0 O (B3 (Value.int IntKind.i64) (by omega)) (Bk)) (BS O) (fun _ h=>by dsimp only;exact AD h))
   dsimp only
   all_goals rfl
  simp at Ab
  refine AY (Dd (n.natAbs) ?_ (A0 O (B3 (Value.int IntKind.i64) (by omega)) (Bk)) (BS O) (fun _ h=>by dsimp only;exact AD h))
  dsimp only
  all_goals rfl
 rintro u hu0;refine AK rfl (AF (AJ (EB (ι:=Nat×List UInt8×Value×AQ) [0,2] (fun zz=>Le (Ao w) zz.2.2.2/\Lib.decDigits n.natAbs=Lib.decDigits zz.1++zz.2.1/\zz.1<=9223372036854775808) (fun zz=>zz.1) (fun zz=>[(3,.int .i64 (-(zz.1:Int))),(4,zz.2.2.1)]) (fun zz=>zz.2.2.2) (fun zz=>[Ap 5 1 Km zz.2.2.1 zz.2.1]) (u,[],.slice none 0 0,Ao w) rfl ?_ ?_ (hh:=(fun _ h=>CI 5 1 Km h)))))
 ·dsimp only
  subst hu0;exact⟨Le.refl _,by simp,by omega⟩
 rintro⟨u,l,v,J⟩ ⟨hJ,hdd,hub⟩;dsimp only at *
 have UU:l.length<=19:=by have:=B3 List.length hdd;rw[Bh]at this;omega
 refine AJ (AF (Bf (f:=Km) (l:=l) v (fun _=>rfl) (fun J1 UB hv=>?_)));refine AC (yq O (AHz O O O (by decide)) ?_);refine yq O (Bl O O O (by rw[ABK];omega)) ?_;refine yq O (AKD (48+u % 10) O un2 un5 O (by rw[ABK];omega)) ?_
 refine ybv Km (UInt8.ofNat (48+u % 10)) O fun b14=>?_
 refine ye O (BG (f:=Km) (l:=[UInt8.ofNat (48+u % 10)]) O O8 ti5 O O O O (hv) O (fun _=>rfl) RD (by simp only[maxLen,CD,Bb];omega) (by simp only[CD,Bb];omega)) ?_;rintro v16 _ _ ⟨rfl,rfl⟩;refine AH rfl (tr (yq rfl (AIS rfl rfl rfl (by decide) (by rw[tdiv_neg];omega)) ?_));refine AH rfl (AK rfl (AA rfl (fun An=>?_) (fun An=>?_)))
 ·have AYJ:u<10:=by have:=BM An;rw[tdiv_neg]at this;omega
  have Adc:=AUT hdd AYJ
  refine Av (GT O (AE (AO (AS (AF (AK O (AA O (fun A6=>?_) (fun A6=>?_))))))))
  ·simp at A6
   refine tr (yq O (LE O O8 BX un5 O) (yq O (F1 O O O (by(simp only[Bh,CD,Bb];omega))) ?_));refine AH O (Ak (AP O O (fun w' hw=>?_)));refine⟨?_,(hw.less (hJ.trans UB)).below⟩
   rw[AHb,AI (by omega),Adc];try rfl
  simp at A6
  refine AV (tr (yq O (LE O O8 BX un5 O) (AH O (AX (AP O O (fun w' hw=>?_))))));refine⟨?_,(hw.less (hJ.trans UB)).below⟩
  rw[AHb,AB (by omega),Adc];try rfl
 have AYJ:¬u<10:=by have:=BW An;rw[tdiv_neg]at this;omega
 refine AY (AL (Fl ((u / 10,[UInt8.ofNat (48+u % 10)]++l,v16,J1)) ?_ ?_ (A0 O (B3 (Value.int IntKind.i64) (tdiv_neg u)) (BS O)) (BS O) (fun _ h=>by dsimp only;exact AD h)))
 ·dsimp only;exact⟨hJ.trans UB,AUm hdd AYJ,by omega⟩
 dsimp only
 show u / 10<u;omega
theorem AAs(s:List UInt8)(w:World)(hs:s.length<=4611686018427387904):B2 prog 46 [Au s] w (Vm s):=by
 refine enter func46 O ntmps46 O (St.start w (Ao w) (Le.refl _)) (AK O (AK O (AK O (EZ (ι:=Bool×List UInt8) [0,2,3] (fun zz=>zz.1=Um s/\zz.2=Pi s/\zz.2.length<=s.length) (fun zz=>[(4,.bool zz.1),(5,Au zz.2)]) (fun zz=>Ao w) (fun zz=>[]) O ?_ ?_))))
 ·refine tq (zq O (Bs O O O) ?_)
  refine zA 8 O (fun h22=>by
    simp at h22
    have OL:0<s.length:=BV.2 (by simpa using h22)
    refine zq O ((by exact AZ O BX O O (by omega))) ?_;refine zq O (Ae O O O O) ?_
    refine zO 3 O (fun h21=>by
      simp at h21
      refine zq O ((by exact AZ O BX O O (by omega))) ?_;refine zq O (Ae O O O O) ?_;exact zv O
     ) ?_
    exact zv O
   ) ?_
  refine Dp (AA O (fun Ab=>?_) (fun Ab=>?_))
  ·have OL:0<s.length:=by have:signed s=true:=Ab;unfold signed at this;rw[Ay,BC]at this;exact BV.2 this.1
   refine tr (yq O ((by exact AZ O BX O O (by omega))) ?_);refine yq O (Ae O O O O) (AH O (AC (yq O (BF O BX O O (by omega)) ?_)));refine AU O (CB ((decide (AG s 0 0=45),s.drop 1)) ?_)
   dsimp only;exact⟨by unfold Um;rw[show signed s=true from Ab,Bool.true_and],by unfold Pi;rw[show signed s=true from Ab,AI O],by rw[BA];omega⟩
  refine AY (CB ((false,s)) ?_)
  dsimp only;exact⟨by unfold Um;rw[show signed s=false from Ab,Bool.false_and],by unfold Pi;rw[show signed s=false from Ab,AB (by simp)],A5 _⟩
 rintro⟨mi,t⟩ ⟨hmi,ht,htl⟩;dsimp only at *;refine AF (tr (yq rfl (AR rfl rfl rfl) (ln (AA rfl (fun An=>?_) (fun An=>?_)))))
 ·have An:t=[]:=BM An
  refine AK O (Ak (Aj O O O (fun w' hw=>?_)));refine⟨?_,hw.below⟩;rw[LJ (ALe (by rw[<-ht,An]))]
 have An:t≠[]:=BW An
 refine AV (AK O (AK O (AF (AK O (AJ (EB (ι:=Nat×Nat) [4,5,0,29,6] (fun zz=>zz.1<=t.length/\H0 0 (t.take zz.1)=some zz.2/\zz.2<=9223372036854775808) (fun zz=>t.length-zz.1) (fun zz=>[(8,.int .i64 (zz.1:Int)),(7,.int .i64 (-(zz.2:Int)))]) (fun zz=>Ao w) (fun zz=>[]) (0,0) O ?_ ?_))))))
 ·dsimp only;exact⟨Aw _,O,Aw _⟩
 rintro⟨i,v⟩ ⟨hi,hv,hvb⟩;dsimp only at *;refine AF (tr (yq rfl (AW rfl BX rfl) (AH rfl (AA rfl (fun A6=>?_) (fun A6=>?_)))))
 ·simp at A6
  refine AV (AF (AJ (AF (tq (zq O ((by exact AZ O BX O O (by omega))) ?_)))))
  refine zO 4 O (fun h45=>by
    simp at h45
    refine zq O ((by exact AZ O BX O O (by omega))) ?_;exact zv O
   ) ?_
  refine Dp (AA O (fun BJ=>?_) (fun BJ=>?_))
  ·refine AK O (Ak (Aj O O O (fun w' hw=>?_)));refine⟨?_,hw.below⟩
   have Wr:BO (AG t i 0)=false:=by have:=Xl (AG t i 0);rw[show _=true from BJ]at this;simpa using this
   subst ht;rw[LJ (AOO (i:=i) (by omega) Wr)]
  refine AV (AF ?_)
  have hdg:BO (AG t i 0)=true:=by have:=Xl (AG t i 0);rw[show _=false from BJ]at this;simpa using this
  have AmK:=(Xd _).1 hdg
  have hv2:=ALU (t:=t) (i:=i) (by omega) hv
  rw[hdg,AI O]at hv2;refine AC (yq O ((by exact AZ O BX O O (by omega))) ?_);refine yq O (AMx 48 O O O (by omega)) ?_;refine yq O (G1 (r:=(((AG t i 0).toNat-48:Nat):Int)) O un5 un2 O (IntWalk.i64_in _ (by omega))) ?_;refine AH O (AF (tr (yq O (AM O O O (by omega)) ?_)));refine yq O (AIS O O O (by decide) (by rw[Sf _ (by omega)];omega)) ?_;refine AH O (AA O (fun Bj=>?_) (fun Bj=>?_))
  ·have h4:=BM Bj
   rw[Sf _ (by omega)]at h4
   have h5:=ALm h4 (by omega)
   refine AK O (Ak (Aj O O O (fun w' hw=>?_)));refine⟨?_,hw.below⟩;subst ht;rw[LJ (ANS (i:=i+1) hv2 rfl h5)]
  have h4:=BW Bj
  rw[Sf _ (by omega)]at h4
  have h5:=ALL h4 (by omega)
  refine AV (AC (yq O (ATG O O O (by omega)) ?_));refine yq O (Bl O O O (by omega)) ?_;refine AU O (AL (AS (AC (yq O (AM O O O (by omega)) ?_))));refine AU O (Fl ((i+1,v * 10+((AG t i 0).toNat-48))) ?_ ?_ (FY O (A0 O (by congr 1;omega) (Bk))) (BS O) (fun _ h=>by dsimp only;exact AD h))
  ·dsimp only;exact⟨by omega,hv2,by omega⟩
  dsimp only
  omega
 simp at A6
 refine Av (AE (AE (AO (AS (AF (AK O ?_))))));rw[LG (by omega)]at hv;subst ht
 have ZB:=ARs An hv
 rw[<-hmi]at ZB;refine AA O (fun B4=>?_) (fun B4=>?_)
 ·rw[show mi=true from B4,AI O,AI (show v<=RJ from hvb)]at ZB;refine AK O (Ak (Aj O O O (fun w' hw=>?_)));refine⟨?_,hw.below⟩;rw[Tp ZB]
 rw[show mi=false from B4,AB (by simp)]at ZB;refine AV (AF (AK O (AA O (fun CP=>?_) (fun CP=>?_))))
 ·have h6:=BM CP
  rw[AB (by unfold RJ;omega)]at ZB;refine AK O (Ak (Aj O O O (fun w' hw=>?_)));refine⟨?_,hw.below⟩;rw[LJ ZB]
 have h6:=BW CP
 rw[AI (by unfold RJ;omega)]at ZB;refine AV (tr (yq O (AIg O O (by omega)) ?_));refine AH O (AX (Aj O O O (fun w' hw=>?_)));refine⟨?_,hw.below⟩;rw[Tp ZB,Int.neg_neg]
structure HP where
 hb:Nat
 eb:Nat
 vb:Nat
 fv:Value
 sv:Value
 ov:Value
 gv:Value
def Js(p:HP)(av:Value):List Value:=[.pointer (some ⟨p.vb,0,none⟩),p.sv,p.fv,.int .i64 1,p.ov,av,Au []]
structure Ca(I:AQ)(p:HP)(lv:Value)(h:Hx):Prop where
 sp:Sl I 5 p.sv (HK.map DP)
 ou:Sl I 1 p.ov (h.outs.map Ce)
 li:Sl I 5 lv (h.vars.map DP)
 ar:Sl I 1 p.gv (h.args.map Ce)
 on:h.outs.length<=2000
 an:h.args.length<=200
 vn:h.vars.length<=64
theorem Ca.mono{I J:AQ}{p:HP}{lv:Value}{h:Hx}(k:Ca I p lv h)(CH:Le I J):Ca J p lv h:=⟨k.sp.mono CH,k.ou.mono CH,k.li.mono CH,k.ar.mono CH,k.on,k.an,k.vn⟩
theorem Et{I:AQ}{H:List HA}{l:List (List UInt8)}(h:Sl I 1 v (l.map Ce))(hi:i<l.length):Rd w0 I H (Eb v).block ((Eb v).off+i * 1) (Au (AG l i [])):=h.rd (j:=0) (CN l Ce [] hi) rfl
@[reducible] def DW(p:HP)(lv av:Value)(h:Hx)(F:List HA):List HA:=row p.hb 35 [.pointer (some ⟨p.eb,0,none⟩)]::row p.eb 41 (Js p av)::row p.vb 49 [lv,p.gv]::Ap 9 1 Ce av h.asked::F
structure VQ(w:World)(p:HP)(lv av:Value)(h:Hx):Prop where
 hb:Iy w p.hb [.pointer (some ⟨p.eb,0,none⟩)]
 eb:Iy w p.eb (Js p av)
 vb:Iy w p.vb [lv,p.gv]
 hi:Ca (Ao w) p lv h
structure AFf(w:World)(p:HP)(lv:Value)(h:Hx):Prop where
 e0:DA (Ao w) p.eb 0 (.pointer (some ⟨p.vb,0,none⟩))
 e1:DA (Ao w) p.eb 1 p.sv
 vb:Iy w p.vb [lv,p.gv]
 hi:Ca (Ao w) p lv h
theorem VQ.ew{p:HP}{lv:Value}{h:Hx}(k:VQ w p lv av h):AFf w p lv h:=⟨k.eb 0 _ rfl,k.eb 1 _ rfl,k.vb,k.hi⟩
theorem VQ.mono{p:HP}{lv:Value}{h:Hx}(k:VQ w p lv av h)(CH:Le (Ao w) (Ao w')):VQ w' p lv av h:=⟨k.hb.mono CH,k.eb.mono CH,k.vb.mono CH,k.hi.mono CH⟩
theorem RO{I:AQ}{H:List HA}{p:HP}{lv:Value}{h:Hx}(hi:Ca I p lv h)(hw:St w0 I H w)[E2 p.hb 35 [.pointer (some ⟨p.eb,0,none⟩)] H][E2 p.eb 41 (Js p av) H][E2 p.vb 49 [lv,p.gv] H]:VQ w p lv av h:=⟨B5 (T:=35) hw,B5 (T:=41) hw,B5 (T:=49) hw,hi.mono hw.le⟩
theorem GU{H:List HA}{I:AQ}{F:List HA}{p:HP}{lv:Value}{h:Hx}[hq:K3 [row p.hb 35 [.pointer (some ⟨p.eb,0,none⟩)],row p.eb 41 (Js p av),row p.vb 49 [lv,p.gv],Ap 9 1 Ce av h.asked] F H](hw:St w0 I H w):St w0 I (DW p lv av h F) w:=hw.perm hq.perm
theorem Mv{l:List Vr}(h:i<l.length):EL (l.take (i+1))=EL (l.take i)++if(AG l i Ez).u=true then[]else[AG l i Ez]:=by
 rw[C6 Ez h];unfold EL;rw[List.filter_append,List.filter_cons]
 cases (AG l i Ez).u<;>rfl
theorem Rx(l:List Vr):(EL l).length<=l.length:=List.length_filter_le _ _
def Gq(h:Hx)(t:List UInt8):List UInt8×Nat:=if(h.asked++[t]).length<=h.outs.length then(AG h.outs h.asked.length [],0)else([],5)
def LK(h:Hx)(t:List UInt8):Hx:=⟨h.vars,h.args,h.outs,h.asked++[t]⟩
theorem Gk(p:HP)(lv:Value)(h:Hx)(n:List UInt8)(w:World)(hn:n.length<=1000000000)(k:AFf w p lv h):B2 prog 24 [.pointer (some ⟨p.eb,0,none⟩),Au n] w (.tuple #[Au (FH h n).1,.bool (FH h n).2]):=by
 have hs3:HK.length=3:=rfl
 have Wl:=k.hi.vn
 have hal:=k.hi.an
 refine enter func24 O ntmps24 O (St.start w (Ao w) (Le.refl _)) (AK O (AF (AK O (AJ (EB (ι:=Nat) [0,1] (fun zz=>zz<=HK.length/\∀k,k<zz->(AG HK k Ez).name≠n) (fun zz=>HK.length-zz) (fun zz=>[(6,.int .i64 (zz:Int))]) (fun zz=>Ao w) (fun zz=>[]) 0 O ?_ ?_)))))
 ·exact⟨Aw _,fun k h=>Ac h (Nat.not_lt_zero _)⟩
 rintro i ⟨hi,Cz⟩;dsimp only at *;refine AF (tr (yq rfl ((by exact Ai rfl rfl (A8 k.e1))) ?_));refine yq rfl ((by exact BH rfl Dn rfl (Sl.lenOf k.hi.sp (Af _)))) ?_;refine AH rfl (AA rfl (fun Ab=>?_) (fun Ab=>?_))
 ·simp at Ab
  have DK:i<HK.length:=by omega
  refine AV (AF (AJ (tr (yq O ((by exact Ai O O (A8 k.e1))) ?_))));refine yq O ((by exact AN O Dn DY O O (Sl.shape k.hi.sp (Af _)) (by omega))) ?_;refine yq O ((by exact Ai O O (Md (i:=i) (j:=0) k.hi.sp (by omega) O))) ?_;refine yq O (AR O O O) (ln (AA O (fun An=>?_) (fun An=>?_)))
  ·simp only[BC]at An
   have hp:=APX (h:=h) (Uk DK An Cz)
   refine AF (Bd mo (by kernel_rfl) (fun _ _ _ _ _ h=>h) (zq O ((by exact Ai O O (A8 k.e1))) ?_));refine zq O ((by exact AN O Dn DY O O (Sl.shape k.hi.sp (Af _)) (by omega))) ?_;refine zq O ((by exact Ai O O (Md (i:=i) (j:=1) k.hi.sp (by omega) O))) ?_;refine zq O ((by exact Ai O O (A8 k.e1))) ?_;refine zq O ((by exact AN O Dn DY O O (Sl.shape k.hi.sp (Af _)) (by omega))) ?_;refine zq O ((by exact Ai O O (Md (i:=i) (j:=4) k.hi.sp (by omega) O))) ?_;refine De O (Ak (Aj O O O (fun w' hw=>?_)));refine⟨?_,hw.below⟩;rw[hp]
   try rfl
  simp only[CA]at An;refine AY (AL (AS (AC (yq O (AM O O O (by omega)) ?_))));refine AU O (DJ (i+1) ?_ ?_)
  ·refine⟨by omega,fun k hk=>?_⟩;rcases Nat.lt_succ_iff_lt_or_eq.1 hk with h|rfl
   ·exact Cz k h
   exact An
  show HK.length-(i+1)<HK.length-i
  omega
 simp at Ab
 have hf:DR HK n=none:=Wc (fun k hk=>Cz k (by omega))
 refine Av (AE (AE (AO (AS (AF (tq (zq O (Bs O O O) ?_)))))))
 refine zA 3 O (fun h51=>by
   simp at h51
   have NZ:0<n.length:=BV.2 h51
   refine zq O ((by exact AZ O BX O O (by omega))) ?_;exact zv O
  ) ?_
 refine zA 3 O (fun h56=>by
   simp at h56
   have NZ:0<n.length:=BV.2 h56.1
   refine zq O ((by exact AZ O BX O O (by omega))) ?_;exact zv O
  ) ?_
 refine Dp (AA O (fun A6=>?_) (fun A6=>?_))
 ·have hd:(decide (n≠[])&&BO (AG n 0 0))=true:=by unfold BO;rw[<-Bool.and_assoc];exact A6
  refine tr (yp O ((fun w _=>AAs n w (by omega))) ?_);refine AH O (AF (tq ?_))
  refine zA 2 O (fun h66=>by
    exact zv O
   ) ?_
  refine zA 10 O (fun h78=>by
    simp at h78
    refine zq O ((by exact Ai O O (A8 k.e0))) ?_;refine zq O ((by exact Ai O O (A8 (k.vb 1 _ O)))) ?_;refine zq O ((by exact BH O BT O (Sl.lenOf k.hi.ar (Af _)))) ?_;exact zv O
   ) ?_
  refine Dp (AA O (fun BJ=>?_) (fun BJ=>?_))
  ·have hp:=ARa (h:=h) hf hd BJ
   have Td:1<=(I5 n).getD 0/\(I5 n).getD 0<=(h.args.length:Int):=by rw[Ay,Ay,BC,BC]at BJ;exact⟨BJ.1.2,BJ.2⟩
   refine tr (yq O ((by exact Ai O O (A8 k.e0))) ?_);refine yq O ((by exact Ai O O (A8 (k.vb 1 _ O)))) ?_;refine yq O (Bl O O O (by omega)) ?_;refine yq O ((by exact Bq O BT Co O O (Sl.shape k.hi.ar (Af _)) (by omega))) ?_;refine yq O ((by exact Ai O O (Et (i:=((I5 n).getD 0-1).toNat) k.hi.ar (by omega)))) ?_;refine AH O (Ak (Aj O O O (fun w' hw=>?_)));refine⟨?_,hw.below⟩;rw[hp]
   try rfl
  have hp:=ALO (h:=h) hf hd BJ
  refine AV (AK O (Ak (Aj O O O (fun w' hw=>?_))));refine⟨?_,hw.below⟩;rw[hp]
  try rfl
 have hd:(decide (n≠[])&&BO (AG n 0 0))=false:=by unfold BO;rw[<-Bool.and_assoc];exact A6
 refine AV (AF (tr (yq O (AR O O O) (ln (AA O (fun Bj=>?_) (fun Bj=>?_))))))
 ·simp only[BC]at Bj;subst Bj
  have hp:=ARN (h:=h) hf
  refine tr (yq O ((by exact Ai O O (A8 k.e0))) ?_);refine yq O ((by exact Ai O O (A8 (k.vb 1 _ O)))) ?_;refine yq O ((by exact BH O BT O (Sl.lenOf k.hi.ar (Af _)))) ?_;refine yp O ((fun w _=>Gi (h.args.length:Int) w (by omega))) ?_;refine AH O (Ak (Aj O O O (fun w' hw=>?_)));refine⟨?_,hw.below⟩;rw[hp]
  try rfl
 simp only[CA]at Bj
 have hp:=AOh (h:=h) hf hd Bj
 refine AV (tr (yq O ((by exact Ai O O (A8 k.e0))) ?_));refine yp O ((fun w hw=>ARL p.vb h.vars lv p.gv w (by omega) (k.vb.mono hw.le) (k.hi.li.mono hw.le) n)) ?_;refine AH O (AX (Aj O O O (fun w' hw=>?_)));refine⟨?_,hw.below⟩;rw[hp]
 try rfl
theorem Hl(p:HP)(lv av:Value)(h:Hx)(n:List UInt8)(w:World)(hn:n.length<=1000000000)(k:VQ w p lv av h):B2 prog 260 [.pointer (some ⟨p.hb,0,none⟩),Au n] w (.tuple #[Au (FH h n).1,.bool (FH h n).2]):=by
 refine enter func260 O ntmps260 O (St.start w (Ao w) (Le.refl _)) (AK O (tr (yq O ((by exact Ai O O (A8 (k.hb 0 _ O)))) ?_)));refine yp O ((fun w hw=>Gk p lv h n w hn (k.mono hw.le).ew)) (AH O (AX (Aj O O O (fun w' hw=>?_))));exact⟨O,hw.below⟩
theorem KR(p:HP)(lv av:Value)(h:Hx)(I:AQ)(hi:Ca I p lv h)(F:List HA)(w0 w:World)(BZ:St w0 I (DW p lv av h F) w):Calls prog 258 [.pointer (some ⟨p.hb,0,none⟩)].toArray w (ER w fun v I' H'=>Le I I'/\H'=DW p lv av h F/\Sl I' 1 v (h.args.map Ce)):=by
 have hal:=hi.an
 refine enter func258 O ntmps258 O (BZ.self) (AK O (tr (ye O (Bn O BT Co) ?_)));rintro v3 _ _ ⟨⟨b3,hb3⟩,rfl,rfl⟩;refine DE rfl ?_;refine DE rfl ?_;refine DE rfl ?_;refine ye rfl (BG (f:=Ce) (l:=[]) (ls:=h.args) rfl BT Co rfl rfl rfl rfl (hi.ar) rfl (fun _=>rfl) B1 (by(try simp only[maxLen,Bb]);omega) (by(try simp only[Bb]);omega)) ?_;rintro v14 _ _ ⟨rfl,rfl⟩;refine KH (f:=Ce) (l:=h.args) v14 (fun _=>rfl) (fun J hJ C3=>?_);refine AH rfl (AX (AP rfl rfl (fun w' hw=>?_)));exact⟨_,rfl,J,_,⟨hJ,rfl,C3⟩,AD hw⟩
theorem V1(p:HP)(lv av:Value)(h:Hx)(I:AQ)(hi:Ca I p lv h)(F:List HA)(w0 w:World)(BZ:St w0 I (DW p lv av h F) w):Calls prog 263 [.pointer (some ⟨p.hb,0,none⟩)].toArray w (ER w fun v I' H'=>Le I I'/\H'=DW p lv av h F/\Sl I' 5 v ((EL h.vars).map DP)):=by
 have Wl:=hi.vn
 refine enter func263 O ntmps263 O (BZ.self) (AK O (AK O (AF (tr (DE O ?_)))));refine DE O ?_;refine DE O ?_;refine yq O ((by exact BH O Dn O (Sl.lenOf hi.li (Af _)))) ?_;refine AH O (AJ (EB (ι:=Nat×Value) [0,2,15,16] (fun zz=>zz.1<=h.vars.length) (fun zz=>h.vars.length-zz.1) (fun zz=>[(17,.int .i64 (zz.1:Int)),(3,zz.2)]) (fun zz=>I) (fun zz=>(Ap 46 5 DP zz.2 (EL (h.vars.take zz.1))::DW p lv av h F)) (0,.slice none 0 0) O ?_ ?_ (hh:=(fun _ h=>by dsimp only;rw[Qo];exact CI 46 5 DP (AD h)))))
 ·dsimp only;exact Aw _
 rintro⟨i,vo⟩ Ym;dsimp only at *
 have C3:=Rx (h.vars.take i)
 rw[BL]at C3;refine AK O (AF (AA O (fun Ab=>?_) (fun Ab=>?_)))
 ·simp at Ab
  have DK:i<h.vars.length:=by omega
  refine AV (AF (AJ (tr ?_)));refine yq O ((by exact AN O Dn DY O O (Sl.shape hi.li (Af _)) (by omega))) ?_;refine yq O ((by exact Br O Ov DY O O (Nq (i:=i) hi.li (by omega)))) ?_
  refine HO _ O fun b5=>?_
  refine El (DP (AG h.vars i Ez)) O ?_ (by exact C8 _);refine DL (DE O ?_);refine AH O (AA O (fun An=>?_) (fun An=>?_))
  ·simp only[FJ]at An;refine AC (yq O ((by exact A7 O Ov DY O O O)) ?_);refine NF _ O (fun b26=>?_) (by rfl);refine V4 (f:=DP) (AG h.vars i Ez) O (fun v27=>?_) (C8 _) (by(try simp only[maxLen]);omega) (by omega);refine AU O (AL (AS (AC (yq O (AM O O O (by omega)) ?_))));refine AU O (DJ ((i+1,v27)) ?_ ?_ (hh:=(fun _ h=>by dsimp only;rw[Mv DK,AB (by rw[An];simp)];exact AD h)))
   ·dsimp only
    show i+1<=_
    omega
   dsimp only
   show h.vars.length-(i+1)<h.vars.length-i
   omega
  simp only[Bool.not_eq_false']at An;refine AY (AL (AS (AC (yq O (AM O O O (by omega)) ?_))));refine AU O (DJ ((i+1,vo)) ?_ ?_ (hh:=(fun _ h=>by dsimp only;rw[Mv DK,AI An,Nj];exact AD h)))
  ·dsimp only
   show i+1<=_
   omega
  dsimp only
  show h.vars.length-(i+1)<h.vars.length-i
  omega
 simp at Ab
 have DK:i=h.vars.length:=by omega
 rw[DK,Gb];refine Av (AE (AE (AO (AS (AF (Bf (f:=DP) (l:=EL h.vars) vo (fun _=>rfl) (fun Jf IL Rm=>?_)))))));refine AC (AH O (AX (AP O O (fun w' hw=>?_))));exact⟨_,O,Jf,_,⟨IL,O,Rm⟩,AD hw⟩
theorem O6(p:HP)(lv av:Value)(h:Hx)(n v:List UInt8)(hn:n.length<=1000000000)(I:AQ)(hi:Ca I p lv h)(F:List HA)(w0 w:World)(BZ:St w0 I (DW p lv av h F) w):Calls prog 262 [.pointer (some ⟨p.hb,0,none⟩),Au n,Au v].toArray w (fun e w'=> ∃v0,e=.returned v0/\∃I' H',(Le I I'/\v0=.int .i64 ((Cm h.vars n v).1:Int)/\∃lv,H'=DW p lv av h F/\Ca I' p lv (h.put (Cm h.vars n v).2))/\St w I' H' w'):=by
 refine enter func262 O ntmps262 O (BZ.self) (AK O (tr (DE O ?_)));refine DE O ?_;refine yc O (fun w hw=>MV p.vb h.vars n v lv p.gv hi.ar.one hi.vn hn I hi.li (row p.hb 35 [.pointer (some ⟨p.eb,0,none⟩)]::row p.eb 41 (Js p av)::Ap 9 1 Ce av h.asked::F) _ w (OP (row p.vb 49 [lv,p.gv]) (row p.hb 35 [.pointer (some ⟨p.eb,0,none⟩)]) (row p.eb 41 (Js p av)) (Ap 9 1 Ce av h.asked) hw)) ?_;rintro _ J16 _ ⟨Ok,rfl,lv16,rfl,AcZ⟩;refine AH rfl (AX (AP rfl rfl (fun w' hw=>?_)));exact⟨_,rfl,J16,_,⟨Ok,rfl,lv16,rfl,⟨hi.sp.mono Ok,hi.ou.mono Ok,AcZ,hi.ar.mono Ok,hi.on,hi.an,Ik hi.vn⟩⟩,AD hw⟩
theorem Q2(p:HP)(lv av:Value)(h:Hx)(t:List UInt8)(hn:h.asked.length<=1000000000)(I:AQ)(hi:Ca I p lv h)(F:List HA)(w0 w:World)(BZ:St w0 I (DW p lv av h F) w):Calls prog 259 [.pointer (some ⟨p.hb,0,none⟩),Au t].toArray w (fun e w'=> ∃v0,e=.returned v0/\∃I' H',(I=I'/\v0=.tuple #[Au (Gq h t).1,.int .i64 ((Gq h t).2:Int)]/\∃av',H'=DW p lv av' (LK h t) F/\Ca I p lv (LK h t))/\St w I' H' w'):=by
 have hon:=hi.on
 have hal:(h.asked++[t]).length=h.asked.length+1:=by simp
 refine enter func259 O ntmps259 O (BZ.self) (AK O (AF (Bo [12,13,16] [16] [row p.hb 35 [.pointer (some ⟨p.eb,0,none⟩)],row p.eb 41 (Js p av)] mo (by kernel_rfl) (fun _ _ _ _ _ h=>h) (xr [0,1,2] O O (x0 3 O (Le.refl _) O (fun _ hI=>(by exact Az O O (by rfl))) ?_)))));refine xr [4,5,6] O O (x0 7 O (Le.refl _) O (fun _ hI=>(by exact Az O O (by rfl))) ?_);refine xr [8,9] O O (x0 10 O (Le.refl _) O (fun _ hI=>(by exact Az O O (by rfl))) ?_);refine xr [11] O O (xe 12 O O (BD O BT Co O O O (by rfl) O) ?_);rintro _ _ _ ⟨b18,rfl,rfl,rfl⟩;refine xk ?_;refine xe 13 rfl rfl (B8 (f:=Ce) (c:=t) rfl BT Co rfl rfl rfl rfl rfl rfl rfl (B1 t) (by simp only[maxLen];omega) (by omega)) ?_;rintro v19 _ _ ⟨rfl,rfl⟩;refine xk (Fd v19 (fun AlH Ajm=>?_));refine xr [14,15] rfl rfl ?_;refine FP 16 (by kernel_rfl) (by kernel_rfl) rfl (Le.refl _) rfl rfl (Bz rfl Gs rfl rfl (by assumption) rfl (by rfl)) ?_;rintro _ _ _ ⟨rfl,rfl⟩;refine⟨Le.refl _,.inl rfl,?_⟩;refine Bx (H':=row p.eb 41 (Js p v19)::_) ?_ (fun _ h=>h);refine CX (AS (AF (AF (Bd mo (by kernel_rfl) (fun _ _ _ _ _ h=>h) (zq rfl ((by exact Az rfl rfl (by rfl))) ?_)))));refine zq rfl ((by exact Az rfl rfl (by rfl))) ?_;refine zq rfl ((by exact IP rfl BT rfl)) ?_;refine zq rfl ((by exact Az rfl rfl (by rfl))) ?_
 refine zq O ((by exact Az O O (by rfl))) ?_;refine zq O ((by exact BH O BT O (Sl.lenOf hi.ou (Af _)))) ?_;refine De O (AA O (fun Ab=>?_) (fun Ab=>?_))
 ·simp at Ab
  have hs:Gq h t=([],5):=by unfold Gq;rw[AB (by omega)]
  refine AK O (Ak (Aj O O O (fun w' hw=>?_)));rw[hs];exact⟨_,O,I,DW p lv v19 (LK h t) F,⟨O,O,v19,O,⟨hi.sp,hi.ou,hi.li,hi.ar,hi.on,hi.an,hi.vn⟩⟩,AD (H':=row p.hb 35 [.pointer (some ⟨p.eb,0,none⟩)]::row p.eb 41 (Js p v19)::row p.vb 49 [lv,p.gv]::Ap 9 1 Ce v19 (h.asked++[t])::F) hw⟩
 simp at Ab
 have hs:Gq h t=(AG h.outs h.asked.length [],0):=by unfold Gq;rw[AI (by omega)]
 refine AV (AF (Bd mo (by kernel_rfl) (fun _ _ _ _ _ h=>h) (zq O ((by exact Az O O (by rfl))) ?_)));refine zq O ((by exact Az O O (by rfl))) ?_;refine zq O ((by exact Az O O (by rfl))) ?_;refine zq O ((by exact Az O O (by rfl))) ?_;refine zq O ((by exact IP O BT O)) ?_;refine zq O (Bl O O O (by omega)) ?_;rw[show(((h.asked++[t]).length:Int)-1)=((h.asked.length:Nat):Int) by omega];refine zq O ((by exact AN O BT Co O O (Sl.shape hi.ou (Af _)) (by omega))) ?_;refine zq O ((by exact Ai O O (Et (i:=h.asked.length) hi.ou (by omega)))) ?_;refine De O (AX (Aj O O O (fun w' hw=>?_)));rw[hs];exact⟨_,O,I,DW p lv v19 (LK h t) F,⟨O,O,v19,O,⟨hi.sp,hi.ou,hi.li,hi.ar,hi.on,hi.an,hi.vn⟩⟩,AD (H':=row p.hb 35 [.pointer (some ⟨p.eb,0,none⟩)]::row p.eb 41 (Js p v19)::row p.vb 49 [lv,p.gv]::Ap 9 1 Ce v19 (h.asked++[t])::F) hw⟩
end Go.Tri
