/-
 The reference of words: its small steps.
-/
import Derived.Test.YtbndcpjklngfhaaGreatDoorFA5
import Derived.Test.YtbndcpjklngfhaaGreatDoorEC4
import Derived.Test.YtbndcpjklngfhaaGreatDoorEG4
import Derived.Test.YtbndcpjklngfhaaGreatDoorPFp
namespace Go.Tri
open Go.Proofs.Tryz
open Go.Proofs Go.RowKit
set_option maxRecDepth 10000
variable {t o inner:List UInt8} {q:Bool} {vl:Value} {nx:Nat} {b:UInt8}
theorem Fo{l:List UInt8}(j i:Nat):AG (l.drop j) i 0=AG l (j+i) 0:=by
 unfold AG;rw[Cy,Cy,List.getElem?_drop]
theorem AII:∀c:UInt8,List.contains Ec c=(decide ((48:Int)<=(c.toNat:Int))&&decide ((c.toNat:Int)<=57)):=by
 intro c
 have h:∀n:Fin 256,List.contains Ec (UInt8.ofNat n.val)=(decide ((48:Int)<=((UInt8.ofNat n.val).toNat:Int))&&decide (((UInt8.ofNat n.val).toNat:Int)<=57)):=by decide+kernel
 have:=h ⟨c.toNat,c.toNat_lt⟩
 rwa [UInt8.ofNat_toNat]at this
theorem AGO{s:List UInt8}{n:Nat}(hn:n<=s.length)(hd:∀k,k<n->List.contains Ec (AG s k 0)=true)(he:n<s.length->List.contains Ec (AG s n 0)=false):s.length-(Lib.trimLeftS s Ec).length=n:=by
 have h1:=AIw (d:=(0:UInt8)) (q:=fun c=>List.contains Ec c) hn hd he
 have h2:=B3 List.length (List.takeWhile_append_dropWhile (p:=fun c=>List.contains Ec c) (l:=s))
 rw[Bh,h1]at h2
 show s.length-(s.dropWhile fun c=>List.contains Ec c).length=n
 omega
theorem ARH{L:List PE}{n:Nat}(hn:n=L.length-1)(h:(decide ((L.length:Int)>0)&&decide (((AG L n Ct).kind:Int)=1)&&((AG L n Ct).q==q))=true):ES L t q=L.set n {AG L n Ct with text:=(AG L n Ct).text++t}:=by
 subst hn;simp only[Ay,BC,beq_iff_eq]at h;rw[ES,AI ⟨List.ne_nil_of_length_pos (by omega),by omega,h.2⟩]
theorem ANy{L:List PE}{n:Nat}(hn:n=L.length-1)(h:(decide ((L.length:Int)>0)&&decide (((AG L n Ct).kind:Int)=1)&&((AG L n Ct).q==q))=false):ES L t q=L++[⟨1,t,[],As,[],q⟩]:=by
 subst hn;rw[ES,AB];rintro⟨h0,h1,h2⟩
 have:=BV.2 h0
 rw[h1,h2,BK (by omega)]at h
 simp at h
theorem AHr:∀c:UInt8,Ho VX c=(decide (c=64)||decide (c=42)||decide (c=35)||decide (c=63)||decide (c=36)||decide (c=33)):=by
 intro c
 have h:∀n:Fin 256,Ho VX (UInt8.ofNat n.val)=(decide (UInt8.ofNat n.val=64)||decide (UInt8.ofNat n.val=42)||decide (UInt8.ofNat n.val=35)||decide (UInt8.ofNat n.val=63)||decide (UInt8.ofNat n.val=36)||decide (UInt8.ofNat n.val=33)):=by decide+kernel
 have:=h ⟨c.toNat,c.toNat_lt⟩
 rwa [UInt8.ofNat_toNat]at this
theorem IH(v:Value)(L:List PE)(t:List UInt8)(q:Bool)(I:AQ)(F:List HA)(w0 w:World)(hn:L.length<=1000000000)(ht:t.length<=1000000000)(hx:∀x∈L,x.text.length<=1000000000)(C3:Sl I 5 v (L.map Aa))(P4:Cg I L)(BZ:St w0 I F w):Calls prog 87 [v,Au t,.bool q].toArray w (ER w fun v I' H'=>Le I I'/\F=H'/\Sl I' 5 v ((ES L t q).map Aa)):=by
 refine enter func87 O ntmps87 O (BZ.self) (AK O (tr ?_));refine yq O ((by exact BH O Fw O (Sl.lenOf C3 (Af _)))) ?_;refine AH O (AF (tq ?_))
 refine zA 7 O (fun h21=>by
   simp at h21
   have T4:0<L.length:=by omega
   refine zq O (Bl O O O (by omega)) ?_;refine zq O ((by exact Bq O Fw BU O O (Sl.shape C3 (Af _)) (by omega))) ?_;refine zq O ((by exact Ai O O (WS (i:=((L.length:Int)-1).toNat) (j:=0) C3 (by omega) O))) ?_;exact zv O
  ) ?_
 refine zA 8 O (fun h31=>by
   simp at h31
   have T4:0<L.length:=by omega
   refine zq O (Bl O O O (by omega)) ?_;refine zq O ((by exact Bq O Fw BU O O (Sl.shape C3 (Af _)) (by omega))) ?_;refine zq O ((by exact Ai O O (WS (i:=((L.length:Int)-1).toNat) (j:=4) C3 (by omega) O))) ?_;refine zq O (Ph O un4 O O) ?_;exact zv O
  ) ?_
 refine Dp (AA O (fun Ab=>?_) (fun Ab=>?_))
 ·have T4:0<L.length:=by have h9:=Ab;simp only[Ay,BC]at h9;omega
  have hE:ES L t q=L.set ((L.length:Int)-1).toNat {AG L ((L.length:Int)-1).toNat Ct with text:=(AG L ((L.length:Int)-1).toNat Ct).text++t}:=ARH (by omega) Ab
  have Lc:=hx _ (BE (d:=Ct) (show((L.length:Int)-1).toNat<L.length by omega))
  refine tr (ye O (Bn O Fw BU) ?_);rintro v32 _ _ ⟨⟨b32,AnK⟩,rfl,rfl⟩;refine ye rfl (G6 (f:=Aa) (l:=[]) rfl Fw BU rfl rfl rfl rfl (C3) rfl (fun _=>rfl) (fun x hx=>A9 (P4 x hx)) (by(try simp only[maxLen,Bb]);omega) (by(try simp only[Bb]);omega)) ?_;rintro v34 _ _ ⟨rfl,rfl⟩;rw[PK];refine AH rfl (tr (yq rfl (Bl rfl rfl rfl (by omega)) ?_));refine yq rfl (Bl rfl rfl rfl (by omega)) ?_;refine yq rfl ((by exact HX rfl Fw BU rfl rfl (by omega))) ?_;refine yq rfl ((by exact LH rfl BX rfl rfl (Z5 (fo:=1) (f:=Aa) (d:=Ct) (fun _=>rfl) (show((L.length:Int)-1).toNat<L.length by omega) rfl))) ?_;refine yq rfl (F1 rfl rfl rfl (by omega)) ?_;refine yq rfl ((by exact HX rfl Fw BU rfl rfl (by omega))) ?_;refine y0 rfl (ACU Ct {AG L ((L.length:Int)-1).toNat Ct with text:=(AG L ((L.length:Int)-1).toNat Ct).text++t} rfl Co rfl rfl (by exact⟨rfl,rfl⟩) (fun _=>rfl) (by omega) rfl rfl) ?_;rintro _ _ _ ⟨rfl,rfl⟩;refine lnt (Bf (f:=Aa) (l:=L.set ((L.length:Int)-1).toNat {AG L ((L.length:Int)-1).toNat Ct with text:=(AG L ((L.length:Int)-1).toNat Ct).text++t}) v34 (fun _=>rfl) (fun Jf IL hvf=>?_));refine AC (AH rfl (Ak (AP rfl rfl (fun w' hw=>?_))));rw[hE];exact⟨_,rfl,Jf,_,⟨IL,rfl,hvf⟩,AD hw⟩
 have hE:ES L t q=L++[⟨1,t,[],As,[],q⟩]:=ANy (n:=((L.length:Int)-1).toNat) (by omega) Ab
 refine AV (tr (ye O (Bn O Fw BU) ?_));rintro v49 _ _ ⟨⟨b49,Alz⟩,rfl,rfl⟩;refine ye rfl (G6 (f:=Aa) (l:=[]) rfl Fw BU rfl rfl rfl rfl (C3) rfl (fun _=>rfl) (fun x hx=>A9 (P4 x hx)) (by(try simp only[maxLen,Bb]);omega) (by(try simp only[Bb]);omega)) ?_;rintro v51 _ _ ⟨rfl,rfl⟩;rw[PK];refine Em (Aa ⟨1,t,[],As,[],q⟩) rfl (NF _ rfl (fun b55=>?_) (by rfl));refine V4 (f:=Aa) (⟨1,t,[],As,[],q⟩) rfl (fun v56=>?_) (A9 (I:=I) (Be I)) (by(try simp only[maxLen]);omega) (by(try simp only[Bh,CD,Bb]);omega);refine KH (f:=Aa) (l:=L++[⟨1,t,[],As,[],q⟩]) v56 (fun _=>rfl) (fun Jf IL hvf=>?_);refine AH rfl (AX (AP rfl rfl (fun w' hw=>?_)));rw[hE];exact⟨_,rfl,Jf,_,⟨IL,rfl,hvf⟩,AD hw⟩
theorem PI(v:Value)(L:List PE)(vm:Value)(M:List PE)(I:AQ)(F:List HA)(w0 w:World)(hn:L.length+M.length<=1000000000)(hs:Gl L+Gl M<=1000000000)(C3:Sl I 5 v (L.map Aa))(P4:Cg I L)(hsm:Sl I 5 vm (M.map Aa))(Wj:Cg I M)(BZ:St w0 I F w):Calls prog 90 [v,vm].toArray w (ER w fun v I' H'=>Le I I'/\F=H'/\Sl I' 5 v ((FZ L M).map Aa)):=by
 refine enter func90 O ntmps90 O (BZ.self) (AK O (AF (AK O (AJ (EB (ι:=Nat×Value×AQ) [1,4] (fun zz=>zz.1<=M.length/\Le I zz.2.2/\Sl zz.2.2 5 zz.2.1 ((FZ L (M.take zz.1)).map Aa)) (fun zz=>M.length-zz.1) (fun zz=>[(5,.int .i64 (zz.1:Int)),(0,zz.2.1)]) (fun zz=>zz.2.2) (fun zz=>F) (0,v,I) O ?_ ?_)))))
 ·dsimp only;exact⟨Aw _,Le.refl _,by rw[Qo];exact C3⟩
 rintro⟨i,lv,J⟩ ⟨hi,hJ,Ew⟩;dsimp only at *
 have Oi:=WH (M.take i) L
 have Wi:=ADv (M.take i) L
 have hb3:=ZC M i
 have hb4:(M.take i).length<=M.length:=by rw[BL];omega
 refine AF (tr ?_);refine yq O ((by exact BH O Fw O (Sl.lenOf hsm (Af _)))) ?_;refine AH O (AA O (fun Ab=>?_) (fun Ab=>?_))
 ·simp at Ab
  have hiM:i<M.length:=by omega
  refine AV (EZ (ι:=Value×AQ) [5,1,4,9] (fun zz=>Le J zz.2/\Sl zz.2 5 zz.1 ((FZ L (M.take (i+1))).map Aa)) (fun zz=>[(0,zz.1)]) (fun zz=>zz.2) (fun zz=>F) O ?_ ?_)
  ·refine AJ (tr ?_);refine yq O ((by exact AN O Fw BU O O (Sl.shape (hsm.mono hJ) (Af _)) (by omega))) ?_;refine yq O ((by exact Ai O O (WS (i:=i) (j:=0) (hsm.mono hJ) (by omega) O))) ?_;refine AH O (AA O (fun An=>?_) (fun An=>?_))
   ·simp at An
    have hk:(AG M i Ct).kind=1:=by omega
    refine Bo [11] [] [] mo (by kernel_rfl) (fun _ _ _ _ _ h=>h) (xr [0,1,2] O O ?_);refine xf 3 O O (fun _=>(by exact AN O Fw BU O O (Sl.shape (hsm.mono hJ) (Af _)) (by omega))) ?_;refine xr [4] O O (xq 5 O O ((by exact Ai O O (WS (i:=i) (j:=1) (hsm.mono hJ) (by omega) O))) ?_);refine xr [6,7] O O ?_;refine xf 8 O O (fun _=>(by exact AN O Fw BU O O (Sl.shape (hsm.mono hJ) (Af _)) (by omega))) ?_;refine xr [9] O O (xq 10 O O ((by exact Ai O O (WS (i:=i) (j:=4) (hsm.mono hJ) (by omega) O))) ?_);refine xe 11 O O (ec O O O (fun w hw=>IH lv (FZ L (M.take i)) (AG M i Ct).text (AG M i Ct).q J _ _ w (by omega) (by have:=D4 (BE (l:=M) (i:=i) (d:=Ct) (by omega));omega) (fun x hx=>by have:=D4 hx;omega) Ew (GA _ _ (P4.mono hJ) (fun x hx=>(Wj.mono hJ) x (List.mem_of_mem_take hx))) hw)) ?_;rintro v29 J29 _ ⟨Oj,rfl,AXy⟩;refine⟨Oj,.inr Fs.sub,?_⟩;refine xr [12] rfl rfl (CX (AL (CB ((v29,J29)) ?_)))
    dsimp only;exact⟨Oj,by rw[IJ hiM,AI hk];exact AXy⟩
   simp at An
   have hk:¬(AG M i Ct).kind=1:=by omega
   refine Bo [0,2,7,8] [] [] mo (by kernel_rfl) (fun _ _ _ _ _ h=>h) (xr [1,3,4] O O ?_);refine xf 5 O O (fun _=>(by exact AN O Fw BU O O (Sl.shape (hsm.mono hJ) (Af _)) (by omega))) ?_;refine x0 6 O (Le.refl _) O (fun _ hI=>(by exact Br O DG BU O O (AAt (i:=i) (hsm.mono (hJ.trans hI)) (by omega)))) ?_;refine Gp 0 7 (by kernel_rfl) (by kernel_rfl) ?_ ?_
   ·refine Oq 0 O O (Le.refl _) O O O (Bn O Fw BU) ?_;rintro v30 _ _ ⟨⟨b30,AhT⟩,rfl,rfl⟩;refine xk (Gp 2 7 (by kernel_rfl) (by kernel_rfl) ?_ ?_)
    ·refine Oq 2 O O (Le.refl _) O O O (G6 (f:=Aa) (l:=[]) O Fw BU O O O O (Ew) O (fun _=>rfl) (fun x hx=>A9 (GA _ _ (P4.mono hJ) (fun x hx=>(Wj.mono hJ) x (List.mem_of_mem_take hx)) x hx)) (by(try simp only[maxLen,Bb]);omega) (by(try simp only[Bb]);omega)) ?_;rintro v32 _ _ ⟨rfl,rfl⟩;refine xk ?_;rw[PK];refine xe 7 rfl rfl (BD rfl Fw BU rfl rfl rfl (by rfl) rfl) ?_;rintro _ _ _ ⟨b37,rfl,rfl,rfl⟩;refine xk ?_;refine xe 8 rfl rfl (B8 (f:=Aa) (c:=AG M i Ct) rfl Fw BU rfl rfl rfl rfl rfl rfl rfl (A9 (I:=I) (Wj _ (BE (by omega)))) (by(try simp only[maxLen]);omega) (by(try simp only[Bh,CD,Bb]);omega)) ?_;rintro v38 _ _ ⟨rfl,rfl⟩;refine xk (xr [9] rfl rfl (CX (AL (OW (f:=Aa) (l:=(FZ L (M.take i))++[AG M i Ct]) v38 (fun _=>rfl) (fun Jg Oy hvg=>?_)))));refine CB ((v38,Jg)) ?_
     dsimp only;exact⟨Oy,by rw[IJ hiM,AB hk];exact hvg⟩
    refine Oq 7 O O (Le.refl _) O O O (BD O Fw BU O O O (by rfl) O) ?_;rintro _ _ _ ⟨b37,rfl,rfl,rfl⟩;refine xk ?_;refine xe 2 rfl rfl (G6 (f:=Aa) (l:=[]) rfl Fw BU rfl rfl rfl rfl (Ew) rfl (fun _=>rfl) (fun x hx=>A9 (GA _ _ (P4.mono hJ) (fun x hx=>(Wj.mono hJ) x (List.mem_of_mem_take hx)) x hx)) (by(try simp only[maxLen,Bb]);omega) (by(try simp only[Bb]);omega)) ?_;rintro v32 _ _ ⟨rfl,rfl⟩;refine xk ?_;rw[PK];refine xe 8 rfl rfl (B8 (f:=Aa) (c:=AG M i Ct) rfl Fw BU rfl rfl rfl rfl rfl rfl rfl (A9 (I:=I) (Wj _ (BE (by omega)))) (by(try simp only[maxLen]);omega) (by(try simp only[Bh,CD,Bb]);omega)) ?_;rintro v38 _ _ ⟨rfl,rfl⟩;refine xk (xr [9] rfl rfl (CX (AL (OW (f:=Aa) (l:=(FZ L (M.take i))++[AG M i Ct]) v38 (fun _=>rfl) (fun Jg Oy hvg=>?_)))));refine CB ((v38,Jg)) ?_
    dsimp only;exact⟨Oy,by rw[IJ hiM,AB hk];exact hvg⟩
   refine Oq 7 O O (Le.refl _) O O O (BD O Fw BU O O O (by rfl) O) ?_;rintro _ _ _ ⟨b37,rfl,rfl,rfl⟩;refine xk (xe 0 rfl rfl (Bn rfl Fw BU) ?_);rintro v30 _ _ ⟨⟨b30,AhT⟩,rfl,rfl⟩;refine xk ?_;refine xe 2 rfl rfl (G6 (f:=Aa) (l:=[]) rfl Fw BU rfl rfl rfl rfl (Ew) rfl (fun _=>rfl) (fun x hx=>A9 (GA _ _ (P4.mono hJ) (fun x hx=>(Wj.mono hJ) x (List.mem_of_mem_take hx)) x hx)) (by(try simp only[maxLen,Bb]);omega) (by(try simp only[Bb]);omega)) ?_;rintro v32 _ _ ⟨rfl,rfl⟩;refine xk ?_;rw[PK];refine xe 8 rfl rfl (B8 (f:=Aa) (c:=AG M i Ct) rfl Fw BU rfl rfl rfl rfl rfl rfl rfl (A9 (I:=I) (Wj _ (BE (by omega)))) (by(try simp only[maxLen]);omega) (by(try simp only[Bh,CD,Bb]);omega)) ?_;rintro v38 _ _ ⟨rfl,rfl⟩;refine xk (xr [9] rfl rfl (CX (AL (OW (f:=Aa) (l:=(FZ L (M.take i))++[AG M i Ct]) v38 (fun _=>rfl) (fun Jg Oy hvg=>?_)))));refine CB ((v38,Jg)) ?_
   dsimp only;exact⟨Oy,by rw[IJ hiM,AB hk];exact hvg⟩
  rintro⟨lk,K⟩ ⟨hK,hlk⟩;dsimp only at *;refine AC (yq rfl (AM rfl rfl rfl (by omega)) ?_);refine AU rfl (DJ ((i+1,lk,K)) ?_ ?_)
  ·dsimp only;exact⟨hiM,hJ.trans hK,hlk⟩
  dsimp only
  show M.length-(i+1)<M.length-i
  omega
 simp at Ab
 have hiM:i=M.length:=by omega
 refine Av (AE (AE (AO (AS (AK O (AX (AP O O (fun w' hw=>?_))))))));rw[hiM,Gb]at Ew;exact⟨_,O,J,_,⟨hJ,O,Ew⟩,AD hw⟩
theorem Nc(s:List UInt8)(a:Nat)(w:World)(hs:s.length<=1000000000)(ha:a<=s.length):B2 prog 122 [Au s,.int .i64 (a:Int)] w (.int .i64 (Ag (s.drop a):Int)):=by
 have hul:(s.drop a).length=s.length-a:=BA
 have hnt:∀k,AG (s.drop a) k 0=AG s (a+k) 0:=fun k=>Fo a k
 refine enter func122 O ntmps122 O (St.start w (Ao w) (Le.refl _)) (AK O (AK O (AF (AJ (EB (ι:=Nat×Nat) [0,1,4] (fun zz=>a+zz.1<=s.length/\Dc (s.drop a).length 0 (s.drop a)=Dc zz.2 zz.1 (s.drop a)/\(s.drop a).length-zz.1<=zz.2) (fun zz=>s.length-zz.1) (fun zz=>[(5,.int .i64 (zz.1:Int))]) (fun zz=>Ao w) (fun zz=>[]) (0,(s.drop a).length) O ?_ ?_)))))
 ·dsimp only;exact⟨ha,O,A5 _⟩
 rintro⟨n,g⟩ ⟨hn,hx,hg⟩;dsimp only at *;refine AF (tq (zq rfl (AM rfl rfl rfl (by omega)) ?_));refine zq rfl (AW rfl BX rfl) ?_
 refine zA 8 O (fun h22=>by
   simp at h22
   have hal:a+n<s.length:=by omega
   refine zq O (AM O O O (by omega)) ?_;refine zq O (AM O O O (by omega)) ?_;refine zq O (CK O BX O O O (by omega)) ?_;refine zp O ((fun w _=>MZ ((s.drop a).take (((a:Int)+(n:Int)+1).toNat-a)) w (by simp;omega))) ?_;exact zv O
  ) ?_
 refine Dp (AA O (fun Ab=>?_) (fun Ab=>?_))
 ·have h0:n<(s.drop a).length/\CF ((s.drop a).take (n+1))=true:=by
   have h:=Ab
   rw[Ay,BC,show((a:Int)+(n:Int)+1).toNat-a=n+1 by omega]at h;exact⟨by omega,h.2⟩
  refine AV (AJ (AC (yq O (AM O O O (by omega)) ?_)));refine AU O (AL (DJ ((n+1,g-1)) ?_ ?_))
  ·dsimp only;exact⟨by omega,hx.trans (KU hg h0.1 h0.2),by omega⟩
  dsimp only
  show s.length-(n+1)<s.length-n
  omega
 have h0:¬(n<(s.drop a).length/\CF ((s.drop a).take (n+1))=true):=fun⟨h1,h2⟩=>by
  have h:=Ab
  rw[BK (show(a:Int)+(n:Int)<(s.length:Int) by omega),Bool.true_and,show((a:Int)+(n:Int)+1).toNat-a=n+1 by omega,h2]at h
  cases h
 rw[Lu h0]at hx;refine Av (AE (AE (AO (AS (AF (AK O (AA O (fun An=>?_) (fun An=>?_))))))))
 ·simp at An
  have hp:Ag (s.drop a)=n:=by unfold Ag;simp only[hx];rw[AI (by omega)]
  refine AK O (Ak (AP O O (fun w' hw=>?_)));refine⟨?_,hw.below⟩;rw[hp]
 simp at An
 obtain rfl:n=0:=by omega
 refine AV (AF (AJ (EB (ι:=Nat) [0,1,4,22,26] (fun zz=>a+zz<=s.length/\∀k,k<zz->List.contains Ec (AG (s.drop a) k 0)=true) (fun zz=>s.length-zz) (fun zz=>[(5,.int .i64 (zz:Int))]) (fun zz=>Ao w) (fun zz=>[]) 0 O ?_ ?_)))
 ·exact⟨ha,fun k h=>Ac h (Nat.not_lt_zero _)⟩
 rintro m ⟨hm,hdg⟩;dsimp only at *;refine AF (tq (zq rfl (AM rfl rfl rfl (by omega)) ?_));refine zq rfl (AW rfl BX rfl) ?_
 refine zA 6 O (fun h41=>by
   simp at h41
   have hal:a+m<s.length:=by omega
   refine zq O (AM O O O (by omega)) ?_;refine zq O ((by exact AZ O BX O O (by omega))) ?_;exact zv O
  ) ?_
 refine zA 6 O (fun h49=>by
   simp at h49
   have hal:a+m<s.length:=by omega
   refine zq O (AM O O O (by omega)) ?_;refine zq O ((by exact AZ O BX O O (by omega))) ?_;exact zv O
  ) ?_
 refine Dp (AA O (fun A6=>?_) (fun A6=>?_))
 ·have h2:m<(s.drop a).length/\List.contains Ec (AG (s.drop a) m 0)=true:=by
   have h:=A6
   rw[Ay,Ay,BC,BC,BC]at h;rw[AII,hnt,BK (by omega),BK (by omega)];exact⟨by omega,O⟩
  refine AV (AJ (AC (yq O (AM O O O (by omega)) ?_)));refine AU O (AL (DJ (m+1) ?_ ?_))
  ·refine⟨by omega,fun k hk=>?_⟩;rcases Nat.lt_succ_iff_lt_or_eq.1 hk with h|rfl
   ·exact hdg k h
   exact h2.2
  omega
 have h2:=AGO (s:=(s.drop a)) (n:=m) (by omega) hdg (fun h1=>by
  have h:=A6
  rw[BK (show(a:Int)+(m:Int)<(s.length:Int) by omega),Bool.true_and]at h
  rw[AII,hnt];exact h)
 refine Av (AE (AE (AO (AS (AF (AK O (AA O (fun BJ=>?_) (fun BJ=>?_))))))))
 ·simp at BJ
  have hp:Ag (s.drop a)=m:=by unfold Ag;simp only[hx,h2];rw[AB (by omega),AI (by omega)]
  refine AK O (Ak (AP O O (fun w' hw=>?_)));refine⟨?_,hw.below⟩;rw[hp]
 simp at BJ
 have hm0:m=0:=by omega
 have PU:Ag (s.drop a)=if(s.drop a)≠[]/\Ho VX (AG (s.drop a) 0 0)=true then 1 else 0:=by unfold Ag;simp only[hx,h2];rw[AB (by omega),AB (by omega)]
 rw[hnt]at PU;refine AV (AF (tr (yq O (AW O BX O) (AH O (AA O (fun Bj=>?_) (fun Bj=>?_))))))
 ·simp at Bj
  have Dk:(s.drop a)≠[]:=List.ne_nil_of_length_pos (by omega)
  refine tr (yq O ((by exact AZ O BX O O (by omega))) ?_);refine AH O (tq (zq O (Ae O O O O) ?_))
  refine zO 2 O (fun h67=>by
    simp at h67
    refine zq O (Ae O O O O) ?_;exact zv O
   ) ?_
  refine zO 2 O (fun h71=>by
    simp at h71
    refine zq O (Ae O O O O) ?_;exact zv O
   ) ?_
  refine zO 2 O (fun h75=>by
    simp at h75
    refine zq O (Ae O O O O) ?_;exact zv O
   ) ?_
  refine zO 2 O (fun h79=>by
    simp at h79
    refine zq O (Ae O O O O) ?_;exact zv O
   ) ?_
  refine zO 2 O (fun h83=>by
    simp at h83
    refine zq O (Ae O O O O) ?_;exact zv O
   ) ?_
  refine Dp (AA O (fun B4=>?_) (fun B4=>?_))
  ·rw[AI ⟨Dk,by have h9:=B4;exact(AHr _).trans h9⟩]at PU;refine AK O (Ak (AP O O (fun w' hw=>?_)));refine⟨?_,hw.below⟩
   rw[PU];try rfl
  rw[AB (fun h=>by have h9:=(AHr _).symm.trans h.2;exact Ac (B4.symm.trans h9) (by decide))]at PU;refine AV (AK O (AX (AP O O (fun w' hw=>?_))));refine⟨?_,hw.below⟩
  rw[PU];try rfl
 simp at Bj
 rw[AB (fun h=>h.1 (List.eq_nil_of_length_eq_zero (by omega)))]at PU;refine AV (AK O (AX (AP O O (fun w' hw=>?_))));refine⟨?_,hw.below⟩
 rw[PU];try rfl
def AVG(n:Nat):Prop:=∀(s:List UInt8) (kd dp:Nat) (I:AQ) (F:List HA) (w0 w:World),dp<=24->24-dp=n->kd<=2->s.length<=100000000->St w0 I F w->Calls prog 66 [Au s,.int .i64 (kd:Int),.int .i64 (dp:Int)].toArray w (ER w fun v I' H'=>Le I I'/\H'=F/\∃vl e1,v=.tuple #[vl,.int .i64 ((e1:Nat):Int)]/\On (wP n kd s) I' vl e1)
theorem AAc(l:List UInt8)(w:World)(h:l.length<=1000000000):B2 prog 122 [Au l,.int .i64 0] w (.int .i64 (Ag l:Int)):=Nc l 0 w h (Aw _)
theorem AKP{s:List UInt8}{k:Nat}(h:¬((Fj.take k).find? (fun o=>Dl s o)).getD []=[]):CC s=((Fj.take k).find? (fun o=>Dl s o)).getD []:=by
 unfold CC
 conv=>lhs;rw[<-Iu k Fj,List.find?_append]
 cases hf:(Fj.take k).find? (fun o=>Dl s o)with
 |some o=>rfl
 |none=>rw[hf]at h;exact Ac O h
theorem ASp{s:List UInt8}(h:¬CC s=[]):(decide (AG (CC s) 0 0=37)||decide (AG (CC s) 0 0=35))=Lib.contains [37,37,35,35] (CC s)/\0<(CC s).length:=by
 have hm:CC s∈Fj:=by
  unfold CC at h ⊢
  cases hf:Fj.find? (fun o=>Dl s o)with
  |some o=>exact List.mem_of_find?_eq_some hf
  |none=>rw[hf]at h;exact Ac O h
 exact(show ∀o∈Fj,(decide (AG o 0 0=37)||decide (AG o 0 0=35))=Lib.contains [37,37,35,35] o/\0<o.length by decide) _ hm
theorem On.any{r:PR}{I:AQ}{e1:Nat}(h:On r I vl e1):∃l,QU I vl l/\(e1=0->r=.ok l):=by
 cases r with
 |ok l=>exact⟨l,h.2,fun _=>rfl⟩
 |bad e2=>exact⟨[],h.2.2 ▸ Be I,fun h0=>Ac h0 h.2.1⟩
theorem Abf{s:List UInt8}(h:(decide ((s.length:Int)≥(o.length:Int))&&decide (s.take o.length=o))=true):Dl s o=true:=by
 rw[Ay]at h;exact h.2
theorem ARD{s:List UInt8}(h:(decide ((s.length:Int)≥(o.length:Int))&&decide (s.take o.length=o))=false)(hs:Dl s o=true):False:=by
 have h1:s.take o.length=o:=BM hs
 have h2:=B3 List.length h1
 rw[BL]at h2;rw[BK (show(s.length:Int)≥(o.length:Int) by omega),BK h1]at h
 cases h
theorem AIm{l:List UInt8}{b:Bool}(h:(decide ((l.length:Int)>1)&&decide (AG l 0 0=35)&&decide ((Ag (l.drop 1):Int)=(l.length:Int)-1))=b):(Dl l [35]&&decide (1<(l.length:Int))&&decide ((Ag (l.drop 1):Int)=(l.length:Int)-1))=b:=by
 rw[<-h,show Dl l [35]=decide (l≠[]/\AG l 0 0=35) by cases l<;>simp[Dl,AG,List.take]]
 cases l with
 |nil=>simp
 |cons c r=>simp[Bool.and_comm]
theorem XH(m:Nat)(hW:AVG m)(kd dp:Nat)(l:List UInt8)(I:AQ)(F:List HA)(w0 w:World)(hm:24-dp=m+1)(hkd:kd<=2)(UU:l.length<=100000000)(BZ:St w0 I F w):Calls prog 123 [Au l,.int .i64 (kd:Int),.int .i64 (dp:Int)].toArray w (ER w fun v I' H'=>Le I I'/\H'=F/\∃(x:PE) (e:Nat),v=.tuple #[.agg (Aa x).toArray,.int .i64 (e:Int)]/\W8 (Dm (wP m) kd l) I' x e):=by
 have hq:(decide ((kd:Int)≠0))=decide (kd≠0):=by by_cases h:kd=0<;>simp[h]
 refine enter func123 O ntmps123 O (BZ.self) (tr (HO _ O fun b6=>?_));refine AH O (tr (Em (Aa (⟨2,[],[],As,[],(decide ((kd:Int)≠0))⟩:PE)) O (HO _ O fun b8=>?_)));refine El _ O ?_ (by exact A9 (I:=I) (Be I));refine lnt (tq (zq O (AW O BX O) ?_))
 refine zA 3 O (fun h26=>by
   simp at h26
   have Ri:1<l.length:=by omega
   refine zq O ((by exact Bu O BX O O (by omega))) ?_;refine zq O (Ae O O O O) ?_;exact zv O
  ) ?_
 refine zA 6 O (fun KE=>by
   simp at KE
   have Ri:1<l.length:=by omega
   refine zp O ((fun w _=>Nc l 1 w (by omega) (by omega))) ?_;refine zq O (AW O BX O) (zq O (Bl O O O (by omega)) ?_);exact zv O
  ) ?_
 refine Dp (AA O (fun Ab=>?_) (fun Ab=>?_))
 ·have KA:=ARV (W:=wP m) (kd:=kd) (AIm Ab)
  have Ri:1<l.length:=by
   have h:=Ab
   simp only[Ay,BC]at h
   omega
  refine tr (yq O (BF O BX O O (by omega)) ?_);refine Eu _ O ?_ (by exact⟨O,O⟩) O (by rfl);refine DL (Eu (Aa (⟨2,(l.drop 1),R8,As,[],(decide ((kd:Int)≠0))⟩:PE)) O ?_ (by exact⟨O,O⟩));refine DL (yq O (A7 O DG BU O O O) (El _ O ?_ (by exact A9 (I:=I) (Be I))));refine AH O (AX (Ah (B6 (.inl O) O (by exact Cb O DG BU O O (Du O (Cc))) (fun w' hw=>?_))));exact⟨_,O,I,_,⟨Le.refl _,O,(⟨2,(l.drop 1),R8,As,[],(decide ((kd:Int)≠0))⟩:PE),0,O,(by rw[KA];exact⟨O,by rw[<-hq];rfl,Be _⟩)⟩,AD hw⟩
 have KA:=AHs (W:=wP m) (kd:=kd) (AIm Ab)
 refine AV (AF ?_)
 have AiK:=Lj l
 refine AC (yp O ((fun w _=>AAc l w (by omega))) ?_);refine AH O (AF (AK O (AA O (fun An=>?_) (fun An=>?_))))
 ·simp at An
  have NZ:Ag l=0:=by omega
  rw[AI NZ]at KA;refine tr (Em (Aa Ct) O (El _ O ?_ (by exact A9 (I:=I) (Be I))));refine AH O (AX (Ah (B6 (.inl O) O (by exact Cb O DG BU O O (Du O (Cc))) (fun w' hw=>?_))));exact⟨_,O,I,_,⟨Le.refl _,O,Ct,55,O,(by rw[KA];exact⟨O,by decide,Be _⟩)⟩,AD hw⟩
 simp at An
 have NZ:¬Ag l=0:=by omega
 rw[AB NZ]at KA;refine AV (tr (yq O (Ba O BX O O (by omega)) ?_));refine Eu (Aa (⟨2,(l.take (Ag l)),[],As,[],(decide ((kd:Int)≠0))⟩:PE)) O ?_ (by exact⟨O,O⟩);refine DL (yq O (BF O BX O O (by omega)) ?_);refine AH O (AF (AF ?_))
 have hRl:(l.drop (Ag l)).length=l.length-Ag l:=BA
 rw[show((Ag l:Nat):Int).toNat=Ag l from O];refine AC (yq O (AR O O O) (ln (AA O (fun A6=>?_) (fun A6=>?_))))
 ·have Tv:l.drop (Ag l)=[]:=BM A6
  rw[AI Tv]at KA;refine tr (yq O (A7 O DG BU O O O) (El _ O ?_ (by exact A9 (I:=I) (Be I))));refine AH O (AX (Ah (B6 (.inl O) O (by exact Cb O DG BU O O (Du O (Cc))) (fun w' hw=>?_))));exact⟨_,O,I,_,⟨Le.refl _,O,(⟨2,(l.take (Ag l)),[],As,[],(decide ((kd:Int)≠0))⟩:PE),0,O,(by rw[KA];exact⟨O,by rw[<-hq];rfl,Be _⟩)⟩,AD hw⟩
 have Tv:¬l.drop (Ag l)=[]:=BW A6
 rw[AB Tv]at KA;refine AV (tr (ye O (Cl (vs:=[_,_,_,_,_,_,_,_,_,_,_,_]) (css:=[[Au [58,45]],[Au [58,61]],[Au [58,63]],[Au [58,43]],[Au [37,37]],[Au [35,35]],[Au [45]],[Au [61]],[Au [63]],[Au [43]],[Au [37]],[Au [35]]]) O BT Co O O O O (O) (by simp[])) ?_));rintro _ _ _ ⟨b55,rfl,rfl,rfl⟩;refine AH rfl (AF (AK rfl (AJ (EB (ι:=Nat) [0,1,2,6,7,8,34,9,43,10,53,11] (fun zz=>zz<=12) (fun zz=>12-zz) (fun zz=>[(12,.int .i64 (zz:Int))]) (fun zz=>I) (fun zz=>(row b55 9 (Fj.map Au)::row b8 147 (Aa (⟨2,(l.take (Ag l)),(((Fj.take zz).find? (fun o=>Dl (l.drop (Ag l)) o)).getD []),As,[],(decide ((kd:Int)≠0))⟩:PE))::row b6 147 (Aa Ct)::F)) 0 rfl ?_ ?_ (hh:=(fun _ h=>h))))))
 ·exact Aw _
 rintro k hk;dsimp only at *;refine AF (tq ?_);refine zq rfl ((by exact BH rfl BT rfl (⟨_,_,rfl⟩))) ?_
 refine zA 3 O (fun h64=>by
   simp at h64
   refine zq O ((by exact Az O O (by rfl))) ?_;refine zq O (AR O O O) ?_;exact zv O
  ) ?_
 refine Dp (AA O (fun BJ=>?_) (fun BJ=>?_))
 ·have h3:=BJ
  rw[Ay,BC,BC]at h3
  have AYL:k<12:=by omega
  have AOt:(((Fj.take k).find? (fun o=>Dl (l.drop (Ag l)) o)).getD [])=[]:=h3.2
  have LS:=Yh (s:=(l.drop (Ag l))) Fj k (((Fj.take k).find? (fun o=>Dl (l.drop (Ag l)) o)).getD []) hk O (by decide) AYL
  refine AV (AF (AJ (AF (Bd mo (by kernel_rfl) (fun _ _ _ _ _ h=>h) (zq O (AW O BX O) ?_)))));refine zq O ((by exact AN O BT Co O O (⟨_,_,O,fun _ _ h=>by cases h;rfl,fun _ h=>by cases h⟩) (by omega))) ?_;refine zq rfl ((by exact Ai rfl rfl (Uq (b:=b55) (T:=9) (k:=k) (CQ) (by omega)))) ?_;refine zq rfl (AW rfl BX rfl) ?_
  refine zA 12 O (fun h88=>by
    simp at h88
    refine zq O ((by exact AN O BT Co O O (⟨_,_,O,fun _ _ h=>by cases h;rfl,fun _ h=>by cases h⟩) (by omega))) ?_;refine zq rfl ((by exact Ai rfl rfl (Uq (b:=b55) (T:=9) (k:=k) (CQ) (by omega)))) ?_;refine zq rfl (AW rfl BX rfl) (zq rfl (Ba rfl BX rfl rfl (by omega)) ?_);refine zq rfl ((by exact AN rfl BT Co rfl rfl (⟨_,_,rfl,fun _ _ h=>by cases h;rfl,fun _ h=>by cases h⟩) (by omega))) ?_;refine zq rfl ((by exact Ai rfl rfl (Uq (b:=b55) (T:=9) (k:=k) (CQ) (by omega)))) ?_;refine zq rfl (AR rfl rfl rfl) ?_;exact zv rfl
   ) ?_
  refine Dp (AA O (fun Bj=>?_) (fun Bj=>?_))
  ·have AXs:Dl (l.drop (Ag l)) (AG Fj k [])=true:=Abf Bj
   refine AC ?_;refine yq O ((by exact AN O BT Co O O (⟨_,_,O,fun _ _ h=>by cases h;rfl,fun _ h=>by cases h⟩) (by omega))) ?_;refine yq rfl ((by exact Ai rfl rfl (Uq (b:=b55) (T:=9) (k:=k) (CQ) (by omega)))) ?_;refine Eu (Aa (⟨2,(l.take (Ag l)),(AG Fj k []),As,[],(decide ((kd:Int)≠0))⟩:PE)) rfl ?_ (by exact⟨rfl,rfl⟩);refine C7 (AL (AS (AC (yq rfl (AM rfl rfl rfl (by omega)) ?_))));refine AU rfl (DJ (k+1) ?_ ?_ (hh:=(fun _ h=>by dsimp only;rw[LS,AI ⟨AOt,AXs⟩];exact AD h)))
   ·omega
   show 12-(k+1)<12-k
   omega
  have AYZ:¬((((Fj.take k).find? (fun o=>Dl (l.drop (Ag l)) o)).getD [])=[]/\Dl (l.drop (Ag l)) (AG Fj k [])=true):=fun h=>ARD Bj h.2
  refine AY (AL (AS (AC (yq O (AM O O O (by omega)) ?_))));refine AU O (DJ (k+1) ?_ ?_ (hh:=(fun _ h=>by dsimp only;rw[LS,AB AYZ];exact AD h)))
  ·omega
  show 12-(k+1)<12-k
  omega
 have hfk:(((Fj.take k).find? (fun o=>Dl (l.drop (Ag l)) o)).getD [])=CC (l.drop (Ag l)):=by
  by_cases h9:(((Fj.take k).find? (fun o=>Dl (l.drop (Ag l)) o)).getD [])=[]
  ·obtain rfl:k=12:=by
    have h3:=BJ
    rw[show decide ((((Fj.take k).find? (fun o=>Dl (l.drop (Ag l)) o)).getD [])=[])=true from BK h9,Bool.and_true,CA]at h3
    omega
   rfl
  exact(AKP h9).symm
 rw[hfk];refine Av (AE (AE (AO (AS (AF (tr (yq O ((by exact Az O O (by rfl))) ?_)))))));refine yq O (AR O O O) (ln (AA O (fun B4=>?_) (fun B4=>?_)))
 ·have Zp:CC (l.drop (Ag l))=[]:=BM B4
  rw[AI Zp]at KA;refine tr (Em (Aa Ct) O (El _ O ?_ (by exact A9 (I:=I) (Be I))));refine AH O (AX (Ah (B6 (.inl O) O (by exact Cb O DG BU O O (Du O (Cc))) (fun w' hw=>?_))));exact⟨_,O,I,_,⟨Le.refl _,O,Ct,55,O,(by rw[KA];exact⟨O,by decide,Be _⟩)⟩,AD hw⟩
 have Zp:¬CC (l.drop (Ag l))=[]:=BW B4
 rw[AB Zp]at KA;obtain⟨hwl,hf1⟩:=ASp Zp
 have Wk:=Yf (l.drop (Ag l))
 rw[BA]at Wk;refine AV (AK O (EZ (ι:=Nat) [12,0,1,2,6,7,8,34,9,43,10,53,11,64,96] (fun zz=>(zz=if Lib.contains [37,37,35,35] (CC (l.drop (Ag l)))=true then 0 else kd)) (fun zz=>[(13,.int .i64 (zz:Int))]) (fun zz=>I) (fun zz=>(row b55 9 (Fj.map Au)::row b8 147 (Aa (⟨2,(l.take (Ag l)),(CC (l.drop (Ag l))),As,[],(decide ((kd:Int)≠0))⟩:PE))::row b6 147 (Aa Ct)::F)) O ?_ ?_))
 ·refine tq (zq O ((by exact Az O O (by rfl))) ?_);refine zq O ((by exact AZ O BX O O (by omega))) ?_;refine zq O (Ae O O O O) ?_
  refine zO 4 O (fun Ajn=>by
    simp at Ajn
    refine zq O ((by exact Az O O (by rfl))) ?_;refine zq O ((by exact AZ O BX O O (by omega))) ?_;refine zq O (Ae O O O O) ?_;exact zv O
   ) ?_
  refine Dp (AA O (fun CP=>?_) (fun CP=>?_))
  ·have CP:Lib.contains [37,37,35,35] (CC (l.drop (Ag l)))=true:=hwl.symm.trans CP
   refine AC (AU O (CB (0) ?_))
   rw[AI CP]
  have CP:Lib.contains [37,37,35,35] (CC (l.drop (Ag l)))=false:=hwl.symm.trans CP
  refine AY (CB (kd) ?_)
  rw[AB (by rw[CP];simp)]
 rintro kk hkk;dsimp only at *
 have AZY:kk<=2:=by rw[hkk];split<;>omega
 refine AF ?_
 have Ahf:(⟨2,(l.take (Ag l)),(CC (l.drop (Ag l))),As,[],(decide ((kd:Int)≠0))⟩:PE).op.length=(CC (l.drop (Ag l))).length:=rfl
 refine AC (yq O ((by exact Az O O (by rfl))) ?_);refine yq O (AW O BX O) (yq O (BF O BX O O (by omega)) ?_);refine yq O (AM O O O (by omega)) ?_;refine yc O (fun w hw=>hW ((l.drop (Ag l)).drop (CC (l.drop (Ag l))).length) kk (dp+1) _ _ _ w (by omega) (by omega) AZY (by rw[BA,BA];omega) hw) ?_;rintro _ J118 _ ⟨AWI,rfl,vl,e1,rfl,ET⟩;refine AH rfl (AF ?_);obtain⟨l2,EU,W4⟩:=ET.any;refine AC (Eu (Aa (⟨2,(l.take (Ag l)),(CC (l.drop (Ag l))),vl,l2,(decide ((kd:Int)≠0))⟩:PE)) rfl ?_ (by exact EU.one));refine XN (AH rfl (AA rfl (fun DF=>?_) (fun DF=>?_)))
 ·simp at DF
  have Kn:e1≠0:=by omega
  rw[<-hkk,(ET.f Kn).1]at KA;refine tr (Em (Aa Ct) O (El _ O ?_ (by exact A9 (I:=I) (Be I))));refine AH O (AX (Ah (B6 (.inl O) O (by exact Cb O DG BU O O (Du O (Cc))) (fun w' hw=>?_))));exact⟨_,O,J118,_,⟨AWI,O,Ct,e1,O,(by rw[KA];exact⟨O,Kn,Be _⟩)⟩,AD hw⟩
 simp at DF
 have Kn:e1=0:=by omega
 rw[<-hkk,W4 Kn]at KA;refine AV (tr (yq O (A7 O DG BU O O O) (El _ O ?_ (by exact A9 (x:=⟨2,(l.take (Ag l)),CC (l.drop (Ag l)),vl,l2,(decide ((kd:Int)≠0))⟩) EU))));refine AH O (AX (B6 (.inl O) O (by exact Cb O DG BU O O (Du O (Cc))) (fun w' hw=>?_)));exact⟨_,O,J118,_,⟨AWI,O,(⟨2,(l.take (Ag l)),(CC (l.drop (Ag l))),vl,l2,(decide ((kd:Int)≠0))⟩:PE),0,O,(by rw[KA];exact⟨O,by rw[<-hq];rfl,EU⟩)⟩,AD hw⟩
def LF(n kd:Nat)(l:List UInt8)(i:Nat)(vl:Value)(nx e:Nat)(I:AQ):Prop:=
 (e=0->∃(M:List PE) (k:Nat),Sl I 5 vl (M.map Aa)/\Cg I M/\M.length=1/\nx=i+k/\∀acc,Ks n (Wn n) kd l acc=.ok (Jk acc (M.map PE.pt)) k)/\(e≠0->∀acc,Ks n (Wn n) kd l acc=.bad e)
theorem KF{w0 w:World}{I:AQ}{H:List HA}{b:Nat}{x:PE}(hw:St w0 I (row b 147 (Aa x)::H) w)(hx:QU I x.wv x.word):∃J,Le I J/\Sl J 5 (.slice (some ⟨b,0,none⟩) 1 1) ([x].map Aa)/\Cg J [x]/\St w0 J H w:=by
 obtain⟨J,h1,h2,h3⟩:=FV (f:=Aa) (l:=[x]) (H5 (sz:=5) (n:=1) hw rfl (by decide)) (fun _=>rfl);exact⟨J,h1,h3,Eo (hx.mono h1),h2⟩
theorem LF.one{n kd:Nat}{l:List UInt8}{i:Nat}{k:Nat}{I:AQ}{x:PE}(hs:Sl I 5 vl ([x].map Aa))(hw:Cg I [x])(hn:nx=i+k)(h:∀acc,Ks n (Wn n) kd l acc=.ok (Jk acc [x.pt]) k):LF n kd l i vl nx 0 I:=
 ⟨fun _=>⟨[x],k,hs,hw,O,hn,h⟩,fun h=>Ac O h⟩
theorem AUQ{s:List UInt8}{i:Nat}(h:(decide ((48:Int)<=((AG s ((i:Int)+1).toNat 0).toNat:Int))&&decide (((AG s ((i:Int)+1).toNat 0).toNat:Int)<=57))=true):48<=(AG (s.drop i) 1 0).toNat/\(AG (s.drop i) 1 0).toNat<=57:=by
 rw[Ay,BC,BC,show((i:Int)+1).toNat=i+1 by omega]at h
 rw[Fo];omega
theorem AQL{s:List UInt8}{i:Nat}(h:(decide ((48:Int)<=((AG s ((i:Int)+1).toNat 0).toNat:Int))&&decide (((AG s ((i:Int)+1).toNat 0).toNat:Int)<=57))=false):¬(48<=(AG (s.drop i) 1 0).toNat/\(AG (s.drop i) 1 0).toNat<=57):=by
 rw[Fo];rintro⟨h1,h2⟩;rw[show((i:Int)+1).toNat=i+1 by omega,BK (show(48:Int)<=((AG s (i+1) 0).toNat:Int) by omega),BK (show((AG s (i+1) 0).toNat:Int)<=57 by omega)]at h
 cases h
theorem APZ{l:List UInt8}(h:(decide (l≠[])&&decide (AG l 0 0=40))=true):Dl l [40]=true:=by
 rw[Ay,BC,BC]at h
 cases l with
 |nil=>exact Ac O h.1
 |cons c r=>have:c=40:=h.2;subst this;rfl
theorem ADU{l:List UInt8}(h:(decide (l≠[])&&decide (AG l 0 0=40))=false):Dl l [40]=false:=by
 cases l with
 |nil=>rfl
 |cons c r=>have:decide (c=40)=false:=h;exact DC fun hc=>by cases hc;cases this
theorem ASZ{l:List UInt8}(h:Dl l [40]=true):(Value.agg #[.int .i64 (dl (Dr (36::l) 0) (Ob 0 ((lv 24).2 q ((36::l).drop 0))):Int),.int .i64 (dl (Dr (36::l) 0) (Sb 0 ((lv 24).2 q ((36::l).drop 0))):Int),.int .i64 (dl (Dr (36::l) 0) (JP ((lv 24).2 q ((36::l).drop 0))):Int)])=.agg #[.int .i64 (Ob 0 ((lv 24).2 q (36::l)):Int),.int .i64 (Sb 0 ((lv 24).2 q (36::l)):Int),.int .i64 (JP ((lv 24).2 q (36::l)):Int)]:=by
 cases l with
 |nil=>cases h
 |cons c r=>
  have:c=40:=by have:=BM h;simpa using this
  subst this;rfl
theorem ATY{W:Nat->List UInt8->PR}{kd:Nat}{l:List UInt8}{x:PE}(h:Dm W kd l=.ok x.pt):x.kind≠1:=by
 intro hk;unfold Dm at h
 have hp:x.pt.kind=1:=hk
 repeat' (first | (split at h)| (cases h;done)| (rw[<-BR.ok.inj h]at hp;cases hp))
theorem AUF{W:Nat->List UInt8->PR}{kd:Nat}{c:UInt8}{I:AQ}{x:PE}{e:Nat}(hc:c=123)(h:W8 (Dm W kd inner) I x e):(e=0->Ko W kd c inner=.ok x.pt)/\(e≠0->Ko W kd c inner=.bad e):=by
 unfold Ko;rw[AI hc];exact⟨fun he=>(h.t he).1,fun he=>h.f he⟩
theorem ATI{W:Nat->List UInt8->PR}{kd:Nat}{c:UInt8}{wl:List PT}(hc:¬c=123)(he:H4 inner (decide (kd≠0))=true)(hw:W 2 ((inner.take (inner.length-1)).drop 1)=.ok wl):Ko W kd c inner=.ok (.mk 4 [] [] wl (decide (kd≠0))):=by
 unfold Ko;rw[AB hc,AI he,hw]
theorem APi{W:Nat->List UInt8->PR}{kd:Nat}{c:UInt8}{e:Nat}(hc:¬c=123)(he:H4 inner (decide (kd≠0))=true)(hw:W 2 ((inner.take (inner.length-1)).drop 1)=.bad e):Ko W kd c inner=.bad e:=by
 unfold Ko;rw[AB hc,AI he,hw]
theorem AHp{W:Nat->List UInt8->PR}{kd:Nat}{c:UInt8}(hc:¬c=123)(he:H4 inner (decide (kd≠0))=false):Ko W kd c inner=.ok (.mk 3 inner [] [] (decide (kd≠0))):=by
 unfold Ko;rw[AB hc,AB (by rw[he];simp)]
theorem LF.sub{n kd:Nat}{l:List UInt8}{i:Nat}{k e:Nat}{I:AQ}{x:PE}{r:BR}(hs:Sl I 5 vl ([x].map Aa))(hw:Cg I [x])(hk:e=0->x.kind≠1)(hr:(e=0->r=.ok x.pt)/\(e≠0->r=.bad e))(hd:∀acc,(∀e,r=.bad e->Ks n (Wn n) kd l acc=.bad e)/\∀p,r=.ok p->Ks n (Wn n) kd l acc=.ok (acc++[p]) k):LF n kd l i vl (i+k) e I:=
 ⟨fun h=>⟨[x],k,hs,hw,O,O,fun acc=>((hd acc).2 _ (hr.1 h)).trans (B3 (SP.ok · k) (AB (hk h)).symm)⟩,fun h acc=>(hd acc).1 _ (hr.2 h)⟩
theorem LF.bad{n kd:Nat}{l:List UInt8}{i:Nat}{e:Nat}{I:AQ}(he:e≠0)(h:∀acc,Ks n (Wn n) kd l acc=.bad e):LF n kd l i vl nx e I:=⟨fun h=>Ac h he,fun _=>h⟩
theorem Vc(n:Nat)(hW:∀m,n=m+1->AVG m)(s:List UInt8)(i kd dp:Nat)(I:AQ)(F:List HA)(w0 w:World)(hn9:24-dp=n)(hd:dp<=24)(hi:i<s.length)(hs:s.length<=100000000)(hc:AG s i 0=36)(hkd:kd<=2)(BZ:St w0 I F w):Calls prog 91 [Au s,.int .i64 (i:Int),.int .i64 (kd:Int),.int .i64 (dp:Int)].toArray w (ER w fun v I' H'=>Le I I'/\H'=F/\∃(vl:Value) (nx e:Nat),v=.tuple #[vl,.int .i64 (nx:Int),.int .i64 (e:Int)]/\LF n kd (s.drop i) i vl nx e I'):=by
 have hq:(decide ((kd:Int)≠0))=decide (kd≠0):=by by_cases h:kd=0<;>simp[h]
 have hdl:(s.drop i).length=s.length-i:=BA
 refine enter func91 O ntmps91 O (BZ.self) (AK O (AK O (AF ?_)));rw[hq];refine AC (yp O ((fun w _=>(ABJ n).2 s i dp (decide (kd≠0)) w hn9 (by omega) (by omega) (by omega))) ?_);obtain⟨r,hr⟩:∃r,r=(lv n).2 (decide (kd≠0)) (s.drop i):=⟨_,rfl⟩;obtain⟨bg,W5⟩:∃bg,bg=Dr s i:=⟨_,rfl⟩;rw[<-hr,<-W5]
 have hfy:Fv r:=hr ▸ (HH n).2 _ _
 have hr3:∀k,r=.ok k->1<=k:=fun k h=>by have:=Nu (hr.symm.trans h);omega
 refine HO _ O fun b12=>?_
 refine El _ O ?_ (by simp[Value.oneCell']);refine XN (DE O ?_);refine AH O (AA O (fun Ab=>?_) (fun Ab=>?_))
 ·simp at Ab
  have hx:dl bg (JP r)≠0:=by omega
  obtain⟨hbt,a,hrb⟩:=ABu hx;refine AF (Bd mo (by kernel_rfl) (fun _ _ _ _ _ h=>h) (EA rfl ?_));refine De rfl (Ak (Cu rfl rfl rfl rfl (fun w' hw=>?_)));exact⟨_,rfl,I,_,⟨Le.refl _,rfl,As,0,_,rfl,LF.bad hx (fun acc=>ACJ (W5.symm.trans hbt) (hr.symm.trans hrb))⟩,AD hw⟩
 simp at Ab
 have hx:dl bg (JP r)=0:=by omega
 have hz:=AIc (i:=i) hx hfy hr3
 refine AV (AF (tr (DE O ?_)));refine AH O (AA O (fun An=>?_) (fun An=>?_))
 ·simp at An
  have hb:Hv (s.drop i)=false:=W5.symm.trans (hz.1 (by omega))
  have hdp:=fun acc=>ACM (n:=n) (W:=Wn n) (kd:=kd) (acc:=acc) hb
  have AXR:=Lj ((s.drop i).drop 1)
  rw[BA]at AXR;refine tr (yq O (AM O O O (by omega)) ?_);refine yp O ((fun w _=>Nc s (i+1) w (by omega) (by omega))) ?_;rw[show s.drop (i+1)=(s.drop i).drop 1 by rw[Cp]];refine AH O (AF (AK O (AA O (fun A6=>?_) (fun A6=>?_))))
  ·have PU:Ag ((s.drop i).drop 1)=0:=by have:=BM A6;omega
   refine tr (Em (Aa (⟨1,[36],[],As,[],(decide (kd≠0))⟩:PE)) O (NF _ O (fun b44=>?_) (by rfl)));refine yq O (AM O O O (by omega)) ?_;refine AH O (Ak (Cu O O O O (fun w' hw=>?_)));obtain⟨J,hJ,Lh,Lg,JM⟩:=KF (x:=(⟨1,[36],[],As,[],(decide (kd≠0))⟩:PE)) hw (Be I);exact⟨_,rfl,J,_,⟨hJ,rfl,_,i+1,0,rfl,LF.one Lh Lg rfl (fun acc=>(hdp acc).1 PU)⟩,AD JM⟩
  have PU:¬Ag ((s.drop i).drop 1)=0:=by have:=BW A6;omega
  refine AV (EZ (ι:=Nat) [0,1,2,3,8,9,10,11,12,30,35] (fun zz=>zz=(if 48<=(AG (s.drop i) 1 0).toNat/\(AG (s.drop i) 1 0).toNat<=57 then 1 else Ag ((s.drop i).drop 1))/\zz<=Ag ((s.drop i).drop 1)) (fun zz=>[(13,.int .i64 (zz:Int))]) (fun zz=>I) (fun zz=>(row b12 176 [.int .i64 (dl bg (Ob i r):Int),.int .i64 (dl bg (Sb i r):Int),.int .i64 (dl bg (JP r):Int)]::F)) O ?_ ?_)
  ·refine tq (zq O (AM O O O (by omega)) ?_);refine zq O ((by exact Bu O BX O O (by omega))) ?_
   refine zA 5 O (fun h58=>by
     simp at h58
     refine zq O (AM O O O (by omega)) ?_;refine zq O ((by exact Bu O BX O O (by omega))) ?_;exact zv O
    ) ?_
   refine Dp (AA O (fun BJ=>?_) (fun BJ=>?_))
   ·have AOt:=AUQ (i:=i) BJ
    refine AC (AU O (CB (1) ?_))
    exact⟨by rw[AI AOt],by omega⟩
   have AZb:=AQL (i:=i) BJ
   refine AY (CB (Ag ((s.drop i).drop 1)) ?_)
   exact⟨by rw[AB AZb],A5 _⟩
  rintro x ⟨AiE,hxl⟩;dsimp only at *;refine tr (yq rfl (AM rfl rfl rfl (by omega)) ?_);refine yq rfl (AM rfl rfl rfl (by omega)) ?_;refine yq rfl (AM rfl rfl rfl (by omega)) ?_;refine yq rfl (CK rfl BX rfl rfl rfl (by omega)) ?_;rw[show(s.drop ((i:Int)+1).toNat).take (((i:Int)+1+(x:Int)).toNat-((i:Int)+1).toNat)=(((s.drop i).drop 1).take x) by rw[Cp,show((i:Int)+1).toNat=i+1 by omega,show(((i:Int)+1+(x:Int)).toNat-(i+1))=x by omega]];refine Em (Aa (⟨2,(((s.drop i).drop 1).take x),[],As,[],(decide (kd≠0))⟩:PE)) rfl (NF _ rfl (fun b69=>?_) (by rfl));refine yq rfl (AM rfl rfl rfl (by omega)) ?_;refine yq rfl (AM rfl rfl rfl (by omega)) ?_;refine AH rfl (Ak (Cu rfl rfl rfl rfl (fun w' hw=>?_)));obtain⟨J,hJ,Lh,Lg,JM⟩:=KF (x:=(⟨2,(((s.drop i).drop 1).take x),[],As,[],(decide (kd≠0))⟩:PE)) hw (Be I);exact⟨_,rfl,J,_,⟨hJ,rfl,_,i+(x+1),0,by rw[show(i:Int)+1+(x:Int)=((i+(x+1):Nat):Int) by omega];rfl,LF.one Lh Lg rfl (fun acc=>(hdp acc).2 x PU AiE)⟩,AD JM⟩
 simp at An
 obtain⟨hbt,k,QJ⟩:=hz.2 (by omega)
 have We:Hv (s.drop i)=true:=W5.symm.trans hbt
 have Td:=Nu (hr.symm.trans QJ)
 have Om:=(GM n).2 (decide (kd≠0)) (s.drop i) (Kz We)
 rw[hr.symm.trans QJ]at Om
 have Om:k<=(s.drop i).length:=Om.2
 rw[show dl bg (Ob i r)=i+k by rw[hbt,QJ];rfl];refine AV (tr (yq O (AM O O O (by omega)) ?_));refine DE O ?_;refine yq O (Bl O O O (by omega)) ?_;refine yq O (CK O BX O O O (by omega)) ?_;obtain⟨inner,KM⟩:∃x,x=((s.drop i).take (k-1)).drop 2:=⟨_,rfl⟩;rw[show(s.drop ((i:Int)+2).toNat).take (((((i+k:Nat):Int))-1).toNat-((i:Int)+2).toNat)=inner by rw[KM,X3,show((i:Int)+2).toNat=i+2 by omega,show(((((i+k:Nat):Int))-1).toNat-(i+2))=k-3 by omega]]
 have DK:inner.length=k-3:=by rw[KM,BA,BL];omega
 have hds:=fun acc=>AED (n:=n) (W:=Wn n) (kd:=kd) (acc:=acc) We (hr.symm.trans QJ) KM
 obtain⟨m,rfl⟩:=AEW (hr.symm.trans QJ);refine AH rfl (AF (tr (yq rfl (AM rfl rfl rfl (by omega)) ?_)));refine yq rfl ((by exact Bu rfl BX rfl rfl (by omega))) ?_;refine yq rfl (Ae rfl rfl rfl rfl) (ln (AA rfl (fun Bj=>?_) (fun Bj=>?_)))
 ·simp only[BC]at Bj
  have h5:AG (s.drop i) 1 0=123:=(Fo i 1).trans Bj
  refine tr (yc O (fun w hw=>XH m (hW m O) kd dp inner _ _ _ w (by omega) hkd (by omega) hw) ?_);rintro _ J90 _ ⟨AEw,rfl,x1,e1,rfl,ET⟩
  refine HO _ O fun b15=>?_
  refine El _ O ?_ (by exact A9 ET.w);refine AH O (AF (Bo [1] [] [row b12 176 [.int .i64 ((i+k:Nat):Int),.int .i64 (dl bg (Sb i r):Int),.int .i64 (dl bg (JP r):Int)]] mo (by kernel_rfl) (fun _ _ _ _ _ h=>h) (xq 0 O O (A7 O DG BU O O O) (xr [2] O O (x0 3 O (Le.refl _) O (fun _ hI=>Az O O (by rfl)) ?_)))));refine xr [4] O O (xe 1 O O (BD O Fw BU O O O (by rfl) O) ?_);rintro _ _ _ ⟨b94,rfl,rfl,rfl⟩;refine xk (xr [5,6,7] rfl rfl (CX (AS (Ak (Cu rfl rfl rfl rfl (fun w' hw=>?_))))));obtain⟨J,hJ,Lh,Lg,JM⟩:=KF (x:=x1) hw ET.w;exact⟨_,rfl,J,_,⟨AEw.trans hJ,rfl,_,i+k,e1,rfl,LF.sub Lh Lg (fun h=>ATY (ET.t h).1) (AUF h5 ET) hds⟩,AD JM⟩
 simp only[CA]at Bj
 have h5:¬AG (s.drop i) 1 0=123:=fun h=>Bj ((Fo i 1).symm.trans h)
 refine AV (AF (tq (zq O (Bs O O O) ?_)))
 refine zA 3 O (fun Aeg=>by
   simp at Aeg
   have T4:0<inner.length:=BV.2 Aeg
   refine zq O ((by exact AZ O BX O O (by omega))) ?_;refine zq O (Ae O O O O) ?_;exact zv O
  ) ?_
 refine Dp (AA O (fun B4=>?_) (fun B4=>?_))
 ·have CS:Dl inner [40]=true:=APZ B4
  refine tr (yq O (F1 O O O (by(simp only[CD,Bb];omega))) ?_);refine AH O (tr (yp O ((fun w _=>(ABJ 24).2 (36::inner) 0 0 (decide (kd≠0)) w O (by decide) (by rw[CD];omega) (Aw _))) ?_));rw[ASZ CS]
  refine HO _ O fun b18=>?_
  refine El _ O ?_ (by simp[Value.oneCell']);refine lnt (FU (EA O ?_))
  refine zA 5 O (fun AhJ=>by
    simp at AhJ
    refine EA O ?_;refine zq O (AW O BX O) ?_;exact zv O
   ) ?_
  refine Dp (AA O (fun CP=>?_) (fun CP=>?_))
  ·have XF:H4 inner (decide (kd≠0))=true:=(Uy CS).symm.trans CP
   have hel:=Xr XF
   refine tr (yq O (AW O BX O) (yq O (Bl O O O (by omega)) ?_));refine yq O (CK O BX O O O (by omega)) ?_;rw[show(inner.drop (1:Int).toNat).take (((inner.length:Int)-1).toNat-(1:Int).toNat)=(inner.take (inner.length-1)).drop 1 by rw[Ti,show((inner.length:Int)-1).toNat-(1:Int).toNat=inner.length-2 by omega];rfl];refine yq O (AM O O O (by omega)) ?_;refine yc O (fun w hw=>hW m O ((inner.take (inner.length-1)).drop 1) 2 (dp+1) _ _ _ w (by omega) (by omega) (by omega) (by rw[BA,BL];omega) hw) ?_;rintro _ J128 _ ⟨AcG,rfl,vl,e1,rfl,ET⟩;obtain⟨wl,EU,W4⟩:=ET.any;refine AH rfl (AF (Bo [3] [] [row b12 176 [.int .i64 ((i+k:Nat):Int),.int .i64 (dl bg (Sb i r):Int),.int .i64 (dl bg (JP r):Int)]] mo (by kernel_rfl) (fun _ _ _ _ _ h=>h) (xr [0,1] rfl rfl (xq 2 rfl rfl (C0 (pl:=[(_,_),(_,_),(_,_),(_,_),(_,_)]) (cs:=(Aa (⟨4,[],[],vl,wl,(decide (kd≠0))⟩:PE)).toArray) rfl DG BU ⟨rfl,⟨_,_,I2⟩,rfl,⟨_,_,Co⟩,rfl,⟨_,_,Co⟩,rfl,⟨_,_,XA⟩,rfl,⟨_,_,NL⟩,trivial⟩ rfl (by obtain⟨Lp,_,hp1,_⟩:=EU.un;obtain⟨A,c,h⟩:=Sl.lenOf hp1 (Af _);rw[h];try rfl)) ?_))));refine xr [4] rfl rfl (x0 5 rfl (Le.refl _) rfl (fun _ hI=>Az rfl rfl (by rfl)) ?_)
   refine xr [6] O O (xe 3 O O (BD O Fw BU O O O (by rfl) O) ?_);rintro _ _ _ ⟨b134,rfl,rfl,rfl⟩;refine xk (xr [7,8,9] rfl rfl (CX (AS (Ak (Cu rfl rfl rfl rfl (fun w' hw=>?_))))));obtain⟨J,hJ,Lh,Lg,JM⟩:=KF (x:=(⟨4,[],[],vl,wl,(decide (kd≠0))⟩:PE)) hw EU;exact⟨_,rfl,J,_,⟨AcG.trans hJ,rfl,_,i+k,e1,rfl,LF.sub Lh Lg (fun _=>(by decide:(4:Nat)≠1)) ⟨fun h=>ATI h5 XF (W4 h),fun h=>APi h5 XF (ET.f h).1⟩ hds⟩,AD JM⟩
  have XF:H4 inner (decide (kd≠0))=false:=(Uy CS).symm.trans CP
  refine AV (AF (Bo [3] [] [row b12 176 [.int .i64 ((i+k:Nat):Int),.int .i64 (dl bg (Sb i r):Int),.int .i64 (dl bg (JP r):Int)]] mo (by kernel_rfl) (fun _ _ _ _ _ h=>h) (xr [0,1] O O (xq 2 O O (C0 (pl:=[(_,_),(_,_),(_,_),(_,_),(_,_)]) (cs:=(Aa (⟨3,inner,[],As,[],(decide (kd≠0))⟩:PE)).toArray) O DG BU ⟨O,⟨_,_,I2⟩,O,⟨_,_,Co⟩,O,⟨_,_,Co⟩,O,⟨_,_,XA⟩,O,⟨_,_,NL⟩,trivial⟩ O O) (xr [4] O O (x0 5 O (Le.refl _) O (fun _ hI=>Az O O (by rfl)) ?_))))));refine xe 3 O O (BD O Fw BU O O O (by rfl) O) ?_;rintro _ _ _ ⟨b141,rfl,rfl,rfl⟩;refine xk (xr [6,7,8] rfl rfl (CX (AS (AX (Cu rfl rfl rfl rfl (fun w' hw=>?_))))));obtain⟨J,hJ,Lh,Lg,JM⟩:=KF (x:=(⟨3,inner,[],As,[],(decide (kd≠0))⟩:PE)) hw (Be I);exact⟨_,rfl,J,_,⟨hJ,rfl,_,i+k,0,rfl,LF.sub Lh Lg (fun _=>(by decide:(3:Nat)≠1)) ⟨fun _=>AHp h5 XF,fun h=>Ac rfl h⟩ hds⟩,AD JM⟩
 have XF:H4 inner (decide (kd≠0))=false:=by unfold H4;rw[ADU B4];try rfl
 refine AV (AF (Bo [3] [] [row b12 176 [.int .i64 ((i+k:Nat):Int),.int .i64 (dl bg (Sb i r):Int),.int .i64 (dl bg (JP r):Int)]] mo (by kernel_rfl) (fun _ _ _ _ _ h=>h) (xr [0,1] O O (xq 2 O O (C0 (pl:=[(_,_),(_,_),(_,_),(_,_),(_,_)]) (cs:=(Aa (⟨3,inner,[],As,[],(decide (kd≠0))⟩:PE)).toArray) O DG BU ⟨O,⟨_,_,I2⟩,O,⟨_,_,Co⟩,O,⟨_,_,Co⟩,O,⟨_,_,XA⟩,O,⟨_,_,NL⟩,trivial⟩ O O) (xr [4] O O (x0 5 O (Le.refl _) O (fun _ hI=>Az O O (by rfl)) ?_))))));refine xe 3 O O (BD O Fw BU O O O (by rfl) O) ?_;rintro _ _ _ ⟨b141,rfl,rfl,rfl⟩;refine xk (xr [6,7,8] rfl rfl (CX (AS (AX (Cu rfl rfl rfl rfl (fun w' hw=>?_))))));obtain⟨J,hJ,Lh,Lg,JM⟩:=KF (x:=(⟨3,inner,[],As,[],(decide (kd≠0))⟩:PE)) hw (Be I);exact⟨_,rfl,J,_,⟨hJ,rfl,_,i+k,0,rfl,LF.sub Lh Lg (fun _=>(by decide:(3:Nat)≠1)) ⟨fun _=>AHp h5 XF,fun h=>Ac rfl h⟩ hds⟩,AD JM⟩
structure Zk(n kd:Nat)(s:List UInt8)(I:AQ)(lv:Value)(L:List PE)(i g:Nat)(J:AQ):Prop where
 le:i<=s.length
 hJ:Le I J
 sl:Sl J 5 lv (L.map Aa)
 wd:Cg J L
 ln:L.length<=i
 sm:Gl L<=i
 go:wP n kd s=HJ n (Wn n) kd g (s.drop i) (L.map PE.pt)
 fu:s.length-i<=g
section
variable {n kd i g k e:Nat} {s:List UInt8} {I J J2:AQ} {lv lv2:Value} {L L2:List PE}
theorem Zk.next(h:Zk n kd s I lv L i g J)(hi:i<s.length)(hs:DI n (Wn n) kd (s.drop i) (L.map PE.pt)=.ok (L2.map PE.pt) k)(hJ:Le J J2)(hl:Sl J2 5 lv2 (L2.map Aa))(hW:Cg J2 L2):Zk n kd s I lv2 L2 (i+k) (g-1) J2/\s.length-(i+k)<s.length-i:=by
 have hdl:(s.drop i).length=s.length-i:=BA
 have CS:=(SH h.go (EQ hi) (by have:=h.fu;omega)).2 _ _ hs
 have hsb:=GB (QC n) (EQ hi) hs
 have h1:=h.ln
 have h2:=h.sm
 have h3:=h.fu
 simp only[Af,IW]at hsb;exact⟨⟨by omega,h.hJ.trans hJ,hl,hW,by omega,by omega,by rw[CS,Cp],by omega⟩,by omega⟩
theorem Zk.bad(h:Zk n kd s I lv L i g J)(hi:i<s.length)(he:e≠0)(hs:DI n (Wn n) kd (s.drop i) (L.map PE.pt)=.bad e){K:AQ}:On (wP n kd s) K As e:=by
 have hdl:(s.drop i).length=s.length-i:=BA
 rw[(SH h.go (EQ hi) (by have:=h.fu;omega)).1 _ hs];exact⟨O,he,O⟩
theorem Zk.fin(h:Zk n kd s I lv L i g J)(hi:¬i<s.length):On (wP n kd s) J lv 0:=by
 have h1:=h.go
 rw[NR (by omega),AEE]at h1
 rw[h1];exact⟨O,.mk lv L h.sl h.wd⟩
variable {c:UInt8} {l m:List UInt8} {acc:List PT}
theorem AJq:∀c:UInt8,Ho [36,96,92] c=true->c=36\/c=96\/c=92:=G7 (by decide+kernel)
theorem ATC(hm:m=(l.drop 1).take 1)(h:(decide (AG l 0 0=92)&&decide (m=[10]))=true):DI n (Wn n) kd l acc=.ok acc 2:=by
 rw[Ay,BC,BC]at h
 match l,hm with
 | [],hm=>rw[hm]at h;cases h.2
 | [a],hm=>rw[hm]at h;cases h.2
 |a::b::r,hm=>
  have h1:b=10:=by have:=h.2;rw[hm]at this;exact(List.cons.inj this).1
  rw[DI,AI h.1,Sg,AB (by simp),AI (by exact h1)]
theorem AOC(hm:m=(l.drop 1).take 1)(h0:(decide (AG l 0 0=92)&&decide (m=[10]))=false)(h:(decide (AG l 0 0=92)&&decide (m≠[])&&(decide ((kd:Int)=0)||decide (m=[36])||decide (m=[96])||decide (m=[92])||(decide ((kd:Int)=1)&&decide (m=[34]))))=true):DI n (Wn n) kd l acc=.ok (G2 acc m true) 2:=by
 simp only[Ay,C4,BC]at h;obtain⟨⟨h1,h2⟩,h3⟩:=h;rw[BK h1,Bool.true_and,CA]at h0
 match l,hm with
 | [],hm=>exact Ac hm h2
 | [a],hm=>exact Ac hm h2
 |a::b::r,hm=>
  have hm:m=[b]:=hm
  subst hm;rw[DI,AI h1,Sg,AB (by simp),AB (by intro h4;exact h0 (B3 (fun x=>[x]) h4)),AI]
  ·rfl
  simp only[List.cons.injEq,and_true]at h3
  show kd=0\/Ho [36,96,92] b=true\/kd=1/\b=34
  rcases h3 with (((h3|h3)|h3)|h3)|h3
  ·exact .inl (by omega)
  ·exact .inr (.inl (by rw[h3];decide))
  ·exact .inr (.inl (by rw[h3];decide))
  ·exact .inr (.inl (by rw[h3];decide))
  exact .inr (.inr ⟨by omega,h3.2⟩)
theorem AQN(hm:m=(l.drop 1).take 1)(hl:l≠[])(h0:(decide (AG l 0 0=92)&&decide (m=[10]))=false)(h:(decide (AG l 0 0=92)&&decide (m≠[])&&(decide ((kd:Int)=0)||decide (m=[36])||decide (m=[96])||decide (m=[92])||(decide ((kd:Int)=1)&&decide (m=[34]))))=false)(h1:AG l 0 0=92):DI n (Wn n) kd l acc=.ok (G2 acc [92] true) 1:=by
 rw[BK h1,Bool.true_and]at h0 h;rw[CA]at h0
 match l,hm with
 | [],hm=>exact Ac O hl
 | [a],hm=>rw[DI,AI h1];try rfl
 |a::b::r,hm=>
  have hm:m=[b]:=hm
  subst hm;rw[DI,AI h1,Sg,AB (by simp),AB (by intro h4;exact h0 (B3 (fun x=>[x]) h4)),AB]
  show ¬(kd=0\/Ho [36,96,92] b=true\/kd=1/\b=34)
  simp only[List.cons.injEq,and_true]at h;intro h3
  have h4:(decide ((kd:Int)=0)||decide (b=36)||decide (b=96)||decide (b=92)||(decide ((kd:Int)=1)&&decide (b=34)))=true:=by
   simp only[Ay,C4,BC];rcases h3 with h3|h3|h3
   ·exact .inl (.inl (.inl (.inl (by omega))))
   ·rcases AJq b h3 with h5|h5|h5
    ·exact .inl (.inl (.inl (.inr h5)))
    ·exact .inl (.inl (.inr h5))
    exact .inl (.inr h5)
   exact .inr ⟨by omega,h3.2⟩
  rw[h4]at h
  simp at h
theorem MM(hc:AG l 0 0=39\/AG l 0 0=34)(hk:kd=0):DI n (Wn n) kd l acc=Iv n (Wn n) l acc:=by
 rw[DI,AB (by rcases hc with h|h<;>rw[h]<;>decide),AI ⟨hc,hk⟩]
theorem AXx(m:Nat):wP m 1 []=.ok []:=by rw[RI];try rfl
theorem APm{m:Nat}(hr:Fh (m+1) l=.ok k)(KE:AG l 0 0=34)(hi:inner=(l.take (k-1)).drop 1):(∀e,wP m 1 inner=.bad e->Iv (m+1) (Wn (m+1)) l acc=.bad e)/\∀M,wP m 1 inner=.ok M->Iv (m+1) (Wn (m+1)) l acc=.ok (Jk (if M=[]then G2 acc [] true else acc) M) k:=by
 by_cases h:inner=[]
 ·have h1:=Rq (W:=Wn (m+1)) (acc:=acc) hr hi (.inr h)
  rw[h,AXx];refine⟨fun e he=>(by cases he),fun M hM=>?_⟩
  cases hM
  rw[h1,h];try rfl
 exact ACE hr hi (fun h2=>h2.elim (fun h3=>by rw[KE]at h3;revert h3;decide) h)
theorem ME(h1:¬AG l 0 0=92)(h2:¬((AG l 0 0=39\/AG l 0 0=34)/\kd=0)):(AG l 0 0=36->DI n (Wn n) kd l acc=Ks n (Wn n) kd l acc)/\(AG l 0 0=96->DI n (Wn n) kd l acc=.bad 55)/\(¬AG l 0 0=36->¬AG l 0 0=96->DI n (Wn n) kd l acc=.ok (G2 acc (l.take 1) (decide (kd≠0))) 1):=by
 rw[DI,AB h1,AB h2];refine⟨fun h=>by rw[AI h],fun h=>by rw[AB (by rw[h];decide),AI h],fun h h3=>by rw[AB h,AB h3]⟩
theorem ATv{M:List PE}(hl:l≠[])(h:DI n (Wn n) kd l []=.ok (Jk [] (M.map PE.pt)) k)(hM:M.length=1):Gl M<=l.length:=by
 have hb:=GB (QC n) hl h
 match M with
 | [x]=>
  have h1:GZ (Jk [] ([x].map PE.pt))=x.text.length:=by
   show GZ (if x.pt.kind=1 then G2 [] x.pt.text x.pt.q else[]++[x.pt])=_
   split
   ·show GZ [PT.mk 1 x.text [] [] x.q]=_
    simp[GZ,PT.text]
   simp[GZ,PT.text,PE.pt]
  have h2:Gl [x]=x.text.length:=by simp[Gl]
  have h3:GZ []=0:=rfl
  omega
theorem AWs{c:UInt8}(h:(decide (c=b)&&decide ((kd:Int)=0))=true):c=b/\kd=0:=by
 rw[Ay,BC,BC]at h;exact⟨h.1,by omega⟩
theorem AOX{c:UInt8}(h:(decide (c=b)&&decide ((kd:Int)=0))=false):¬(c=b/\kd=0):=fun⟨h1,h2⟩=>by
 rw[BK h1,BK (show(kd:Int)=0 by omega)]at h;cases h
end
theorem AYq{kd:Nat}{s:List UInt8}(h:(decide ((kd:Int)=0)&&decide (s≠[])&&decide (AG s 0 0=126)&&(decide ((s.length:Int)=1)||decide (AG s 1 0=47)))=true):JH kd s=true/\1<=s.length:=by
 simp only[Ay,C4,BC]at h;obtain⟨⟨⟨h1,h2⟩,h3⟩,h4⟩:=h
 have hk:kd=0:=by omega
 subst hk
 match s with
 | []=>exact Ac O h2
 | [a]=>have:a=126:=h3;subst this;exact⟨rfl,A5 _⟩
 |a::b::r=>
  have h5:a=126:=h3
  have h6:b=47:=by
   rcases h4 with h4|h4
   ·simp at h4;omega
   exact h4
  subst h5 h6;exact⟨by unfold JH Dl;simp,by simp⟩
theorem ASK{kd:Nat}{s:List UInt8}(h:(decide ((kd:Int)=0)&&decide (s≠[])&&decide (AG s 0 0=126)&&(decide ((s.length:Int)=1)||decide (AG s 1 0=47)))=false):JH kd s=false:=by
 rw[Bool.eq_false_iff];intro ht;unfold JH Dl at ht;simp only[Ay,C4,BC]at ht;obtain⟨h1,h2⟩:=ht;subst h1
 match s with
 | []=>rcases h2 with h2|h2<;>cases h2
 | [a]=>
  rcases h2 with h2|h2
  ·have:a=126:=(List.cons.inj h2).1
   subst this;revert h;decide
  cases h2
 |a::b::r=>
  rcases h2 with h2|h2
  ·cases h2
  have h5:a=126:=(List.cons.inj h2).1
  have h6:b=47:=(List.cons.inj (List.cons.inj h2).2).1
  subst h5 h6
  revert h
  show ¬((decide (((0:Nat):Int)=0)&&true&&true&&(decide _||true))=false)
  simp
set_option maxHeartbeats 1000000 in
theorem Tc(n:Nat)(hW:∀m,n=m+1->AVG m)(s:List UInt8)(kd dp:Nat)(I:AQ)(F:List HA)(w0 w:World)(hd:dp<=24)(hn9:24-dp=n)(hkd:kd<=2)(hs:s.length<=100000000)(BZ:St w0 I F w):Calls prog 66 [Au s,.int .i64 (kd:Int),.int .i64 (dp:Int)].toArray w (ER w fun v I' H'=>Le I I'/\H'=F/\∃vl e1,v=.tuple #[vl,.int .i64 ((e1:Nat):Int)]/\On (wP n kd s) I' vl e1):=by
 have hq:(decide ((kd:Int)≠0))=decide (kd≠0):=by by_cases h:kd=0<;>simp[h]
 refine enter func66 O ntmps66 O (BZ.self) (AK O (AK O (AK O (EZ (ι:=Value×List PE×Nat×Nat×AQ) [0,1,2,6,7] (fun zz=>Zk n kd s I zz.1 zz.2.1 zz.2.2.1 zz.2.2.2.1 zz.2.2.2.2) (fun zz=>[(8,zz.1),(9,.int .i64 (zz.2.2.1:Int))]) (fun zz=>zz.2.2.2.2) (fun zz=>F) O ?_ ?_))))
 ·refine tq ?_
  refine zA 2 O (fun h24=>by
    simp at h24
    refine zq O (Bs O O O) ?_;exact zv O
   ) ?_
  refine zA 3 O (fun h29=>by
    simp at h29
    have T4:0<s.length:=BV.2 h29.2
    refine zq O ((by exact AZ O BX O O (by omega))) ?_;refine zq O (Ae O O O O) ?_;exact zv O
   ) ?_
  refine zA 8 O (fun h39=>by
    simp at h39
    have T4:0<s.length:=BV.2 h39.1.2
    refine zq O (AW O BX O) ?_
    refine zO 3 O (fun h38=>by
      simp at h38
      have Ri:1<s.length:=by omega
      refine zq O ((by exact AZ O BX O O (by omega))) ?_;refine zq O (Ae O O O O) ?_;exact zv O
     ) ?_
    exact zv O
   ) ?_
  refine Dp (AA O (fun Ab=>?_) (fun Ab=>?_))
  ·have htl:=AYq Ab
   refine AF (AEx (H':=Ap 147 5 Aa (.slice none 0 0) []::_) ?_ (fun _ h=>CI 147 5 Aa h));refine AC (Em (Aa (⟨5,[126],[],As,[],false⟩:PE)) O (NF _ O (fun b42=>?_) (by rfl)));refine V4 (f:=Aa) ((⟨5,[126],[],As,[],false⟩:PE)) O (fun v43=>?_) (A9 (I:=I) (Be I)) (by simp[maxLen]) (by simp);refine AH O (AC (AU O (OW (f:=Aa) (l:=[]++[(⟨5,[126],[],As,[],false⟩:PE)]) v43 (fun _=>rfl) (fun Jf IL hvf=>?_))));refine CB ((v43,[(⟨5,[126],[],As,[],false⟩:PE)],1,s.length,Jf)) ?_
   dsimp only;exact⟨htl.2,IL,hvf,Eo (Be Jf),A5 _,A5 _,by rw[RI,Hr,AI htl.1];rfl,by omega⟩
  have htl:=ASK Ab
  refine AY (CB ((.slice none 0 0,[],0,s.length,I)) ?_)
  dsimp only;exact⟨Aw _,Le.refl _,E3 (fun _ h=>by cases h),Ur I,A5 _,A5 _,by rw[RI,Hr,AB (by rw[htl];simp)];rfl,A5 _⟩
 rintro⟨lw,L,i,g,J⟩ h0;dsimp only at *;refine AF (AJ (EB (ι:=Value×List PE×Nat×Nat×AQ) [0,1,2] (fun zz=>Zk n kd s I zz.1 zz.2.1 zz.2.2.1 zz.2.2.2.1 zz.2.2.2.2) (fun zz=>s.length-zz.2.2.1) (fun zz=>[(8,zz.1),(9,.int .i64 (zz.2.2.1:Int))]) (fun zz=>zz.2.2.2.2) (fun zz=>F) (lw,L,i,g,J) rfl ?_ ?_))
 ·dsimp only;exact h0
 rintro⟨lw,L,i,g,J⟩ h0;dsimp only at *;refine AF (tr (yq rfl (AW rfl BX rfl) (AH rfl (AA rfl (fun An=>?_) (fun An=>?_)))))
 ·simp at An
  have Rj:i<s.length:=by omega
  refine AV (AJ (tr (yq O ((by exact AZ O BX O O (by omega))) ?_)));refine AH O (AK O (EZ (ι:=List UInt8) [8,9,0,1,2,47,10] (fun zz=>zz=((s.drop i).drop 1).take 1) (fun zz=>[(11,Au zz)]) (fun zz=>J) (fun zz=>F) O ?_ ?_))
  ·refine tr (yq O (AM O O O (by omega)) ?_);refine yq O (AW O BX O) (AH O (AA O (fun A6=>?_) (fun A6=>?_)))
   ·simp at A6
    refine AC (yq O (AM O O O (by omega)) ?_);refine yq O (AM O O O (by omega)) ?_;refine yq O (CK O BX O O O (by omega)) ?_;rw[show(s.drop ((i:Int)+1).toNat).take (((i:Int)+2).toNat-((i:Int)+1).toNat)=((s.drop i).drop 1).take 1 by rw[Cp,show((i:Int)+1).toNat=i+1 by omega,show(((i:Int)+2).toNat-(i+1))=1 by omega]];refine AU O (CB (((s.drop i).drop 1).take 1) ?_)
    dsimp only
    all_goals rfl
   simp at A6
   refine AY (CB ([]) ?_)
   rw[Cp,NR (by omega)];try rfl
  rintro mr hmr;rw[show AG s i 0=AG (s.drop i) 0 0 from(D0 s i).symm];refine AJ (tq (zq rfl (Ae rfl rfl rfl rfl) ?_))
  refine zA 2 O (fun h79=>by
    simp at h79
    refine zq O (AR O O O) ?_;exact zv O
   ) ?_
  refine De O (AA O (fun BJ=>?_) (fun BJ=>?_))
  ·refine AC (yq O (AM O O O (by omega)) ?_);refine AU O (AL (AL ?_));obtain⟨Lc,TF⟩:=h0.next (L2:=L) (k:=2) Rj (ATC hmr BJ) (Le.refl _) h0.sl h0.wd;refine Fl ((lw,L,i+2,g-1,J)) ?_ ?_ (FY rfl (A0 rfl (by show Value.int .i64 ((i:Int)+2)=_;rw[show(i:Int)+2=((i+2:Nat):Int) by omega]) (Bk))) (BS rfl) (fun _ h=>by dsimp only;exact AD h)
   ·dsimp only;exact Lc
   dsimp only
   show s.length-(i+_)<s.length-i
   exact TF
  refine tq (zq O (Ae O O O O) ?_)
  refine zA 2 O (fun h88=>by
    simp at h88
    refine zq O (Bs O O O) ?_;exact zv O
   ) ?_
  refine zA 22 O (fun AZl=>by
    simp at AZl
    refine zO 2 O (fun h95=>by
      simp at h95
      refine zq O (AR O O O) ?_;exact zv O
     ) ?_
    refine zO 2 O (fun h99=>by
      simp at h99
      refine zq O (AR O O O) ?_;exact zv O
     ) ?_
    refine zO 2 O (fun Aha=>by
      simp at Aha
      refine zq O (AR O O O) ?_;exact zv O
     ) ?_
    refine zO 6 O (fun Ajt=>by
      simp at Ajt
      refine zA 2 O (fun Abr=>by
        simp at Abr
        refine zq O (AR O O O) ?_;exact zv O
       ) ?_
      exact zv O
     ) ?_
    exact zv O
   ) ?_
  refine De O (AA O (fun Bj=>?_) (fun Bj=>?_))
  ·refine tr (yc O (fun w hw=>IH lw L mr true J _ _ w (by have:=h0.ln;omega) (by rw[hmr];simp;omega) (fun x hx=>by have:=D4 hx;have:=h0.sm;omega) h0.sl h0.wd hw) ?_);rintro v115 J115 _ ⟨AWh,rfl,AdI⟩;refine AH rfl (AC (yq rfl (AM rfl rfl rfl (by omega)) ?_));refine AU rfl (AL (AL ?_));obtain⟨Lc,TF⟩:=h0.next (L2:=ES L mr true) (k:=2) Rj (by rw[Fz];exact AOC hmr BJ Bj) AWh AdI (Dj (h0.wd.mono AWh));refine Fl ((v115,ES L mr true,i+2,g-1,J115)) ?_ ?_ (FY rfl (A0 rfl (by show Value.int .i64 ((i:Int)+2)=_;rw[show(i:Int)+2=((i+2:Nat):Int) by omega]) (Bk))) (BS rfl) (fun _ h=>by dsimp only;exact AD h)
   ·dsimp only;exact Lc
   dsimp only
   show s.length-(i+_)<s.length-i
   exact TF
  refine tr (yq O (Ae O O O O) (AH O (AA O (fun B4=>?_) (fun B4=>?_))))
  ·have B4:AG (s.drop i) 0 0=92:=BM B4
   refine tr (yc O (fun w hw=>IH lw L [92] true J _ _ w (by have:=h0.ln;omega) (by simp) (fun x hx=>by have:=D4 hx;have:=h0.sm;omega) h0.sl h0.wd hw) ?_);rintro v122 J122 _ ⟨AES,rfl,AdW⟩;refine AH rfl (AC (yq rfl (AM rfl rfl rfl (by omega)) ?_));refine AU rfl (AL (AL ?_));obtain⟨Lc,TF⟩:=h0.next (L2:=ES L [92] true) (k:=1) Rj (by rw[Fz];exact AQN hmr (EQ Rj) BJ Bj B4) AES AdW (Dj (h0.wd.mono AES));refine Fl ((v122,ES L [92] true,i+1,g-1,J122)) ?_ ?_ (FY rfl (A0 rfl (by show Value.int .i64 ((i:Int)+1)=_;rw[show(i:Int)+1=((i+1:Nat):Int) by omega]) (Bk))) (BS rfl) (fun _ h=>by dsimp only;exact AD h)
   ·dsimp only;exact Lc
   dsimp only
   show s.length-(i+_)<s.length-i
   exact TF
  have h5:¬AG (s.drop i) 0 0=92:=BW B4
  refine tq (zq O (Ae O O O O) ?_)
  refine zA 2 O (fun Aic=>by
    simp at Aic
    exact zv O
   ) ?_
  refine De O (AA O (fun CP=>?_) (fun CP=>?_))
  ·have h6:AG (s.drop i) 0 0=39/\kd=0:=AWs CP
   refine tr (yp O ((fun w _=>Qd s i w (by omega) Rj)) ?_);obtain⟨r,hr⟩:∃r,r=Fh n (s.drop i):=⟨_,rfl⟩;rw[show CM (s.drop i)=r by rw[hr,Fh,AB (by rw[h6.1];decide)]]
   refine HO _ O fun b12=>?_
   refine El _ O ?_ (by simp[Value.oneCell']);refine XN (DE O ?_);refine AH O (AA O (fun DF=>?_) (fun DF=>?_))
   ·simp at DF
    have hx:JP r≠0:=by omega
    obtain⟨a,hrb⟩:=AAK hx;refine AF (Bd mo (by kernel_rfl) (fun _ _ _ _ _ h=>h) (EA rfl ?_));refine De rfl (Ak (Aj rfl rfl rfl (fun w' hw=>?_)));exact⟨_,rfl,J,_,⟨h0.hJ.trans (Le.refl _),rfl,As,_,rfl,h0.bad Rj hx ((MM (.inl h6.1) h6.2).trans (Sx (hr.symm.trans hrb)))⟩,AD hw⟩
   simp at DF
   have hx:JP r=0:=by omega
   obtain⟨k,QJ⟩:=AIt (hr ▸ MX n _) hx
   have hdl:(s.drop i).length=s.length-i:=BA
   have hk:=N0 (EQ Rj) (hr.symm.trans QJ)
   rw[show Ob i r=i+k by rw[QJ];rfl];refine AV (tr (yq O (AM O O O (by omega)) ?_));refine DE O ?_;refine yq O (Bl O O O (by omega)) ?_;refine yq O (CK O BX O O O (by omega)) ?_;obtain⟨inner,KM⟩:∃x,x=((s.drop i).take (k-1)).drop 1:=⟨_,rfl⟩;rw[show(s.drop ((i:Int)+1).toNat).take (((((i+k:Nat):Int))-1).toNat-((i:Int)+1).toNat)=inner by rw[KM,Rr,show((i:Int)+1).toNat=i+1 by omega,show(((((i+k:Nat):Int))-1).toNat-(i+1))=k-2 by omega]]
   have DK:inner.length=k-2:=by rw[KM,BA,BL];omega
   have hqq:=(MM (n:=n) (acc:=L.map PE.pt) (.inl h6.1) h6.2).trans (Rq (W:=Wn n) (acc:=L.map PE.pt) (hr.symm.trans QJ) KM (.inl h6.1))
   refine yc O (fun w hw=>IH lw L inner true J _ _ w (by have:=h0.ln;omega) (by omega) (fun x hx=>by have:=D4 hx;have:=h0.sm;omega) h0.sl h0.wd hw) ?_;rintro v148 J148 _ ⟨Ll,rfl,AfT⟩;refine AH rfl (AC (DE rfl ?_));refine AU rfl (AL (AL ?_));obtain⟨Lc,TF⟩:=h0.next (L2:=ES L inner true) (k:=k) Rj (by rw[Fz];exact hqq) Ll AfT (Dj (h0.wd.mono Ll));refine DJ ((v148,ES L inner true,i+k,g-1,J148)) ?_ ?_
   ·dsimp only;exact Lc
   dsimp only
   show s.length-(i+_)<s.length-i
   exact TF
  have h6a:¬(AG (s.drop i) 0 0=39/\kd=0):=AOX CP
  refine tq (zq O (Ae O O O O) ?_)
  refine zA 2 O (fun AkT=>by
    simp at AkT
    exact zv O
   ) ?_
  refine De O (AA O (fun GQ=>?_) (fun GQ=>?_))
  ·have h6:AG (s.drop i) 0 0=34/\kd=0:=AWs GQ
   obtain⟨KE,hk0⟩:=h6;refine tr (yp rfl ((fun w _=>(ABJ n).1 s i dp w hn9 (by omega) (by omega) Rj)) ?_);obtain⟨r,hr⟩:∃r,r=Fh n (s.drop i):=⟨_,rfl⟩;rw[show(lv n).1 (s.drop i)=r by rw[hr,Fh,AI KE]]
   refine HO _ O fun b13=>?_
   refine El _ O ?_ (by simp[Value.oneCell']);refine XN (DE O ?_);refine AH O (AA O (fun KD=>?_) (fun KD=>?_))
   ·simp at KD
    have hx:JP r≠0:=by omega
    obtain⟨a,hrb⟩:=AAK hx;refine AF (Bd mo (by kernel_rfl) (fun _ _ _ _ _ h=>h) (EA rfl ?_));refine De rfl (Ak (Aj rfl rfl rfl (fun w' hw=>?_)));exact⟨_,rfl,J,_,⟨h0.hJ.trans (Le.refl _),rfl,As,_,rfl,h0.bad Rj hx ((MM (.inr KE) hk0).trans (Sx (hr.symm.trans hrb)))⟩,AD hw⟩
   simp at KD
   have hx:JP r=0:=by omega
   obtain⟨k,QJ⟩:=AIt (hr ▸ MX n _) hx
   have hdl:(s.drop i).length=s.length-i:=BA
   have hk:=N0 (EQ Rj) (hr.symm.trans QJ)
   rw[show Ob i r=i+k by rw[QJ];rfl];refine AV (tr (yq O (AM O O O (by omega)) ?_));refine DE O ?_;refine yq O (Bl O O O (by omega)) ?_;refine yq O (CK O BX O O O (by omega)) ?_;obtain⟨inner,KM⟩:∃x,x=((s.drop i).take (k-1)).drop 1:=⟨_,rfl⟩;rw[show(s.drop ((i:Int)+1).toNat).take (((((i+k:Nat):Int))-1).toNat-((i:Int)+1).toNat)=inner by rw[KM,Rr,show((i:Int)+1).toNat=i+1 by omega,show(((((i+k:Nat):Int))-1).toNat-(i+1))=k-2 by omega]]
   have DK:inner.length=k-2:=by rw[KM,BA,BL];omega
   obtain⟨m,rfl⟩:∃m,n=m+1:=AJB (by rw[Fh,AI KE]at hr;exact hr.symm.trans QJ)
   have hdb:=APm (acc:=L.map PE.pt) (hr.symm.trans QJ) KE KM
   refine yq O (AM O O O (by omega)) ?_;refine yc O (fun w hw=>hW m O inner 1 (dp+1) _ _ _ w (by omega) (by omega) (by omega) (by omega) hw) ?_;rintro _ J177 _ ⟨U6,rfl,vl,e1,rfl,ET⟩;refine AH rfl (AF (AK rfl (AA rfl (fun EW=>?_) (fun EW=>?_))))
   ·simp at EW
    have Kn:e1≠0:=by omega
    refine AK O (Ak (Aj O O O (fun w' hw=>?_)));exact⟨_,O,J177,_,⟨h0.hJ.trans U6,O,As,e1,O,h0.bad Rj Kn ((MM (.inr KE) hk0).trans (hdb.1 _ (ET.f Kn).1))⟩,AD hw⟩
   simp at EW
   have Kn:e1=0:=by omega
   obtain⟨l2,W4,EU⟩:=ET.t Kn;obtain⟨M,rfl,hsm,Wj⟩:=EU.un
   have Wj:Cg J177 M:=Wj
   have hwb:=N9 m 1 inner _ W4
   rw[Af,IW]at hwb;refine AV (EZ (ι:=Value×List PE×AQ) [11,9,0,1,2,47,10,73,82,118,125,151,13,164,14,15,181] (fun zz=>Le J177 zz.2.2/\Sl zz.2.2 5 zz.1 (zz.2.1.map Aa)/\Cg zz.2.2 zz.2.1/\zz.2.1=(if M=[]then ES L [] true else L)) (fun zz=>[(8,zz.1)]) (fun zz=>zz.2.2) (fun zz=>(row b13 176 [.int .i64 ((i+k:Nat):Int),.int .i64 (Sb i r:Int),.int .i64 (JP r:Int)]::F)) O ?_ ?_)
   ·refine tr ?_;refine yq O ((by exact BH O Fw O (Sl.lenOf hsm (Af _)))) ?_;refine AH O (AA O (fun Eq=>?_) (fun Eq=>?_))
    ·have hM0:M=[]:=List.eq_nil_of_length_eq_zero (by have:=BM Eq;omega)
     refine AC (yc O (fun w hw=>IH lw L [] true J177 _ _ w (by have:=h0.ln;omega) (by simp) (fun x hx=>by have:=D4 hx;have:=h0.sm;omega) (h0.sl.mono U6) (h0.wd.mono U6) hw) ?_);rintro v187 J187 _ ⟨AVv,rfl,Aca⟩;refine AU rfl (CB ((v187,ES L [] true,J187)) ?_)
     dsimp only;exact⟨AVv,Aca,Dj ((h0.wd.mono U6).mono AVv),by rw[AI hM0]⟩
    have hM0:¬M=[]:=fun h=>BW Eq (by rw[h];try rfl)
    refine AY (CB ((lw,L,J177)) ?_)
    dsimp only;exact⟨Le.refl _,h0.sl.mono U6,h0.wd.mono U6,by rw[AB hM0]⟩
   rintro⟨lv1,L1,J1⟩ ⟨UB,Lh,hW1,hL1⟩;dsimp only at *
   have AjG:L1.length<=L.length+1/\Gl L1<=Gl L:=by
    have Oi:=WE L [] true
    have Wi:=ACp L [] true
    rw[hL1];split
    ·exact⟨Oi,by rw[Wi];simp⟩
    exact⟨by omega,A5 _⟩
   have hqq:DI (m+1) (Wn (m+1)) kd (s.drop i) (L.map PE.pt)=.ok ((FZ L1 M).map PE.pt) k:=by
    rw[MM (.inr KE) hk0,hdb.2 _ W4,Q4,hL1]
    congr 2
    by_cases h:M=[]
    ·rw[AI h,AI (by rw[h];try rfl),Fz]
    rw[AB h,AB (fun h2=>h (List.map_eq_nil_iff.1 h2))]
   refine tr (yc O (fun w hw=>PI lv1 L1 vl M J1 _ _ w (by have:=h0.ln;omega) (by have:=h0.sm;omega) Lh hW1 (hsm.mono UB) (Wj.mono UB) hw) ?_);rintro v190 J190 _ ⟨ARR,rfl,AeZ⟩;refine AH rfl (AC (DE rfl ?_));refine AU rfl (AL (AL ?_));obtain⟨Lc,TF⟩:=h0.next (L2:=FZ L1 M) (k:=k) Rj hqq (U6.trans (UB.trans ARR)) AeZ (GA M L1 (hW1.mono ARR) ((Wj.mono UB).mono ARR));refine DJ ((v190,FZ L1 M,i+k,g-1,J190)) ?_ ?_
   ·dsimp only;exact Lc
   dsimp only
   show s.length-(i+_)<s.length-i
   exact TF
  have h8:¬(AG (s.drop i) 0 0=34/\kd=0):=AOX GQ
  have h6:¬((AG (s.drop i) 0 0=39\/AG (s.drop i) 0 0=34)/\kd=0):=fun h=>h.1.elim (fun h1=>h6a ⟨h1,h.2⟩) (fun h1=>h8 ⟨h1,h.2⟩)
  refine tr (yq O (Ae O O O O) (AH O (AA O (fun Fb=>?_) (fun Fb=>?_))))
  ·have h96:AG (s.drop i) 0 0=96:=BM Fb
   refine AK O (Ak (Aj O O O (fun w' hw=>?_)));exact⟨_,O,J,_,⟨h0.hJ.trans (Le.refl _),O,As,55,O,h0.bad Rj (by decide) ((ME h5 h6).2.1 h96)⟩,AD hw⟩
  have h96:¬AG (s.drop i) 0 0=96:=BW Fb
  refine tr (yq O (Ae O O O O) (AH O (AA O (fun GC=>?_) (fun GC=>?_))))
  ·have h36:AG (s.drop i) 0 0=36:=BM GC
   refine tr (yc O (fun w hw=>Vc n hW s i kd dp _ _ _ w hn9 hd Rj hs (by rw[<-D0];exact h36) hkd hw) ?_);rintro _ J204 _ ⟨ACP,rfl,vl,nx,e1,rfl,ET⟩;refine AH rfl (AF (AK rfl (AA rfl (fun I8=>?_) (fun I8=>?_))))
   ·simp at I8
    have Kn:e1≠0:=by omega
    refine AK O (Ak (Aj O O O (fun w' hw=>?_)));exact⟨_,O,J204,_,⟨h0.hJ.trans ACP,O,As,e1,O,h0.bad Rj Kn (((ME h5 h6).1 h36).trans (ET.2 Kn _))⟩,AD hw⟩
   simp at I8
   have Kn:e1=0:=by omega
   obtain⟨M,k,hsm,Wj,hM1,rfl,hdo⟩:=ET.1 Kn
   have hM2:=ATv (EQ Rj) (((ME h5 h6).1 h36).trans (hdo [])) hM1
   have hdl:(s.drop i).length=s.length-i:=BA
   refine AV (tr (yc O (fun w hw=>PI lw L vl M J204 _ _ w (by have:=h0.ln;omega) (by have:=h0.sm;omega) (h0.sl.mono ACP) (h0.wd.mono ACP) hsm Wj hw) ?_));rintro v213 J213 _ ⟨ANC,rfl,AcP⟩;refine AH rfl (AC (AU rfl (AL (AL ?_))));obtain⟨Lc,TF⟩:=h0.next (L2:=FZ L M) (k:=k) Rj (by rw[Q4,<-hdo (L.map PE.pt)];exact(ME h5 h6).1 h36) (ACP.trans ANC) AcP (GA M L ((h0.wd.mono ACP).mono ANC) (Wj.mono ANC));refine DJ ((v213,FZ L M,i+k,g-1,J213)) ?_ ?_
   ·dsimp only;exact Lc
   dsimp only
   show s.length-(i+_)<s.length-i
   exact TF
  have h36:¬AG (s.drop i) 0 0=36:=BW GC
  refine tr (yq O (AM O O O (by omega)) ?_);refine yq O (CK O BX O O O (by omega)) ?_;rw[show(s.drop (i:Int).toNat).take (((i:Int)+1).toNat-(i:Int).toNat)=(s.drop i).take 1 by rw[show(i:Int).toNat=i by omega,show(((i:Int)+1).toNat-i)=1 by omega]];refine Tq 2 O ?_;rw[hq];refine yc O (fun w hw=>IH lw L ((s.drop i).take 1) (decide (kd≠0)) J _ _ w (by have:=h0.ln;omega) (by rw[BL];omega) (fun x hx=>by have:=D4 hx;have:=h0.sm;omega) h0.sl h0.wd hw) ?_;rintro v70 J70 _ ⟨Zm,rfl,ASY⟩;refine AH rfl (AC (yq rfl (AM rfl rfl rfl (by omega)) ?_));refine AU rfl (AL (AL ?_));obtain⟨Lc,TF⟩:=h0.next (L2:=ES L ((s.drop i).take 1) (decide (kd≠0))) (k:=1) Rj (by rw[Fz];exact(ME h5 h6).2.2 h36 h96) Zm ASY (Dj (h0.wd.mono Zm));refine Fl ((v70,ES L ((s.drop i).take 1) (decide (kd≠0)),i+1,g-1,J70)) ?_ ?_ (FY rfl (A0 rfl (by show Value.int .i64 ((i:Int)+1)=_;rw[show(i:Int)+1=((i+1:Nat):Int) by omega]) (Bk))) (BS rfl) (fun _ h=>by dsimp only;exact AD h)
  ·dsimp only;exact Lc
  dsimp only
  show s.length-(i+_)<s.length-i
  exact TF
 simp at An
 have Rj:¬i<s.length:=by omega
 refine Av (AE (AE (AO (AS (AK O (AX (Aj O O O (fun w' hw=>?_))))))));exact⟨_,O,J,_,⟨h0.hJ,O,lw,0,O,h0.fin Rj⟩,AD hw⟩
theorem XT:∀n,AVG n
 |0=>fun s kd dp I F w0 w h1 h2 h3 h4 h5=>Tc 0 (fun m h=>by cases h) s kd dp I F w0 w h1 h2 h3 h4 h5
 |n+1=>fun s kd dp I F w0 w h1 h2 h3 h4 h5=>Tc (n+1) (fun m h=>(show n=m by omega) ▸ XT n) s kd dp I F w0 w h1 h2 h3 h4 h5
theorem XI(s:List UInt8)(kind:Int)(I:AQ)(F:List HA)(w0 w:World)(hs:s.length<=1000000000)(BZ:St w0 I F w):Calls prog 44 [Au s,.int .i64 kind].toArray w (ER w fun v I' H'=>Le I I'/\H'=F/\∃vl e1,v=.tuple #[vl,.int .i64 ((e1:Nat):Int)]/\On (Di s kind) I' vl e1):=by
 refine enter func44 O ntmps44 O (BZ.self) (AK O (AF (tr (yq O (AW O BX O) (AH O (AA O (fun Ab=>?_) (fun Ab=>?_)))))))
 ·simp at Ab
  have hl:65536<s.length:=by omega
  refine AK O (Ak (Aj O O O (fun w' hw=>?_)));exact⟨_,O,I,_,⟨Le.refl _,O,As,50,O,(by rw[Di,AI hl];exact⟨O,by decide,O⟩)⟩,AD hw⟩
 simp at Ab
 have hl:¬65536<s.length:=by omega
 refine AV (AF (tq ?_))
 refine zO 2 O (fun h14=>by
   simp at h14
   exact zv O
  ) ?_
 refine Dp (AA O (fun An=>?_) (fun An=>?_))
 ·have hk:kind<0\/2<kind:=by simpa using An
  refine AK O (Ak (Aj O O O (fun w' hw=>?_)));exact⟨_,O,I,_,⟨Le.refl _,O,As,73,O,(by rw[Di,AB hl,AI hk];exact⟨O,by decide,O⟩)⟩,AD hw⟩
 have hk:¬(kind<0\/2<kind):=by simpa using An
 refine AV (AF ?_);obtain⟨kn,rfl⟩:∃kn:Nat,kind=(kn:Int):=⟨kind.toNat,by omega⟩;refine AC (yc rfl (fun w hw=>XT 24 s kn 0 _ _ _ w (by decide) rfl (by omega) (by omega) hw) ?_);rintro _ J17 _ ⟨AZG,rfl,vl,e1,rfl,ET⟩;refine AH rfl (AX (Aj rfl rfl rfl (fun w' hw=>?_)));exact⟨_,rfl,J17,_,⟨AZG,rfl,vl,e1,rfl,(by rw[Di,AB hl,AB hk];exact ET)⟩,AD hw⟩
end Go.Tri
