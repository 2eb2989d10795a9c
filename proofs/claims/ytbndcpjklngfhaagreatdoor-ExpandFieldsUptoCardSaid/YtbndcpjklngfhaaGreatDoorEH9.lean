/-
 A number at the beginning of a text.
-/
import Derived.Test.YtbndcpjklngfhaaGreatDoorEC4
import Derived.Test.YtbndcpjklngfhaaGreatDoorPExW
import Derived.Test.YtbndcpjklngfhaaGreatDoorTriY
namespace Go.Tri
open Go.Proofs.Tryz
open Go.Proofs Go.RowKit
set_option maxRecDepth 10000
variable {b:Bool} {w0:World} {v q e1 e m j q2 b1 b2 g:Nat} {s n r:List UInt8} {x:Int×Nat}
theorem RK(s:List UInt8)(w:World)(hs:s.length<=1000000000)(Dk:s≠[]):B2 prog 206 [Au s] w (.tuple #[.int .i64 (Mp s).1,.int .i64 ((Mp s).2:Int),.bool (Ck s).isSome]):=by
 have OL:=BV.2 Dk
 have hul:=AIV Dk
 refine enter func206 O ntmps206 O (St.start w (Ao w) (Le.refl _)) (AK O (AK O (AK O (EZ (ι:=Unit) [0,2,3,4] (fun _=>True) (fun _=>[(5,.int .i64 ((DH s).1:Int)),(6,Au (AXq (DH s).1)),(7,.int .i64 ((DH s).2:Int))]) (fun _=>Ao w) (fun _=>[]) O ?_ ?_))))
 ·refine tr (yq O ((by exact AZ O BX O O (by omega))) ?_);refine yq O (Ae O O O O) (ln (AA O (fun Ab=>?_) (fun Ab=>?_)))
  ·simp only[BC]at Ab
   have h48:AG s 0 0=48:=Ab
   refine AK O (tq (zq O (AW O BX O) ?_))
   refine zA 4 O (fun UQ=>by
     simp at UQ
     refine zq O ((by exact Bu O BX O O (by omega))) ?_;refine zq O (UH (d:=32) O O O) (zq O (Ae O O O O) ?_);exact zv O
    ) ?_
   refine Dp (AA O (fun An=>?_) (fun An=>?_))
   ·have hU:=AQw h48 An
    refine AC (AU O (Dd (()) ?_ (A0 O (by rw[hU];try rfl) (A0 O (by rw[hU];try rfl) (A0 O (by rw[hU];try rfl) (Bk)))) (BS O) (fun _ h=>by dsimp only;exact AD h)))
    trivial
   have hU:=AOc h48 An
   refine AY (Dd (()) ?_ (A0 O (by rw[hU];try rfl) (A0 O (by rw[hU];try rfl) (A0 O (by rw[hU];try rfl) (Bk)))) (BS O) (fun _ h=>by dsimp only;exact AD h))
   trivial
  simp only[CA]at Ab
  have hU:=Uv (s:=s) Ab
  refine AY (Dd (()) ?_ (A0 O (by rw[hU];try rfl) (A0 O (by rw[hU];try rfl) (A0 O (by rw[hU];try rfl) (Bk)))) (BS O) (fun _ h=>by dsimp only;exact AD h))
  trivial
 rintro _ _;refine AK rfl (EZ (ι:=Int×Nat) [5,6,7,0,2,3,4] (fun zz=>FG ((DH s).1) s s.length 0 (DH s).2=(zz.1,zz.2)/\zz.2<=s.length) (fun zz=>[(8,.int .i64 zz.1),(9,.int .i64 (zz.2:Int))]) (fun zz=>Ao w) (fun zz=>[]) rfl ?_ ?_)
 ·refine AJ (EB (ι:=Int×Nat×Nat) [5,6,7,0,2,3,4] (fun zz=>zz.2.1<=s.length/\FG ((DH s).1) s s.length 0 (DH s).2=FG ((DH s).1) s zz.2.2 zz.1 zz.2.1/\s.length-zz.2.1<=zz.2.2) (fun zz=>s.length-zz.2.1) (fun zz=>[(8,.int .i64 zz.1),(9,.int .i64 (zz.2.1:Int))]) (fun zz=>Ao w) (fun zz=>[]) (0,(DH s).2,s.length) O ?_ ?_)
  ·dsimp only;exact⟨hul,O,by omega⟩
  rintro⟨n,i,g⟩ ⟨hi,hx,hg⟩;dsimp only at *;refine AF (tr (yq rfl (AW rfl BX rfl) (AH rfl (AA rfl (fun A6=>?_) (fun A6=>?_)))))
  ·simp at A6
   have hl:i<s.length:=by omega
   refine AV (AJ (tr (yq O ((by exact AZ O BX O O (by omega))) ?_)));refine AH O (EZ (ι:=Unit) [8,9,5,6,7,0,2,3,4,28] (fun _=>True) (fun _=>[(10,u8 (AFY ((DH s).1) (AG s i 0)))]) (fun _=>Ao w) (fun _=>[]) O ?_ ?_)
   ·refine tq ?_
    refine zA 2 O (fun h37=>by
      simp at h37
      exact zv O
     ) ?_
    refine zA 2 O (fun h41=>by
      simp at h41
      exact zv O
     ) ?_
    refine Dp (AA O (fun BJ=>?_) (fun BJ=>?_))
    ·have hlx:=AUz BJ
     refine AC (yq O (UH (d:=32) O O O) (AU O (Dd (()) ?_ (A0 O (by rw[hlx]) (Bk)) (BS O) (fun _ h=>by dsimp only;exact AD h))))
     trivial
    have hlx:=API BJ
    refine AY (Dd (()) ?_ (A0 O (by rw[hlx]) (Bk)) (BS O) (fun _ h=>by dsimp only;exact AD h))
    trivial
   rintro _ _;refine tr (yp rfl ((fun w _=>EP (AXq ((DH s).1)) (AFY ((DH s).1) (AG s i 0)) w)) (AH rfl (AF (AK rfl (AA rfl (fun Bj=>?_) (fun Bj=>?_))))))
   ·have hd:S5 ((DH s).1) (AG s i 0)<0:=BM Bj
    refine Av (AE (GT O (AE (AO (CB ((n,i)) ?_)))))
    dsimp only;exact⟨by rw[hx,Xw hd],by omega⟩
   have hd:¬S5 ((DH s).1) (AG s i 0)<0:=BW Bj
   refine AV (tr (yq O (ADX O O O) (yq O (Up O O O) (AH O (AC (yq O (AM O O O (by omega)) ?_))))));refine AU O (AL (DJ ((F4 (F4 (n * (((DH s).1):Int))+S5 ((DH s).1) (AG s i 0)),i+1,g-1)) ?_ ?_))
   ·dsimp only;exact⟨by omega,by rw[hx,Y8 hg hl hd],by omega⟩
   dsimp only
   show s.length-(i+1)<s.length-i
   omega
  simp at A6
  have hl:¬i<s.length:=by omega
  refine Av (AE (AE (AO (CB ((n,i)) ?_))))
  dsimp only;exact⟨by rw[hx,ADT hl],hi⟩
 rintro⟨n,i⟩ ⟨hr,hi⟩;dsimp only at *;refine AF (tq ?_)
 refine zO 13 O (fun h73=>by
   simp at h73
   refine zq O (AW O BX O) ?_
   refine zA 7 O (fun h72=>by
     simp at h72
     refine zq O (AM O O O (by omega)) ?_;refine zq O (CK O BX O O O (by omega)) ?_;refine zq O (F1 O O O (by(simp only[CD,Bb,BL,BA];omega))) ?_;refine zp O ((fun w _=>Lt _ w (by simp only[Bh,BL,BA,CD,Bb];omega))) ?_;exact zv O
    ) ?_
   exact zv O
  ) ?_
 refine Dp (AA O (fun B4=>?_) (fun B4=>?_))
 ·have ET:=ADM (by omega) hr B4
  refine AK O (Ak (Cu O O O O (fun w' hw=>?_)));refine⟨?_,hw.below⟩
  rw[Mp,ET];try rfl
 have ET:=ADJ (by omega) hr B4
 refine AV (AK O (AX (Cu O O O O (fun w' hw=>?_))));refine⟨?_,hw.below⟩
 rw[Mp,ET];try rfl
theorem AMq{l:List UInt8}(h:l.all (fun b=>decide (b.toNat<128))=true):∀(j:Nat) b,l[j]? =some b->b.toNat<128:=fun j b hb=>by
 have:=List.all_eq_true.1 h b (List.mem_of_getElem? hb)
 simpa using this
theorem Vv(s cs:List UInt8)(w:World)(hs:s.length<=1000000000)(hc:cs.length<=1000)(ha:cs.all (fun b=>decide (b.toNat<128))=true):B2 prog 166 [Au s,Au cs] w (Au (Lib.trimS s cs)):=by
 have h1:=Ee s
 have h2:=Ee cs
 exact(Any.strings_Trim_laid Tryz.lays160 (by kernel_rfl) ⟨s.toArray⟩ ⟨cs.toArray⟩ w (by omega) (by omega) (AMq (l:=cs) ha)).mono fun e w' ⟨h3,h4⟩=>⟨h3,h4⟩
theorem T2(s p:List UInt8)(w:World)(hs:s.length<=1000000000):B2 prog 207 [Au s,Au p] w (Au (Lib.trimSuffix s p)):=by
 have h1:=Ee s
 refine(Tryz.strings_TrimSuffix ⟨s.toArray⟩ ⟨p.toArray⟩ w (by omega)).mono fun e w' ⟨h1,h2⟩=>?_
 subst h2;exact⟨h1,Below.refl _ _⟩
theorem VU(s:List UInt8)(c:UInt8)(w:World):B2 prog 159 [Au s,Au [c]] w (.bool (Lib.contains s [c])):=by
 refine(Tryz.strings_Contains_one ⟨s.toArray⟩ c w).mono fun e w' ⟨h1,h2⟩=>?_
 subst h2;refine⟨?_,Below.refl _ _⟩;rw[h1];unfold Lib.contains;rw[index_one]
theorem AFp(s:List UInt8)(w:World)(hs:s.length<=1000000000)(hG:Fr (Ao w)):B2 prog 201 [Au s] w (.tuple #[.agg (Me (Bp s).1).toArray,.int .i64 ((Bp s).2:Int)]):=by
 refine enter func201 O ntmps201 O (St.start w (Ao w) (Le.refl _)) (tr (HO (Me JF) O fun b2=>(AH O (AF (AJ (tr (yq O (AR O O O) (AH O (AA O (fun Ab=>?_) (fun Ab=>?_))))))))))
 ·simp at Ab
  have hF:Bp s=(JF,0):=by unfold Bp;rw[AI Ab]
  refine tr (Em (Me JF) O (El _ O ?_ (by exact F9 _)));refine AH O (AX (A4 (Ah (B6 (.inl O) O (by exact Cb O PC Ie O O (Du O (Cc))) (fun w' hw=>?_)))));refine⟨?_,hw.below⟩
  rw[hF];try rfl
 simp at Ab
 have Dk:s≠[]:=Ab
 have OL:=BV.2 Dk
 refine tq (zq O ((by exact AZ O BX O O (by omega))) ?_)
 refine zA 3 O (fun h21=>by
   simp at h21
   refine zq O ((by exact AZ O BX O O (by omega))) ?_;exact zv O
  ) ?_
 refine De O (AA O (fun An=>?_) (fun An=>?_))
 ·have hF:=SA Dk An
  refine tr (yp O ((fun w _=>RK s w (by omega) Dk)) ?_);refine AH O (AF (AK O (AA O (fun A6=>?_) (fun A6=>?_))))
  ·simp at A6
   rw[show Ck s=none from A6]at hF;refine tr (Em (Me Mg) O (El _ O ?_ (by exact F9 _)));refine AH O (AX (Ah (A4 (Ah (B6 (.inl O) O (by exact Cb O PC Ie O O (Du O (Cc))) (fun w' hw=>?_))))));refine⟨?_,hw.below⟩
   rw[hF];try rfl
  simp at A6
  obtain⟨r,hr⟩:∃r,Ck s=some r:=Option.isSome_iff_exists.1 (by simpa using A6)
  have hrl:=Y5 Dk hr
  have hv:Mp s=r:=by rw[Mp,hr];try rfl
  have Wl:(Mp s).2<=s.length:=by rw[hv];exact hrl.2
  rw[hr]at hF;rw[<-hv]at hF;refine AV (tr (yq O (Ba O BX O O (by omega)) ?_));refine Em (Me ⟨s.take (Mp s).2,(Mp s).1,1⟩) O (El _ O ?_ (by exact F9 _));refine AH O (AX (A4 (Ah (B6 (.inl O) O (by exact Cb O PC Ie O O (Du O (Cc))) (fun w' hw=>?_)))));refine⟨?_,hw.below⟩
  rw[hF];try rfl
 have hF:=Rv Dk An
 refine tr (yq O (Ba O BX O O (by omega)) ?_);refine yp O ((fun w _=>Lt _ w (by rw[BL];omega))) ?_;refine AH O (AA O (fun BJ=>?_) (fun BJ=>?_))
 ·rw[AI (show CF (s.take 1)=true from BJ)]at hF;refine AK O (EZ (ι:=Nat) [0,2,3,9,13,37] (fun zz=>zz=(Dc s.length 1 s)/\zz<=s.length) (fun zz=>[(7,.int .i64 (zz:Int))]) (fun zz=>Ao w) (fun zz=>(row b2 275 (Me JF)::[])) O ?_ ?_)
  ·refine AJ (EB (ι:=Nat×Nat) [0,2,3,9,13,37] (fun zz=>zz.1<=s.length/\(Dc s.length 1 s)=Dc zz.2 zz.1 s/\s.length-zz.1<=zz.2) (fun zz=>s.length-zz.1) (fun zz=>[(7,.int .i64 (zz.1:Int))]) (fun zz=>Ao w) (fun zz=>(row b2 275 (Me JF)::[])) (1,s.length) O ?_ ?_)
   ·dsimp only;exact⟨by omega,O,by omega⟩
   rintro⟨n,g⟩ ⟨hn,hx,hg⟩;dsimp only at *;refine AF (tq (zq rfl (AW rfl BX rfl) ?_))
   refine zA 5 O (fun h51=>by
     simp at h51
     refine zq O (AM O O O (by omega)) ?_;refine zq O (Ba O BX O O (by omega)) ?_;refine zp O ((fun w _=>Lt _ w (by rw[BL];omega))) ?_;exact zv O
    ) ?_
   refine Dp (AA O (fun Bj=>?_) (fun Bj=>?_))
   ·have h3:n<s.length/\CF (s.take (n+1))=true:=by
     have h:=Bj
     rw[Ay,BC]at h;exact⟨by omega,h.2⟩
    refine AV (AJ (AC (yq O (AM O O O (by omega)) ?_)));refine AU O (AL (DJ ((n+1,g-1)) ?_ ?_))
    ·dsimp only;exact⟨by omega,hx.trans (KU hg h3.1 h3.2),by omega⟩
    dsimp only
    show s.length-(n+1)<s.length-n
    omega
   have h3:¬(n<s.length/\CF (s.take (n+1))=true):=fun⟨h1,h2⟩=>by
    have h:(decide ((n:Int)<(s.length:Int))&&CF (s.take (n+1)))=false:=Bj
    rw[h2,BK (by omega)]at h
    cases h
   refine Av (AE (AE (AO (CB (n) ?_))))
   exact⟨by rw[hx,Lu h3],hn⟩
  rintro n ⟨hn,hnl⟩;dsimp only at *;refine tr (yq rfl (Ba rfl BX rfl rfl (by omega)) ?_);refine Em (Me ⟨s.take n,0,2⟩) rfl (El _ rfl ?_ (by exact F9 _));refine AH rfl (AX (A4 (Ah (B6 (.inl rfl) rfl (by exact Cb rfl PC Ie rfl rfl (Du rfl (Cc))) (fun w' hw=>?_)))));refine⟨?_,hw.below⟩
  rw[hF,<-hn];try rfl
 rw[AB (show ¬CF (s.take 1)=true from by rw[show CF (s.take 1)=false from BJ];simp)]at hF;refine AY (AL (AS (EZ (ι:=Unit) [0,2,9,13,37] (fun _=>Fq s (min 3 s.length)=0) (fun _=>[]) (fun _=>Ao w) (fun _=>(row b2 275 (Me JF)::[])) O ?_ ?_)))
 ·refine tr (yq O (AW O BX O) (yq O (AIM O O O) (AH O (AJ (AAB (ι:=Nat) (fun zz=>zz<=s.length/\Fq s (min 3 s.length)=Fq s zz) (fun zz=>zz) (fun zz=>[(8,.int .i64 (zz:Int))]) [(0,_),(2,_),(9,_),(13,_),(37,_)] (fun zz=>Ao w) (fun zz=>(row b2 275 (Me JF)::[])) (min 3 s.length) ?_ (A0 O (B3 (Value.int IntKind.i64) (by omega)) (Bk)) (BS O) (fun _ h=>AD h) ?_)))))
  ·exact⟨by omega,O⟩
  rintro n ⟨hn,hx⟩;dsimp only at *;refine AF (AK rfl (AA rfl (fun B4=>?_) (fun B4=>?_)))
  ·simp at B4
   have NZ:0<n:=by omega
   refine AV (AF (AJ (tq (zq O (Ba O BX O O (by omega)) ?_))));refine zq O (F1 O O O (by(simp only[CD,Bb,BL];omega))) ?_;refine zq O (F1 O O O (by(simp only[Bh,CD,Bb,BL];omega))) ?_;refine zp O ((fun w hw=>IY WO ([32]++s.take n++[32]) w (by decide) (hG.mono hw.le))) ?_
   refine zA 5 O (fun h78=>by
     simp at h78
     refine zq O (Ba O BX O O (by omega)) ?_;refine zp O ((fun w _=>VU (s.take n) 32 w)) ?_;exact zv O
    ) ?_
   refine Dp (AA O (fun CP=>?_) (fun CP=>?_))
   ·have h6:VZ (s.take n)=true:=CP
    rw[hx,ANx NZ h6,AB (by omega)]at hF;refine tr (yq O (Ba O BX O O (by omega)) ?_);refine Em (Me ⟨s.take n,0,3⟩) O (El _ O ?_ (by exact F9 _));refine AH O (AX (A4 (Ah (Ah (A4 (Ah (B6 (.inl O) O (by exact Cb O PC Ie O O (Du O (Cc))) (fun w' hw=>?_))))))));refine⟨?_,hw.below⟩
    rw[hF];try rfl
   have h6:VZ (s.take n)=false:=CP
   refine AY (AL (AS (AC (yq O (Bl O O O (by omega)) ?_))));refine AU O (Fl (n-1) ?_ ?_ (A0 O (B3 (Value.int IntKind.i64) (by omega)) (Bk)) (BS O) (fun _ h=>by dsimp only;exact AD h))
   ·exact⟨by omega,hx.trans (AJl NZ h6)⟩
   omega
  simp at B4
  have NZ:n=0:=by omega
  refine Av (AE (AE (AO (CB (()) ?_))))
  rw[hx,NZ];try rfl
 rintro _ hz;refine tr (Em (Me Mg) rfl (El _ rfl ?_ (by exact F9 _)));refine AH rfl (AX (B6 (.inl rfl) rfl (by exact Cb rfl PC Ie rfl rfl (Du rfl (Cc))) (fun w' hw=>?_)));refine⟨?_,hw.below⟩
 rw[hF,AI hz];try rfl
theorem AOi{L r:List Lx}{n:Nat}(h1:n<L.length)(h2:L.drop (n+1)=if b=true then[]else r)(hb:b=true):L.length=n+1:=by
 rw[AI hb]at h2
 have:=B3 List.length h2
 rw[BA]at this
 simp at this;omega
theorem ANH{l:List Lx}:∀vs∈l.map lxV,vs.length=1:=fun vs h=>by
 obtain⟨x,_,rfl⟩:=FL.1 h;rfl
theorem ZN(s:List UInt8)(b1:Nat)(I0:AQ)(hs:s.length<=900000000)(hG:Fr I0):Kk prog 200 [.pointer (some ⟨b1,0,none⟩)] ((DM s).map lxV) (fun I=>DA I b1 0 (Au s)/\Le I0 I):=by
 intro γ Cd Cx G II lid hY w0 g00 F w SZ Uz BZ;obtain⟨Oi,AXz⟩:=Uz
 have hJ:=Le.refl (II g00)
 have AiR:=E6 s C1
 refine enter func200 O ntmps200 O (BZ.self) (tr (yq O ((by exact Ai O O (A8 (Oi.mono hJ)))) ?_));refine yp O ((fun w _=>Pn s C1 w (by decide) (by decide))) ?_;refine AH O (AJ (EB (ι:=List UInt8×Nat×Nat×γ) [0,1] (fun zz=>zz.2.2.1<=(DM s).length/\Cd zz.2.2.1 zz.2.2.2/\Le (II g00) (II zz.2.2.2)/\(DM s).drop zz.2.2.1=Li zz.2.1 zz.1/\zz.1.length<zz.2.1/\zz.1.length<=s.length) (fun zz=>zz.1.length) (fun zz=>[(3,Au zz.1)]) (fun zz=>(II zz.2.2.2)) (fun zz=>(F++G zz.2.2.2)) (Lib.trimLeftS s C1,s.length+1,0,g00) O ?_ ?_))
 ·dsimp only;exact⟨Aw _,SZ,Le.refl _,O,by omega,AiR⟩
 rintro⟨q,f,nn,g⟩ ⟨hn,JD,hJ,I4,hf,hql⟩;dsimp only at *;obtain⟨hn1,Lc,TF⟩:=ANt I4 hf;refine AF (AJ (tr (yp rfl ((fun w hw=>AFp q w (by omega) (hG.mono ((AXz.trans hJ).trans hw.le)))) ?_)))
 refine HO (Me JF) O fun b4=>(El (Me (Bp q).1) O ?_ (by exact F9 _))
 refine AH O (AF (tr (yq O (A7 O PC Ie O O O) (Mb (i:=nn) g (Fi O) O O O O O hY ((by rw[List.getElem?_map,Lc];try rfl)) JD O (fun g JD CH=>?_) (fun g hcx CH=>?_)))))
 ·have hJ:=hJ.trans CH
  refine CL 6 ?_
  refine zO 3 O (fun UQ=>by
    simp at UQ
    refine zq O ((by exact Az O O (by rfl))) ?_;exact zv O
   ) ?_
  refine FR (CL 5 ?_)
  refine zO 3 O (fun h28=>by
    simp at h28
    refine zq O ((by exact Az O O (by rfl))) ?_;exact zv O
   ) ?_
  refine FR (ln (AA O (fun Ab=>?_) (fun Ab=>?_)))
  ·have AjU:=AJN Ab O
   refine Ak (I7 O (fun w' hw=>?_));exact⟨_,O,g,.inl (by rw[Af,AOi hn1 TF AjU];exact JD),hJ,BZ.rebase (AD hw)⟩
  have AZT:=AJN Ab O
  refine AV ?_
  have Acb:=Lr AZT
  refine AC (yq O (BF O BX O O (by omega)) ?_);refine AU O (AL (AS ?_))
  have Acb:=Lr AZT
  have AjC:=E6 (q.drop (Bp q).2) C1
  rw[BA]at AjC;refine AC (yp O ((fun w _=>Pn (q.drop (Bp q).2) C1 w (by decide) (by decide))) ?_);refine AU O (DJ ((Lib.trimLeftS (q.drop (Bp q).2) C1,f-1,nn+1,g)) ?_ ?_)
  ·dsimp only;refine⟨hn1,JD,hJ,?_,by omega,by omega⟩;rw[TF,AB (by rw[AZT];simp)]
  dsimp only
  show(Lib.trimLeftS (q.drop (Bp q).2) C1).length<q.length
  omega
 have hJ:=hJ.trans CH
 refine CL 6 (K5 2 O ?_)
 refine AWu 3 4 19 23 22 _ false O O O O O O (fun UQ=>by
   exact Ac UQ (by decide)
  ) (Fi O) O O O ?_
 refine FR (CL 5 (K5 1 O ?_))
 refine AWu 3 9 24 28 27 _ false O O O O O O (fun h28=>by
   exact Ac h28 (by decide)
  ) (Fi O) O O O ?_
 refine FR (ln (AA O (fun An=>?_) (fun An=>?_)))
 ·refine Ak (I7 O (fun w' hw=>?_));exact⟨_,O,g,.inr ⟨nn+1,(by rw[Af];omega),hcx⟩,hJ,BZ.rebase (AD hw)⟩
 exact Ac An (by simp)
theorem W9(s:List UInt8)(I:AQ)(F:List HA)(w0 w:World)(BZ:St w0 I F w):Calls prog 168 [Au s].toArray w (ER w fun v I' H'=>Le I I'/\F=H'/\∃b,v=.func (.func 200) #[] #[.pointer (some ⟨b,0,none⟩)]/\DA I' b 0 (Au s)):=by
 refine enter func168 O ntmps168 O (BZ.self) (tr (JC _ O (fun b1=>?_) (by rfl)));refine AH O (AF (Cw b1 (fun J hJ h1=>?_)));refine AC (yq O (F8 O O O) (AH O (AX (AP O O (fun w' hw=>?_)))));exact⟨_,O,J,_,⟨hJ,O,b1,O,h1 0 _ O⟩,hw⟩
theorem Ty(s:List UInt8)(b:Nat)(I:AQ)(F:List HA)(w0 w:World)(hs:s.length<=900000000)(hG:Fr I)(hb:DA I b 0 (Au s))(BZ:St w0 I F w):Calls prog 199 [.slice none 0 0,.func (.func 200) #[] #[.pointer (some ⟨b,0,none⟩)]].toArray w (ER w fun v I' H'=>Le I I'/\F=H'/\Sl I' 3 v ((DM s).map Me)):=by
 have Alx:=N4 s
 refine Mw func199 O ntmps199 O (BZ.self) (tr (JC _ O (fun b2=>?_) (by rfl)));refine AH O (AF (AK O (AJ (OO (γ:=Value×List Lx) (ZN s b I hs hG) O O func200 (by kernel_rfl) O (fun nn zz=>zz.2=(DM s).take nn) (fun _ _=>False) F (fun zz TT=>(row b2 272 [zz.1]::Ap 275 3 Me zz.1 zz.2::TT)) (fun _ _=>rfl) (fun zz=>I) [(0,_),(1,_),(2,_),(4,_),(6,_)] (BS O) (.slice none 0 0,[]) ?_ ?_ ?_ ?_ O ?_ ?_ ?_ (fun _ _ _ h=>h.elim)))))
 ·rfl
 ·exact⟨hb,Le.refl _⟩
 ·exact Le.refl _
 ·exact fun _ h=>AD (CI 275 3 Me h)
 ·exact ANH
 ·intro bl ready busy done dfr nn vs gg w0r FF hi Ek hrs hbz;obtain⟨v1,l1⟩:=gg
  have Ri:=Ek
  dsimp only at *;obtain⟨hnl,rfl⟩:=ATa hi
  have UU:=B3 List.length Ri
  rw[BL]at UU;refine AC (HO _ O fun b5=>?_);refine El _ O ?_ (by exact F9 _);refine C7 (Mn (by rfl) hrs ?_);refine AJ (AC (DE O ?_));refine yq O (A7 O PC Ie O O O) (NF _ O (fun b10=>?_) (by rfl));refine V4 (f:=Me) (AG (DM s) nn JF) O (fun v11=>?_) (by exact F9 _) (by simp only[maxLen];omega) (by omega);refine Un v11 (fun Ma=>?_);refine Eu _ O ?_ (by assumption) O (by(simp only[DS];try rfl));refine C7 (AL (Gy (fun w' hw'=>.inl ⟨O,((v11,l1++[AG (DM s) nn JF])),?_,?_,?_⟩)))
  ·dsimp only;rw[Ri,C6 JF hnl]
  ·exact Le.refl _
  dsimp only;exact AD hw'
 intro bd gg Ek CH;obtain⟨v1,l1⟩:=gg
 have Ri:=Ek
 dsimp only at *;rw[Af,Gb]at Ri;subst Ri;refine AL (AS (AF (Bf (f:=Me) (l:=DM s) v1 (fun _=>rfl) (fun J hJ hv=>?_))));refine AC (DE rfl ?_);refine AH rfl (AX (Db (AIj (bs:=[bd]) rfl rfl (fun w' hw=>?_))));exact⟨_,rfl,J,F,⟨hJ,rfl,hv⟩,AD hw⟩
theorem Wy(s:List UInt8)(b:Nat)(I:AQ)(F:List HA)(w0 w:World)(hs:s.length<=900000000)(hG:Fr I)(hb:DA I b 0 (Au s))(BZ:St w0 I F w):Calls prog 167 [.func (.func 200) #[] #[.pointer (some ⟨b,0,none⟩)]].toArray w (ER w fun v I' H'=>Le I I'/\F=H'/\Sl I' 3 v ((DM s).map Me)):=by
 refine enter func167 O ntmps167 O (BZ.self) (AK O (tr (yc O (fun w hw=>Ty s b _ _ _ w hs hG hb hw) ?_)));rintro v4 J4 _ ⟨hJ4,rfl,hv4⟩;refine AH rfl (AX (AP rfl rfl (fun w' hw=>?_)));exact⟨_,rfl,J4,_,⟨hJ4,rfl,hv4⟩,hw⟩
def Dq(lv:Value)(nw th:Lx)(e:Nat):List Value:=[lv,Au nw.text,.int .i64 nw.worth,.int .i64 (nw.what:Int),Au th.text,.int .i64 th.worth,.int .i64 (th.what:Int),.int .i64 (e:Int)]
def Vq:Value:=.slice none 0 0
def YQ(op nm:List UInt8)(n:Int)(kv:Value):List Value:=[Au op,Au nm,.int .i64 n,kv]
theorem AZO{I:AQ}{H:List HA}{v:Value}{l:List Lx}(h:Sl I 3 v (l.map Me)){i:Nat}(hi:i<l.length):Rds w0 I H (Eb v).block ((Eb v).off+i * 3) (Me (AG l i JF)):=h.rds (CN l Me JF hi)
theorem AaU{x:Lx}{t:List UInt8}:(decide ((x.what:Int)=3)&&decide (x.text=t))=(decide (x.what=3)&&decide (x.text=t)):=by
 by_cases h:x.what=3<;>simp[h]<;>omega
theorem AVE{α:Type}(l:List α){d d2:α}(h:0<l.length):AG l 0 d=AG l 0 d2:=by rw[CT h,CT h]
def lvL:List (List UInt8):=[[32,124,124,32],[32,38,38,32],[32,124,32],[32,94,32],[32,38,32],[32,61,61,32,33,61,32],[32,60,32,60,61,32,62,32,62,61,32],[32,60,60,32,62,62,32],[32,43,32,45,32],[32,42,32,47,32,37,32]]
theorem AdR(h:v<10):lvS v=AG lvL v []:=by
 match v,h with
 |0,_=>rfl
 |1,_=>rfl
 |2,_=>rfl
 |3,_=>rfl
 |4,_=>rfl
 |5,_=>rfl
 |6,_=>rfl
 |7,_=>rfl
 |8,_=>rfl
 |9,_=>rfl
theorem Abh{I:AQ}{H:List HA}{b T:Nat}{k:Nat}(hm:row b T (lvL.map Au)∈H)(hk:k<10):Rd w0 I H b (0+k * 1) (Au (AG lvL k [])):=by
 rw[Nat.zero_add,Nat.mul_one];refine PO hm ?_
 have h:k<lvL.length:=hk
 rw[List.getElem?_map,LC h,CT h];try rfl
theorem PZ(b:Nat)(lv:Value)(nw th:Lx)(e:Nat)(Ls:List Lx)(I:AQ)(F:List HA)(w0 w:World)(C3:Sl I 3 lv (Ls.map Me))(BZ:St w0 I (row b 280 (Dq lv nw th e)::F) w):Calls prog 169 [Gg b].toArray w (ER w fun v I' H'=>I=I'/\v=.tuple #[]/\∃lv',H'=row b 280 (Dq lv' th (AG Ls 0 th) e)::F/\Sl I 3 lv' ((Ls.drop 1).map Me)):=by
 refine enter func169 O ntmps169 O (BZ.self) (tr (yq O ((by exact A7 O PC Ie O O O)) ?_));refine y0 O ((by exact K6 O Ie O O O (by exact F9 _) O)) ?_;rintro _ _ _ ⟨rfl,rfl⟩;refine FB (H':=row b 280 (Dq lv th th e)::F) ?_ (fun _ h=>h);refine DL (DE rfl ?_);refine yq rfl ((by exact BH rfl APB rfl (Sl.lenOf C3 (Af _)))) ?_;refine AH rfl (AA rfl (fun Ab=>?_) (fun Ab=>?_))
 ·simp at Ab
  have T4:0<Ls.length:=by omega
  have GV:=Sl.dropM C3 O (show 1<=Ls.length by omega)
  refine Bo [15,18] [] [] mo (by kernel_rfl) (fun _ _ _ _ _ h=>h) (xr [0,1,2,3,4] O O (xq 5 O O (Az O O (by rfl)) ?_));refine xf 6 O O (fun _=>(by exact AN O APB Ie O O (Sl.shape C3 (Af _)) (by omega))) ?_;refine xq 7 O O ((by exact Br O PC Ie O O (AZO (i:=0) C3 (by omega)))) ?_;refine xr [8,9,10] O O (xq 11 O O (Az O O (by rfl)) ?_);refine xf 12 O O (fun _=>(by exact CW O APB Ie O O (Sl.lenOf C3 (Af _)) (by omega))) ?_;refine xr [13,14] O O (FP 15 (by kernel_rfl) (by kernel_rfl) O (Le.refl _) O O ((by exact K6 O Ie O O O (by exact F9 _) O)) ?_);rintro _ _ _ ⟨rfl,rfl⟩;refine xk (Bx (H':=row b 280 (Dq lv th (AG Ls 0 JF) e)::F) ?_ (fun _ h=>h));refine xr [16,17] rfl rfl ?_;refine FP 18 (by kernel_rfl) (by kernel_rfl) rfl (Le.refl _) rfl rfl (Bz rfl ANq rfl rfl (by exact(Sl.dropM C3 rfl (by omega)).one) rfl (by rfl)) ?_;rintro _ _ _ ⟨rfl,rfl⟩;refine xk (Bx (H':=row b 280 (Dq (F7 3 1 Ls.length lv) th (AG Ls 0 JF) e)::F) ?_ (fun _ h=>h));refine CX (EK rfl (fun w' hw=>?_));refine⟨_,rfl,I,_,⟨rfl,rfl,F7 3 1 Ls.length lv,?_,GV⟩,hw⟩;rw[AVE Ls (d:=th) (d2:=JF) T4]
 simp at Ab
 have T4:Ls=[]:=by simpa using Ab
 subst T4;refine AY (EK rfl (fun w' hw=>?_));exact⟨_,rfl,I,_,⟨rfl,rfl,lv,rfl,C3⟩,hw⟩
theorem GH(b:Nat)(lv:Value)(nw th:Lx)(k:Nat)(I:AQ)(F:List HA)(w0 w:World)(BZ:St w0 I (row b 280 (Dq lv nw th 0)::F) w):Calls prog 171 [Gg b,.int .i64 (k:Int)].toArray w (ER w fun v I' H'=>I=I'/\∃q,v=Gg q/\H'=row b 280 (Dq lv nw th k)::F):=by
 refine enter func171 O ntmps171 O (BZ.self) (AK O (AF (tr (DE O ?_))));refine AH O (AA O (fun Ab=>?_) (fun Ab=>?_))
 ·simp at Ab
  refine AC (Eu _ O ?_ (by exact⟨O,O⟩) O (by rfl));refine FB (H':=row b 280 (Dq lv nw th k)::F) ?_ (fun _ h=>h);refine DL (Em (YQ [] [] 0 Vq) O (JC _ O fun b15=>?_));refine AH O (AX (AP O O (fun w' hw=>?_)));exact⟨_,O,I,_,⟨O,b15,O,O⟩,AD hw⟩
 simp at Ab
theorem K4(b:Nat)(lv:Value)(nw th:Lx)(e:Nat)(t:List UInt8)(w:World)(hb:HR (Ao w) b (Dq lv nw th e)):B2 prog 227 [Gg b,Au t] w (.bool (decide (nw.what=3)&&decide (nw.text=t))):=by
 refine enter func227 O ntmps227 O (St.start w (Ao w) (Le.refl _)) (AK O (tq (zq O ((by exact Ai O O (A8 (hb 3 _ O)))) ?_)))
 refine zA 7 O (fun h19=>by
   simp at h19
   refine zq O ((by exact Ai O O (A8 (hb 1 _ O)))) ?_;refine zq O (AR O O O) ?_;exact zv O
  ) ?_
 refine De O (AX (AP O O (fun w' hw=>?_)));refine⟨?_,hw.below⟩;rw[<-AaU]
theorem AEP(v:Nat)(w:World)(hv:v<10):B2 prog 239 [.int .i64 (v:Int)] w (Au (lvS v)):=by
 refine enter func239 O ntmps239 O (St.start w (Ao w) (Le.refl _)) (AK O (tr (ye O (Cl (vs:=[_,_,_,_,_,_,_,_,_,_]) (css:=[[Au [32,124,124,32]],[Au [32,38,38,32]],[Au [32,124,32]],[Au [32,94,32]],[Au [32,38,32]],[Au [32,61,61,32,33,61,32]],[Au [32,60,32,60,61,32,62,32,62,61,32]],[Au [32,60,60,32,62,62,32]],[Au [32,43,32,45,32]],[Au [32,42,32,47,32,37,32]]]) O BT Co O O O O (O) (by simp[])) ?_)));rintro _ _ _ ⟨b3,rfl,rfl,rfl⟩;refine FB (H':=row b3 9 (lvL.map Au)::[]) ?_ (fun _ h=>h);refine yq rfl ((by exact AN rfl BT Co rfl rfl (⟨_,_,rfl,fun _ _ h=>by cases h;rfl,fun _ h=>by cases h⟩) (by omega))) ?_;refine yq rfl ((by exact Ai rfl rfl (Abh (b:=b3) (T:=9) (k:=v) (CQ) hv))) ?_;refine AH rfl (AX (AP rfl rfl (fun w' hw=>?_)));refine⟨?_,hw.below⟩;rw[AdR hv]
def K1:List UInt8:=[110,97,109,101]
def Oo:List (List UInt8):=[[49,43],[49,45],[49,33],[49,126]]
def Ff(J:AQ):Ex->Nat->Prop
 | .num n,q=>HR J q (YQ [] [] n Vq)
 | .var nm,q=>HR J q (YQ K1 nm 0 Vq)
 | .asg op nm k,q=>(op≠[]/\op≠K1/\nm≠[]/\op.length<=900000000)/\∃kv a,HR J q (YQ op nm 0 kv)/\Sl J 1 kv ([Gg a].map fun x=>[x])/\Ff J k a
 | .una op k,q=>op∈Oo/\∃kv a,HR J q (YQ op [] 0 kv)/\Sl J 1 kv ([Gg a].map fun x=>[x])/\Ff J k a
 | .bin op x y,q=>(op≠[]/\op≠K1/\op ∉ Oo/\op≠[63])/\∃kv a b,HR J q (YQ op [] 0 kv)/\Sl J 1 kv ([Gg a,Gg b].map fun x=>[x])/\Ff J x a/\Ff J y b
 | .cho x y z,q=> ∃kv a b c,HR J q (YQ [63] [] 0 kv)/\Sl J 1 kv ([Gg a,Gg b,Gg c].map fun x=>[x])/\Ff J x a/\Ff J y b/\Ff J z c
theorem Ff.mono{J K:AQ}(CH:Le J K):∀{x:Ex} {q:Nat},Ff J x q->Ff K x q
 | .num n,q,h=>HR.mono h CH
 | .var nm,q,h=>HR.mono h CH
 | .asg op nm k,q,⟨h0,kv,a,h1,h2,h3⟩=>⟨h0,kv,a,h1.mono CH,h2.mono CH,Ff.mono CH h3⟩
 | .una op k,q,⟨h0,kv,a,h1,h2,h3⟩=>⟨h0,kv,a,h1.mono CH,h2.mono CH,Ff.mono CH h3⟩
 | .bin op x y,q,⟨h0,kv,a,b,h1,h2,h3,h4⟩=>⟨h0,kv,a,b,h1.mono CH,h2.mono CH,Ff.mono CH h3,Ff.mono CH h4⟩
 | .cho x y z,q,⟨kv,a,b,c,h1,h2,h3,h4,h5⟩=>⟨kv,a,b,c,h1.mono CH,h2.mono CH,Ff.mono CH h3,Ff.mono CH h4,Ff.mono CH h5⟩
def GL(J:AQ)(r:PA)(q:Nat)(lv:Value)(nw th:Lx)(e1:Nat):Prop:=match r with
 | .ok x L1=>e1=0/\nw=Ar L1/\th=BP L1/\Tk L1/\Ff J x q/\Sl J 3 lv ((L1.drop 2).map Me)
 | .bad e=>e1=e/\e1≠0
theorem GL.t{J:AQ}{r:PA}{lv:Value}{nw th:Lx}(h:GL J r q lv nw th e1)(he:e1=0):∃x L1,r=.ok x L1/\nw=Ar L1/\th=BP L1/\Tk L1/\Ff J x q/\Sl J 3 lv ((L1.drop 2).map Me):=by
 cases r with
 |ok x L1=>exact⟨x,L1,O,h.2⟩
 |bad e=>exact Ac he h.2
theorem GL.f{J:AQ}{r:PA}{lv:Value}{nw th:Lx}(h:GL J r q lv nw th e1)(he:e1≠0):r=.bad e1:=by
 cases r with
 |ok x L1=>exact Ac h.1 he
 |bad e=>rw[h.1]
theorem MW{J:AQ}{r:PA}{lv:Value}{nw th:Lx}(hr:r=.bad e1)(he:e1≠0):GL J r q lv nw th e1:=by rw[hr];exact⟨rfl,he⟩
theorem AHg{J:AQ}{r:PA}{lv:Value}{x:Ex}{L1:List Lx}(hr:r=.ok x L1)(hT:Tk L1)(hx:Ff J x q)(hs:Sl J 3 lv ((L1.drop 2).map Me)):GL J r q lv (Ar L1) (BP L1) 0:=by rw[hr];exact⟨rfl,rfl,rfl,hT,hx,hs⟩
def M5(fid:Nat)(args:List Value)(rd:List Lx->PA):Prop:=∀(b:Nat) (lv:Value) (L:List Lx) (I:AQ) (F:List HA) (w0 w:World),Tk L->Fr I->Sl I 3 lv ((L.drop 2).map Me)->St w0 I (row b 280 (Dq lv (Ar L) (BP L) 0)::F) w→
 Calls prog fid (Gg b::args).toArray w (ER w fun v I' H'=>Le I I'/\∃q lv' nw' th' e1,v=Gg q/\H'=row b 280 (Dq lv' nw' th' e1)::F/\GL I' (rd L) q lv' nw' th' e1)
theorem La(b:Nat)(lv:Value)(L:List Lx)(e:Nat)(I:AQ)(F:List HA)(w0 w:World)(hT:Tk L)(C3:Sl I 3 lv ((L.drop 2).map Me))(BZ:St w0 I (row b 280 (Dq lv (Ar L) (BP L) e)::F) w):
  Calls prog 169 [Gg b].toArray w (ER w fun v I' H'=>I=I'/\v=.tuple #[]/\∃lv',H'=row b 280 (Dq lv' (Ar (Am L)) (BP (Am L)) e)::F/\Sl I 3 lv' (((Am L).drop 2).map Me)):=by
 rw[YN hT.1,AFj hT.1,AGW hT.1];exact PZ b lv (Ar L) (BP L) e (L.drop 2) I F w0 w C3 BZ
def ACC(d:Int)(R:Kl):Prop:=M5 170 [.int .i64 d] R.asg/\M5 202 [.int .i64 d] R.cho/\M5 238 [.int .i64 d] R.opd
theorem AZe{L:List Lx}(h:IB L=true):[49]++(Ar L).text∈Oo:=by
 unfold IB G3 at h;simp only[C4,Ay,BC]at h
 rcases h with ((h|h)|h)|h<;>rw[h.2]<;>decide
theorem AUV{R:Kl}{L:List Lx}{J K:AQ}{b41 b43:Nat}{lv:Value}{nw th:Lx}(hu:IB L=true)(hr:GL J (R.opd (Am L)) q lv nw th e)(CH:Le J K)(hk:HR K b41 [Gg q])(hx:HR K b43 (YQ ([49]++(Ar L).text) [] 0 (.slice (some ⟨b41,0,none⟩) 1 1))):
  GL K (EH R L) b43 lv nw th e:=by
 unfold EH;rw[AI hu]
 cases h:R.opd (Am L)with
 |bad e2=>rw[h]at hr;exact hr
 |ok x L1=>
  rw[h]at hr;obtain⟨h1,h2,h3,h4,h5,h6⟩:=hr;exact⟨h1,h2,h3,h4,⟨AZe hu,_,q,hx,UR hk (A5 _),h5.mono CH⟩,h6.mono CH⟩
theorem AVL(v:Nat):(lvS v).length<=100:=by
 unfold lvS;split<;>decide
def ANi(m j:Nat)(I:AQ)(TOT:PA)(q:Nat)(lv:Value)(nw th:Lx)(e1:Nat)(J:AQ)(x:Ex)(L:List Lx)(g:Nat):Prop:=
 Le I J/\(e1=0->nw=Ar L/\th=BP L/\Tk L/\Ff J x q/\Sl J 3 lv ((L.drop 2).map Me)/\L.length<=g/\TOT=KS (9-j) (CJ (FM m) j) g x L)/\(e1≠0->TOT=.bad e1)
theorem AGD{I J:AQ}{L0:List Lx}{lv:Value}{nw th:Lx}(CH:Le I J)(hr:GL J (CJ (FM m) j L0) q lv nw th e1):∃x L g,ANi m j I (CJ (FM m) (j+1) L0) q lv nw th e1 J x L g:=by
 rw[CJ]
 cases h:CJ (FM m) j L0 with
 |bad e=>rw[h]at hr;exact⟨.num 0,[],0,CH,fun he=>Ac he hr.2,fun _=>by rw[hr.1]⟩
 |ok x L1=>rw[h]at hr;exact⟨x,L1,L1.length,CH,fun _=>⟨hr.2.1,hr.2.2.1,hr.2.2.2.1,hr.2.2.2.2.1,hr.2.2.2.2.2,A5 _,O⟩,fun he=>Ac hr.1 he⟩
theorem AaI{L:List Lx}(h:HQ v L=true):(Ar L).text≠[]/\(Ar L).text≠K1/\(Ar L).text ∉ Oo/\(Ar L).text≠[63]:=by
 unfold HQ at h;rw[Ay]at h
 have key:∀t:List UInt8,Lib.contains (lvS v) ([32]++t++[32])=true->t≠[]/\t≠K1/\t ∉ Oo/\t≠[63]:=by
  intro t ht
  have no:∀t:List UInt8,(List.range 10).all (fun k=> !Lib.contains (lvS k) ([32]++t++[32]))=true->Lib.contains (lvS v) ([32]++t++[32])=false:=by
   intro t h;rcases Nat.lt_or_ge v 10 with hv|hv
   ·simpa using List.all_eq_true.1 h v (List.mem_range.2 hv)
   have h9:=List.all_eq_true.1 h 9 (List.mem_range.2 (by decide))
   have:lvS v=lvS 9:=by
    unfold lvS;split<;>first |omega|rfl
   rw[this];simpa using h9
  have x:∀u:List UInt8,(List.range 10).all (fun k=> !Lib.contains (lvS k) ([32]++u++[32]))=true->t≠u:=fun u hu he=>by
   subst he;rw[no _ hu]at ht;cases ht
  refine⟨x _ (by decide),x _ (by decide),fun hm=>?_,x _ (by decide)⟩;simp only[Oo,Ci,List.not_mem_nil,or_false]at hm;rcases hm with h|h|h|h
  ·exact x [49,43] (by decide) h
  ·exact x [49,45] (by decide) h
  ·exact x [49,33] (by decide) h
  exact x [49,126] (by decide) h
 exact key _ h.2
theorem ARB{L:List Lx}(h:HQ v L=true):Ed (Ar L)=false:=by
 unfold HQ at h;rw[Ay,BC]at h
 unfold Ed;rw[h.1];try rfl
theorem ALc{I J K K2:AQ}{TOT:PA}{lv lv2:Value}{nw2 th2:Lx}{e2:Nat}{x:Ex}{L:List Lx}(h:ANi m j I TOT q lv (Ar L) (BP L) 0 J x L g)(hb:HQ (9-j) L=true)(hJK:Le J K)
  (hr:GL K (CJ (FM m) j (Am L)) q2 lv2 nw2 th2 e2) (CH:Le K K2) (hk:HR K2 b1 [Gg q,Gg q2]) (hx:HR K2 b2 (YQ (Ar L).text [] 0 (.slice (some ⟨b1,0,none⟩) 2 2))):∃x' L',ANi m j I TOT b2 lv2 nw2 th2 e2 K2 x' L' (g-1):=by
 obtain⟨PL,h0,_⟩:=h;obtain⟨_,_,hT,hxq,_,hg,Zx⟩:=h0 rfl
 have h2:=Gu hT (ARB hb)
 obtain⟨f,rfl⟩:∃f,g=f+1:=⟨g-1,by have:=hT.pos;omega⟩;rw[KS,AI hb]at Zx
 have hI2:=PL.trans (hJK.trans CH)
 cases hs:CJ (FM m) j (Am L)with
 |bad e=>
  rw[hs]at hr Zx;exact⟨.num 0,[],hI2,fun he=>Ac he hr.2,fun _=>by rw[Zx,hr.1]⟩
 |ok y L1=>
  have hgd:=E8 (DT m) j _ hT.step y L1 hs
  rw[hs]at hr Zx;obtain⟨h1,h3,h4,h5,h6,h7⟩:=hr;exact⟨.bin (Ar L).text x y,L1,hI2,fun _=>⟨h3,h4,h5,⟨AaI hb,_,q,q2,hx,UR hk (A5 _),hxq.mono (hJK.trans CH),h6.mono CH⟩,h7.mono CH,by show L1.length<=f;omega,Zx⟩,fun he=>Ac h1 he⟩
theorem ANE{I J:AQ}{TOT:PA}{lv:Value}{nw th:Lx}{x:Ex}{L:List Lx}(h:ANi m j I TOT q lv nw th e1 J x L g)(hb:e1=0->HQ (9-j) L=false):GL J TOT q lv nw th e1:=by
 obtain⟨_,h0,h1⟩:=h
 by_cases he:e1=0
 ·obtain⟨a1,a2,a3,a4,a5,a6,a7⟩:=h0 he;subst he a1 a2
  have:TOT=.ok x L:=by
   rw[a7]
   cases g with
   |zero=>rfl
   |succ g=>rw[KS,AB (by rw[hb O];simp)]
  exact AHg this a3 a4 a5
 exact MW (h1 he) he
theorem AZJ{nw:Lx}(h:((decide ((e1:Int)=0)&&decide ((nw.what:Int)=3))&&Lib.contains (lvS v) ([32]++nw.text++[32]))=true):e1=0/\(∀L,nw=Ar L->HQ v L=true):=by
 simp only[Ay,BC]at h;refine⟨by omega,fun L hL=>?_⟩;unfold HQ
 rw[<-hL,h.2,BK (show nw.what=3 by omega)];try rfl
theorem AVg{nw:Lx}(h:((decide ((e1:Int)=0)&&decide ((nw.what:Int)=3))&&Lib.contains (lvS v) ([32]++nw.text++[32]))=false):e1=0->∀L,nw=Ar L->HQ v L=false:=fun he L hL=>by
 subst he
 cases hb:HQ v L with
 |false=>rfl
 |true=>
  unfold HQ at hb;rw[Ay,BC,<-hL]at hb;rw[hb.2,BK (show(nw.what:Int)=3 by omega)]at h
  cases h
theorem ANB{L:List Lx}(h:((decide (((Ar L).what:Int)=2)&&decide (((BP L).what:Int)=3))&&Lib.contains AUN ([32]++(BP L).text++[32]))=b):HL L=b:=by
 rw[<-h];unfold HL;rw[show decide (((Ar L).what:Int)=2)=decide ((Ar L).what=2) by by_cases h:(Ar L).what=2<;>simp[h]<;>omega,show decide (((BP L).what:Int)=3)=decide ((BP L).what=3) by by_cases h:(BP L).what=3<;>simp[h]<;>omega]
theorem AZx{L:List Lx}(hT:Tk L)(h:HL L=true):(BP L).text≠[]/\(BP L).text≠K1/\(Ar L).text≠[]/\(BP L).text.length<=900000000:=by
 unfold HL at h;rw[Ay,Ay,BC,BC]at h;refine⟨fun he=>?_,fun he=>?_,hT.now2.2 h.1.1,hT.then⟩
 ·rw[he]at h;exact Ac h.2 (by decide+kernel)
 rw[he]at h;exact Ac h.2 (by decide+kernel)
theorem AWw(h:(decide ((e1:Int)=0)&& !b)=true):e1=0/\b=false:=by
 simp only[Ay,BC,FJ]at h;exact⟨by omega,h.2⟩
theorem AQP(h:(decide ((e1:Int)=0)&& !b)=false):e1=0->b=true:=fun he=>by
 subst he
 cases b with
 |true=>rfl
 |false=>cases h
theorem AHW{R:Kl}{L L1:List Lx}{x:Ex}{r:PA}(hu:IB L=false)(hp:G3 L [40]=true)(hr:R.asg (Am L)=.ok x L1)(h:(if G3 L1 [41]=true then PA.ok x (Am L1)else .bad 60)=r):EH R L=r:=by
 unfold EH;rw[AB (by rw[hu];simp),AI hp,hr,<-h]
theorem AQr{R:Kl}{L:List Lx}(hu:IB L=false)(hp:G3 L [40]=true)(hr:R.asg (Am L)=.bad e):EH R L=.bad e:=by
 unfold EH;rw[AB (by rw[hu];simp),AI hp,hr]
theorem AVU{R:Kl}{L:List Lx}(hu:IB L=false)(hp:G3 L [40]=false)(h:(Ar L).what=1):EH R L=.ok (.num (Ar L).worth) (Am L):=by
 unfold EH;rw[AB (by rw[hu];simp),AB (by rw[hp];simp),AI h]
theorem ATl{R:Kl}{L:List Lx}(hu:IB L=false)(hp:G3 L [40]=false)(h1:¬(Ar L).what=1)(h:(Ar L).what=2):EH R L=.ok (.var (Ar L).text) (Am L):=by
 unfold EH;rw[AB (by rw[hu];simp),AB (by rw[hp];simp),AB h1,AI h]
theorem AOe{R:Kl}{L:List Lx}(hu:IB L=false)(hp:G3 L [40]=false)(h1:¬(Ar L).what=1)(h2:¬(Ar L).what=2):EH R L=.bad 60:=by
 unfold EH;rw[AB (by rw[hu];simp),AB (by rw[hp];simp),AB h1,AB h2]
theorem Xu(n d:Nat)(hn:25-d=n)(hd:d<=25)(hR:∀m,n=m+1->ACC ((d:Int)+1) (FM m))(b:Nat)(lv:Value)(L:List Lx)(I:AQ)(F:List HA)(w0 w:World)(hT:Tk L)(hG:Fr I)(C3:Sl I 3 lv ((L.drop 2).map Me))(BZ:St w0 I (row b 280 (Dq lv (Ar L) (BP L) 0)::F) w):Calls prog 238 [Gg b,.int .i64 (d:Int)].toArray w (ER w fun v I' H'=>Le I I'/\∃q lv' nw' th' e1,v=Gg q/\H'=row b 280 (Dq lv' nw' th' e1)::F/\GL I' ((FM n).opd L) q lv' nw' th' e1):=by
 refine enter func238 O ntmps238 O (BZ.self) (AK O (AF (AK O (AA O (fun Ab=>?_) (fun Ab=>?_)))))
 ·simp at Ab
  have NZ:n=0:=by omega
  subst NZ;refine tr (yc rfl (fun w hw=>GH b lv (Ar L) (BP L) 52 _ _ _ w (Al (row b 280 (Dq lv (Ar L) (BP L) 0)) hw)) ?_);rintro _ _ _ ⟨rfl,q12,rfl,rfl⟩;refine AH rfl (Ak (AP rfl rfl (fun w' hw=>?_)));exact⟨_,rfl,I,_,⟨Le.refl _,_,lv,(Ar L),(BP L),52,rfl,rfl,MW rfl (by decide)⟩,hw⟩
 simp at Ab
 obtain⟨m,rfl⟩:∃m,n=m+1:=⟨24-d,by omega⟩;obtain⟨hA,hC,hO⟩:=hR m rfl;refine AV (AF (AJ (tq (zp rfl ((fun w hw=>K4 b lv (Ar L) (BP L) 0 [43] w (D7 hw))) ?_))))
 refine zO 2 O (fun h19=>by
   simp at h19
   refine zp O ((fun w hw=>K4 b lv (Ar L) (BP L) 0 [45] w (D7 hw))) ?_;exact zv O
  ) ?_
 refine zO 2 O (fun UQ=>by
   simp at UQ
   refine zp O ((fun w hw=>K4 b lv (Ar L) (BP L) 0 [33] w (D7 hw))) ?_;exact zv O
  ) ?_
 refine zO 2 O (fun h27=>by
   simp at h27
   refine zp O ((fun w hw=>K4 b lv (Ar L) (BP L) 0 [126] w (D7 hw))) ?_;exact zv O
  ) ?_
 refine De O (AA O (fun An=>?_) (fun An=>?_))
 ·have hu:IB L=true:=An
  refine AF ?_
  have hbn:=hT.now
  refine AC (DE O ?_);refine yq O (F1 O O O (by(simp only[CD,Bb];omega))) ?_;refine AH O (tr (yc O (fun w hw=>La b lv L 0 _ _ _ w hT C3 (Al (row b 280 (Dq lv (Ar L) (BP L) 0)) hw)) ?_));rintro _ _ _ ⟨rfl,rfl,lv35,rfl,AkC⟩;refine DL (yq rfl (AM rfl rfl rfl (by omega)) ?_);refine yc rfl (fun w hw=>hO b lv35 (Am L) _ _ _ w hT.step hG AkC (Al (row b 280 (Dq lv35 (Ar (Am L)) (BP (Am L)) 0)) hw)) ?_;rintro _ J40 _ ⟨Qj,q40,lv40,nw40,th40,e40,rfl,rfl,AKX⟩;refine NF _ rfl (fun b41=>?_) (by rfl);refine Em (YQ ([49]++(Ar L).text) [] 0 (.slice (some ⟨b41,0,none⟩) 1 1)) rfl (JC _ rfl fun b43=>?_);refine CU b41 (fun Ja hJa hka=>?_);refine CU b43 (fun Jb U3 hkb=>?_);refine AH rfl (Ak (AP rfl rfl (fun w' hw=>?_)));exact⟨_,rfl,Jb,_,⟨(Qj.trans hJa).trans U3,b43,lv40,nw40,th40,e40,rfl,rfl,AUV hu AKX (hJa.trans U3) (HR.mono hka U3) hkb⟩,hw⟩
 have hu:IB L=false:=An
 refine tr (yp O ((fun w hw=>K4 b lv (Ar L) (BP L) 0 [40] w (D7 hw))) (AH O (AA O (fun A6=>?_) (fun A6=>?_))))
 ·have hp:G3 L [40]=true:=A6
  refine tr (yc O (fun w hw=>La b lv L 0 _ _ _ w hT C3 (Al (row b 280 (Dq lv (Ar L) (BP L) 0)) hw)) ?_);rintro _ _ _ ⟨rfl,rfl,lv48,rfl,AiM⟩;refine DL (yq rfl (AM rfl rfl rfl (by omega)) ?_);refine yc rfl (fun w hw=>hA b lv48 (Am L) _ _ _ w hT.step hG AiM (Al (row b 280 (Dq lv48 (Ar (Am L)) (BP (Am L)) 0)) hw)) ?_;rintro _ J52 _ ⟨AJc,q52,lv52,nw52,th52,e52,rfl,rfl,AaP⟩;refine AH rfl (AF (tq (EA rfl ?_)))
  refine zA 3 O (fun h62=>by
    simp at h62
    refine zp O ((fun w hw=>K4 b lv52 nw52 th52 e52 [41] w (D7 hw))) ?_;exact zv O
   ) ?_
  refine Dp (AA O (fun BJ=>?_) (fun BJ=>?_))
  ·obtain⟨he,FW⟩:=AWw BJ;subst he;obtain⟨x1,L1,hr1,rfl,rfl,Sr,Lc,ATM⟩:=AaP.t rfl;refine tr (yc rfl (fun w hw=>GH b lv52 (Ar L1) (BP L1) 60 _ _ _ w (Al (row b 280 (Dq lv52 (Ar L1) (BP L1) 0)) hw)) ?_);rintro _ _ _ ⟨rfl,q64,rfl,rfl⟩;refine AH rfl (Ak (AP rfl rfl (fun w' hw=>?_)));exact⟨_,rfl,J52,_,⟨AJc,_,lv52,(Ar L1),(BP L1),60,rfl,rfl,MW (AHW hu hp hr1 (by rw[show G3 L1 [41]=false from FW];try rfl)) (by decide)⟩,hw⟩
  have h3:=AQP BJ
  refine AV (AF (tr (DE O ?_)));refine AH O (AA O (fun Bj=>?_) (fun Bj=>?_))
  ·have he:e52=0:=by have:=BM Bj;omega
   subst he;obtain⟨x1,L1,hr1,rfl,rfl,Sr,Lc,ATM⟩:=AaP.t rfl;refine AC (yc rfl (fun w hw=>La b lv52 L1 0 _ _ _ w Sr ATM (Al (row b 280 (Dq lv52 (Ar L1) (BP L1) 0)) hw)) ?_);rintro _ _ _ ⟨rfl,rfl,lv71,rfl,Aih⟩;refine DL (AH rfl (Ak (AP rfl rfl (fun w' hw=>?_))));exact⟨_,rfl,J52,_,⟨AJc,q52,lv71,_,_,0,rfl,rfl,AHg (AHW hu hp hr1 (by rw[AI (show G3 L1 [41]=true from h3 rfl)])) Sr.step Lc Aih⟩,hw⟩
  have he:e52≠0:=by have:=BW Bj;omega
  refine AV (AK O (Ak (AP O O (fun w' hw=>?_))));exact⟨_,O,J52,_,⟨AJc,_,lv52,nw52,th52,e52,O,O,MW (AQr hu hp (AaP.f he)) he⟩,hw⟩
 have hp:G3 L [40]=false:=A6
 refine tr (DE O ?_);refine AH O (AA O (fun B4=>?_) (fun B4=>?_))
 ·have Lg:(Ar L).what=1:=by have:=BM B4;omega
  refine tr (DE O ?_);refine Em (YQ [] [] (Ar L).worth Vq) O (JC _ O fun b86=>?_);refine AH O (AF (Cw b86 (fun J hJ hk=>?_)));refine AC (yc O (fun w hw=>La b lv L 0 _ _ _ w hT (C3.mono hJ) (Al (row b 280 (Dq lv (Ar L) (BP L) 0)) hw)) ?_);rintro _ _ _ ⟨rfl,rfl,lv88,rfl,AkL⟩;refine DL (AH rfl (Ak (AP rfl rfl (fun w' hw=>?_))));exact⟨_,rfl,J,_,⟨hJ,b86,lv88,_,_,0,rfl,rfl,AHg (AVU hu hp Lg) hT.step hk AkL⟩,hw⟩
 have Lg:¬(Ar L).what=1:=by have:=BW B4;omega
 refine tr (DE O ?_);refine AH O (AA O (fun CP=>?_) (fun CP=>?_))
 ·have JM:(Ar L).what=2:=by have:=BM CP;omega
  refine tr (DE O ?_);refine Em (YQ K1 (Ar L).text 0 Vq) O (JC _ O fun b103=>?_);refine AH O (AF (Cw b103 (fun J hJ hk=>?_)));refine AC (yc O (fun w hw=>La b lv L 0 _ _ _ w hT (C3.mono hJ) (Al (row b 280 (Dq lv (Ar L) (BP L) 0)) hw)) ?_);rintro _ _ _ ⟨rfl,rfl,lv105,rfl,AbT⟩;refine DL (AH rfl (Ak (AP rfl rfl (fun w' hw=>?_))));exact⟨_,rfl,J,_,⟨hJ,b103,lv105,_,_,0,rfl,rfl,AHg (ATl hu hp Lg JM) hT.step hk AbT⟩,hw⟩
 have JM:¬(Ar L).what=2:=by have:=BW CP;omega
 refine AY (AL (AS (tr (yc O (fun w hw=>GH b lv (Ar L) (BP L) 60 _ _ _ w (Al (row b 280 (Dq lv (Ar L) (BP L) 0)) hw)) ?_))));rintro _ _ _ ⟨rfl,q108,rfl,rfl⟩;refine AH rfl (AX (AP rfl rfl (fun w' hw=>?_)));exact⟨_,rfl,I,_,⟨Le.refl _,_,lv,(Ar L),(BP L),60,rfl,rfl,MW (AOe hu hp Lg JM) (by decide)⟩,hw⟩
theorem Yl(m d:Nat)(hd:d<=25)(hO:M5 238 [.int .i64 (d:Int)] (EH (FM m)))(k:Nat)(hk:k<=10)(ihk:∀j,k=j+1->M5 226 [.int .i64 (((10-k:Nat):Int)+1),.int .i64 (d:Int)] (CJ (FM m) j))(b:Nat)(lv:Value)(L:List Lx)(I:AQ)(F:List HA)(w0 w:World)(hT:Tk L)(hG:Fr I)(C3:Sl I 3 lv ((L.drop 2).map Me))(BZ:St w0 I (row b 280 (Dq lv (Ar L) (BP L) 0)::F) w):Calls prog 226 [Gg b,.int .i64 ((10-k:Nat):Int),.int .i64 (d:Int)].toArray w (ER w fun v I' H'=>Le I I'/\∃q lv' nw' th' e1,v=Gg q/\H'=row b 280 (Dq lv' nw' th' e1)::F/\GL I' (CJ (FM m) k L) q lv' nw' th' e1):=by
 refine enter func226 O ntmps226 O (BZ.self) (AK O (AF (AK O (AA O (fun Ab=>?_) (fun Ab=>?_)))))
 ·simp at Ab
  have hk0:k=0:=by omega
  subst hk0;refine tr (yc rfl (fun w hw=>hO b lv L _ _ _ w hT hG C3 (Al (row b 280 (Dq lv (Ar L) (BP L) 0)) hw)) ?_);rintro _ J13 _ ⟨En,q13,lv13,nw13,th13,e13,rfl,rfl,UA⟩;refine AH rfl (Ak (AP rfl rfl (fun w' hw=>?_)));exact⟨_,rfl,J13,_,⟨En,q13,lv13,nw13,th13,e13,rfl,rfl,UA⟩,hw⟩
 simp at Ab
 obtain⟨j,rfl⟩:∃j,k=j+1:=⟨k-1,by omega⟩
 have ihs:=ihk j O
 refine AV (tr (yq O (AM O O O (by omega)) ?_));refine yc O (fun w hw=>ihs b lv L _ _ _ w hT hG C3 (Al (row b 280 (Dq lv (Ar L) (BP L) 0)) hw)) ?_;rintro _ J18 _ ⟨Jl,q18,lv18,nw18,th18,e18,rfl,rfl,Agr⟩;refine AH rfl (AF (AJ ?_));obtain⟨x0,L0,g0,CS⟩:=AGD (m:=m) (I:=I) Jl Agr;refine EB (ι:=Nat×Value×Lx×Lx×Nat×AQ×Ex×List Lx×Nat) [0,1,2,6,10] (fun zz=>ANi m j I (CJ (FM m) (j+1) L) zz.1 zz.2.1 zz.2.2.1 zz.2.2.2.1 zz.2.2.2.2.1 zz.2.2.2.2.2.1 zz.2.2.2.2.2.2.1 zz.2.2.2.2.2.2.2.1 zz.2.2.2.2.2.2.2.2) (fun zz=>(if zz.2.2.2.2.1=0 then zz.2.2.2.2.2.2.2.2+1 else 0)) (fun zz=>[(7,Gg zz.1)]) (fun zz=>zz.2.2.2.2.2.1) (fun zz=>(row b 280 (Dq zz.2.1 zz.2.2.1 zz.2.2.2.1 zz.2.2.2.2.1)::F)) (q18,lv18,nw18,th18,e18,J18,x0,L0,g0) rfl ?_ ?_
 ·dsimp only;exact CS
 rintro⟨q,lv,nw,th,e1,J,x,L1,g⟩ Ek;dsimp only at *;obtain⟨PL,OL,Lh⟩:=id Ek;refine AF (AF (Bd mo (by kernel_rfl) (fun _ _ _ _ _ h=>h) (EA rfl ?_)))
 refine zA 6 O (fun h31=>by
   simp at h31
   refine EA O ?_;exact zv O
  ) ?_
 refine zA 10 O (fun h43=>by
   simp at h43
   have Wf:e1=0:=by omega
   have hbn:=(OL Wf).2.2.1.now
   rw[<-(OL Wf).1]at hbn;refine zp O ((fun w _=>AEP (10-(j+1)) w (by omega))) ?_;refine EA O ?_;refine zq O (F1 O O O (by(simp only[CD,Bb];omega))) ?_;refine zq O (F1 O O O (by(simp only[Bh,CD,Bb];omega))) ?_;refine zp O ((fun w hw=>IY (lvS (10-(j+1))) ([32]++nw.text++[32]) w (by have:=AVL (10-(j+1));omega) (hG.mono (PL.trans hw.le)))) ?_;exact zv O
  ) ?_
 refine Dp (AA O (fun An=>?_) (fun An=>?_))
 ·obtain⟨Wf,hbn⟩:=AZJ An;subst Wf;obtain⟨Zo,hth,Sr,hxq,Lh,hgl,Zx⟩:=OL rfl;subst Zo hth
  have We:HQ (9-j) L1=true:=by rw[show 9-j=10-(j+1) by omega];exact hbn L1 O
  have hbl:=Sr.now
  refine AV (AJ (tr (DE O ?_)));refine AH O (tr (yc O (fun w hw=>La b lv L1 0 _ _ _ w Sr Lh (Al (row b 280 (Dq lv (Ar L1) (BP L1) 0)) hw)) ?_));rintro _ _ _ ⟨rfl,rfl,lv50,rfl,AXI⟩;refine ln (AC (yq rfl (AM rfl rfl rfl (by omega)) ?_));refine yc rfl (fun w hw=>ihs b lv50 (Am L1) _ _ _ w Sr.step (hG.mono PL) AXI (Al (row b 280 (Dq lv50 (Ar (Am L1)) (BP (Am L1)) 0)) hw)) ?_;rintro _ J57 _ ⟨ATZ,q57,lv57,nw57,th57,e57,rfl,rfl,AjT⟩;refine ye rfl (Cl (vs:=[_,_]) (css:=[[Gg q],[Gg q57]]) rfl TL QG rfl rfl rfl rfl (rfl) (by simp[])) ?_;rintro _ _ _ ⟨b58,rfl,rfl,rfl⟩;refine Em (YQ (Ar L1).text [] 0 (.slice (some ⟨b58,0,none⟩) 2 2)) rfl (JC _ rfl fun b60=>?_);refine CU b58 (fun Ja hJa hka=>?_);refine CU b60 (fun Jb U3 hkb=>?_);refine AU rfl (AL ?_);obtain⟨x2,L2,hnx⟩:=ALc Ek We ATZ AjT (hJa.trans U3) (HR.mono hka U3) hkb;refine DJ ((b60,lv57,nw57,th57,e57,Jb,x2,L2,g-1)) ?_ ?_
  ·dsimp only;exact hnx
  dsimp only
  have:=Sr.pos
  show(if e57=0 then g-1+1 else 0)<(if(0:Nat)=0 then g+1 else 0)
  rw[AI O]
  split<;>omega
 have ACS:=ANE Ek (fun he=>by rw[show 9-j=10-(j+1) by omega];exact AVg An he L1 (OL he).1)
 refine Av (AE (AE (AO (AS (AK O (AX (AP O O (fun w' hw=>?_))))))));exact⟨_,O,J,_,⟨PL,q,lv,nw,th,e1,O,O,ACS⟩,hw⟩
theorem AJL(m d:Nat)(hd:d<=25)(hO:M5 238 [.int .i64 (d:Int)] (EH (FM m))):∀k,k<=10->M5 226 [.int .i64 ((10-k:Nat):Int),.int .i64 (d:Int)] (CJ (FM m) k)
 |0,hk=>fun b lv L I F w0 w hT hG C3 BZ=>Yl m d hd hO 0 hk (fun j h=>by cases h) b lv L I F w0 w hT hG C3 BZ
 |k+1,hk=>fun b lv L I F w0 w hT hG C3 BZ=>Yl m d hd hO (k+1) hk (fun j h=>by
   cases h
   have:=AJL m d hd hO k (by omega)
   rw[show((10-k:Nat):Int)=((10-(k+1):Nat):Int)+1 by omega]at this
   exact this) b lv L I F w0 w hT hG C3 BZ
theorem Aeh(h:(decide ((e1:Int)≠0)|| !b)=true):e1=0->b=false:=fun he=>by
 subst he
 cases b with
 |false=>rfl
 |true=>cases h
theorem AaS(h:(decide ((e1:Int)≠0)|| !b)=false):e1=0/\b=true:=by
 simp only[Bool.or_eq_false_iff,CA,Bool.not_eq_false']at h;exact⟨by have:=h.1;omega,h.2⟩
theorem AUW{R:Kl}{L:List Lx}{J:AQ}{lv:Value}{nw th:Lx}(hr:GL J (CJ R 10 L) q lv nw th e)(h:e=0->(decide (nw.what=3)&&decide (nw.text=[63]))=false):GL J (ED R L) q lv nw th e:=by
 unfold ED
 cases hs:CJ R 10 L with
 |bad e2=>rw[hs]at hr;exact hr
 |ok x L1=>
  rw[hs]at hr
  have h2:=h hr.1
  rw[hr.2.1]at h2;simp only;rw[AB (by rw[show G3 L1 [63]=false from h2];simp)];exact hr
theorem AaZ{R:Kl}{L L1 L2:List Lx}{x y:Ex}(h1:CJ R 10 L=.ok x L1)(hq:G3 L1 [63]=true)(h2:R.asg (Am L1)=.ok y L2)(hc:G3 L2 [58]=false):ED R L=.bad 60:=by
 unfold ED
 rw[h1];simp only
 rw[AI hq,h2];simp only
 rw[AB (by rw[hc];simp)]
theorem Acn{R:Kl}{L L1:List Lx}{x:Ex}(h1:CJ R 10 L=.ok x L1)(hq:G3 L1 [63]=true)(h2:R.asg (Am L1)=.bad e):ED R L=.bad e:=by
 unfold ED
 rw[h1];simp only
 rw[AI hq,h2]
theorem ASs{R:Kl}{L L1 L2:List Lx}{x y:Ex}{J K:AQ}{q1 q3:Nat}{lv:Value}{nw th:Lx}(h1:CJ R 10 L=.ok x L1)(hq:G3 L1 [63]=true)(h2:R.asg (Am L1)=.ok y L2)(hc:G3 L2 [58]=true)
  (hr:GL J (R.cho (Am L2)) q3 lv nw th e) (CH:Le J K) (hx:Ff K x q1) (hy:Ff K y q2) (hk:HR K b1 [Gg q1,Gg q2,Gg q3]) (hb:HR K b2 (YQ [63] [] 0 (.slice (some ⟨b1,0,none⟩) 3 3))):GL K (ED R L) b2 lv nw th e:=by
 unfold ED
 rw[h1];simp only
 rw[AI hq,h2];simp only
 rw[AI hc]
 cases h3:R.cho (Am L2)with
 |bad e2=>rw[h3]at hr;exact hr
 |ok z L3=>
  rw[h3]at hr;obtain⟨a1,a2,a3,a4,a5,a6⟩:=hr;exact⟨a1,a2,a3,a4,⟨_,q1,q2,q3,hb,UR hk (A5 _),hx,hy,a5.mono CH⟩,a6.mono CH⟩
theorem ASJ{R:Kl}{L:List Lx}{J K:AQ}{lv:Value}{nw th:Lx}(hT:Tk L)(ha:HL L=true)(hr:GL J (R.asg (Am (Am L))) q lv nw th e)(CH:Le J K)(hk:HR K b1 [Gg q])(hb:HR K b2 (YQ (BP L).text (Ar L).text 0 (.slice (some ⟨b1,0,none⟩) 1 1))):GL K (Gn R L) b2 lv nw th e:=by
 unfold Gn;rw[AI ha]
 cases h:R.asg (Am (Am L))with
 |bad e2=>rw[h]at hr;exact hr
 |ok x L1=>
  rw[h]at hr;obtain⟨a1,a2,a3,a4,a5,a6⟩:=hr;exact⟨a1,a2,a3,a4,⟨AZx hT ha,_,q,hb,UR hk (A5 _),a5.mono CH⟩,a6.mono CH⟩
theorem ARJ{R:Kl}{L:List Lx}(h:HL L=false):Gn R L=ED R L:=by
 unfold Gn;rw[AB (by rw[h];simp)]
theorem XX(n d:Nat)(hn:25-d=n)(hd:d<=25)(hR:∀m,n=m+1->ACC ((d:Int)+1) (FM m))(hS:∀m,n=m+1->M5 226 [.int .i64 0,.int .i64 (d:Int)] (CJ (FM m) 10))(b:Nat)(lv:Value)(L:List Lx)(I:AQ)(F:List HA)(w0 w:World)(hT:Tk L)(hG:Fr I)(C3:Sl I 3 lv ((L.drop 2).map Me))(BZ:St w0 I (row b 280 (Dq lv (Ar L) (BP L) 0)::F) w):Calls prog 202 [Gg b,.int .i64 (d:Int)].toArray w (ER w fun v I' H'=>Le I I'/\∃q lv' nw' th' e1,v=Gg q/\H'=row b 280 (Dq lv' nw' th' e1)::F/\GL I' ((FM n).cho L) q lv' nw' th' e1):=by
 refine enter func202 O ntmps202 O (BZ.self) (AK O (AF (AK O (AA O (fun Ab=>?_) (fun Ab=>?_)))))
 ·simp at Ab
  have NZ:n=0:=by omega
  subst NZ;refine tr (yc rfl (fun w hw=>GH b lv (Ar L) (BP L) 52 _ _ _ w (Al (row b 280 (Dq lv (Ar L) (BP L) 0)) hw)) ?_);rintro _ _ _ ⟨rfl,q10,rfl,rfl⟩;refine AH rfl (Ak (AP rfl rfl (fun w' hw=>?_)));exact⟨_,rfl,I,_,⟨Le.refl _,_,lv,(Ar L),(BP L),52,rfl,rfl,MW rfl (by decide)⟩,hw⟩
 simp at Ab
 obtain⟨m,rfl⟩:∃m,n=m+1:=⟨24-d,by omega⟩;obtain⟨hA,hC,hO⟩:=hR m rfl
 have hSm:=hS m O
 refine AV (tr (yc O (fun w hw=>hSm b lv L _ _ _ w hT hG C3 (Al (row b 280 (Dq lv (Ar L) (BP L) 0)) hw)) ?_));rintro _ J13 _ ⟨En,q13,lv13,nw13,th13,e13,rfl,rfl,UA⟩;refine AH rfl (AF (tq (EA rfl ?_)))
 refine zO 3 O (fun UQ=>by
   simp at UQ
   refine zp O ((fun w hw=>K4 b lv13 nw13 th13 e13 [63] w (D7 hw))) ?_;exact zv O
  ) ?_
 refine Dp (AA O (fun An=>?_) (fun An=>?_))
 ·have h1:=Aeh An
  refine AK O (Ak (AP O O (fun w' hw=>?_)));exact⟨_,O,J13,_,⟨En,q13,lv13,nw13,th13,e13,O,O,AUW UA h1⟩,hw⟩
 obtain⟨he,hq⟩:=AaS An;subst he;obtain⟨x1,L1,hr1,rfl,rfl,Sr,Lc,ATM⟩:=UA.t rfl
 have hq1:G3 L1 [63]=true:=hq
 refine AV (tr (yc O (fun w hw=>La b lv13 L1 0 _ _ _ w Sr ATM (Al (row b 280 (Dq lv13 (Ar L1) (BP L1) 0)) hw)) ?_));rintro _ _ _ ⟨rfl,rfl,lv26,rfl,Agx⟩;refine DL (yq rfl (AM rfl rfl rfl (by omega)) ?_);refine yc rfl (fun w hw=>hA b lv26 (Am L1) _ _ _ w Sr.step (hG.mono En) Agx (Al (row b 280 (Dq lv26 (Ar (Am L1)) (BP (Am L1)) 0)) hw)) ?_;rintro _ J30 _ ⟨AQn,q30,lv30,nw30,th30,e30,rfl,rfl,AYp⟩;refine AH rfl (AF (tq (EA rfl ?_)))
 refine zA 3 O (fun h40=>by
   simp at h40
   refine zp O ((fun w hw=>K4 b lv30 nw30 th30 e30 [58] w (D7 hw))) ?_;exact zv O
  ) ?_
 refine Dp (AA O (fun A6=>?_) (fun A6=>?_))
 ·obtain⟨he,FW⟩:=AWw A6;subst he;obtain⟨x2,L2,hr2,rfl,rfl,UD,TF,AZs⟩:=AYp.t rfl
  have AEA:G3 L2 [58]=false:=FW
  refine tr (yc O (fun w hw=>GH b lv30 (Ar L2) (BP L2) 60 _ _ _ w (Al (row b 280 (Dq lv30 (Ar L2) (BP L2) 0)) hw)) ?_);rintro _ _ _ ⟨rfl,q42,rfl,rfl⟩;refine AH rfl (Ak (AP rfl rfl (fun w' hw=>?_)));exact⟨_,rfl,J30,_,⟨(En.trans AQn),_,lv30,(Ar L2),(BP L2),60,rfl,rfl,MW (AaZ hr1 hq1 hr2 AEA) (by decide)⟩,hw⟩
 have h3:=AQP A6
 refine AV (AF (tr (DE O ?_)));refine AH O (AA O (fun BJ=>?_) (fun BJ=>?_))
 ·have he:e30≠0:=by have:=BM BJ;omega
  refine AK O (Ak (AP O O (fun w' hw=>?_)));exact⟨_,O,J30,_,⟨(En.trans AQn),_,lv30,nw30,th30,e30,O,O,MW (Acn hr1 hq1 (AYp.f he)) he⟩,hw⟩
 have he:e30=0:=by have:=BW BJ;omega
 subst he;obtain⟨x2,L2,hr2,rfl,rfl,UD,TF,AZs⟩:=AYp.t rfl
 have AEA:G3 L2 [58]=true:=h3 O
 refine AV (tr (yc O (fun w hw=>La b lv30 L2 0 _ _ _ w UD AZs (Al (row b 280 (Dq lv30 (Ar L2) (BP L2) 0)) hw)) ?_));rintro _ _ _ ⟨rfl,rfl,lv50,rfl,AXI⟩;refine DL (yq rfl (AM rfl rfl rfl (by omega)) ?_);refine yc rfl (fun w hw=>hC b lv50 (Am L2) _ _ _ w UD.step (hG.mono (En.trans AQn)) AXI (Al (row b 280 (Dq lv50 (Ar (Am L2)) (BP (Am L2)) 0)) hw)) ?_;rintro _ J56 _ ⟨AYM,q56,lv56,nw56,th56,e56,rfl,rfl,Ajc⟩;refine ye rfl (Cl (vs:=[_,_,_]) (css:=[[Gg q13],[Gg q30],[Gg q56]]) rfl TL QG rfl rfl rfl rfl (rfl) (by simp[])) ?_;rintro _ _ _ ⟨b57,rfl,rfl,rfl⟩;refine Em (YQ [63] [] 0 (.slice (some ⟨b57,0,none⟩) 3 3)) rfl (JC _ rfl fun b59=>?_);refine CU b57 (fun Ja hJa hka=>?_);refine CU b59 (fun Jb U3 hkb=>?_);refine AH rfl (AX (AP rfl rfl (fun w' hw=>?_)));exact⟨_,rfl,Jb,_,⟨(((En.trans AQn).trans AYM).trans hJa).trans U3,b59,lv56,nw56,th56,e56,rfl,rfl,ASs hr1 hq1 hr2 AEA Ajc (hJa.trans U3) (Lc.mono (((AQn.trans AYM).trans hJa).trans U3)) (TF.mono ((AYM.trans hJa).trans U3)) (HR.mono hka U3) hkb⟩,hw⟩
theorem XV(n d:Nat)(hn:25-d=n)(hd:d<=25)(hR:∀m,n=m+1->ACC ((d:Int)+1) (FM m))(hCd:∀m,n=m+1->M5 202 [.int .i64 (d:Int)] (ED (FM m)))(b:Nat)(lv:Value)(L:List Lx)(I:AQ)(F:List HA)(w0 w:World)(hT:Tk L)(hG:Fr I)(C3:Sl I 3 lv ((L.drop 2).map Me))(BZ:St w0 I (row b 280 (Dq lv (Ar L) (BP L) 0)::F) w):Calls prog 170 [Gg b,.int .i64 (d:Int)].toArray w (ER w fun v I' H'=>Le I I'/\∃q lv' nw' th' e1,v=Gg q/\H'=row b 280 (Dq lv' nw' th' e1)::F/\GL I' ((FM n).asg L) q lv' nw' th' e1):=by
 refine enter func170 O ntmps170 O (BZ.self) (AK O (AF (AK O (AA O (fun Ab=>?_) (fun Ab=>?_)))))
 ·simp at Ab
  have NZ:n=0:=by omega
  subst NZ;refine tr (yc rfl (fun w hw=>GH b lv (Ar L) (BP L) 52 _ _ _ w (Al (row b 280 (Dq lv (Ar L) (BP L) 0)) hw)) ?_);rintro _ _ _ ⟨rfl,q9,rfl,rfl⟩;refine AH rfl (Ak (AP rfl rfl (fun w' hw=>?_)));exact⟨_,rfl,I,_,⟨Le.refl _,_,lv,(Ar L),(BP L),52,rfl,rfl,MW rfl (by decide)⟩,hw⟩
 simp at Ab
 obtain⟨m,rfl⟩:∃m,n=m+1:=⟨24-d,by omega⟩;obtain⟨hA,hC,hO⟩:=hR m rfl
 have hCm:=hCd m O
 refine AV (AF (tq (EA O ?_)))
 refine zA 6 O (fun UQ=>by
   simp at UQ
   refine EA O ?_;exact zv O
  ) ?_
 refine zA 8 O (fun Tu=>by
   simp at Tu
   have hbn:=hT.then
   refine EA O ?_;refine zq O (F1 O O O (by(simp only[CD,Bb];omega))) ?_;refine zq O (F1 O O O (by(simp only[Bh,CD,Bb];omega))) ?_;refine zp O ((fun w hw=>IY AUN ([32]++(BP L).text++[32]) w (by decide) (hG.mono hw.le))) ?_;exact zv O
  ) ?_
 refine Dp (AA O (fun An=>?_) (fun An=>?_))
 ·have ha:HL L=true:=ANB An
  refine AF (Bo [11] [] [] mo (by kernel_rfl) (fun _ _ _ _ _ h=>h) (xr [0,1,2,3] O O (xq 4 O O (Az O O (by rfl)) ?_)));refine xr [5,6,7,8] O O (xq 9 O O (Az O O (by rfl)) ?_);refine xq 10 O O (C0 (pl:=[(_,_),(_,_),(_,_),(_,_)]) (cs:=(YQ (BP L).text (Ar L).text 0 Vq).toArray) O Aeq AWi ⟨O,⟨_,_,Co⟩,O,⟨_,_,Co⟩,O,⟨_,_,ti2⟩,O,⟨_,_,ANu⟩,trivial⟩ O O) (xe 11 O O (I1 O O O) ?_);rintro _ _ _ ⟨b45,rfl,rfl,rfl⟩;refine xk (xr [12] rfl rfl (CX (AS (tr (yc rfl (fun w hw=>La b lv L 0 _ _ _ w hT C3 (Al (row b 280 (Dq lv (Ar L) (BP L) 0)) hw)) ?_)))));rintro _ _ _ ⟨rfl,rfl,lv47,rfl,AgX⟩;refine DL (yc rfl (fun w hw=>La b lv47 (Am L) 0 _ _ _ w hT.step AgX (Al (row b 280 (Dq lv47 (Ar (Am L)) (BP (Am L)) 0)) hw)) ?_);rintro _ _ _ ⟨rfl,rfl,lv49,rfl,AiT⟩;refine DL (yq rfl (AM rfl rfl rfl (by omega)) ?_);refine yc rfl (fun w hw=>hA b lv49 (Am (Am L)) _ _ _ w hT.step.step hG AiT (Al (row b 280 (Dq lv49 (Ar (Am (Am L))) (BP (Am (Am L))) 0)) hw)) ?_;rintro _ J54 _ ⟨ACe,q54,lv54,nw54,th54,e54,rfl,rfl,ATT⟩;refine NF _ rfl (fun b55=>?_) (by exact JS.cells ⟨rfl,rfl⟩);refine Eu (YQ (BP L).text (Ar L).text 0 (.slice (some ⟨b55,0,none⟩) 1 1)) rfl ?_ (by exact⟨rfl,rfl⟩);refine lnt (Cw b55 (fun Ja hJa hka=>?_))
  refine Cw b45 (fun Jb U3 hkb=>?_);refine AC (AH O (Ak (AP O O (fun w' hw=>?_))));exact⟨_,O,Jb,_,⟨(ACe.trans hJa).trans U3,b45,lv54,nw54,th54,e54,O,O,ASJ hT ha ATT (hJa.trans U3) (HR.mono hka U3) hkb⟩,hw⟩
 have ha:HL L=false:=ANB An
 refine AV (tr (yc O (fun w hw=>hCm b lv L _ _ _ w hT hG C3 (Al (row b 280 (Dq lv (Ar L) (BP L) 0)) hw)) ?_));rintro _ J61 _ ⟨ARw,q61,lv61,nw61,th61,e61,rfl,rfl,Agk⟩;refine AH rfl (AX (AP rfl rfl (fun w' hw=>?_)));exact⟨_,rfl,J61,_,⟨ARw,q61,lv61,nw61,th61,e61,rfl,rfl,by rw[show(FM (m+1)).asg L=Gn (FM m) L from rfl,ARJ ha];exact Agk⟩,hw⟩
theorem AUb:∀(n d:Nat),25-d=n->d<=25->ACC (d:Int) (FM n):=by
 intro n
 induction n with
 |zero=>
  intro d hn hd
  exact⟨fun b lv L I F w0 w hT hG C3 BZ=>XV 0 d hn hd (fun m h=>by cases h) (fun m h=>by cases h) b lv L I F w0 w hT hG C3 BZ,
   fun b lv L I F w0 w hT hG C3 BZ=>XX 0 d hn hd (fun m h=>by cases h) (fun m h=>by cases h) b lv L I F w0 w hT hG C3 BZ,
   fun b lv L I F w0 w hT hG C3 BZ=>Xu 0 d hn hd (fun m h=>by cases h) b lv L I F w0 w hT hG C3 BZ⟩
 |succ n ih=>
  intro d hn hd
  have hR:∀m,n+1=m+1->ACC ((d:Int)+1) (FM m):=fun m h=>by
   cases h
   exact ih (d+1) (by omega) (by omega)
  have hO:M5 238 [.int .i64 (d:Int)] (EH (FM n)):=fun b lv L I F w0 w hT hG C3 BZ=>Xu (n+1) d hn hd hR b lv L I F w0 w hT hG C3 BZ
  have hS:∀m,n+1=m+1->M5 226 [.int .i64 0,.int .i64 (d:Int)] (CJ (FM m) 10):=fun m h=>by
   cases h
   exact AJL n d hd hO 10 (A5 _)
  have hC:M5 202 [.int .i64 (d:Int)] (ED (FM n)):=fun b lv L I F w0 w hT hG C3 BZ=>XX (n+1) d hn hd hR hS b lv L I F w0 w hT hG C3 BZ
  exact⟨fun b lv L I F w0 w hT hG C3 BZ=>XV (n+1) d hn hd hR (fun m h=>by cases h;exact hC) b lv L I F w0 w hT hG C3 BZ,hC,hO⟩
def ALb(J:AQ)(r:RA)(q e:Nat):Prop:=match r with
 | .ok x=>e=0/\Ff J x q
 | .bad e2=>e=e2/\e≠0
theorem ALb.t{J:AQ}{r:RA}(h:ALb J r q e)(he:e=0):∃x,r=.ok x/\Ff J x q:=by
 cases r with
 |ok x=>exact⟨x,O,h.2⟩
 |bad e2=>exact Ac he h.2
theorem ALb.f{J:AQ}{r:RA}(h:ALb J r q e)(he:e≠0):r=.bad e:=by
 cases r with
 |ok x=>exact Ac h.1 he
 |bad e2=>rw[h.1]
theorem AUA{L:List Lx}(h:Tk L):AG (L.drop 1) 0 (AG L 0 JF)=BP L:=by
 rw[BP,Lk]
 split
 ·rename_i h1
  unfold AG
  rw[Cy,List.getElem?_eq_none (by omega)];try rfl
 have:=h.pos
 rw[CT (show 0+1<L.length by omega),CT (show 1<L.length by omega)]
theorem Xv{x:Ex}{L:List Lx}(hb:Lib.trimS s C1≠[])(hr:(FM 25).asg (DM s)=.ok x L):Dy s=if(Ar L).what=0 then .ok x else .bad 60:=by
 unfold Dy;rw[AB hb,hr]
theorem AYd(hb:Lib.trimS s C1≠[])(hr:(FM 25).asg (DM s)=.bad e):Dy s=.bad e:=by
 unfold Dy;rw[AB hb,hr]
theorem Acp{x:Lx}(h:(decide ((e1:Int)=0)&&decide ((x.what:Int)≠0))=true):e1=0/\x.what≠0:=by
 simp only[Ay,BC]at h;exact⟨by omega,by have:=h.2;omega⟩
theorem AXr{x:Lx}(h:(decide ((e1:Int)=0)&&decide ((x.what:Int)≠0))=false):e1=0->x.what=0:=fun he=>by
 subst he;rw[Bool.and_eq_false_iff,CA,CA]at h;rcases h with h|h
 ·exact Ac O h
 omega
theorem APn{J:AQ}{lv:Value}{nw th:Lx}(hb:Lib.trimS s C1≠[])(hr:GL J ((FM 25).asg (DM s)) q lv nw th e)(h:e=0->nw.what=0):ALb J (Dy s) q e:=by
 by_cases he:e=0
 ·obtain⟨x,L,h1,h2,_,_,h5,_⟩:=hr.t he;rw[Xv hb h1,AI (by rw[<-h2];exact h he)];exact⟨he,h5⟩
 rw[AYd hb (hr.f he)];exact⟨O,he⟩
theorem ACI(s:List UInt8)(I:AQ)(F:List HA)(w0 w:World)(hs:s.length<=900000000)(hG:Fr I)(BZ:St w0 I F w):Calls prog 144 [Au s].toArray w (ER w fun v I' H'=>Le I I'/\F=H'/\∃q e1:Nat,v=.tuple #[Gg q,.int .i64 (e1:Int)]/\ALb I' (Dy s) q e1):=by
 have hTk:=UW hs
 refine enter func144 O ntmps144 O (BZ.self) (AK O (AF (tr (yp O ((fun w _=>Vv s C1 w (by omega) (by decide) (by decide))) ?_))));refine yq O (AR O O O) (ln (AA O (fun Ab=>?_) (fun Ab=>?_)))
 ·have hb:Lib.trimS s C1=[]:=BM Ab
  refine tr (Em (YQ [] [] 0 Vq) O (JC _ O fun b10=>?_));refine CU b10 (fun J hJ hk=>?_);refine AH O (Ak (Aj O O O (fun w' hw=>?_)));refine⟨_,O,J,_,⟨hJ,O,b10,0,O,?_⟩,hw⟩;unfold Dy;rw[AI hb];exact⟨O,hk⟩
 have hb:Lib.trimS s C1≠[]:=BW Ab
 refine AV (tr (yc O (fun w hw=>W9 s _ _ _ w hw) ?_));rintro _ J12 _ ⟨Ts,rfl,b12,rfl,AkH⟩;refine yc rfl (fun w hw=>Wy s b12 _ _ _ w hs (hG.mono Ts) AkH hw) ?_;rintro v13 J13 _ ⟨En,rfl,ARp⟩;refine Em (Dq v13 JF JF 0) rfl ?_ (by obtain⟨A,c,h⟩:=Sl.lenOf ARp rfl;rw[h];try rfl)
 refine JC _ O fun b15=>?_
 refine AH O (tr (yc O (fun w hw=>PZ b15 v13 JF JF 0 (DM s) _ _ _ w ARp (Al (row b15 280 (Dq v13 JF JF 0)) hw)) ?_));rintro _ _ _ ⟨rfl,rfl,lv17,rfl,Ajh⟩;refine DL (yc rfl (fun w hw=>PZ b15 lv17 JF (AG (DM s) 0 JF) 0 ((DM s).drop 1) _ _ _ w Ajh (Al (row b15 280 (Dq lv17 JF (AG (DM s) 0 JF) 0)) hw)) ?_);rintro _ _ _ ⟨rfl,rfl,lv19,rfl,Acx⟩;rw[AUA hTk]at *;rw[show AG (DM s) 0 JF=Ar (DM s)from rfl];rw[Cp]at Acx;refine DL (yc rfl (fun w hw=>(AUb 25 0 rfl (by decide)).1 b15 lv19 (DM s) _ _ _ w hTk (hG.mono (Ts.trans En)) Acx (Al (row b15 280 (Dq lv19 (Ar (DM s)) (BP (DM s)) 0)) hw)) ?_);rintro _ J21 _ ⟨AQx,q21,lv21,nw21,th21,e21,rfl,rfl,Adp⟩;refine AH rfl (AF (tq (EA rfl ?_)))
 refine zA 6 O (fun KE=>by
   simp at KE
   refine EA O ?_;exact zv O
  ) ?_
 refine Dp (AA O (fun An=>?_) (fun An=>?_))
 ·obtain⟨he,Zo⟩:=Acp An;subst he;obtain⟨x2,L2,hr2,rfl,rfl,UD,TF,AZs⟩:=Adp.t rfl
  have hrd:=Xv hb hr2
  rw[AB Zo]at hrd;refine AC (yc O (fun w hw=>GH b15 lv21 (Ar L2) (BP L2) 60 _ _ _ w (Al (row b15 280 (Dq lv21 (Ar L2) (BP L2) 0)) hw)) ?_);rintro _ _ _ ⟨rfl,q36,rfl,rfl⟩;refine lnt (Bd mo (by kernel_rfl) (fun _ _ _ _ _ h=>h) (EA rfl ?_));refine De rfl (AX (Aj rfl rfl rfl (fun w' hw=>?_)));refine⟨_,rfl,J21,_,⟨(Ts.trans En).trans AQx,rfl,q21,60,rfl,?_⟩,AD hw⟩;rw[hrd];exact⟨rfl,by decide⟩
 have h3:=AXr An
 refine AV (AF (Bd mo (by kernel_rfl) (fun _ _ _ _ _ h=>h) (EA O ?_)));refine De O (AX (Aj O O O (fun w' hw=>?_)));refine⟨_,O,J21,_,⟨(Ts.trans En).trans AQx,O,q21,e21,O,?_⟩,AD hw⟩;exact APn hb Adp h3
theorem FN(c:Bool)(w:World):B2 prog 174 [.bool c] w (.int .i64 (Zy c)):=by
 refine enter func174 O ntmps174 O (St.start w (Ao w) (Le.refl _)) (AK O (AF (AK O (AA O (fun Ab=>?_) (fun Ab=>?_)))))
 ·refine AK O (Ak (AP O O (fun w' hw=>?_)));refine⟨?_,hw.below⟩
  rw[Ab];try rfl
 refine AV (AK O (AX (AP O O (fun w' hw=>?_))));refine⟨?_,hw.below⟩
 rw[Ab];try rfl
theorem AEf(op:List UInt8)(a b:Int)(w:World):B2 prog 175 [Au op,.int .i64 a,.int .i64 b] w (.tuple #[.int .i64 (CO op a b).1,.int .i64 ((CO op a b).2:Int)]):=by
 have MN:=(AWa b).1
 refine enter func175 O ntmps175 O (St.start w (Ao w) (Le.refl _)) (AK O (AF (AK O (AJ (tr (yq O (AR O O O) (AH O (AA O (fun Ab=>?_) (fun Ab=>?_)))))))))
 ·simp only[BC]at Ab;refine tr (yq O (AeW O O O) (AH O (Ak (Aj O O O (fun w' hw=>?_)))));refine⟨?_,hw.below⟩;rw[CO,AI Ab]
  rfl
 simp only[CA]at Ab;refine tr (yq O (AR O O O) (AH O (AA O (fun An=>?_) (fun An=>?_))))
 ·simp only[BC]at An;refine tr (yq O (AWp O O O) (AH O (Ak (Aj O O O (fun w' hw=>?_)))));refine⟨?_,hw.below⟩;rw[CO,AB Ab,AI An]
  rfl
 simp only[CA]at An;refine tr (yq O (AR O O O) (AH O (AA O (fun A6=>?_) (fun A6=>?_))))
 ·simp only[BC]at A6;refine tr (yq O (TZ O O O) (AH O (Ak (Aj O O O (fun w' hw=>?_)))));refine⟨?_,hw.below⟩;rw[CO,AB Ab,AB An,AI A6]
  rfl
 simp only[CA]at A6;refine tr (yq O (AR O O O) (AH O (AA O (fun BJ=>?_) (fun BJ=>?_))))
 ·simp only[BC]at BJ;refine tr (yq O (TZ O O O) (yq O (AWj O O O MN) (AH O (Ak (Aj O O O (fun w' hw=>?_))))));refine⟨?_,hw.below⟩;rw[CO,AB Ab,AB An,AB A6,AI BJ]
  rfl
 simp only[CA]at BJ;refine tr (yq O (AR O O O) (AH O (AA O (fun Bj=>?_) (fun Bj=>?_))))
 ·simp only[BC]at Bj;refine tr (yq O (TZ O O O) (yq O (AVs O O O MN) (AH O (Ak (Aj O O O (fun w' hw=>?_))))));refine⟨?_,hw.below⟩;rw[CO,AB Ab,AB An,AB A6,AB BJ,AI Bj]
  rfl
 simp only[CA]at Bj;refine tr (yq O (AR O O O) (AH O (AA O (fun B4=>?_) (fun B4=>?_))))
 ·simp only[BC]at B4;refine tr (yq O (Up O O O) (AH O (Ak (Aj O O O (fun w' hw=>?_)))));refine⟨?_,hw.below⟩;rw[CO,AB Ab,AB An,AB A6,AB BJ,AB Bj,AI B4]
  rfl
 simp only[CA]at B4;refine tr (yq O (AR O O O) (AH O (AA O (fun CP=>?_) (fun CP=>?_))))
 ·simp only[BC]at CP;refine tr (yq O (TU O O O) (AH O (Ak (Aj O O O (fun w' hw=>?_)))));refine⟨?_,hw.below⟩;rw[CO,AB Ab,AB An,AB A6,AB BJ,AB Bj,AB B4,AI CP]
  rfl
 simp only[CA]at CP;refine tr (yq O (AR O O O) (AH O (AA O (fun DF=>?_) (fun DF=>?_))))
 ·simp only[BC]at DF;refine tr (yq O (ADX O O O) (AH O (Ak (Aj O O O (fun w' hw=>?_)))));refine⟨?_,hw.below⟩;rw[CO,AB Ab,AB An,AB A6,AB BJ,AB Bj,AB B4,AB CP,AI DF]
  rfl
 simp only[CA]at DF;refine EZ (ι:=Unit) [0,1,2,6,7,8,9,14,19,24,30,36,41,46] (fun _=>True) (fun _=>[(51,.bool (decide (op=[47]\/op=[37])))]) (fun _=>Ao w) (fun _=>[]) O ?_ ?_
 ·refine tr (yq O (AR O O O) (AH O (AA O (fun GQ=>?_) (fun GQ=>?_))))
  ·refine AY (Dd (()) ?_ (A0 O (by rw[GQ,BK (Or.inl (BM GQ))]) (Bk)) (BS O) (fun _ h=>by dsimp only;exact AD h))
   trivial
  refine AC (yq O (AR O O O) (AU O (Dd (()) ?_ (A0 O (B3 Value.bool (by rw[show(decide (op=[47]\/op=[37]))=decide (op=[37])from by rw[decide_eq_decide];exact⟨fun h=>h.resolve_left (BW GQ),Or.inr⟩])) (Bk)) (BS O) (fun _ h=>by dsimp only;exact AD h))))
  trivial
 rintro _ _;refine AA rfl (fun KD=>?_) (fun KD=>?_)
 ·have Yi:(op=[47]\/op=[37]):=BM KD
  refine AF (AJ (AK O (AA O (fun EW=>?_) (fun EW=>?_))))
  ·simp only[BC]at EW;refine AK O (Ak (Aj O O O (fun w' hw=>?_)));refine⟨?_,hw.below⟩;rw[CO,AB Ab,AB An,AB A6,AB BJ,AB Bj,AB B4,AB CP,AB DF,AI Yi,AI EW]
   rfl
  simp only[CA]at EW
  have NW:¬b=0:=EW
  refine tq ?_
  refine zA 2 O (fun MN=>by
    simp at MN
    exact zv O
   ) ?_
  refine zA 2 O (fun h67=>by
    simp at h67
    refine zq O (AR O O O) ?_;exact zv O
   ) ?_
  refine De O (AA O (fun Eq=>?_) (fun Eq=>?_))
  ·have NW:¬b=0:=NW
   have h11:a= -9223372036854775808/\b= -1/\op=[47]:=by
    simp only[Ay,BC]at Eq;exact⟨Eq.1.1,Eq.1.2,Eq.2⟩
   refine AK O (Ak (Aj O O O (fun w' hw=>?_)));refine⟨?_,hw.below⟩;rw[CO,AB Ab,AB An,AB A6,AB BJ,AB Bj,AB B4,AB CP,AB DF,AI Yi,AB NW,AI h11]
   rfl
  have h11:¬(a= -9223372036854775808/\b= -1/\op=[47]):=fun⟨h1,h2,h3⟩=>by
   have h:((decide (a= -9223372036854775808)&&decide (b= -1))&&decide (op=[47]))=false:=Eq
   rw[BK h1,BK h2,BK h3]at h
   cases h
  refine tq ?_
  refine zA 2 O (fun h75=>by
    simp at h75
    refine zq O (AR O O O) ?_;exact zv O
   ) ?_
  refine De O (AA O (fun Fb=>?_) (fun Fb=>?_))
  ·have Tv:b= -1/\op=[37]:=by
    simp only[Ay,BC]at Fb;exact Fb
   refine AK O (Ak (Aj O O O (fun w' hw=>?_)));refine⟨?_,hw.below⟩;rw[CO,AB Ab,AB An,AB A6,AB BJ,AB Bj,AB B4,AB CP,AB DF,AI Yi,AB NW,AB h11,AI Tv]
   rfl
  have Tv:¬(b= -1/\op=[37]):=fun⟨h1,h2⟩=>by
   have h:(decide (b= -1)&&decide (op=[37]))=false:=Fb
   rw[BK h1,BK h2]at h
   cases h
  refine tr (yq O (AR O O O) (AH O (AA O (fun GC=>?_) (fun GC=>?_))))
  ·simp only[BC]at GC
   have h13:op=[47]:=GC
   refine tr (yq O (AJT O O O NW) (AH O (Ak (Aj O O O (fun w' hw=>?_)))));refine⟨?_,hw.below⟩;rw[CO,AB Ab,AB An,AB A6,AB BJ,AB Bj,AB B4,AB CP,AB DF,AI Yi,AB NW,AB h11,AB Tv,AI h13]
   rfl
  simp only[CA]at GC
  have h13:¬op=[47]:=GC
  refine AY (AL (AS (tr (yq O (AHz O O O NW) (AH O (Ak (Aj O O O (fun w' hw=>?_))))))));refine⟨?_,hw.below⟩;rw[CO,AB Ab,AB An,AB A6,AB BJ,AB Bj,AB B4,AB CP,AB DF,AI Yi,AB NW,AB h11,AB Tv,AB h13]
  rfl
 have Yi:¬(op=[47]\/op=[37]):=BW KD
 refine tr (yq O (AR O O O) (AH O (AA O (fun I8=>?_) (fun I8=>?_))))
 ·simp only[BC]at I8;refine tr (yp O ((fun w _=>FN _ w)) (AH O (Ak (Aj O O O (fun w' hw=>?_)))));refine⟨?_,hw.below⟩;rw[CO,AB Ab,AB An,AB A6,AB BJ,AB Bj,AB B4,AB CP,AB DF,AB Yi,AI I8]
  rfl
 simp only[CA]at I8;refine tr (yq O (AR O O O) (AH O (AA O (fun Kg=>?_) (fun Kg=>?_))))
 ·simp only[BC]at Kg;refine tr (yp O ((fun w _=>FN _ w)) (AH O (Ak (Aj O O O (fun w' hw=>?_)))));refine⟨?_,hw.below⟩;rw[CO,AB Ab,AB An,AB A6,AB BJ,AB Bj,AB B4,AB CP,AB DF,AB Yi,AB I8,AI Kg]
  rfl
 simp only[CA]at Kg;refine tr (yq O (AR O O O) (AH O (AA O (fun MT=>?_) (fun MT=>?_))))
 ·simp only[BC]at MT;refine tr (yp O ((fun w _=>FN _ w)) (AH O (Ak (Aj O O O (fun w' hw=>?_)))));refine⟨?_,hw.below⟩;rw[CO,AB Ab,AB An,AB A6,AB BJ,AB Bj,AB B4,AB CP,AB DF,AB Yi,AB I8,AB Kg,AI MT]
  rfl
 simp only[CA]at MT;refine tr (yq O (AR O O O) (AH O (AA O (fun Qm=>?_) (fun Qm=>?_))))
 ·simp only[BC]at Qm;refine tr (yp O ((fun w _=>FN _ w)) (AH O (Ak (Aj O O O (fun w' hw=>?_)))));refine⟨?_,hw.below⟩;rw[CO,AB Ab,AB An,AB A6,AB BJ,AB Bj,AB B4,AB CP,AB DF,AB Yi,AB I8,AB Kg,AB MT,AI Qm]
  rfl
 simp only[CA]at Qm;refine tr (yq O (AR O O O) (AH O (AA O (fun Pd=>?_) (fun Pd=>?_))))
 ·simp only[BC]at Pd;refine tr (yp O ((fun w _=>FN _ w)) (AH O (Ak (Aj O O O (fun w' hw=>?_)))));refine⟨?_,hw.below⟩;rw[CO,AB Ab,AB An,AB A6,AB BJ,AB Bj,AB B4,AB CP,AB DF,AB Yi,AB I8,AB Kg,AB MT,AB Qm,AI Pd]
  rfl
 simp only[CA]at Pd;refine AY (AL (AS (tr (yp O ((fun w _=>FN _ w)) (AH O (AX (Aj O O O (fun w' hw=>?_))))))));refine⟨?_,hw.below⟩;rw[CO,AB Ab,AB An,AB A6,AB BJ,AB Bj,AB B4,AB CP,AB DF,AB Yi,AB I8,AB Kg,AB MT,AB Qm,AB Pd]
 rfl
theorem XQ(S:List Dw)(v:Value)(b1:Nat)(I0:AQ)(hs:S.length<=1000000000)(hv:Sl I0 2 v (S.map F5)):Kk prog 228 [.pointer (some ⟨b1,0,none⟩)] (bwS S) (fun I=>DA I b1 0 v/\Le I0 I):=by
 intro γ Cd Cx G II lid hY w0 g00 F w SZ Uz BZ;obtain⟨Oi,AXz⟩:=Uz
 have hJ:=Le.refl (II g00)
 refine enter func228 O ntmps228 O (BZ.self) (tr (yq O ((by exact Ai O O (A8 (Oi.mono hJ)))) ?_));refine yq O ((by exact BH O Rg O (Sl.lenOf hv (Af _)))) ?_;refine yq O (Bl O O O (by omega)) ?_;refine AH O (AJ (AAB (ι:=Nat×γ) (fun zz=>zz.1<=S.length/\Cd zz.1 zz.2/\Le (II g00) (II zz.2)) (fun zz=>S.length-zz.1) (fun zz=>[(3,.int .i64 ((S.length:Int)-1-(zz.1:Int)))]) [(0,_),(1,_)] (fun zz=>(II zz.2)) (fun zz=>(F++G zz.2)) (0,g00) ?_ (A0 O (B3 (Value.int IntKind.i64) (by simp)) (Bk)) (BS O) (fun _ h=>AD h) ?_))
 ·dsimp only;exact⟨Aw _,SZ,Le.refl _⟩
 rintro⟨nn,g⟩ ⟨hn,JD,hJ⟩;dsimp only at *;refine AF (AK rfl (AA rfl (fun Ab=>?_) (fun Ab=>?_)))
 ·simp at Ab
  have hn1:nn<S.length:=by omega
  have H8:((S.length:Int)-1-(nn:Int))=((S.length-1-nn:Nat):Int):=by omega
  rw[H8];refine AV (AF (AJ (tr (yq O ((by exact Ai O O (A8 (Oi.mono hJ)))) ?_))));refine yq O ((by exact AN O Rg O2 O O (Sl.shape hv (Af _)) (by omega))) ?_;refine yq O ((by exact Br O APF O2 O O (AMc (i:=S.length-1-nn) (hv.mono (AXz.trans hJ)) (by omega)))) ?_;refine Mb (i:=nn) g (Fi O) O O O O O hY (ANI hn1) JD O (fun g JD CH=>?_) (fun g hcx CH=>?_)
  ·have hJ:=hJ.trans CH
   refine AH O (AA O (fun An=>?_) (fun An=>?_))
   ·exact Ac An (by simp)
   refine AY (AL (AS (AC (yq O (Bl O O O (by omega)) ?_))));refine AU O (Fl ((nn+1,g)) ?_ ?_ (A0 O (B3 (Value.int IntKind.i64) (by omega)) (Bk)) (BS O) (fun _ h=>by dsimp only;exact AD h))
   ·dsimp only;exact⟨by omega,JD,hJ⟩
   dsimp only
   show S.length-(nn+1)<S.length-nn
   omega
  have hJ:=hJ.trans CH
  refine AH O (AA O (fun A6=>?_) (fun A6=>?_))
  ·refine Ak (I7 O (fun w' hw=>?_));exact⟨_,O,g,.inr ⟨nn+1,(by rw[Z9];omega),hcx⟩,hJ,BZ.rebase (AD hw)⟩
  exact Ac A6 (by simp)
 simp at Ab
 have hn1:nn=S.length:=by omega
 refine Av (AE (AE (AO (EK O (fun w' hw=>?_)))));exact⟨_,O,g,.inl (by rw[Z9,<-hn1];exact JD),hJ,BZ.rebase (AD hw)⟩
theorem Vj(v:Value)(Ma:JS v)(I:AQ)(F:List HA)(w0 w:World)(BZ:St w0 I F w):Calls prog 203 [v].toArray w (fun e w'=> ∃v1,e=.returned v1/\∃I' H',(Le I I'/\F=H'/\∃b,v1=.func (.func 228) #[] #[.pointer (some ⟨b,0,none⟩)]/\DA I' b 0 v)/\St w I' H' w'):=by
 refine enter func203 O ntmps203 O (BZ.self) (tr (JC _ O (fun b1=>?_) (by exact JS.cells (by assumption))));refine AH O (AF (Cw b1 (fun J hJ h1=>?_)));refine AC (yq O (F8 O O O) (AH O (AX (AP O O (fun w' hw=>?_)))));exact⟨_,O,J,_,⟨hJ,O,b1,O,h1 0 _ O⟩,hw⟩
theorem ABF(x:Vr)(b:Nat)(n:List UInt8)(w:World)(hb:DA (Ao w) b 0 (Au n)):B2 prog 205 [.agg (DP x).toArray,.pointer (some ⟨b,0,none⟩)] w (.bool (decide (x.name=n))):=by
 refine enter func205 O ntmps205 O (St.start w (Ao w) (Le.refl _)) (tr (JC (DP x) O fun b2=>(AH O (tr (yq O ((by exact Az O O (by rfl))) ?_)))));refine yq O ((by exact Ai O O (A8 hb))) ?_;refine yq O (AR O O O) (AH O (AX (AP O O (fun w' hw=>?_))));exact⟨O,hw.below⟩
theorem ALl(v:Value)(l:List Vr)(b:Nat)(n:List UInt8)(w:World)(hl:l.length<=1000000000)(hv:Sl (Ao w) 5 v (l.map DP))(hb:DA (Ao w) b 0 (Au n)):B2 prog 204 [v,.func (.func 205) #[] #[.pointer (some ⟨b,0,none⟩)]] w (.int .i64 (Tt n l 0)):=by
 refine enter func204 O ntmps204 O (St.start w (Ao w) (Le.refl _)) (AK O (AF (tr ?_)));refine yq O ((by exact BH O Dn O (Sl.lenOf hv (Af _)))) ?_;refine AH O (AJ (EB (ι:=Nat) [0,1,7] (fun zz=>zz<=l.length/\Tt n l 0=Tt n (l.drop zz) zz) (fun zz=>l.length-zz) (fun zz=>[(8,.int .i64 (zz:Int))]) (fun zz=>Ao w) (fun zz=>[]) 0 O ?_ ?_))
 ·exact⟨Aw _,by simp⟩
 rintro i ⟨hi,hx⟩;dsimp only at *;refine AK rfl (AF (AA rfl (fun Ab=>?_) (fun Ab=>?_)))
 ·simp at Ab
  refine AV (AF (AJ (AK O (tr ?_))));refine yq O ((by exact AN O Dn DY O O (Sl.shape hv (Af _)) (by omega))) ?_;refine yq O ((by exact Br O Ov DY O O (Nq (i:=i) hv (by omega)))) ?_;refine yq O (ADD (cs:=[.pointer (some ⟨b,0,none⟩)]) O O O O O func205 (by kernel_rfl) O ((fun w hw=>ABF (AG l i Ez) b n w (hb.mono (Le.of_st hw))))) (ln (AA O (fun An=>?_) (fun An=>?_)))
  ·refine AK O (Ak (AP O O (fun w' hw=>?_)));refine⟨?_,hw.below⟩;rw[hx,Bg Ez (by omega),Tt,AI (BM An)]
  refine AY (AL (AS (AC (yq O (AM O O O (by omega)) ?_))));refine AU O (DJ (i+1) ?_ ?_)
  ·refine⟨by omega,hx.trans ?_⟩;rw[Bg Ez (by omega),Tt,AB (BW An)]
  omega
 simp at Ab
 refine Av (AE (AE (AO (AS (AK O (AX (AP O O (fun w' hw=>?_))))))));refine⟨?_,hw.below⟩
 rw[hx,E4 (by omega)];try rfl
theorem ANM{w:World}{I:AQ}{H:List HA}{v:Value}{T:TypeId}{S:List Dw}(hw:St w0 I H w)[hm:H3 v T 2 S.length (S.map F5).flatten H]:Sl (Ao w) 2 v (S.map F5):=by
 obtain⟨X,Y,hH⟩:=List.append_of_mem hm.mem
 have hp:H.Perm (Ww v T 2 S.length (S.map F5).flatten::(X++Y)):=by rw[hH];exact List.perm_middle
 obtain⟨J,_,h2,h3⟩:=KB (xss:=S.map F5) (hw.perm hp) (Af _) (fun cs H8=>by obtain⟨a,_,rfl⟩:=FL.1 H8;rfl);exact h3.mono h2.imm
def I3(vars:List Vr):Prop:=vars.length<=1000000000/\∀v∈vars,v.value.length<=1000000000
theorem AKZ{vs:List (List UInt8×List UInt8)}{S:List Dw}{a:Dw}(h:S.reverse.find? (fun a=>decide (a.1=n))=some a):Bt vs S n=(a.2,0):=by
 unfold Bt;rw[h]
theorem AHL{vars:List Vr}{S:List Dw}(h:S.reverse.find? (fun a=>decide (a.1=n))=none)(hv:Tt n vars 0<0):Bt (vars.map Vr.nv) S n=(0,0):=by
 unfold Bt;rw[h];simp only
 rw[Uc];rcases SW (n:=n) vars 0 with ⟨_,h2⟩|⟨k,_,h2,_⟩
 ·rw[h2];try rfl
 omega
theorem ALN{vars:List Vr}{S:List Dw}(h:S.reverse.find? (fun a=>decide (a.1=n))=none)(hv:¬Tt n vars 0<0):∃k,k<vars.length/\Tt n vars 0=(k:Int)/\Bt (vars.map Vr.nv) S n=HM (AG vars k Ez).value:=by
 rcases SW (n:=n) vars 0 with ⟨h1,_⟩|⟨k,h1,h2,h3⟩
 ·omega
 refine⟨k,h1,by rw[h2,Nat.zero_add],?_⟩
 unfold Bt;rw[h];simp only
 rw[Uc,h3];try rfl
def ZW(s:List UInt8):List UInt8:=if AG s 0 0=45\/AG s 0 0=43 then s.drop 1 else s
theorem ASx(s:List UInt8):(ZW s).length<=s.length:=by
 unfold ZW;split
 ·rw[BA];omega
 exact A5 _
theorem AJi{t:List UInt8}(h:Lib.trimS t C1=[]):HM t=(0,0):=by
 unfold HM;simp only;rw[AI h]
theorem ATL{t:List UInt8}(hs:s=Lib.trimS t C1)(h:s≠[])(hr:r=ZW s)(hb:((decide (r=[])||decide (((AG r 0 0).toNat:Int)<48))||decide (57<((AG r 0 0).toNat:Int)))=true):HM t=(0,60):=by
 subst hs hr
 unfold HM;simp only;rw[AB h,AI]
 simp only[C4,BC]at hb;unfold ZW at hb
 by_cases he:(if AG (Lib.trimS t C1) 0 0=45\/AG (Lib.trimS t C1) 0 0=43 then(Lib.trimS t C1).drop 1 else Lib.trimS t C1)=[]
 ·exact .inl he
 refine .inr ?_;unfold BO;rw[Bool.and_eq_false_iff,CA,CA];rcases hb with (hb|hb)|hb
 ·exact Ac hb he
 ·exact .inl (by omega)
 exact .inr (by omega)
theorem AXl{t:List UInt8}(hs:s=Lib.trimS t C1)(h:s≠[])(hr:r=ZW s)(hb:((decide (r=[])||decide (((AG r 0 0).toNat:Int)<48))||decide (57<((AG r 0 0).toNat:Int)))=false):r≠[]/\HM t=(match Ck r with
      |none=>(0,60)
      |some q=>if q.2=r.length then(if AG s 0 0=45 then F4 (-q.1)else q.1,0)else(0,60)):=by
  subst hs hr;simp only[Bool.or_eq_false_iff,CA]at hb;refine⟨hb.1.1,?_⟩
  unfold HM;simp only;rw[AB h,AB]
  · rfl
  unfold ZW at hb;rintro(h1|h1)
  · exact hb.1.1 h1
  unfold BO at h1;rw[Bool.and_eq_false_iff,CA,CA]at h1;rcases h1 with h1|h1
  · exact hb.1.2 (by omega)
  exact hb.2 (by omega)
theorem APA (hx:x=(match Ck r with
      |none=>(0,60)
      |some q=>if q.2=r.length then(if AG s 0 0=45 then F4 (-q.1)else q.1,0)else(0,60))) (h:(!(Ck r).isSome||decide (((Mp r).2:Int)≠(r.length:Int)))=true):x=(0,60):=by
  rw[hx];unfold Mp at h
  cases hn:Ck r with
  |none=>rfl
  |some q=>
    rw[hn]at h;simp only;rw[AB];intro he;rw[show((some q).getD (0,0)).2=q.2 from O,he]at h
    simp at h
theorem AOV (hx:x=(match Ck r with
      |none=>(0,60)
      |some q=>if q.2=r.length then(if AG s 0 0=45 then F4 (-q.1)else q.1,0)else(0,60))) (h:(!(Ck r).isSome||decide (((Mp r).2:Int)≠(r.length:Int)))=false):x=(if AG s 0 0=45 then F4 (-(Mp r).1)else(Mp r).1,0):=by
  rw[hx];unfold Mp at h ⊢
  cases hn:Ck r with
  |none=>rw[hn]at h;cases h
  |some q=>
    rw[hn]at h;simp only[Option.isSome_some,Bool.not_true,Bool.false_or,CA,Classical.not_not,Option.getD_some]at h ⊢;rw[AI (by omega)]
theorem ABf(s cs:List UInt8):(Lib.trimS s cs).length<=s.length:=by
 unfold Lib.trimS Lib.trimRightS
 have h1:=E6 (s.reverse.dropWhile (cs.contains ·)).reverse cs
 have h2:=(List.dropWhile_sublist (l:=s.reverse) (cs.contains ·)).length_le
 rw[ZE]at h1 h2
 omega
theorem Ug(b:Nat)(vv sv:Value)(vars:List Vr)(S:List Dw)(n:List UInt8)(w:World)(hb:HR (Ao w) b [vv,sv])(hv:Sl (Ao w) 5 vv (vars.map DP))(hs:Sl (Ao w) 2 sv (S.map F5))(hV:I3 vars)(hS:S.length<=1000000000):B2 prog 172 [Gg b,Au n] w (.tuple #[.int .i64 (Bt (vars.map Vr.nv) S n).1,.int .i64 ((Bt (vars.map Vr.nv) S n).2:Int)]):=by
 refine Mw func172 O ntmps172 O (St.start w (Ao w) (Le.refl _)) (tr (JC _ O (fun b3=>?_) (by rfl)))
 refine HO _ O fun b4=>?_
 refine HO _ O fun b5=>?_
 refine XN (yq O ((by exact Ai O O (A8 (hb 1 _ O)))) ?_);refine yc O (fun w hw=>Vj sv hs.one _ _ _ w hw) ?_;rintro _ J18 _ ⟨Jl,rfl,b18,rfl,Ahk⟩;refine ln (AJ (OO (γ:=Int) (XQ S sv b18 (Ao w) hS hs) rfl rfl func228 (by kernel_rfl) rfl (fun nn zz=>(zz=0)/\∀j,j<nn->(AG S (S.length-1-j) H2).1≠n) (fun cc zz=>(cc=.ret/\(Bt (vars.map Vr.nv) S n)=(zz,0))) [] (fun zz TT=>(row b5 30 [.int .i64 0]::row b4 2 [.int .i64 zz]::row b3 9 [Au n]::TT)) (fun _ _=>rfl) (fun zz=>J18) [(0,_),(1,_),(3,_),(4,_),(5,_),(18,_)] (BS rfl) 0 ?_ ?_ ?_ ?_ rfl ?_ ?_ ?_ ?_))
 ·exact⟨O,fun j h=>Ac h (Nat.not_lt_zero _)⟩
 ·exact⟨Ahk,Jl⟩
 ·exact Le.refl _
 ·exact fun _ h=>AD h
 ·exact AVa
 ·intro bl ready busy done dfr nn vs a w0r FF hi Ek hrs hbz;obtain⟨ha,Cz⟩:=Ek;dsimp only at *;obtain⟨hnl,rfl⟩:=AXv hi;subst ha;refine AC (HO (F5 H2) rfl fun b7=>(El (F5 (AG S (S.length-1-nn) H2)) rfl ?_ (by exact Qw _)));refine C7 (Mn (by rfl) hrs ?_);refine AJ (tr (yq rfl ((by exact Az rfl rfl (by rfl))) ?_));refine yq rfl ((by exact Az rfl rfl (by rfl))) ?_;refine yq rfl (AR rfl rfl rfl) (ln (AA rfl (fun Ab=>?_) (fun Ab=>?_)))
  ·refine tr (yq O ((by exact Az O O (by rfl))) ?_);refine Eu _ O ?_ (by exact⟨O,O⟩) O (by(simp only[DS];try rfl));refine Eu _ O ?_ (by exact⟨O,O⟩) O (by(simp only[DS];try rfl));refine ln (AX (A4 (AAg (fun w' hw'=>.inr ⟨O,.ret,((AG S (S.length-1-nn) H2).2),?_,?_,?_⟩))))
   ·exact⟨O,AKZ (AKf S nn hnl Cz (BM Ab))⟩
   ·exact Le.refl _
   exact AD hw'
  refine AY (AL (Gy (fun w' hw'=>.inl ⟨O,(0),?_,?_,?_⟩)))
  ·refine⟨O,fun j hj=>?_⟩;rcases Nat.lt_succ_iff_lt_or_eq.1 hj with h|rfl
   ·exact Cz j h
   exact BW Ab
  ·exact Le.refl _
  exact AD hw'
 ·intro bd a Ek CH;obtain⟨ha,Cz⟩:=Ek;dsimp only at *;rw[Z9]at Cz;subst ha
  have OG:=ALS Cz
  refine AL (AS (tr (yq O ((by exact Ai O O (A8 ((hb.mono Jl) 0 _ O)))) ?_)));refine yq O (F8 O O O) (yp O ((fun w hw=>ALl vv vars b3 n w hV.1 (hv.mono (Jl.trans hw.le)) (D7 (b:=b3) hw 0 _ O))) (AH O (AF (AK O (AA O (fun An=>?_) (fun An=>?_))))))
  ·have hvi:=BM An
   refine tr (Eu _ O ?_ (by exact⟨O,O⟩) O (by(simp only[DS];try rfl)));refine Eu _ O ?_ (by exact⟨O,O⟩) O (by(simp only[DS];try rfl));refine ln (AX (Ah (Db (F3 (bs:=[bd]) (.inl O) O (by exact CR O un2 O (by exact Cs O) (CR O XO O (by exact Cs O) (Fy))) (fun w' hw=>?_)))));refine⟨?_,(hw.less Jl).below⟩
   rw[AHL OG hvi];try rfl
  obtain⟨k,Om,hke,hW⟩:=ALN OG (BW An);rw[hke];refine AV (tr (yq rfl ((by exact Ai rfl rfl (A8 ((hb.mono Jl) 0 _ rfl)))) ?_));refine yq rfl ((by exact AN rfl Dn DY rfl rfl (Sl.shape (hv.mono Jl) (Af _)) (by omega))) ?_;refine yq rfl ((by exact Ai rfl rfl (Md (i:=k) (j:=1) (hv.mono Jl) Om rfl))) ?_;refine yp rfl ((fun w _=>Vv (AG vars k Ez).value C1 w (hV.2 _ (BE Om)) (by decide) (by decide))) ?_;obtain⟨s,hsx⟩:∃s,s=Lib.trimS (AG vars k Ez).value C1:=⟨_,rfl⟩;rw[show Lib.trimS (AG vars k Ez).value C1=s from hsx.symm]
  have C3:s.length<=1000000000:=by rw[hsx];exact Ky (ABf _ _) (hV.2 _ (BE Om))
  refine AH O (AF (tr (yq O (AR O O O) (ln (AA O (fun A6=>?_) (fun A6=>?_))))))
  ·have hse:s=[]:=BM A6
   refine tr (Eu _ O ?_ (by exact⟨O,O⟩) O (by(simp only[DS];try rfl)));refine Eu _ O ?_ (by exact⟨O,O⟩) O (by(simp only[DS];try rfl));refine ln (AX (Ah (Db (F3 (bs:=[bd]) (.inl O) O (by exact CR O un2 O (by exact Cs O) (CR O XO O (by exact Cs O) (Fy))) (fun w' hw=>?_)))));refine⟨?_,(hw.less Jl).below⟩
   rw[hW,AJi (hsx.symm.trans hse)];try rfl
  have TP:s≠[]:=BW A6
  refine AV (AF ?_)
  have OL:0<s.length:=BV.2 TP
  refine AC (yq O ((by exact AZ O BX O O (by omega))) ?_);refine yq O (Ae O O O O) (AH O (EZ (ι:=List UInt8) [0,1,3,4,5,18,8,34,45,10] (fun zz=>zz=ZW s) (fun zz=>[(9,Au zz)]) (fun zz=>J18) (fun zz=>(row b5 30 [.int .i64 0]::row b4 2 [.int .i64 0]::row b3 9 [Au n]::Fg bd (.deferred (some []))::[])) O ?_ ?_))
  ·refine AF ?_
   have OL:0<s.length:=BV.2 TP
   refine FU ?_
   refine zO 3 O (fun h54=>by
     simp at h54
     refine zq O ((by exact AZ O BX O O (by omega))) ?_;refine zq O (Ae O O O O) ?_;exact zv O
    ) ?_
   refine Dp (AA O (fun BJ=>?_) (fun BJ=>?_))
   ·refine AC (yq O (BF O BX O O (by omega)) ?_);refine AU O (CB (s.drop 1) ?_)
    unfold ZW;rw[AI (by simpa using BJ)]
   refine AY (CB (s) ?_)
   unfold ZW;rw[AB (by simpa using BJ)]
  rintro r hr;dsimp only at *
  have hrl:r.length<=1000000000:=by have:=ASx s;rw[hr];omega
  refine AF (tq (zq O (AR O O O) ?_))
  refine zO 3 O (fun MN=>by
    simp at MN
    have hr0:0<r.length:=BV.2 MN
    refine zq O ((by exact AZ O BX O O (by omega))) ?_;exact zv O
   ) ?_
  refine zO 3 O (fun h68=>by
    simp at h68
    have hr0:0<r.length:=BV.2 h68.1
    refine zq O ((by exact AZ O BX O O (by omega))) ?_;exact zv O
   ) ?_
  refine Dp (AA O (fun Bj=>?_) (fun Bj=>?_))
  ·have hnb:=ATL hsx TP hr Bj
   refine tr (Eu _ O ?_ (by exact⟨O,O⟩) O (by(simp only[DS];try rfl)));refine Eu _ O ?_ (by exact⟨O,O⟩) O (by(simp only[DS];try rfl));refine ln (AX (Ah (Db (F3 (bs:=[bd]) (.inl O) O (by exact CR O un2 O (by exact Cs O) (CR O XO O (by exact Cs O) (Fy))) (fun w' hw=>?_)))));refine⟨?_,(hw.less Jl).below⟩
   rw[hW,hnb];try rfl
  obtain⟨hrn,hng⟩:=AXl hsx TP hr Bj;refine AV (tr (yp rfl ((fun w _=>RK r w (by omega) hrn)) ?_));refine AH rfl (AF (tq ?_))
  refine zO 4 O (fun h82=>by
    simp at h82
    refine zq O (AW O BX O) ?_;exact zv O
   ) ?_
  refine Dp (AA O (fun B4=>?_) (fun B4=>?_))
  ·have hnf:=APA hng B4
   refine tr (Eu _ O ?_ (by exact⟨O,O⟩) O (by(simp only[DS];try rfl)));refine Eu _ O ?_ (by exact⟨O,O⟩) O (by(simp only[DS];try rfl));refine ln (AX (Ah (Db (F3 (bs:=[bd]) (.inl O) O (by exact CR O un2 O (by exact Cs O) (CR O XO O (by exact Cs O) (Fy))) (fun w' hw=>?_)))));refine⟨?_,(hw.less Jl).below⟩
   rw[hW,hnf];try rfl
  have WJ:=AOV hng B4
  refine AV (EZ (ι:=Int) [9,0,1,3,4,5,18,8,34,45,10,68,12,13,82] (fun zz=>zz=if AG s 0 0=45 then F4 (-(Mp r).1)else(Mp r).1) (fun zz=>[(11,.int .i64 zz)]) (fun zz=>J18) (fun zz=>(row b5 30 [.int .i64 0]::row b4 2 [.int .i64 0]::row b3 9 [Au n]::Fg bd (.deferred (some []))::[])) O ?_ ?_)
  ·refine AK O (AA O (fun CP=>?_) (fun CP=>?_))
   ·refine AC (yq O (Vu O O) (AU O (CB (F4 (-(Mp r).1)) ?_)))
    rw[AI (show AG s 0 0=45 from BM CP)]
   refine AY (CB ((Mp r).1) ?_)
   rw[AB (show ¬AG s 0 0=45 from BW CP)]
  rintro z hz;dsimp only at *;refine tr (Eu _ rfl ?_ (by exact⟨rfl,rfl⟩) rfl (by(simp only[DS];try rfl)));refine Eu _ rfl ?_ (by exact⟨rfl,rfl⟩) rfl (by(simp only[DS];try rfl));refine ln (AX (Db (F3 (bs:=[bd]) (.inl rfl) rfl (by exact CR rfl un2 rfl (by exact Cs rfl) (CR rfl XO rfl (by exact Cs rfl) (Fy))) (fun w' hw=>?_))));refine⟨?_,(hw.less Jl).below⟩
  rw[hW,WJ,<-hz];try rfl
 intro bd cc a XF CH;obtain⟨rfl,XF⟩:=XF;dsimp only at *;refine AX (A4 (Ah (Db (F3 (bs:=[bd]) (.inl rfl) rfl (by exact CR rfl un2 rfl (by exact Cs rfl) (CR rfl XO rfl (by exact Cs rfl) (Fy))) (fun w' hw=>?_)))));refine⟨?_,(hw.less Jl).below⟩
 rw[XF];try rfl
end Go.Tri
