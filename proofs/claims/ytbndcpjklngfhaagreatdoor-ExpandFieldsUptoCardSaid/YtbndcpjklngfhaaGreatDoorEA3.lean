/-
 A scanner: its small steps.
-/
import Derived.Test.YtbndcpjklngfhaaGreatDoorEA0
namespace Go.Tri
open Go.Proofs.Tryz
open Go.Proofs Go.RowKit
set_option maxRecDepth 10000
variable {i i' a' e' j o:Nat} {l:List UInt8} {br:Bool} {b:UInt8}
theorem AVB(s:List UInt8)(c:UInt8)(w:World):(Extern.BytealgIndexByte.indexByte #[Au s,u8 c]).run prog w=.ok (.int .i64 (Lib.indexByte s c)) w:=by
 unfold Au u8;rw[Lib.run_indexByteString]
 simp
def MH(s:List UInt8)(i a e:Nat):List Value:=[Au s,.int .i64 (i:Int),.int .i64 (a:Int),.int .i64 (e:Int)]
def Iy(w:World)(b:Nat)(cs:List Value):Prop:=∀k u,cs[k]? =some u->DA (Ao w) b k u
theorem B5{w0 w:World}{I:AQ}{H:List HA}{b:Nat}{T:TypeId}{cs:List Value}(hw:St w0 I H w)[hm:E2 b T cs H]:Iy w b cs:=fun k u hk=>
 ⟨cs.toArray,T,(0,0),hw.sat _ hm.mem,by simpa using hk⟩
def APf(i:Nat)(r:SR)(ok:Bool)(i' a' e':Nat):Prop:=match r with
 | .ok k=>ok=true/\i'=i+k/\a'=0/\e'=0
 | .bad a e=>ok=false/\a'=i+a/\e'=e
theorem APf.t{r:SR}{ok:Bool}(h:APf i r ok i' a' e')(DD:ok=true):∃k,r=.ok k/\i'=i+k/\a'=0/\e'=0:=by
 cases r with
 |ok k=>exact⟨k,O,h.2⟩
 |bad a e=>rw[h.1]at DD;cases DD
theorem APf.f{r:SR}{ok:Bool}(h:APf i r ok i' a' e')(DD:ok=false):∃a,r=.bad a e'/\a'=i+a:=by
 cases r with
 |ok k=>rw[h.1]at DD;cases DD
 |bad a e=>exact⟨a,by rw[h.2.2],h.2.1⟩
def YB(f:FuncId)(T:TypeId)(b:Nat)(s:List UInt8)(i:Nat)(args:List Value)(r:SR)(I:AQ)(F:List HA)(w:World):Prop:=
 Calls prog f (.pointer (some ⟨b,0,none⟩)::args).toArray w (ER w fun v I' H'=>I=I'/\∃ok i' a' e',v=.bool ok/\APf i r ok i' a' e'/\i'<=s.length/\H'=row b T (MH s i' a' e')::F)
def Q6(n:Nat):Prop:=∀(b:Nat) (s:List UInt8) (i d:Nat) (q:Bool) (I:AQ) (F:List HA) (w0 w:World),25-d=n->d<=30->s.length<=2305843009213693952->i+2<=s.length->St w0 I (row b 263 (MH s i 0 0)::F) w→
 YB 157 263 b s i [.int .i64 (d:Int),.bool q] ((lv n).2 q (s.drop i)) I F w
def AEb(n:Nat):Prop:=∀(b:Nat) (s:List UInt8) (i d:Nat) (I:AQ) (F:List HA) (w0 w:World),25-d=n->d<=30->s.length<=2305843009213693952->i<s.length->St w0 I (row b 263 (MH s i 0 0)::F) w→
 YB 156 263 b s i [.int .i64 (d:Int)] ((lv n).1 (s.drop i)) I F w
theorem SY(s:List UInt8)(c:UInt8)(w:World):B2 prog 64 [Au s,u8 c] w (.int .i64 (Lib.indexByte s c)):=by
 refine enter func64 O ntmps64 O (St.start w (Ao w) (Le.refl _)) (AK O (tr (yq O (Qk O O O func85 (by kernel_rfl) O (by kernel_rfl) (show Extern.find _=some Extern.BytealgIndexByte.indexByte by kernel_rfl) (fun w=>AVB s c w)) ?_)));refine AH O (AX (AP O O (fun w' hw=>?_)));exact⟨O,hw.below⟩
theorem EP(s:List UInt8)(c:UInt8)(w:World):B2 prog 41 [Au s,u8 c] w (.int .i64 (Lib.indexByte s c)):=by
 refine enter func41 O ntmps41 O (St.start w (Ao w) (Le.refl _)) (AK O (tr (yp O (fun w _=>SY s c w) (AH O (AX (AP O O (fun w' hw=>?_)))))));exact⟨O,hw.below⟩
theorem Sw(s t:List UInt8)(w:World):B2 prog 128 [Au s,Au t] w (.bool (Dl s t)):=by
 refine enter func128 O ntmps128 O (St.start w (Ao w) (Le.refl _)) (AK O (tq (zq O (AW O BX O) (zq O (AW O BX O) ?_))))
 refine zA 6 O (fun h17=>by
   simp at h17
   refine zq O (AW O BX O) (zq O (Ba O BX O O (by omega)) ?_);refine zq O (AR O O O) ?_;exact zv O
  ) ?_
 refine De O (AX (AP O O (fun w' hw=>?_)));refine⟨?_,hw.below⟩;refine B3 (fun b=>Ending.returned (Value.bool b)) ?_;unfold Dl
 by_cases h:t.length<=s.length
 ·rw[BK (show((t.length:Int))<=(s.length:Int) by omega),Bool.true_and];try rfl
 rw[DC (show ¬((t.length:Int))<=(s.length:Int) by omega),Bool.false_and];exact(DC (fun e=>by have:=B3 List.length e;rw[BL]at this;omega)).symm
theorem FA(s t:List UInt8)(w:World):B2 prog 100 [Au s,Au t] w (.bool (Dl s t)):=by
 refine enter func100 O ntmps100 O (St.start w (Ao w) (Le.refl _)) (AK O (tr (yp O ((fun w _=>Sw s t w)) (AH O (AX (AP O O (fun w' hw=>?_)))))));exact⟨O,hw.below⟩
theorem D9(b:Nat)(s t:List UInt8)(i a e:Nat)(w:World)(hi:i<=s.length)(hb:Iy w b (MH s i a e)):B2 prog 154 [.pointer (some ⟨b,0,none⟩),Au t] w (.bool (Dl (s.drop i) t)):=by
 refine enter func154 O ntmps154 O (St.start w (Ao w) (Le.refl _)) (AK O (AF (Bd mo (by kernel_rfl) (fun _ _ _ _ _ h=>h) (zq O ((by exact Ai O O (A8 (hb 0 _ O)))) ?_))));refine zq O ((by exact Ai O O (A8 (hb 1 _ O)))) ?_;refine zq O (BF O BX O O (by omega)) ?_;refine zp O ((fun w _=>FA (s.drop i) t w)) (De O (AX (AP O O (fun w' hw=>?_))));exact⟨O,hw.below⟩
theorem IA(b:Nat)(s:List UInt8)(i a e:Nat)(I:AQ)(F:List HA)(w0 w:World)(BZ:St w0 I (row b 263 (MH s i 0 0)::F) w):Calls prog 186 [.pointer (some ⟨b,0,none⟩),.int .i64 (a:Int),.int .i64 (e:Int)].toArray w (ER w fun v I' H'=>v=.bool false/\I=I'/\H'=row b 263 (MH s i a e)::F):=by
 unfold MH at *;refine enter func186 O ntmps186 O (BZ.self) (AK O (AF (tr (DE O ?_))));refine AH O (AA O (fun Ab=>?_) (fun Ab=>?_))
 ·simp at Ab
  refine AC (Em ([.int .i64 (a:Int),.int .i64 (e:Int)]) O (y0 O ((by exact K6 O ANp O O O (by simp[Value.oneCell']) O)) ?_));rintro _ _ _ ⟨rfl,rfl⟩;refine DL (AH rfl (AX (AP rfl rfl (fun w' hw=>?_))));exact⟨_,rfl,I,_,⟨rfl,rfl,rfl⟩,hw⟩
 simp at Ab
theorem GG(b:Nat)(s:List UInt8)(i n a e:Nat)(I:AQ)(F:List HA)(w0 w:World)(hi:i<=s.length)(hs:s.length<=2305843009213693952)(hn:n<=2305843009213693952)(BZ:St w0 I (row b 263 (MH s i a e)::F) w):Calls prog 187 [.pointer (some ⟨b,0,none⟩),.int .i64 (n:Int)].toArray w (ER w fun v I' H'=>v=.tuple #[]/\I=I'/\H'=row b 263 (MH s (min (i+n) s.length) a e)::F):=by
 unfold MH at *;refine enter func187 O ntmps187 O (BZ.self) (Bo [15] [] [] mo (by kernel_rfl) (fun _ _ _ _ _ h=>h) (xr [0,1,2,3] O O (xq 4 O O (Az O O (by rfl)) ?_)));refine xr [5] O O (xq 6 O O (AM O O O (by omega)) ?_);refine xr [7,8,9] O O (xq 10 O O (Az O O (by rfl)) ?_);refine xq 11 O O (AW O BX O) (xq 12 O O (AIM O O O) (xr [13,14] O O ?_));refine FP 15 (by kernel_rfl) (by kernel_rfl) O (Le.refl _) O O (Bz O I2 O O (by exact⟨O,O⟩) O (by(simp only[Iw,DS];try rfl))) ?_;rintro _ _ _ ⟨rfl,rfl⟩;refine xk (CX (EK rfl (fun w' hw=>?_)))
 have e9:min ((i:Int)+(n:Int)) (s.length:Int)=((min (i+n) s.length:Nat):Int):=by omega
 rw[e9]at hw;exact⟨_,O,I,_,⟨O,O,O⟩,hw⟩
theorem AJo(l:List UInt8):(Lib.indexByte l 39<0->Lib.indexByte l 39= -1)/\(¬Lib.indexByte l 39<0->∃m:Nat,Lib.indexByte l 39=m/\m<l.length):=by
 have Ua:=Lib.indexByte_ge l 39
 refine⟨fun h=>by omega,fun h=>?_⟩;obtain⟨i,hi⟩:∃i:Nat,Lib.indexByte l 39=i:=⟨(Lib.indexByte l 39).toNat,by omega⟩;exact⟨i,hi,(F6 hi).1⟩
theorem ADj{D:Bool->List UInt8->SR}{f:Nat}{r:LR}(h:r=(LY D f l).on j)(hl:l≠[])(hf:l.length<=f):
  (Dl l [34]=true->r=.ok (j+1))/\(Dl l [34]=false->(∀a e,Bv D true false l=.bad a e->r=.bad (j+a) e)/\∀k,Bv D true false l=.ok k->r=(LY D (f-1) (l.drop k)).on (j+k)):=by
 have hp:=BV.2 hl
 obtain⟨g,rfl⟩:∃g,f=g+1:=⟨f-1,by omega⟩;refine⟨fun h1=>?_,fun h1=>⟨fun a e h2=>?_,fun k h2=>?_⟩⟩
 ·rw[h,LY,AB hl,AI h1];try rfl
 ·rw[h,LY,AB hl,AB (by rw[h1];simp),h2];try rfl
 rw[h,LY,AB hl,AB (by rw[h1];simp),h2,Nat.add_sub_cancel];exact LR.on_on _ _ _
theorem EQ{s:List UInt8}(h:i<s.length):s.drop i≠[]:=List.ne_nil_of_length_pos (by rw[BA];omega)
theorem Ej(s:List UInt8)(i:Nat):AG (s.drop i) 0 0=AG s i 0:=by
 unfold AG;rw[Cy,Cy,List.getElem?_drop];try rfl
theorem Mx(s:List UInt8)(i:Nat):AG (s.drop i) 1 0=AG s (i+1) 0:=by
 unfold AG;rw[Cy,Cy,List.getElem?_drop]
theorem Rf(b:Nat)(s:List UInt8)(i:Nat)(I:AQ)(F:List HA)(w0 w:World)(hs:s.length<=2305843009213693952)(hi:i<s.length)(BZ:St w0 I (row b 263 (MH s i 0 0)::F) w):YB 155 263 b s i [] (CM (s.drop i)) I F w:=by
 refine enter func155 O ntmps155 O (BZ.self) (AK O (AF (Bd mo (by kernel_rfl) (fun _ _ _ _ _ h=>h) (EA O ?_))));refine EA O ?_;refine zq O (AM O O O (by omega)) ?_;refine zq O (BF O BX O O (by omega)) ?_;refine zp O ((fun w _=>EP (s.drop (i+1)) 39 w)) (De O (AF (AF ?_)))
 have hix:=AJo (s.drop (i+1))
 have UT:CM (s.drop i)=if Lib.indexByte (s.drop (i+1)) 39<0 then .bad 0 53 else .ok ((Lib.indexByte (s.drop (i+1)) 39).toNat+2):=by unfold CM;rw[Cp]
 refine AC (AH O (AA O (fun Ab=>?_) (fun Ab=>?_)))
 ·simp at Ab
  rw[AI Ab]at UT;refine tr (DE O ?_);refine yc O (fun w hw=>IA b s i i 53 _ _ _ w (Al (row b 263 (MH s i 0 0)) hw)) ?_;rintro _ _ _ ⟨rfl,rfl,rfl⟩;refine AH rfl (Ak (AP rfl rfl (fun w' hw=>?_)));exact⟨_,rfl,I,_,⟨rfl,false,i,i,53,rfl,(by rw[UT];exact⟨rfl,rfl,rfl⟩),(by omega),rfl⟩,hw⟩
 simp at Ab
 have Ab:¬Lib.indexByte (s.drop (i+1)) 39<0:=by omega
 rw[AB Ab]at UT;obtain⟨m,hm,hml⟩:=hix.2 Ab;rw[BA]at hml;rw[hm]at UT ⊢;refine AV (tr (yq rfl (AM rfl rfl rfl (by omega)) ?_));refine yc rfl (fun w hw=>GG b s i (m+2) 0 0 _ _ _ w (by omega) hs (by omega) (Al (row b 263 (MH s i 0 0)) hw)) ?_;rintro _ _ _ ⟨rfl,rfl,rfl⟩;refine DL (AH rfl (AX (AP rfl rfl (fun w' hw=>?_))));exact⟨_,rfl,I,_,⟨rfl,true,(min (i+(m+2)) s.length),0,0,rfl,(by rw[UT];exact⟨rfl,(by show min (i+(m+2)) s.length=i+(((m:Int)).toNat+2);omega),rfl,rfl⟩),(by omega),rfl⟩,hw⟩
theorem Rb(n:Nat)(hD:Q6 n)(b:Nat)(s:List UInt8)(i d:Nat)(q apo:Bool)(I:AQ)(F:List HA)(w0 w:World)(hn:24-d=n)(hd:d<=24)(hs:s.length<=2305843009213693952)(hi:i<s.length)(BZ:St w0 I (row b 263 (MH s i 0 0)::F) w):YB 188 263 b s i [.int .i64 (d:Int),.bool q,.bool apo] (Bv (lv n).2 q apo (s.drop i)) I F w:=by
 have hdl:(s.drop i).length=s.length-i:=BA
 refine enter func188 O ntmps188 O (BZ.self) (AK O (AF (AJ (tr (yp O ((fun w hw=>D9 b s [92] i 0 0 w (by omega) (B5 hw))) ?_)))));refine AH O (AA O (fun Ab=>?_) (fun Ab=>?_))
 ·refine AC (yc O (fun w hw=>GG b s i 2 0 0 _ _ _ w (by omega) hs (by omega) (Al (row b 263 (MH s i 0 0)) hw)) ?_);rintro _ _ _ ⟨rfl,rfl,rfl⟩;refine C7 (AL (AS (AK rfl (AX (AP rfl rfl (fun w' hw=>?_))))));exact⟨_,rfl,I,_,⟨rfl,true,(min (i+2) s.length),0,0,rfl,(by rw[Bv,AI Ab];exact⟨rfl,(by omega),rfl,rfl⟩),(by omega),rfl⟩,hw⟩
 refine tq (zp O ((fun w hw=>D9 b s [39] i 0 0 w (by omega) (B5 hw))) ?_)
 refine zA 1 O (fun h21=>by
   exact zv O
  ) ?_
 refine De O (AA O (fun An=>?_) (fun An=>?_))
 ·refine tr (yc O (fun w hw=>Rf b s i _ _ _ w hs hi (Al (row b 263 (MH s i 0 0)) hw)) ?_);rintro _ _ _ ⟨rfl,ok23,i23,a23,e23,rfl,Agf,Ahx,rfl⟩;refine AH rfl (Ak (AP rfl rfl (fun w' hw=>?_)));exact⟨_,rfl,I,_,⟨rfl,ok23,i23,a23,e23,rfl,(by rw[Bv,AB (by rw[Ab];simp),AI An];exact Agf),Ahx,rfl⟩,hw⟩
 refine tr (yp O ((fun w hw=>D9 b s [96] i 0 0 w (by omega) (B5 hw))) ?_);refine AH O (AA O (fun A6=>?_) (fun A6=>?_))
 ·refine tr (DE O ?_);refine yc O (fun w hw=>IA b s i i 55 _ _ _ w (Al (row b 263 (MH s i 0 0)) hw)) ?_;rintro _ _ _ ⟨rfl,rfl,rfl⟩;refine AH rfl (Ak (AP rfl rfl (fun w' hw=>?_)));exact⟨_,rfl,I,_,⟨rfl,false,i,i,55,rfl,(by rw[Bv,AB (by rw[Ab];simp),AB (fun h=>by rw[h]at An;cases An),AI A6];exact⟨rfl,rfl,rfl⟩),(by omega),rfl⟩,hw⟩
 refine tq (zp O ((fun w hw=>D9 b s [36,40] i 0 0 w (by omega) (B5 hw))) ?_)
 refine zO 2 O (fun h39=>by
   refine zp O ((fun w hw=>D9 b s [36,123] i 0 0 w (by omega) (B5 hw))) ?_;exact zv O
  ) ?_
 refine De O (AA O (fun BJ=>?_) (fun BJ=>?_))
 ·have h2l:i+2<=s.length:=by
   have h3:(Dl (s.drop i) [36,40]||Dl (s.drop i) [36,123])=true:=BJ
   rw[C4]at h3
   rcases h3 with h3|h3<;>(have:=Hq h3;simp at this;omega)
  refine tr (yq O (AM O O O (by omega)) ?_);refine yc O (fun w hw=>hD b s i (d+1) q _ _ _ w (by omega) (by omega) hs h2l (Al (row b 263 (MH s i 0 0)) hw)) ?_;rintro _ _ _ ⟨rfl,ok44,i44,a44,e44,rfl,AiJ,AiL,rfl⟩;refine AH rfl (Ak (AP rfl rfl (fun w' hw=>?_)));exact⟨_,rfl,I,_,⟨rfl,ok44,i44,a44,e44,rfl,(by rw[Bv,AB (by rw[Ab];simp),AB (fun h=>by rw[h]at An;cases An),AB (by rw[A6];simp),AI BJ];exact AiJ),AiL,rfl⟩,hw⟩
 refine AC (yc O (fun w hw=>GG b s i 1 0 0 _ _ _ w (by omega) hs (by omega) (Al (row b 263 (MH s i 0 0)) hw)) ?_);rintro _ _ _ ⟨rfl,rfl,rfl⟩;refine C7 (AL (AS (AK rfl (AX (AP rfl rfl (fun w' hw=>?_))))));exact⟨_,rfl,I,_,⟨rfl,true,(min (i+1) s.length),0,0,rfl,(by rw[Bv,AB (by rw[Ab];simp),AB (fun h=>by rw[h]at An;cases An),AB (by rw[A6];simp),AB (fun h=>by rw[h]at BJ;cases BJ)];exact⟨rfl,(by omega),rfl,rfl⟩),(by omega),rfl⟩,hw⟩
theorem P6(m:Nat)(hD:∀n,m=n+1->Q6 n)(b:Nat)(s:List UInt8)(i d:Nat)(I:AQ)(F:List HA)(w0 w:World)(hm:25-d=m)(hd:d<=30)(hs:s.length<=2305843009213693952)(hi:i<s.length)(BZ:St w0 I (row b 263 (MH s i 0 0)::F) w):YB 156 263 b s i [.int .i64 (d:Int)] ((lv m).1 (s.drop i)) I F w:=by
 refine enter func156 O ntmps156 O (BZ.self) (AK O (tr (DE O ?_)));refine AH O (AF (AK O (AA O (fun Ab=>?_) (fun Ab=>?_))))
 ·simp at Ab
  obtain rfl:m=0:=by omega
  refine tr (yc O (fun w hw=>IA b s i i 52 _ _ _ w (Al (row b 263 (MH s i 0 0)) hw)) ?_);rintro _ _ _ ⟨rfl,rfl,rfl⟩;refine AH rfl (Ak (AP rfl rfl (fun w' hw=>?_)));exact⟨_,rfl,I,_,⟨rfl,false,i,i,52,rfl,(by exact⟨rfl,rfl,rfl⟩),(by omega),rfl⟩,hw⟩
 simp at Ab
 obtain⟨n,rfl⟩:∃n,m=n+1:=⟨m-1,by omega⟩
 have Ew:(lv (n+1)).1 (s.drop i)=(LY (lv n).2 (s.drop i).length (s.drop (i+1))).close 1 53:=by show AHJ _ _=_;unfold AHJ;rw[Cp]
 refine AV (AF (tr (yc O (fun w hw=>GG b s i 1 0 0 _ _ _ w (by omega) hs (by omega) (Al (row b 263 (MH s i 0 0)) hw)) ?_)));rintro _ _ _ ⟨rfl,rfl,rfl⟩;refine ln (AJ (EB (ι:=Nat×Nat) [0,1,5,11] (fun zz=>i+1<=zz.1/\zz.1<=s.length/\LY (lv n).2 (s.drop i).length (s.drop (i+1))=(LY (lv n).2 zz.2 (s.drop zz.1)).on (zz.1-(i+1))/\(s.drop zz.1).length<=zz.2) (fun zz=>s.length-zz.1) (fun zz=>[]) (fun zz=>I) (fun zz=>(row b 263 (MH s zz.1 0 0)::F)) (i+1,(s.drop i).length) rfl ?_ ?_ (hh:=(fun _ h=>by dsimp only;rw[show min (i+1) s.length=i+1 by omega]at h;exact AD h))))
 ·dsimp only;refine⟨A5 _,by omega,by rw[Nat.sub_self,LR.on_zero],by rw[BA,BA];omega⟩
 rintro⟨j,g⟩ ⟨hj1,W7,hx,NM⟩;dsimp only at *;refine AF (AF (Bd mo (by kernel_rfl) (fun _ _ _ _ _ h=>h) (EA rfl ?_)));refine EA rfl ?_;refine zq rfl (AW rfl BX rfl) (De rfl (AA rfl (fun An=>?_) (fun An=>?_)))
 ·simp at An
  have hj:j<s.length:=by omega
  have CS:=ADj hx (EQ hj) NM
  refine AV (AJ (AF (tr (yp O ((fun w hw=>D9 b s [34] j 0 0 w (by omega) (B5 hw))) ?_))));refine ln (AA O (fun A6=>?_) (fun A6=>?_))
  ·have DD:=CS.1 A6
   refine tr (yc O (fun w hw=>GG b s j 1 0 0 _ _ _ w (by omega) hs (by omega) (Al (row b 263 (MH s j 0 0)) hw)) ?_);rintro _ _ _ ⟨rfl,rfl,rfl⟩;refine DL (AH rfl (Ak (AP rfl rfl (fun w' hw=>?_))));exact⟨_,rfl,I,_,⟨rfl,true,(min (j+1) s.length),0,0,rfl,(by rw[Ew,DD];exact⟨rfl,(by show _=i+(1+(j-(i+1)+1));omega),rfl,rfl⟩),(by omega),rfl⟩,hw⟩
  have Cz:=CS.2 A6
  have Lq:=Kx (dlr:=(lv n).2) (q:=true) (apo:=false) (GM n).2 (EQ hj)
  refine AV (tr (yc O (fun w hw=>Rb n (hD n O) b s j d true false _ _ _ w (by omega) (by omega) hs hj (Al (row b 263 (MH s j 0 0)) hw)) ?_));rintro _ _ _ ⟨rfl,ok33,i33,a33,e33,rfl,AeU,Abd,rfl⟩;refine AH rfl (AA rfl (fun BJ=>?_) (fun BJ=>?_))
  ·have AZR:ok33=false:=by simpa using BJ
   obtain⟨a,h1,h2⟩:=AeU.f AZR
   have h3:=Cz.1 a e33 h1
   refine AK O (Ak (AP O O (fun w' hw=>?_)));exact⟨_,O,I,_,⟨O,false,i33,a33,e33,O,(by rw[Ew,h3];exact⟨O,(by show _=i+(1+(j-(i+1)+a));omega),O⟩),Abd,O⟩,hw⟩
  have AZR:ok33=true:=by simpa using BJ
  obtain⟨k,h1,rfl,rfl,rfl⟩:=AeU.t AZR
  have h3:=Cz.2 k h1
  rw[h1]at Lq;rw[Cp]at h3;refine AY (AL (DJ ((j+k,g-1)) ?_ ?_))
  ·dsimp only;refine⟨by omega,Abd,by rw[h3];congr 1;omega,?_⟩
   have h4:1<=k:=Lq.1
   rw[BA]at NM ⊢
   omega
  dsimp only
  have h4:1<=k:=Lq.1
  show s.length-(j+k)<s.length-j
  omega
 simp at An
 obtain rfl:j=s.length:=by omega
 rw[K7,ABE]at hx;refine Av (AE (AE (AO (AS (tr (yc O (fun w hw=>IA b s s.length i 53 _ _ _ w (Al (row b 263 (MH s s.length 0 0)) hw)) ?_))))));rintro _ _ _ ⟨rfl,rfl,rfl⟩;refine AH rfl (AX (AP rfl rfl (fun w' hw=>?_)));exact⟨_,rfl,I,_,⟨rfl,false,s.length,i,53,rfl,(by rw[Ew,hx];exact⟨rfl,rfl,rfl⟩),(by omega),rfl⟩,hw⟩
def DQ(br:Bool)(o:Nat)(b:UInt8):Bool:=br&&decide (b=125)||(!br&&decide (b=41)&&decide (o=0))
theorem ADI{B:List UInt8->SR}{D:Bool->List UInt8->SR}{q:Bool}{f:Nat}{r:LR}(h:r=(HN B D br q f o l).on j)(hl:l≠[])(hf:l.length<=f):
  (AG l 0 0=34->(∀a e,B l=.bad a e->r=.bad (j+a) e)/\∀k,B l=.ok k->r=(HN B D br q (f-1) o (l.drop k)).on (j+k))∧
  (AG l 0 0≠34->(DQ br o (AG l 0 0)=true->r=.ok (j+1))/\(DQ br o (AG l 0 0)=false->(∀a e,Bv D q (!q) l=.bad a e->r=.bad (j+a) e)/\∀k,Bv D q (!q) l=.ok k->r=(HN B D br q (f-1) (JR br o (AG l 0 0)) (l.drop k)).on (j+k))):=by
 have hp:=BV.2 hl
 obtain⟨g,rfl⟩:∃g,f=g+1:=⟨f-1,by omega⟩;refine⟨fun h1=>⟨fun a e h2=>?_,fun k h2=>?_⟩,fun h1=>⟨fun h2=>?_,fun h2=>⟨fun a e h3=>?_,fun k h3=>?_⟩⟩⟩
 ·rw[h,HN,AB hl,AI h1,h2];try rfl
 ·rw[h,HN,AB hl,AI h1,h2,Nat.add_sub_cancel];exact LR.on_on _ _ _
 ·rw[DQ]at h2
  rw[h,HN,AB hl,AB h1,AI h2];try rfl
 ·rw[h,HN,AB hl,AB h1,AB (fun h=>by rw[DQ,h]at h2;cases h2),h3];try rfl
 rw[h,HN,AB hl,AB h1,AB (fun h=>by rw[DQ,h]at h2;cases h2),h3,Nat.add_sub_cancel];exact LR.on_on _ _ _
theorem Yp(h:DQ br o b=false)(h2:(!br&&decide (b=41))=true):1<=o:=by
 unfold DQ at h;rw[Ay]at h2;rw[h2.1,h2.2]at h;rcases Nat.eq_zero_or_pos o with h3|h3
 ·subst h3;simp at h
 exact h3
theorem ABz(h:(!br&&decide (b=41)&&decide ((o:Int)=0))=true):DQ br o b=true:=by
 unfold DQ;rw[C4]
 right
 rw[Ay,BC]at h ⊢;exact⟨h.1,by omega⟩
theorem Yt(h1:(br&&decide (b=125))=false)(h:(!br&&decide (b=41)&&decide ((o:Int)=0))=false):DQ br o b=false:=by
 unfold DQ;rw[h1,Bool.false_or]
 cases hx:(!br&&decide (b=41))with
 |false=>rfl
 |true=>
  rw[hx,Bool.true_and,CA]at h;rw[Bool.true_and,CA]
  omega
theorem Qc(m:Nat)(hD:∀n,m=n+1->AEb n/\Q6 n)(b:Nat)(s:List UInt8)(i d:Nat)(q:Bool)(I:AQ)(F:List HA)(w0 w:World)(hm:25-d=m)(hd:d<=30)(hs:s.length<=2305843009213693952)(hi:i+2<=s.length)(BZ:St w0 I (row b 263 (MH s i 0 0)::F) w):YB 157 263 b s i [.int .i64 (d:Int),.bool q] ((lv m).2 q (s.drop i)) I F w:=by
 refine enter func157 O ntmps157 O (BZ.self) (AK O (AUp O (AF (Bd mo (by kernel_rfl) (fun _ _ _ _ _ h=>h) (EA O ?_)))));refine EA O ?_;refine EA O ?_;refine zq O (AM O O O (by omega)) ?_;refine zq O ((by exact Bu O BX O O (by omega))) ?_;refine zq O (Ae O O O O) (De O (AF (AK O (AA O (fun Ab=>?_) (fun Ab=>?_)))))
 ·simp at Ab
  obtain rfl:m=0:=by omega
  refine tr (yc O (fun w hw=>IA b s i i 52 _ _ _ w (Al (row b 263 (MH s i 0 0)) hw)) ?_);rintro _ _ _ ⟨rfl,rfl,rfl⟩;refine AH rfl (AX (Ah (HF (AP rfl rfl (fun w' hw=>?_)))));exact⟨_,rfl,I,_,⟨rfl,false,i,i,52,rfl,(by exact⟨rfl,rfl,rfl⟩),(by omega),rfl⟩,hw⟩
 simp at Ab
 obtain⟨n,rfl⟩:∃n,m=n+1:=⟨m-1,by omega⟩;refine AV (EZ (ι:=Bool) [0,1,6,7,9,27] (fun zz=>zz=Mr (s.drop i)) (fun zz=>[(2,.bool (q&&zz)),(8,.bool zz)]) (fun zz=>I) (fun zz=>(row b 263 (MH s i 0 0)::F)) rfl ?_ ?_)
 ·refine FU ?_
  refine zA 1 O (fun KE=>by
    exact zv O
   ) ?_
  refine K5 1 O (KY (Dd (Mr (s.drop i)) ?_ (A0 O (by unfold Mr;rw[Mx];try rfl) (A0 O (by unfold Mr;rw[Mx];try rfl) (Bk))) (BS O) (fun _ h=>by dsimp only;exact AD h)))
  dsimp only
  all_goals rfl
 rintro br KA
 have Ew:(lv (n+1)).2 q (s.drop i)=(HN (lv n).1 (lv n).2 br (q&&br) (s.drop i).length 0 (s.drop (i+2))).close 2 53:=by show AEv _ _ _ _=_;unfold AEv;rw[Cp,<-KA]
 refine tr (yc O (fun w hw=>GG b s i 2 0 0 _ _ _ w (by omega) hs (by omega) (Al (row b 263 (MH s i 0 0)) hw)) ?_);rintro _ _ _ ⟨rfl,rfl,rfl⟩;refine lnt ?_
 first |refine ATB ?_|refine AY ?_
 refine AS (AF (AJ (EB (ι:=Nat×Nat×Nat) [2,8,0,1,7,27] (fun zz=>i+2<=zz.1/\zz.1<=s.length/\HN (lv n).1 (lv n).2 br (q&&br) (s.drop i).length 0 (s.drop (i+2))=(HN (lv n).1 (lv n).2 br (q&&br) zz.2.2 zz.2.1 (s.drop zz.1)).on (zz.1-(i+2))/\(s.drop zz.1).length<=zz.2.2/\zz.2.1<=zz.1) (fun zz=>s.length-zz.1) (fun zz=>[(9,.int .i64 (zz.2.1:Int))]) (fun zz=>I) (fun zz=>(row b 263 (MH s zz.1 0 0)::F)) (i+2,0,(s.drop i).length) O ?_ ?_ (hh:=(fun _ h=>by dsimp only;rw[show min (i+2) s.length=i+2 by omega]at h;exact AD h)))))
 ·dsimp only;refine⟨A5 _,by omega,by rw[Nat.sub_self,LR.on_zero],by rw[BA,BA];omega,Aw _⟩
 rintro⟨j,o,g⟩ ⟨hj1,W7,hx,NM,hoj⟩;dsimp only at *;refine AF (AF (Bd mo (by kernel_rfl) (fun _ _ _ _ _ h=>h) (EA rfl ?_)));refine EA rfl ?_;refine zq rfl (AW rfl BX rfl) (De rfl (AA rfl (fun An=>?_) (fun An=>?_)))
 ·simp at An
  have hj:j<s.length:=by omega
  have IC:=ADI hx (EQ hj) NM
  refine AV (AJ (EZ (ι:=Nat) [2,8,0,1,7,27,46] (fun zz=>zz=JR br o (AG s j 0)/\AG s j 0≠34/\DQ br o (AG s j 0)=false/\zz<=j+1) (fun zz=>[(9,.int .i64 (zz:Int))]) (fun zz=>I) (fun zz=>(row b 263 (MH s j 0 0)::F)) O ?_ ?_))
  ·refine AF (Bd mo (by kernel_rfl) (fun _ _ _ _ _ h=>h) (EA O ?_));refine EA O ?_;refine zq O ((by exact AZ O BX O O (by omega))) ?_;refine De O (AJ (tr (yq O (Ae O O O O) (AH O (AA O (fun A6=>?_) (fun A6=>?_))))))
   ·simp only[BC]at A6
    have A6:AG s j 0=34:=A6
    have Cz:=IC.1 (by rw[Ej];exact A6)
    have Lq:=(GM n).1 _ (EQ hj)
    refine AF (tr (yq O (AM O O O (by omega)) ?_));refine yc O (fun w hw=>(hD n O).1 b s j (d+1) _ _ _ w (by omega) (by omega) hs hj (Al (row b 263 (MH s j 0 0)) hw)) ?_;rintro _ _ _ ⟨rfl,ok62,i62,a62,e62,rfl,Adl,Abs,rfl⟩;refine AH rfl (AA rfl (fun BJ=>?_) (fun BJ=>?_))
    ·have hk:ok62=false:=by simpa using BJ
     obtain⟨a,h1,h2⟩:=Adl.f hk
     have h3:=Cz.1 a e62 h1
     refine AK O (AX (Ah (A4 (Ah (A4 (Ah (A4 (Ah (HF ?_)))))))));refine AP O O (fun w' hw=>?_);exact⟨_,O,I,_,⟨O,false,i62,a62,e62,O,(by rw[Ew,h3];exact⟨O,(by show _=i+(2+(j-(i+2)+a));omega),O⟩),Abs,O⟩,hw⟩
    have hk:ok62=true:=by simpa using BJ
    obtain⟨k,h1,rfl,rfl,rfl⟩:=Adl.t hk
    have h3:=Cz.2 k h1
    rw[h1]at Lq;rw[Cp]at h3;refine AV (Av (GT O (AE (AO (DJ ((j+k,o,g-1)) ?_ ?_)))))
    ·dsimp only
     have h4:1<=k:=Lq.1
     refine⟨by omega,Abs,by rw[h3];congr 1;omega,?_,by omega⟩;rw[BA]at NM ⊢
     omega
    dsimp only
    have h4:1<=k:=Lq.1
    show s.length-(j+k)<s.length-j
    omega
   simp only[CA]at A6
   have A6:¬AG s j 0=34:=A6
   refine AF (tq ?_)
   refine zA 2 O (fun h69=>by
     refine zq O (Ae O O O O) ?_;exact zv O
    ) ?_
   refine De O (AA O (fun Bj=>?_) (fun Bj=>?_))
   ·refine AV (AA O (fun B4=>?_) (fun B4=>?_))
    ·have FW:DQ br o (AG s j 0)=true:=by rw[DQ,C4];exact .inl Bj
     have DD:=(IC.2 (by rw[Ej];exact A6)).1 (by rw[Ej];exact FW)
     refine tr (yc O (fun w hw=>GG b s j 1 0 0 _ _ _ w (by omega) hs (by omega) (Al (row b 263 (MH s j 0 0)) hw)) ?_);rintro _ _ _ ⟨rfl,rfl,rfl⟩;refine DL (AH rfl (AX (A4 (Ah (A4 (Ah (A4 (Ah (HF ?_)))))))));refine AP rfl rfl (fun w' hw=>?_);exact⟨_,rfl,I,_,⟨rfl,true,(min (j+1) s.length),0,0,rfl,(by rw[Ew,DD];exact⟨rfl,(by show _=i+(2+(j-(i+2)+1));omega),rfl,rfl⟩),(by omega),rfl⟩,hw⟩
    exfalso
    rw[Bj]at B4
    cases B4
   refine FU ?_
   refine zA 2 O (fun h75=>by
     simp at h75
     refine zq O (Ae O O O O) ?_;exact zv O
    ) ?_
   refine zA 2 O (fun h79=>by
     simp at h79
     exact zv O
    ) ?_
   refine De O (AA O (fun CP=>?_) (fun CP=>?_))
   ·have FW:DQ br o (AG s j 0)=true:=ABz CP
    have DD:=(IC.2 (by rw[Ej];exact A6)).1 (by rw[Ej];exact FW)
    refine tr (yc O (fun w hw=>GG b s j 1 0 0 _ _ _ w (by omega) hs (by omega) (Al (row b 263 (MH s j 0 0)) hw)) ?_);rintro _ _ _ ⟨rfl,rfl,rfl⟩;refine DL (AH rfl (AX (A4 (Ah (A4 (Ah (A4 (Ah (HF ?_)))))))));refine AP rfl rfl (fun w' hw=>?_);exact⟨_,rfl,I,_,⟨rfl,true,(min (j+1) s.length),0,0,rfl,(by rw[Ew,DD];exact⟨rfl,(by show _=i+(2+(j-(i+2)+1));omega),rfl,rfl⟩),(by omega),rfl⟩,hw⟩
   have FW:DQ br o (AG s j 0)=false:=Yt Bj CP
   refine tq ?_
   refine zA 2 O (fun h88=>by
     simp at h88
     refine zq O (Ae O O O O) ?_;exact zv O
    ) ?_
   refine De O (AA O (fun DF=>?_) (fun DF=>?_))
   ·have DF:(!br&&decide (AG s j 0=41))=true:=DF
    refine AC (yq O (Bl O O O (by omega)) ?_);refine AU O (AL (Dd (o-1) ?_ (A0 O (B3 (Value.int IntKind.i64) (by have:=Yp FW DF;omega)) (Bk)) (BS O) (fun _ h=>by dsimp only;exact AD h)))
    refine⟨by rw[JR,AI DF],A6,FW,by omega⟩
   have DF:(!br&&decide (AG s j 0=41))=false:=DF
   refine tq ?_
   refine zA 2 O (fun h97=>by
     simp at h97
     refine zq O (Ae O O O O) ?_;exact zv O
    ) ?_
   refine De O (AA O (fun GQ=>?_) (fun GQ=>?_))
   ·have GQ:(!br&&decide (AG s j 0=40))=true:=GQ
    refine AC (yq O (AM O O O (by omega)) ?_);refine AU O (AL (CB (o+1) ?_))
    refine⟨by rw[JR,AB (fun h=>by rw[h]at DF;cases DF),AI GQ],A6,FW,by omega⟩
   have GQ:(!br&&decide (AG s j 0=40))=false:=GQ
   refine AY (AL (CB (o) ?_))
   refine⟨by rw[JR,AB (fun h=>by rw[h]at DF;cases DF),AB (fun h=>by rw[h]at GQ;cases GQ)],A6,FW,by omega⟩
  rintro o2 ⟨ho2,Ahd,FW,Anz⟩;rw[Ej]at IC
  have Cz:=(IC.2 Ahd).2 FW
  have Lq:=Kx (dlr:=(lv n).2) (q:=(q&&br)) (apo:= !(q&&br)) (GM n).2 (EQ hj)
  refine tr (yc O (fun w hw=>Rb n (hD n O).2 b s j d (q&&br) (!(q&&br)) _ _ _ w (by omega) (by omega) hs hj (Al (row b 263 (MH s j 0 0)) hw)) ?_);rintro _ _ _ ⟨rfl,ok105,i105,a105,e105,rfl,AWC,AWM,rfl⟩;refine AH rfl (AA rfl (fun KD=>?_) (fun KD=>?_))
  ·have hk:ok105=false:=by simpa using KD
   obtain⟨a,h1,h2⟩:=AWC.f hk
   have h3:=Cz.1 a e105 h1
   refine AK O (AX (A4 (Ah (A4 (Ah (HF (AP O O (fun w' hw=>?_))))))));exact⟨_,O,I,_,⟨O,false,i105,a105,e105,O,(by rw[Ew,h3];exact⟨O,(by show _=i+(2+(j-(i+2)+a));omega),O⟩),AWM,O⟩,hw⟩
  have hk:ok105=true:=by simpa using KD
  obtain⟨k,h1,rfl,rfl,rfl⟩:=AWC.t hk
  have h3:=Cz.2 k h1
  rw[h1]at Lq;rw[Cp,<-ho2]at h3;refine AY (AL (DJ ((j+k,o2,g-1)) ?_ ?_))
  ·dsimp only
   have h4:1<=k:=Lq.1
   refine⟨by omega,AWM,by rw[h3];congr 1;omega,?_,by omega⟩;rw[BA]at NM ⊢
   omega
  dsimp only
  have h4:1<=k:=Lq.1
  show s.length-(j+k)<s.length-j
  omega
 simp at An
 obtain rfl:j=s.length:=by omega
 rw[K7,ACV]at hx;refine Av (AE (AE (AO (AS (tr (yc O (fun w hw=>IA b s s.length i 53 _ _ _ w (Al (row b 263 (MH s s.length 0 0)) hw)) ?_))))));rintro _ _ _ ⟨rfl,rfl,rfl⟩;refine AH rfl (AX (HF (AP rfl rfl (fun w' hw=>?_))));exact⟨_,rfl,I,_,⟨rfl,false,s.length,i,53,rfl,(by rw[Ew,hx];exact⟨rfl,rfl,rfl⟩),(by omega),rfl⟩,hw⟩
theorem Ud:∀m,AEb m/\Q6 m
 |0=>⟨fun b s i d I F w0 w h1 h2 h3 h4 h5=>P6 0 (fun n h=>by cases h) b s i d I F w0 w h1 h2 h3 h4 h5,fun b s i d q I F w0 w h1 h2 h3 h4 h5=>Qc 0 (fun n h=>by cases h) b s i d q I F w0 w h1 h2 h3 h4 h5⟩
 |m+1=>⟨fun b s i d I F w0 w h1 h2 h3 h4 h5=>P6 (m+1) (fun n h=>by cases h;exact(Ud m).2) b s i d I F w0 w h1 h2 h3 h4 h5,fun b s i d q I F w0 w h1 h2 h3 h4 h5=>Qc (m+1) (fun n h=>by cases h;exact Ud m) b s i d q I F w0 w h1 h2 h3 h4 h5⟩
end Go.Tri
