/-
 A reader of words: its small steps.
-/
import Derived.Test.YtbndcpjklngfhaaGreatDoorEA4
import Derived.Test.YtbndcpjklngfhaaGreatDoorPWord7
namespace Go.Tri
open Go.Proofs.Tryz
open Go.Proofs Go.RowKit
set_option maxRecDepth 10000
variable {t:List UInt8} {q:Bool} {w0:World} {v:Value} {i:Nat}
def GR(s:List UInt8)(kd dp:Nat)(v:Value):List Value:=[Au s,.int .i64 (kd:Int),.int .i64 (dp:Int),v]
def ASn(v:Value)(n:Nat):Option Addr:=if n=0 then none else some ⟨(Eb v).block,(Eb v).off+(n-1) * 5,none⟩
def AFZ(v:Value)(n:Nat):Prop:= ∃A c,v=.slice A n c/\(0<n->∀a,A=some a->a.spot=none)/\(0<n->A≠none)
theorem AEH(b:Nat)(s:List UInt8)(kd dp:Nat)(v:Value)(n:Nat)(w:World)(hn:n<=1000000000)(hb:Iy w b (GR s kd dp v))(hv:AFZ v n):B2 prog 134 [.pointer (some ⟨b,3,none⟩)] w (.pointer (ASn v n)):=by
 refine enter func134 O ntmps134 O (St.start w (Ao w) (Le.refl _)) (AK O (AF (tr (yq O ((by exact Ai O O (A8 (hb 3 _ O)))) ?_))));refine yq O ((by exact BH O E5 O (Gf hv))) ?_;refine AH O (AA O (fun Ab=>?_) (fun Ab=>?_))
 ·simp at Ab
  have NZ:n=0:=by omega
  refine AK O (Ak (AP O O (fun w' hw=>?_)));refine⟨?_,hw.below⟩;rw[ASn,AI NZ]
 simp at Ab
 have NZ:¬n=0:=by omega
 refine AV (AF (Bd mo (by kernel_rfl) (fun _ _ _ _ _ h=>h) (zq O ((by exact Ai O O (A8 (hb 3 _ O)))) ?_)));refine zq O ((by exact Ai O O (A8 (hb 3 _ O)))) ?_;refine zq O ((by exact BH O E5 O (Gf hv))) ?_;refine zq O (Bl O O O (by omega)) ?_;refine zq O ((by exact Bq O E5 BU O O (hv) (by omega))) ?_;refine De O (AX (AP O O (fun w' hw=>?_)));refine⟨?_,hw.below⟩;rw[ASn,AB NZ,show((n:Int)-1).toNat=n-1 by omega]
theorem AVb(b:Nat)(s:List UInt8)(kd dp:Nat)(v:Value)(w:World)(hb:Iy w b (GR s kd dp v))(hv:AFZ v 0):B2 prog 134 [.pointer (some ⟨b,3,none⟩)] w (.pointer none):=AEH b s kd dp v 0 w (by omega) hb hv
theorem AOk(b:Nat)(s:List UInt8)(kd dp:Nat)(v:Value)(n:Nat)(w:World)(hn:n<=1000000000)(h0:0<n)(hb:Iy w b (GR s kd dp v))(hv:AFZ v n):B2 prog 134 [.pointer (some ⟨b,3,none⟩)] w (.pointer (some ⟨(Eb v).block,(Eb v).off+(n-1) * 5,none⟩)):=by
 have h:=AEH b s kd dp v n w hn hb hv
 rw[ASn,AB (by omega)]at h;exact h
theorem GJ(b:Nat)(s:List UInt8)(kd dp:Nat)(v:Value)(w:World)(hb:Iy w b (GR s kd dp v)):B2 prog 105 [.pointer (some ⟨b,0,none⟩)] w (.bool (decide (kd≠0))):=by
 refine enter func105 O ntmps105 O (St.start w (Ao w) (Le.refl _)) (AK O (tr (yq O ((by exact Ai O O (A8 (hb 1 _ O)))) ?_)));refine AH O (AX (AP O O (fun w' hw=>?_)));refine⟨?_,hw.below⟩
 by_cases h:kd=0
 ·subst h;rfl
 rw[BK h,BK (by omega)]
theorem ATb{L:List PE}(h0:0<L.length)(h:(true&&decide (((AG L (L.length-1) Ct).kind:Int)=1)&&((AG L (L.length-1) Ct).q==q))=true):ES L t q=L.set (L.length-1) {AG L (L.length-1) Ct with text:=(AG L (L.length-1) Ct).text++t}:=by
 simp only[Bool.true_and,Ay,BC,beq_iff_eq]at h;rw[ES,AI ⟨List.ne_nil_of_length_pos h0,by omega,h.2⟩]
theorem ARo{L:List PE}(h:(true&&decide (((AG L (L.length-1) Ct).kind:Int)=1)&&((AG L (L.length-1) Ct).q==q))=false):ES L t q=L++[⟨1,t,[],As,[],q⟩]:=by
 rw[ES,AB];rintro⟨_,h1,h2⟩;rw[h1,h2]at h
 simp at h
theorem ARx(b:Nat)(s:List UInt8)(kd dp:Nat)(v:Value)(L:List PE)(t:List UInt8)(q:Bool)(I:AQ)(F:List HA)(w0 w:World)(hn:L.length<=1000000000)(ht:t.length<=1000000000)(h0:L.length=0)(BZ:St w0 I (row b 164 (GR s kd dp v)::Ap 147 5 Aa v L::F) w):Calls prog 104 [.pointer (some ⟨b,0,none⟩),Au t,.bool q].toArray w (fun e w'=> ∃v0,e=.returned v0/\∃I' H',(I=I'/\v0=.tuple #[]/\∃v',H'=row b 164 (GR s kd dp v')::Ap 147 5 Aa v' (ES L t q)::F)/\St w I' H' w'):=by
 have hE:ES L t q=L++[⟨1,t,[],As,[],q⟩]:=by rw[ES,AB (fun h=>h.1 (List.eq_nil_of_length_eq_zero h0))]
 refine enter func104 O ntmps104 O (BZ.self) (AF (AF (Tj v (fun Ew=>?_))));refine AC (yp O ((fun w hw=>AVb b s kd dp v w (B5 hw) (h0 ▸ Ew))) (AH O (tq (zq O (VG O (by kernel_rfl) O O) (K5 1 O ?_)))))
 refine ART 5 2 13 19 18 _ false O O O O O O (fun h19=>by
   cases h19
  ) (Fi O) O O O ?_
 refine K5 1 O ?_
 refine ART 6 9 20 27 26 _ false O O O O O O (fun h27=>by
   cases h27
  ) (Fi O) O O O ?_
 refine Dp (AA O (fun Ab=>?_) (fun Ab=>?_))
 ·cases Ab
 refine AV (Bo [8,9,11,14] [11,14] [row b 164 (GR s kd dp v)] mo (by kernel_rfl) (fun _ _ _ _ _ h=>h) (xr [0,1,2] O O (x0 3 O (Le.refl _) O (fun _ hI=>Az O O (by rfl)) ?_)));refine xr [4,5] O O (xf 6 O O (fun _=>C0 (pl:=[(_,_),(_,_),(_,_),(_,_),(_,_)]) (cs:=(Aa ⟨1,t,[],As,[],q⟩).toArray) O DG BU ⟨O,⟨_,_,I2⟩,O,⟨_,_,Co⟩,O,⟨_,_,Co⟩,O,⟨_,_,XA⟩,O,⟨_,_,NL⟩,trivial⟩ O O) ?_);refine xf 7 O O (fun _=>(by exact BH O E5 O (Gf Ew))) ?_;refine xe 8 O O (BD O E5 BU O O O (by rfl) O) ?_;rintro _ _ _ ⟨b44,rfl,rfl,rfl⟩;refine xk ?_;refine xe 9 rfl rfl (B8 (f:=Aa) (c:=Ct) rfl E5 BU rfl rfl rfl rfl rfl rfl rfl (by exact A9 (I:=I) (Be I)) (by simp only[maxLen];omega) (by omega)) ?_;rintro v45 _ _ ⟨rfl,rfl⟩;refine xk ?_
 have AXj:(L++[Ct]).length=L.length+1:=by simp
 refine Fd v45 (fun AQF Ma=>?_);refine xf 10 O O (fun _=>(by exact AN O E5 BU O O (AQF) (by omega))) ?_;refine xr [12,13] O O (Gp 11 14 (by kernel_rfl) (by kernel_rfl) ?_ ?_)
 ·refine Tx 11 O O (Le.refl _) O O (Df (⟨1,t,[],As,[],q⟩) O BU O O (A9 (I:=I) (Be I)) (fun _=>rfl) (by simp) (by decide)) ?_;rintro _ _ _ ⟨rfl,rfl⟩;refine⟨Le.refl _,.inl rfl,?_⟩;refine Bx (H':=Ap 147 5 Aa v45 (L++[⟨1,t,[],As,[],q⟩])::_) ?_ (fun _ h=>by rw[FX]at h;exact h);refine FP 14 (by kernel_rfl) (by kernel_rfl) rfl (Le.refl _) rfl rfl (Bz rfl MD rfl rfl (by assumption) rfl (by rfl)) ?_;rintro _ _ _ ⟨rfl,rfl⟩;refine⟨Le.refl _,.inl rfl,?_⟩;refine Bx (H':=row b 164 (GR s kd dp v45)::_) ?_ (fun _ h=>h);refine CX (EK rfl (fun w' hw=>?_));rw[hE];exact⟨_,rfl,I,row b 164 (GR s kd dp v45)::Ap 147 5 Aa v45 (L++[⟨1,t,[],As,[],q⟩])::F,⟨rfl,rfl,v45,rfl⟩,AD hw⟩
 refine Tx 14 O O (Le.refl _) O O (Bz O MD O O (by assumption) O (by rfl)) ?_;rintro _ _ _ ⟨rfl,rfl⟩;refine⟨Le.refl _,.inl rfl,?_⟩;refine Bx (H':=row b 164 (GR s kd dp v45)::_) ?_ (fun _ h=>h);refine FP 11 (by kernel_rfl) (by kernel_rfl) rfl (Le.refl _) rfl rfl (Df (⟨1,t,[],As,[],q⟩) rfl BU rfl rfl (A9 (I:=I) (Be I)) (fun _=>rfl) (by simp) (by decide)) ?_;rintro _ _ _ ⟨rfl,rfl⟩;refine⟨Le.refl _,.inl rfl,?_⟩;refine Bx (H':=Ap 147 5 Aa v45 (L++[⟨1,t,[],As,[],q⟩])::_) ?_ (fun _ h=>by rw[FX]at h;exact h);refine CX (EK rfl (fun w' hw=>?_));rw[hE];exact⟨_,rfl,I,row b 164 (GR s kd dp v45)::Ap 147 5 Aa v45 (L++[⟨1,t,[],As,[],q⟩])::F,⟨rfl,rfl,v45,rfl⟩,AD hw⟩
theorem APx(b:Nat)(s:List UInt8)(kd dp:Nat)(v:Value)(L:List PE)(t:List UInt8)(q:Bool)(I:AQ)(F:List HA)(w0 w:World)(hn:L.length<=1000000000)(ht:t.length<=1000000000)(h0:0<L.length)(hx:(AG L (L.length-1) Ct).text.length<=1000000000)(BZ:St w0 I (row b 164 (GR s kd dp v)::Ap 147 5 Aa v L::F) w):Calls prog 104 [.pointer (some ⟨b,0,none⟩),Au t,.bool q].toArray w (fun e w'=> ∃v0,e=.returned v0/\∃I' H',(I=I'/\v0=.tuple #[]/\∃v',H'=row b 164 (GR s kd dp v')::Ap 147 5 Aa v' (ES L t q)::F)/\St w I' H' w'):=by
 refine enter func104 O ntmps104 O (BZ.self) (AF (AF (Tj v (fun Ew=>?_))));refine AC (yp O ((fun w hw=>AOk b s kd dp v L.length w (by omega) h0 (B5 hw) Ew)) ?_);refine AH O (tq (zq O (VG O (by kernel_rfl) O O) ?_))
 refine zA 5 O (fun h19=>by
   simp at h19
   refine zq O ((by exact LH O un3 O O (Z5 (fo:=0) (f:=Aa) (d:=Ct) (fun _=>rfl) (show L.length-1<L.length by omega) O))) ?_;exact zv O
  ) ?_
 refine zA 6 O (fun h27=>by
   simp at h27
   refine zq O ((by exact LH O un4 O O (Z5 (fo:=4) (f:=Aa) (d:=Ct) (fun _=>rfl) (show L.length-1<L.length by omega) O))) ?_;refine zq O (Ph O un4 O O) ?_;exact zv O
  ) ?_
 refine Dp (AA O (fun Ab=>?_) (fun Ab=>?_))
 ·have hE:ES L t q=L.set (L.length-1) {AG L (L.length-1) Ct with text:=(AG L (L.length-1) Ct).text++t}:=ATb h0 Ab
  refine tr ?_;refine yq O ((by exact LH O BX O O (Z5 (fo:=1) (f:=Aa) (d:=Ct) (fun _=>rfl) (show L.length-1<L.length by omega) O))) ?_;refine yq O (F1 O O O (by omega)) ?_;refine y0 O (ACU Ct {AG L (L.length-1) Ct with text:=(AG L (L.length-1) Ct).text++t} rfl Co O O (by exact⟨O,O⟩) (fun _=>rfl) (by omega) O O) ?_;rintro _ _ _ ⟨rfl,rfl⟩;refine ln (Ak (I7 rfl (fun w' hw=>?_)));rw[hE];exact⟨_,rfl,I,_,⟨rfl,rfl,v,rfl⟩,AD hw⟩
 have hE:ES L t q=L++[⟨1,t,[],As,[],q⟩]:=ARo Ab
 refine AV (Bo [8,9,11,14] [11,14] [row b 164 (GR s kd dp v)] mo (by kernel_rfl) (fun _ _ _ _ _ h=>h) (xr [0,1,2] O O ?_));refine x0 3 O (Le.refl _) O (fun _ hI=>(by exact Az O O (by rfl))) ?_;refine xr [4,5] O O (xf 6 O O (fun _=>C0 (pl:=[(_,_),(_,_),(_,_),(_,_),(_,_)]) (cs:=(Aa ⟨1,t,[],As,[],q⟩).toArray) O DG BU ⟨O,⟨_,_,I2⟩,O,⟨_,_,Co⟩,O,⟨_,_,Co⟩,O,⟨_,_,XA⟩,O,⟨_,_,NL⟩,trivial⟩ O O) ?_);refine xf 7 O O (fun _=>(by exact BH O E5 O (Gf Ew))) ?_;refine xe 8 O O (BD O E5 BU O O O (by rfl) O) ?_;rintro _ _ _ ⟨b44,rfl,rfl,rfl⟩;refine xk ?_;refine xe 9 rfl rfl (B8 (f:=Aa) (c:=Ct) rfl E5 BU rfl rfl rfl rfl rfl rfl rfl (by exact A9 (I:=I) (Be I)) (by simp only[maxLen];omega) (by omega)) ?_;rintro v45 _ _ ⟨rfl,rfl⟩;refine xk ?_
 have AXj:(L++[Ct]).length=L.length+1:=by simp
 refine Fd v45 (fun AQF Ma=>?_);refine xf 10 O O (fun _=>(by exact AN O E5 BU O O (AQF) (by omega))) ?_;refine xr [12,13] O O (Gp 11 14 (by kernel_rfl) (by kernel_rfl) ?_ ?_)
 ·refine Tx 11 O O (Le.refl _) O O (Df (⟨1,t,[],As,[],q⟩) O BU O O (A9 (I:=I) (Be I)) (fun _=>rfl) (by simp) (by decide)) ?_;rintro _ _ _ ⟨rfl,rfl⟩;refine⟨Le.refl _,.inl rfl,?_⟩;refine Bx (H':=Ap 147 5 Aa v45 (L++[⟨1,t,[],As,[],q⟩])::_) ?_ (fun _ h=>by rw[FX]at h;exact h);refine FP 14 (by kernel_rfl) (by kernel_rfl) rfl (Le.refl _) rfl rfl (Bz rfl MD rfl rfl (by assumption) rfl (by rfl)) ?_;rintro _ _ _ ⟨rfl,rfl⟩;refine⟨Le.refl _,.inl rfl,?_⟩;refine Bx (H':=row b 164 (GR s kd dp v45)::_) ?_ (fun _ h=>h);refine CX (EK rfl (fun w' hw=>?_));rw[hE];exact⟨_,rfl,I,row b 164 (GR s kd dp v45)::Ap 147 5 Aa v45 (L++[⟨1,t,[],As,[],q⟩])::F,⟨rfl,rfl,v45,rfl⟩,AD hw⟩
 refine Tx 14 O O (Le.refl _) O O (Bz O MD O O (by assumption) O (by rfl)) ?_;rintro _ _ _ ⟨rfl,rfl⟩;refine⟨Le.refl _,.inl rfl,?_⟩;refine Bx (H':=row b 164 (GR s kd dp v45)::_) ?_ (fun _ h=>h);refine FP 11 (by kernel_rfl) (by kernel_rfl) rfl (Le.refl _) rfl rfl (Df (⟨1,t,[],As,[],q⟩) rfl BU rfl rfl (A9 (I:=I) (Be I)) (fun _=>rfl) (by simp) (by decide)) ?_;rintro _ _ _ ⟨rfl,rfl⟩;refine⟨Le.refl _,.inl rfl,?_⟩;refine Bx (H':=Ap 147 5 Aa v45 (L++[⟨1,t,[],As,[],q⟩])::_) ?_ (fun _ h=>by rw[FX]at h;exact h);refine CX (EK rfl (fun w' hw=>?_));rw[hE];exact⟨_,rfl,I,row b 164 (GR s kd dp v45)::Ap 147 5 Aa v45 (L++[⟨1,t,[],As,[],q⟩])::F,⟨rfl,rfl,v45,rfl⟩,AD hw⟩
theorem HE(b:Nat)(s:List UInt8)(kd dp:Nat)(v:Value)(L:List PE)(t:List UInt8)(q:Bool)(I:AQ)(F:List HA)(w0 w:World)(hn:L.length<=1000000000)(ht:t.length<=1000000000)(hx:∀x∈L,x.text.length<=1000000000)(BZ:St w0 I (row b 164 (GR s kd dp v)::Ap 147 5 Aa v L::F) w):Calls prog 104 [.pointer (some ⟨b,0,none⟩),Au t,.bool q].toArray w (fun e w'=> ∃v0,e=.returned v0/\∃I' H',(I=I'/\v0=.tuple #[]/\∃v',H'=row b 164 (GR s kd dp v')::Ap 147 5 Aa v' (ES L t q)::F)/\St w I' H' w'):=by
 rcases Nat.eq_zero_or_pos L.length with h|h
 ·exact ARx b s kd dp v L t q I F w0 w hn ht h BZ
 exact APx b s kd dp v L t q I F w0 w hn ht h (hx _ (BE (by omega))) BZ
theorem AAt{I:AQ}{H:List HA}{l:List PE}(h:Sl I 5 v (l.map Aa))(hi:i<l.length):Rds w0 I H (Eb v).block ((Eb v).off+i * 5) (Aa (AG l i Ct)):=h.rds (CN l Aa Ct hi)
theorem WS{I:AQ}{H:List HA}{l:List PE}(h:Sl I 5 v (l.map Aa)){j:Nat}{u:Value}(hi:i<l.length)(hu:(Aa (AG l i Ct))[j]? =some u):Rd w0 I H (Eb v).block ((Eb v).off+i * 5+j) u:=h.rd (CN l Aa Ct hi) hu
theorem ACp(L:List PE)(t:List UInt8)(q:Bool):Gl (ES L t q)=Gl L+t.length:=by rw[<-IW,Fz,Hi,IW]
theorem ADv(M L:List PE):Gl (FZ L M)=Gl L+Gl M:=by rw[<-IW,Q4,WD,IW,IW]
theorem ZC(M:List PE)(i:Nat):Gl (M.take i)<=Gl M:=by
 conv=>rhs;rw[<-Iu i M,APK]
 omega
theorem IJ{L M:List PE}(h:i<M.length):FZ L (M.take (i+1))=if(AG M i Ct).kind=1 then ES (FZ L (M.take i)) (AG M i Ct).text (AG M i Ct).q else FZ L (M.take i)++[AG M i Ct]:=by
 rw[C6 Ct h,Xx]
theorem AKv(b:Nat)(s:List UInt8)(kd dp:Nat)(v:Value)(L M:List PE)(vl:Value)(I:AQ)(F:List HA)(w0 w:World)(hn:L.length+M.length<=1000000000)(hs:Gl L+Gl M<=1000000000)(Wl:Sl I 5 vl (M.map Aa))(Wj:Cg I M)(BZ:St w0 I (row b 164 (GR s kd dp v)::Ap 147 5 Aa v L::F) w):Calls prog 130 [.pointer (some ⟨b,0,none⟩),vl].toArray w (fun e w'=> ∃v0,e=.returned v0/\∃I' H',(I=I'/\v0=.tuple #[]/\∃v',H'=row b 164 (GR s kd dp v')::Ap 147 5 Aa v' (FZ L M)::F)/\St w I' H' w'):=by
 refine enter func130 O ntmps130 O (BZ.self) (tr ?_);refine yq O ((by exact BH O Fw O (Sl.lenOf Wl (Af _)))) ?_;refine AH O (AJ (EB (ι:=Nat×Value) [0,1,6,7] (fun zz=>zz.1<=M.length) (fun zz=>M.length-zz.1) (fun zz=>[(8,.int .i64 (zz.1:Int))]) (fun zz=>I) (fun zz=>(row b 164 (GR s kd dp zz.2)::Ap 147 5 Aa zz.2 (FZ L (M.take zz.1))::F)) (0,v) O ?_ ?_ (hh:=(fun _ h=>by dsimp only;rw[Qo];exact h))))
 ·dsimp only;exact Aw _
 rintro⟨i,v'⟩ hi;dsimp only at *
 have Oi:=WH (M.take i) L
 have Wi:=ADv (M.take i) L
 have hb3:=ZC M i
 have hb4:(M.take i).length<=M.length:=by rw[BL];omega
 refine AK O (AF (AA O (fun Ab=>?_) (fun Ab=>?_)))
 ·simp at Ab
  have hiM:i<M.length:=by omega
  refine AV (AF (AJ (tr ?_)));refine yq O ((by exact AN O Fw BU O O (Sl.shape Wl (Af _)) (by omega))) ?_;refine yq O ((by exact Br O DG BU O O (AAt (i:=i) Wl (by omega)))) ?_
  refine HO _ O fun b5=>?_
  refine El _ O ?_ (by exact A9 (Wj _ (BE (by omega))));refine DL (DE O ?_);refine AH O (AA O (fun An=>?_) (fun An=>?_))
  ·simp at An
   have hk:(AG M i Ct).kind=1:=by omega
   refine AC (DE O ?_);refine DE O ?_;refine yc O (fun w hw=>HE b s kd dp v' (FZ L (M.take i)) (AG M i Ct).text (AG M i Ct).q _ _ _ w (by omega) (by have:=D4 (BE (l:=M) (i:=i) (d:=Ct) (by omega));omega) (fun x hx=>by have:=D4 hx;omega) (Bm (row b 164 (GR s kd dp v')) (Ap 147 5 Aa v' (FZ L (M.take i))) hw)) ?_;rintro _ _ _ ⟨rfl,rfl,v20,rfl⟩;refine C7 (AL (AS (AC (yq rfl (AM rfl rfl rfl (by omega)) ?_))));refine AU rfl (DJ ((i+1,v20)) ?_ ?_ (hh:=(fun _ h=>by dsimp only;rw[IJ hiM,AI hk];exact AD h)))
   ·dsimp only;exact hiM
   dsimp only
   show M.length-(i+1)<M.length-i
   omega
  simp at An
  have hk:¬(AG M i Ct).kind=1:=by omega
  refine Tj v' (fun Ew=>?_);refine Bo [6,7,9,12] [9,12] [row b 164 (GR s kd dp v'),row b5 147 (Aa (AG M i Ct))] mo (by kernel_rfl) (fun _ _ _ _ _ h=>h) (xr [0,1,2] O O (x0 3 O (Le.refl _) O (fun _ hI=>Az O O (by rfl)) ?_));refine x0 4 O (Le.refl _) O (fun _ hI=>(by exact A7 O DG BU O O O)) ?_;refine xf 5 O O (fun _=>(by exact BH O E5 O (Gf Ew))) ?_;refine xe 6 O O (BD O E5 BU O O O (by rfl) O) ?_;rintro _ _ _ ⟨b27,rfl,rfl,rfl⟩;refine xk ?_;refine xe 7 rfl rfl (B8 (f:=Aa) (c:=Ct) rfl E5 BU rfl rfl rfl rfl rfl rfl rfl (by exact A9 (I:=I) (Be I)) (by simp only[maxLen];omega) (by omega)) ?_;rintro v28 _ _ ⟨rfl,rfl⟩;refine xk ?_
  have AhZ:((FZ L (M.take i))++[Ct]).length=(FZ L (M.take i)).length+1:=by simp
  refine Fd v28 (fun AcD Ma=>?_);refine xf 8 O O (fun _=>(by exact AN O E5 BU O O (AcD) (by omega))) ?_;refine xr [10,11] O O (Gp 9 12 (by kernel_rfl) (by kernel_rfl) ?_ ?_)
  ·refine Tx 9 O O (Le.refl _) O O (Df ((AG M i Ct)) O BU O O (A9 (Wj _ (BE (by omega)))) (fun _=>rfl) (by simp) (by decide)) ?_;rintro _ _ _ ⟨rfl,rfl⟩;refine⟨Le.refl _,.inl rfl,?_⟩;refine Bx (H':=Ap 147 5 Aa v28 ((FZ L (M.take i))++[(AG M i Ct)])::_) ?_ (fun _ h=>by rw[FX]at h;exact h);refine FP 12 (by kernel_rfl) (by kernel_rfl) rfl (Le.refl _) rfl rfl (Bz rfl MD rfl rfl (by assumption) rfl (by rfl)) ?_;rintro _ _ _ ⟨rfl,rfl⟩;refine⟨Le.refl _,.inl rfl,?_⟩;refine Bx (H':=row b 164 (GR s kd dp v28)::_) ?_ (fun _ h=>h);refine CX (AL (AS (AC (yq rfl (AM rfl rfl rfl (by omega)) ?_))));refine AU rfl (DJ ((i+1,v28)) ?_ ?_ (hh:=(fun _ h=>by dsimp only;rw[IJ hiM,AB hk];exact AD h)))
   ·dsimp only;exact hiM
   dsimp only
   show M.length-(i+1)<M.length-i
   omega
  refine Tx 12 O O (Le.refl _) O O (Bz O MD O O (by assumption) O (by rfl)) ?_;rintro _ _ _ ⟨rfl,rfl⟩;refine⟨Le.refl _,.inl rfl,?_⟩;refine Bx (H':=row b 164 (GR s kd dp v28)::_) ?_ (fun _ h=>h);refine FP 9 (by kernel_rfl) (by kernel_rfl) rfl (Le.refl _) rfl rfl (Df ((AG M i Ct)) rfl BU rfl rfl (A9 (Wj _ (BE (by omega)))) (fun _=>rfl) (by simp) (by decide)) ?_;rintro _ _ _ ⟨rfl,rfl⟩;refine⟨Le.refl _,.inl rfl,?_⟩;refine Bx (H':=Ap 147 5 Aa v28 ((FZ L (M.take i))++[(AG M i Ct)])::_) ?_ (fun _ h=>by rw[FX]at h;exact h);refine CX (AL (AS (AC (yq rfl (AM rfl rfl rfl (by omega)) ?_))));refine AU rfl (DJ ((i+1,v28)) ?_ ?_ (hh:=(fun _ h=>by dsimp only;rw[IJ hiM,AB hk];exact AD h)))
  ·dsimp only;exact hiM
  dsimp only
  show M.length-(i+1)<M.length-i
  omega
 simp at Ab
 have hiM:i=M.length:=by omega
 refine Av (AE (AE (AO (EK O (fun w' hw=>?_)))));rw[hiM,Gb]at hw;exact⟨_,O,I,_,⟨O,O,v',O⟩,AD hw⟩
end Go.Tri
