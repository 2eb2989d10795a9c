/-
 Files: what is there.
-/
import Derived.Test.YtbndcpjklngfhaaGreatDoorEC4
import Derived.Test.YtbndcpjklngfhaaGreatDoorPExV
namespace Go.Tri
open Go.Proofs.Tryz
open Go.Proofs Go.RowKit
set_option maxRecDepth 10000
variable {sz i b j:Nat} {α:Type} {v:Value} {w0:World} {l:List (List UInt8)}
structure Ne where
 nd:Nd
 nv:Value
 iv:Value
def Bi:Ne:=⟨JI,As,As⟩
def Io(x:Ne):List Value:=[.int .i64 x.nd.kind,.int .i64 x.nd.mode,.int .i64 x.nd.links,.int .i64 x.nd.holds,.int .i64 x.nd.parent,Au x.nd.data,x.nv,x.iv]
def inC(k:Int):List Value:=[.int .i64 k]
theorem HZ(k:Int):∀u∈inC k,u.oneCell'=true:=fun u hu=>by
 rw[inC,FK]at hu;subst hu;rfl
structure G8(I:AQ)(x:Ne):Prop where
 nv:Sl I 1 x.nv (x.nd.names.map Ce)
 iv:Sl I 1 x.iv (x.nd.inos.map inC)
theorem G8.mono{I J:AQ}{x:Ne}(h:G8 I x)(CH:Le I J):G8 J x:=⟨h.nv.mono CH,h.iv.mono CH⟩
theorem G8.ones{I:AQ}{x:Ne}(h:G8 I x):∀u∈Io x,u.oneCell'=true:=fun u hu=>by
 simp only[Io,Ci,List.not_mem_nil,or_false]at hu;rcases hu with rfl|rfl|rfl|rfl|rfl|rfl|rfl|rfl
 ·rfl
 ·rfl
 ·rfl
 ·rfl
 ·rfl
 ·rfl
 ·exact h.nv.one.2
 exact h.iv.one.2
theorem Hn{I:AQ}:Sl I sz As []:=E3 (fun _ h=>by cases h)
theorem AFF{I:AQ}:G8 I Bi:=⟨E3 (fun _ h=>by cases h),E3 (fun _ h=>by cases h)⟩
theorem AJF{l:List α}{d:α}(h:l.length<=i):AG l i d=d:=by
 show l.getD i d=d
 rw[Cy,List.getElem?_eq_none h];try rfl
theorem Fx(L:List Ne)(i:Nat):AG (L.map Ne.nd) i JI=(AG L i Bi).nd:=by
 rcases Nat.lt_or_ge i L.length with h|h
 ·rw[CT (by rw[Af];exact h),CT h,List.getElem_map]
 rw[AJF (by rw[Af];exact h),AJF h];try rfl
structure FsW(w:World)(b:Nat)(v:Value)(L:List Ne):Prop where
 row:Iy w b [v]
 sl:Sl (Ao w) 8 v (L.map Io)
 ok:∀x∈L,G8 (Ao w) x
 len:L.length<=1000000
theorem FsW.mono{w w':World}{L:List Ne}(k:FsW w b v L)(CH:Le (Ao w) (Ao w')):FsW w' b v L:=⟨k.row.mono CH,k.sl.mono CH,fun x hx=>(k.ok x hx).mono CH,k.len⟩
theorem Mu{I:AQ}{H:List HA}{l:List Ne}(h:Sl I 8 v (l.map Io)){u:Value}(hi:i<l.length)(hu:(Io (AG l i Bi))[j]? =some u):Rd w0 I H (Eb v).block ((Eb v).off+i * 8+j) u:=h.rd (CN l Io Bi hi) hu
theorem AQO{I:AQ}{H:List HA}{l:List Ne}(h:Sl I 8 v (l.map Io))(hi:i<l.length):Rds w0 I H (Eb v).block ((Eb v).off+i * 8) (Io (AG l i Bi)):=h.rds (CN l Io Bi hi)
theorem AeO{I:AQ}{H:List HA}{l:List Int}(h:Sl I 1 v (l.map inC))(hi:i<l.length):Rd w0 I H (Eb v).block ((Eb v).off+i * 1) (.int .i64 (AG l i 0)):=h.rd (j:=0) (CN l inC 0 hi) rfl
theorem AeV{f:α->List Value}{l:List α}{w:World}{I:AQ}{H F:List HA}{T:TypeId}(hw:St w0 I H w)[hp:Dx v T sz l.length (l.map f).flatten F H](hu:∀c,(f c).length=sz):Sl (Ao w) sz v (l.map f):=by
 obtain⟨J,_,h2,h3⟩:=KB (hw.perm hp.pick) (by simp) (fun cs H8=>by obtain⟨c,_,rfl⟩:=FL.1 H8;exact hu c);exact h3.mono h2.le
theorem AMt{I:AQ}{H:List HA}{L:List Ne}(hm:Ap 87 8 Io v L∈H)(hi:i<L.length):Rds w0 I H (Eb v).block ((Eb v).off+i * 8) (Io (AG L i Bi)):=fun j u hj=>by
 rw[Nat.add_assoc];exact AMW hm (OQ (f:=Io) (sz:=8) (fun _=>rfl) (CN L Io Bi hi) hj)
theorem V7{I:AQ}{f:α->List Value}{l:List α}(h:Sl I sz v (l.map f))(hi:i<=l.length):Sl I sz (F7 sz 0 i v) ((l.take i).map f):=by
 have:=Sl.cutM h (Aw i) hi
 rwa [PB,Nat.sub_zero]at this
@[reducible] def fsH(b:Nat)(v:Value)(L:List Ne)(F:List HA):List HA:=row b 90 [v]::Ap 87 8 Io v L::F
theorem ZQ{w:World}{I:AQ}{H F:List HA}{L:List Ne}(hw:St w0 I H w)(DD:∀x∈L,G8 I x)(hl:L.length<=1000000)[E2 b 90 [v] H][Dx v 87 8 L.length (L.map Io).flatten F H]:FsW w b v L:=⟨B5 (T:=90) hw,AeV hw (fun _=>rfl),fun x hx=>(DD x hx).mono hw.le,hl⟩
theorem U5{L:List Ne}(h:i<L.length):M1 ((L.take (i+1)).map Ne.nd)=M1 ((L.take i).map Ne.nd)+if 0<(AG L i Bi).nd.kind then 1 else 0:=by
 rw[C6 Bi h,Gm];unfold M1;rw[List.filter_append,Bh]
 congr 1
 rw[List.map_singleton,List.filter_cons]
 by_cases hk:0<(AG L i Bi).nd.kind
 ·rw[AI hk,AI (BK hk)];try rfl
 rw[AB hk,AB (by simpa using hk)];try rfl
theorem AVq{L:List Ne}{i:Int}(h:isN (L.map Ne.nd) i=true):0<i/\i<L.length:=by
 have:=APW h
 rwa [Af]at this
theorem ACs(b:Nat)(v:Value)(L:List Ne)(w:World)(k:FsW w b v L)(a:Int):B2 prog 78 [.pointer (some ⟨b,0,none⟩),.int .i64 a] w (.bool (isN (L.map Ne.nd) a)):=by
 have UU:=k.len
 refine enter func78 O ntmps78 O (St.start w (Ao w) (Le.refl _)) (AK O (tq ?_))
 refine zA 7 O (fun h15=>by
   simp at h15
   refine zq O ((by exact Ai O O (A8 (k.row 0 _ O)))) ?_;refine zq O ((by exact BH O Jt O (Sl.lenOf k.sl (Af _)))) ?_;exact zv O
  ) ?_
 refine zA 9 O (fun h26=>by
   simp at h26
   have h9:0<a/\a<(L.length:Int):=by omega
   refine zq O ((by exact Ai O O (A8 (k.row 0 _ O)))) ?_;refine zq O ((by exact Bq O Jt Ij O O (Sl.shape k.sl (Af _)) (by omega))) ?_;refine zq O ((by exact Ai O O (Mu (i:=a.toNat) (j:=0) k.sl (by omega) O))) ?_;exact zv O
  ) ?_
 refine De O (AX (AP O O (fun w' hw=>?_)));refine⟨?_,hw.below⟩;unfold isN;rw[Fx,Af]
theorem ALn(b:Nat)(v:Value)(L:List Ne)(w:World)(k:FsW w b v L)(a:Int):B2 prog 99 [.pointer (some ⟨b,0,none⟩),.int .i64 a] w (.bool (AKl (L.map Ne.nd) a)):=by
 have UU:=k.len
 refine enter func99 O ntmps99 O (St.start w (Ao w) (Le.refl _)) (AK O (tq (zp O ((fun w hw=>ACs b v L w (k.mono hw.le) a)) ?_)))
 refine zA 9 O (fun h18=>by
   have h9:=AVq h18
   refine zq O ((by exact Ai O O (A8 (k.row 0 _ O)))) ?_;refine zq O ((by exact Bq O Jt Ij O O (Sl.shape k.sl (Af _)) (by omega))) ?_;refine zq O ((by exact Ai O O (Mu (i:=a.toNat) (j:=0) k.sl (by omega) O))) ?_;exact zv O
  ) ?_
 refine De O (AX (AP O O (fun w' hw=>?_)));refine⟨?_,hw.below⟩;unfold AKl;rw[Fx]
theorem Og(b:Nat)(v:Value)(L:List Ne)(w:World)(k:FsW w b v L)(a x:Int):B2 prog 57 [.pointer (some ⟨b,0,none⟩),.int .i64 a,.int .i64 x] w (.bool (RP (L.map Ne.nd) a x)):=by
 have UU:=k.len
 refine enter func57 O ntmps57 O (St.start w (Ao w) (Le.refl _)) (AK O (AF (tq (zp O ((fun w hw=>ACs b v L w (k.mono hw.le) a)) ?_))))
 refine zO 2 O (fun h14=>by
   simp at h14
   exact zv O
  ) ?_
 refine zO 2 O (fun h18=>by
   simp at h18
   exact zv O
  ) ?_
 refine Dp (AA O (fun Ab=>?_) (fun Ab=>?_))
 ·refine AK O (Ak (AP O O (fun w' hw=>?_)));refine⟨?_,hw.below⟩;unfold RP;rw[AI Ab]
 have h1:isN (L.map Ne.nd) a=true:=by
  cases h9:isN (L.map Ne.nd) a with
  |true=>rfl
  |false=>rw[h9]at Ab;simp at Ab
 have h2:=AVq h1
 refine AV (tr (yq O ((by exact Ai O O (A8 (k.row 0 _ O)))) ?_));refine yq O ((by exact Bq O Jt Ij O O (Sl.shape k.sl (Af _)) (by omega))) ?_;refine yq O ((by exact Ai O O (Mu (i:=a.toNat) (j:=1) k.sl (by omega) O))) ?_;refine yq O (AJT O O O (by decide)) ?_;refine yq O (AHz O O O (by decide)) ?_;refine yq O (TZ O O O) (AH O (AX (AP O O (fun w' hw=>?_))));refine⟨?_,hw.below⟩;unfold RP;rw[AB (by rw[Ab];simp),Fx]
 rfl
theorem U2(p:List UInt8)(w:World)(hp:p.length<=1000000000):B2 prog 55 [Au p] w (.bool (OD p)):=by
 refine enter func55 O ntmps55 O (St.start w (Ao w) (Le.refl _)) (AK O (tq (zq O (Bs O O O) ?_)))
 refine zA 6 O (fun Tv=>by
   simp at Tv
   have PU:0<p.length:=BV.2 Tv
   refine zq O (AW O BX O) (zq O (Bl O O O (by omega)) ?_);refine zq O ((by exact Bu O BX O O (by omega))) ?_;refine zq O (Ae O O O O) ?_;exact zv O
  ) ?_
 refine De O (AX (AP O O (fun w' hw=>?_)));refine⟨?_,hw.below⟩;unfold OD
 by_cases h0:p=[]
 ·subst h0;rfl
 have PU:=BV.2 h0
 rw[show((p.length:Int)-1).toNat=p.length-1 by omega]
 try rfl
theorem WZ(b:Nat)(v:Value)(L:List Ne)(w:World)(k:FsW w b v L)(a:Int)(ha:0<=a/\a<L.length)(n:List UInt8)(Dg:(AG L a.toNat Bi).nd.inos.length=(AG L a.toNat Bi).nd.names.length)(hnl:(AG L a.toNat Bi).nd.names.length<=1000000000):B2 prog 56 [.pointer (some ⟨b,0,none⟩),.int .i64 a,Au n] w (.int .i64 (Qr (AG L a.toNat Bi).nd n)):=by
 have UU:=k.len
 have hxm:(AG L a.toNat Bi)∈L:=BE (by omega)
 have DD:=k.ok _ hxm
 refine enter func56 O ntmps56 O (St.start w (Ao w) (Le.refl _)) (AK O (tr (yq O ((by exact Ai O O (A8 (k.row 0 _ O)))) ?_)));refine yq O ((by exact Bq O Jt Ij O O (Sl.shape k.sl (Af _)) (by omega))) ?_;refine yq O ((by exact Br O AVY Ij O O (AQO (i:=a.toNat) k.sl (by omega)))) ?_
 refine HO _ O fun b7=>?_
 refine El (Io (AG L a.toNat Bi)) O ?_ (by exact DD.ones);refine XN (AH O (AJ (EB (ι:=Nat) [0,1,2,7] (fun zz=>zz<=(AG L a.toNat Bi).nd.names.length/\∀j,j<zz->AG (AG L a.toNat Bi).nd.names j []≠n) (fun zz=>(AG L a.toNat Bi).nd.names.length-zz) (fun zz=>[(8,.int .i64 (zz:Int))]) (fun zz=>Ao w) (fun zz=>[row b7 87 (Io (AG L a.toNat Bi))]) 0 O ?_ ?_)))
 ·exact⟨Aw _,fun j h=>Ac h (Nat.not_lt_zero _)⟩
 rintro i ⟨hi,Cz⟩;dsimp only at *;refine AF (tr (yq rfl ((by exact Az rfl rfl (by rfl))) ?_));refine yq rfl ((by exact BH rfl BT rfl (Sl.lenOf DD.nv (Af _)))) ?_;refine AH rfl (AA rfl (fun Ab=>?_) (fun Ab=>?_))
 ·simp at Ab
  have DK:i<(AG L a.toNat Bi).nd.names.length:=by omega
  refine AV (AF (AJ (tr (yq O ((by exact Az O O (by rfl))) ?_))));refine yq O ((by exact AN O BT Co O O (Sl.shape DD.nv (Af _)) (by omega))) ?_;refine yq O ((by exact Ai O O (Et (i:=i) DD.nv (by omega)))) ?_;refine yq O (AR O O O) (ln (AA O (fun An=>?_) (fun An=>?_)))
  ·simp only[BC]at An;refine tr (yq O ((by exact Az O O (by rfl))) ?_);refine yq O ((by exact AN O NU I2 O O (Sl.shape DD.iv (Af _)) (by omega))) ?_;refine yq O ((by exact Ai O O (AeO (i:=i) DD.iv (by omega)))) ?_;refine AH O (Ak (AP O O (fun w' hw=>?_)));refine⟨?_,hw.below⟩;rw[AUd DK An Cz]
  simp only[CA]at An;refine AY (AL (AS (AC (yq O (AM O O O (by omega)) ?_))));refine AU O (DJ (i+1) ?_ ?_)
  ·refine⟨by omega,fun j hj=>?_⟩;rcases Nat.lt_succ_iff_lt_or_eq.1 hj with h|rfl
   ·exact Cz j h
   exact An
  show _-(i+1)<_-i
  omega
 simp at Ab
 have DK:i=(AG L a.toNat Bi).nd.names.length:=by omega
 refine Av (AE (AE (AO (AS (AK O (AX (AP O O (fun w' hw=>?_))))))));refine⟨?_,hw.below⟩;rw[AQq (fun j hj=>Cz j (by omega))]
theorem V9(b:Nat)(v:Value)(L:List Ne)(w:World)(k:FsW w b v L)(a:Int)(ha:0<=a/\a<L.length)(q:List UInt8)(hq:q.length<=1000000000)(Dg:(AG L a.toNat Bi).nd.inos.length=(AG L a.toNat Bi).nd.names.length)(hnl:(AG L a.toNat Bi).nd.names.length<=1000000000):B2 prog 77 [.pointer (some ⟨b,0,none⟩),.int .i64 a,Au q] w (.tuple #[.int .i64 (Fe (L.map Ne.nd) a q).1,.int .i64 (Fe (L.map Ne.nd) a q).2]):=by
 have UU:=k.len
 have hxm:(AG L a.toNat Bi)∈L:=BE (by omega)
 have DD:=k.ok _ hxm
 have WJ:=Fx L a.toNat
 refine enter func77 O ntmps77 O (St.start w (Ao w) (Le.refl _)) (AK O (tr (yq O ((by exact Ai O O (A8 (k.row 0 _ O)))) ?_)));refine yq O ((by exact Bq O Jt Ij O O (Sl.shape k.sl (Af _)) (by omega))) ?_;refine yq O ((by exact Br O AVY Ij O O (AQO (i:=a.toNat) k.sl (by omega)))) ?_
 refine HO _ O fun b8=>?_
 refine El (Io (AG L a.toNat Bi)) O ?_ (by exact DD.ones);refine lnt (AJ (tr (yq O ((by exact Az O O (by rfl))) ?_)));refine AH O (AA O (fun Ab=>?_) (fun Ab=>?_))
 ·refine AK O (Ak (Aj O O O (fun w' hw=>?_)));refine⟨?_,hw.below⟩;unfold Fe;rw[WJ]
  try rw[AB (show ¬32<q.length by omega)]
  simp_all
 refine tr (yp O ((fun w hw=>Og b v L w (k.mono hw.le) a 1)) (AH O (AA O (fun An=>?_) (fun An=>?_))))
 ·refine AK O (Ak (Aj O O O (fun w' hw=>?_)));refine⟨?_,hw.below⟩;unfold Fe;rw[WJ]
  try rw[AB (show ¬32<q.length by omega)]
  simp_all
 refine tr (yq O (AR O O O) (AH O (AA O (fun A6=>?_) (fun A6=>?_))))
 ·refine AK O (Ak (Aj O O O (fun w' hw=>?_)));refine⟨?_,hw.below⟩;unfold Fe;rw[WJ]
  try rw[AB (show ¬32<q.length by omega)]
  simp_all
 refine tq (zq O (AR O O O) ?_)
 refine zA 3 O (fun h37=>by
   simp at h37
   refine zq O ((by exact Az O O (by rfl))) ?_;exact zv O
  ) ?_
 refine De O (AA O (fun BJ=>?_) (fun BJ=>?_))
 ·refine AK O (Ak (Aj O O O (fun w' hw=>?_)));refine⟨?_,hw.below⟩;unfold Fe;rw[WJ]
  try rw[AB (show ¬32<q.length by omega)]
  simp_all
 refine tr (yq O (AR O O O) (AH O (AA O (fun Bj=>?_) (fun Bj=>?_))))
 ·refine tr (yq O ((by exact Az O O (by rfl))) ?_);refine AH O (Ak (Aj O O O (fun w' hw=>?_)));refine⟨?_,hw.below⟩;unfold Fe;rw[WJ]
  try rw[AB (show ¬32<q.length by omega)]
  simp_all
 refine tr (yq O (AW O BX O) (AH O (AA O (fun B4=>?_) (fun B4=>?_))))
 ·simp at B4
  have h32:32<q.length:=by omega
  refine AK O (Ak (Aj O O O (fun w' hw=>?_)));refine⟨?_,hw.below⟩;unfold Fe;rw[WJ]
  try rw[AB (show ¬32<q.length by omega)]
  simp_all
 simp at B4
 have h32:¬32<q.length:=by omega
 refine AY (AL (AS (tr (yp O ((fun w hw=>WZ b v L w (k.mono hw.le) a ha q Dg hnl)) (AH O (AF (AK O (AA O (fun CP=>?_) (fun CP=>?_)))))))))
 ·refine AK O (Ak (Aj O O O (fun w' hw=>?_)));refine⟨?_,hw.below⟩;unfold Fe;rw[WJ]
  try rw[AB (show ¬32<q.length by omega)]
  simp_all
 refine AV (AK O (AX (Aj O O O (fun w' hw=>?_))));refine⟨?_,hw.below⟩;unfold Fe;rw[WJ]
 try rw[AB (show ¬32<q.length by omega)]
 simp_all
theorem TR(b:Nat)(v:Value)(L:List Ne)(w:World)(k:FsW w b v L)(a:Int)(p:List UInt8)(hp:p.length<=1000000000):B2 prog 75 [.pointer (some ⟨b,0,none⟩),.int .i64 a,Au p] w (.tuple #[.int .i64 (Cv (L.map Ne.nd) a p).1,.int .i64 (Cv (L.map Ne.nd) a p).2]):=by
 have UU:=k.len
 refine enter func75 O ntmps75 O (St.start w (Ao w) (Le.refl _)) (AK O (AF (AJ (tr (yp O ((fun w hw=>ALn b v L w (k.mono hw.le) a)) (AH O (AA O (fun Ab=>?_) (fun Ab=>?_))))))))
 ·refine AK O (Ak (Aj O O O (fun w' hw=>?_)));refine⟨?_,hw.below⟩;unfold Cv
  try rw[AB (show ¬256<p.length by omega)]
  simp_all
 refine tr (yq O (AR O O O) (AH O (AA O (fun An=>?_) (fun An=>?_))))
 ·refine AK O (Ak (Aj O O O (fun w' hw=>?_)));refine⟨?_,hw.below⟩;unfold Cv
  try rw[AB (show ¬256<p.length by omega)]
  simp_all
 have PU:0<p.length:=BV.2 (BW An)
 refine tr (yq O (AW O BX O) (AH O (AA O (fun A6=>?_) (fun A6=>?_))))
 ·simp at A6
  have AiA:256<p.length:=by omega
  refine AK O (Ak (Aj O O O (fun w' hw=>?_)));refine⟨?_,hw.below⟩;unfold Cv
  try rw[AB (show ¬256<p.length by omega)]
  simp_all
 simp at A6
 have AiA:¬256<p.length:=by omega
 refine tr (yq O ((by exact AZ O BX O O (by omega))) ?_);refine yq O (Ae O O O O) (AH O (AA O (fun BJ=>?_) (fun BJ=>?_)))
 ·refine AK O (Ak (Aj O O O (fun w' hw=>?_)));refine⟨?_,hw.below⟩;unfold Cv
  try rw[AB (show ¬256<p.length by omega)]
  simp_all
 refine AY (AL (AS (AK O (AX (Aj O O O (fun w' hw=>?_))))));refine⟨?_,hw.below⟩;unfold Cv
 try rw[AB (show ¬256<p.length by omega)]
 simp_all
theorem ABc(b:Nat)(v:Value)(L:List Ne)(w:World)(k:FsW w b v L):B2 prog 58 [.pointer (some ⟨b,0,none⟩)] w (.int .i64 (M1 (L.map Ne.nd):Int)):=by
 have UU:=k.len
 refine enter func58 O ntmps58 O (St.start w (Ao w) (Le.refl _)) (AK O (AK O (AF (AK O (AJ (EB (ι:=Nat×Nat) [0,2] (fun zz=>zz.1<=L.length/\zz.2=M1 ((L.take zz.1).map Ne.nd)/\zz.2<=zz.1) (fun zz=>L.length-zz.1) (fun zz=>[(4,.int .i64 (zz.1:Int)),(3,.int .i64 (zz.2:Int))]) (fun zz=>Ao w) (fun zz=>[]) (0,0) O ?_ ?_))))))
 ·dsimp only;exact⟨Aw _,O,A5 _⟩
 rintro⟨i,c⟩ ⟨hi,hcn,hci⟩;dsimp only at *;refine AF (tr (yq rfl ((by exact Ai rfl rfl (A8 (k.row 0 _ rfl)))) ?_));refine yq rfl ((by exact BH rfl Jt rfl (Sl.lenOf k.sl (Af _)))) ?_;refine AH rfl (AA rfl (fun Ab=>?_) (fun Ab=>?_))
 ·simp at Ab
  have DK:i<L.length:=by omega
  refine AV (AF (AJ (tr (yq O ((by exact Ai O O (A8 (k.row 0 _ O)))) ?_))));refine yq O ((by exact AN O Jt Ij O O (Sl.shape k.sl (Af _)) (by omega))) ?_;refine yq O ((by exact Ai O O (Mu (i:=i) (j:=0) k.sl (by omega) O))) ?_;refine AH O (AA O (fun An=>?_) (fun An=>?_))
  ·simp at An
   refine AC (yq O (AM O O O (by omega)) ?_);refine AU O (AL (AS (AC (yq O (AM O O O (by omega)) ?_))));refine AU O (DJ ((i+1,c+1)) ?_ ?_)
   ·dsimp only;exact⟨by omega,by rw[U5 DK,AI (by omega),<-hcn],by omega⟩
   dsimp only
   show L.length-(i+1)<L.length-i
   omega
  simp at An
  refine AY (AL (AS (AC (yq O (AM O O O (by omega)) ?_))));refine AU O (DJ ((i+1,c)) ?_ ?_)
  ·dsimp only;exact⟨by omega,by rw[U5 DK,AB (by omega),<-hcn];rfl,by omega⟩
  dsimp only
  show L.length-(i+1)<L.length-i
  omega
 simp at Ab
 have DK:i=L.length:=by omega
 refine Av (AE (AE (AO (AS (AK O (AX (AP O O (fun w' hw=>?_))))))));refine⟨?_,hw.below⟩;rw[hcn,DK,Gb]
theorem PG(p:List UInt8)(hp:p.length<=1000000000)(I:AQ)(F:List HA)(w0 w:World)(BZ:St w0 I F w):Calls prog 76 [Au p].toArray w (ER w fun v I' H'=>Le I I'/\F=H'/\Sl I' 1 v ((BQ p).map Ce)):=by
 refine enter func76 O ntmps76 O (BZ.self) (AK O (AK O (AK O (AF (AK O (AJ (EB (ι:=Nat×Nat×List (List UInt8)×Value) [0,2] (fun zz=>zz.1<=p.length+1/\KP p zz.1=(zz.2.2.1,zz.2.1)/\zz.2.1<=zz.1/\zz.2.2.1.length<=zz.1) (fun zz=>p.length+1-zz.1) (fun zz=>[(5,.int .i64 (zz.1:Int)),(4,.int .i64 (zz.2.1:Int)),(3,zz.2.2.2)]) (fun zz=>I) (fun zz=>(Ap 9 1 Ce zz.2.2.2 zz.2.2.1::F)) (0,0,[],.slice none 0 0) O ?_ ?_ (hh:=(fun _ h=>CI 9 1 Ce (AD h))))))))))
 ·dsimp only;exact⟨Aw _,O,A5 _,A5 _⟩
 rintro⟨i,fr,l,vo⟩ ⟨hi,hpc,hfr,UU⟩;dsimp only at *;refine AF (tr (yq rfl (AW rfl BX rfl) (AH rfl (AA rfl (fun Ab=>?_) (fun Ab=>?_)))))
 ·simp at Ab
  have DK:i<=p.length:=by omega
  refine AV (AF (AJ (tq (zq O (AW O BX O) ?_))))
  refine zO 4 O (fun h21=>by
    simp at h21
    have Alv:i<p.length:=by omega
    refine zq O ((by exact AZ O BX O O (by omega))) ?_;refine zq O (Ae O O O O) ?_;exact zv O
   ) ?_
  refine Dp (AA O (fun An=>?_) (fun An=>?_))
  ·have H8:i=p.length\/AG p i 0=47:=by
    rw[C4,BC]at An;rcases An with h|h
    ·left;omega
    right;exact BM h
   refine AF (AK O (AA O (fun A6=>?_) (fun A6=>?_)))
   ·simp at A6
    refine AC (yq O (CK O BX O O O (by omega)) ?_);refine NF _ O (fun b30=>?_) (by rfl);refine V4 (f:=Ce) (((p.drop fr).take (i-fr))) O (fun v31=>?_) (B1 _) (by simp only[maxLen];omega) (by omega);refine AH O (AC (yq O (AM O O O (by omega)) ?_));refine AU O (AL (AS (AC (yq O (AM O O O (by omega)) ?_))));refine AU O (DJ ((i+1,i+1,l++[(p.drop fr).take (i-fr)],v31)) ?_ ?_)
    ·dsimp only;exact⟨by omega,by rw[KP,AI H8,hpc,AI (by show fr<i;omega)],A5 _,by simp;omega⟩
    dsimp only
    show p.length+1-(i+1)<p.length+1-i
    omega
   simp at A6
   refine AV (AC (yq O (AM O O O (by omega)) ?_));refine AU O (AL (AS (AC (yq O (AM O O O (by omega)) ?_))));refine AU O (DJ ((i+1,i+1,l,vo)) ?_ ?_)
   ·dsimp only;exact⟨by omega,by rw[KP,AI H8,hpc,AB (by show ¬fr<i;omega)],A5 _,by omega⟩
   dsimp only
   show p.length+1-(i+1)<p.length+1-i
   omega
  have H8:¬(i=p.length\/AG p i 0=47):=by
   rw[Bool.or_eq_false_iff,CA]at An;rintro(h|h)
   ·exact An.1 (by omega)
   exact(BW An.2) h
  refine AY (AL (AS (AC (yq O (AM O O O (by omega)) ?_))));refine AU O (DJ ((i+1,fr,l,vo)) ?_ ?_)
  ·dsimp only;exact⟨by omega,by rw[KP,AB H8,hpc],by omega,by omega⟩
  dsimp only
  show p.length+1-(i+1)<p.length+1-i
  omega
 simp at Ab
 have DK:i=p.length+1:=by omega
 refine Av (AE (AE (AO (AS (AF (Bf (f:=Ce) (l:=l) vo (fun _=>rfl) (fun Jf IL Rm=>?_)))))));refine AC (AH O (AX (AP O O (fun w' hw=>?_))));exact⟨_,O,Jf,F,⟨IL,O,by unfold BQ;rw[<-DK,hpc];exact Rm⟩,AD hw⟩
theorem AMX{L:List Ne}(hw:NG (L.map Ne.nd))(h:i<L.length):(AG L i Bi).nd.inos.length=(AG L i Bi).nd.names.length:=hw.len _ (FL.2 ⟨_,BE h,rfl⟩)
def Q9(L:List Ne):Prop:=∀x∈L,x.nd.names.length<=1000000
theorem PS{L:List Ne}{a:Int}(h:0<=a/\a<((L.map Ne.nd).length:Int)):0<=a/\a<L.length:=by rwa [Af]at h
theorem VE(fs:List Nd)(a:Int)(l:List (List UInt8))(i m:Nat)(hi:i<m)(hm:m<=l.length):EJ fs a ((l.take m).drop i)=if(Fe fs a (AG l i [])).2≠0 then(0,(Fe fs a (AG l i [])).2)else EJ fs (Fe fs a (AG l i [])).1 ((l.take m).drop (i+1)):=by
 have h1:i<(l.take m).length:=by rw[BL];omega
 have h2:AG (l.take m) i []=AG l i []:=by rw[CT h1,CT (by omega),List.getElem_take]
 rw[Bg [] h1,EJ,h2]
theorem ALT(fs:List Nd)(a:Int)(l:List (List UInt8))(i m:Nat)(hi:m<=i):EJ fs a ((l.take m).drop i)=(a,0):=by
 rw[E4 (by rw[BL];omega),EJ]
theorem AXb(h:((decide ((l.length:Int)=0)||decide (AG l (((l.length:Int)-1).toNat) []=[46]))||decide (AG l (((l.length:Int)-1).toNat) []=[46,46]))=true):l=[]\/G9 l=[46]\/G9 l=[46,46]:=by
 have Eg:((l.length:Int)-1).toNat=l.length-1:=by omega
 rw[Eg,C4,C4,BC,BC,BC]at h;rcases h with (h|h)|h
 ·exact .inl (List.eq_nil_of_length_eq_zero (by omega))
 ·exact .inr (.inl h)
 exact .inr (.inr h)
theorem AYT(h:((decide ((l.length:Int)=0)||decide (AG l (((l.length:Int)-1).toNat) []=[46]))||decide (AG l (((l.length:Int)-1).toNat) []=[46,46]))=false):¬(l=[]\/G9 l=[46]\/G9 l=[46,46]):=by
 have Eg:((l.length:Int)-1).toNat=l.length-1:=by omega
 rw[Eg,Bool.or_eq_false_iff,Bool.or_eq_false_iff,CA,CA,CA]at h;rintro(h9|h9|h9)
 ·exact h.1.1 (by rw[h9];try rfl)
 ·exact h.1.2 h9
 exact h.2 h9
theorem AAQ(p:List UInt8)(i:Nat):(KP p i).1.length<=i/\(KP p i).2<=i/\∀x∈(KP p i).1,x.length<=p.length:=by
 induction i with
 |zero=>exact⟨A5 _,A5 _,fun x hx=>by cases hx⟩
 |succ i ih=>
  obtain⟨h1,h2,h3⟩:=ih;rw[KP]
  split
  ·refine⟨?_,A5 _,?_⟩
   ·show(if _ then _ else _:List (List UInt8)).length<=_
    split
    ·rw[Bh,KZ];omega
    omega
   intro x hx
   have hx:x∈(if(KP p i).2<i then(KP p i).1++[(p.drop (KP p i).2).take (i-(KP p i).2)]else(KP p i).1):=hx
   split at hx
   ·rcases Ic.1 hx with h|h
    ·exact h3 x h
    rw[FK.1 h,BL,BA];omega
   exact h3 x hx
  exact⟨by omega,by omega,h3⟩
theorem ABr(b:Nat)(v:Value)(L:List Ne)(w:World)(k:FsW w b v L)(NK:NG (L.map Ne.nd))(Hy:Q9 L)(d:Int)(p:List UInt8)(hp:p.length<=100000000):B2 prog 54 [.pointer (some ⟨b,0,none⟩),.int .i64 d,Au p] w (.tuple #[.int .i64 (B7 (L.map Ne.nd) d p).1,Au (B7 (L.map Ne.nd) d p).2.1,.int .i64 (B7 (L.map Ne.nd) d p).2.2]):=by
 have UU:=k.len
 have EU:=AAQ p (p.length+1)
 have AkN:(BQ p).length<=p.length+1:=EU.1
 have Ey:∀x∈BQ p,x.length<=p.length:=EU.2.2
 refine enter func54 O ntmps54 O (St.start w (Ao w) (Le.refl _)) (AK O (tr (yp O ((fun w hw=>TR b v L w (k.mono hw.le) d p (by omega))) ?_)));refine AH O (AF (AK O (AA O (fun Ab=>?_) (fun Ab=>?_))))
 ·simp at Ab
  have NW:(Cv (L.map Ne.nd) d p).2≠0:=by omega
  refine AK O (Ak (Cu O O O O (fun w' hw=>?_)));refine⟨?_,hw.below⟩;rw[HG,AI NW]
  rfl
 simp at Ab
 have NW:(Cv (L.map Ne.nd) d p).2=0:=by omega
 refine AV (tr (yc O (fun w hw=>PG p (by omega) _ _ _ w hw) ?_));rintro v24 J24 _ ⟨R3,rfl,P0⟩;refine AH rfl (AF (AK rfl (AJ (EB (ι:=Nat×Int) [0,1,2,21,11] (fun zz=>zz.1<=(BQ p).length/\(0<=zz.2/\zz.2<L.length)/\(EJ (L.map Ne.nd) (Cv (L.map Ne.nd) d p).1 ((BQ p).take ((BQ p).length-1)))=EJ (L.map Ne.nd) zz.2 (((BQ p).take ((BQ p).length-1)).drop zz.1)) (fun zz=>(BQ p).length-zz.1) (fun zz=>[(12,.int .i64 (zz.1:Int)),(9,.int .i64 zz.2)]) (fun zz=>J24) (fun zz=>[]) (0,(Cv (L.map Ne.nd) d p).1) rfl ?_ ?_))))
 ·dsimp only;exact⟨Aw _,PS (QZ NK NW),O⟩
 rintro⟨i,a⟩ ⟨hi,ha,CS⟩;dsimp only at *;refine AF (tr (yq rfl (AM rfl rfl rfl (by omega)) ?_));refine yq rfl ((by exact BH rfl BT rfl (Sl.lenOf P0 (Af _)))) ?_;refine AH rfl (AA rfl (fun An=>?_) (fun An=>?_))
 ·simp at An
  have DK:i+1<(BQ p).length:=by omega
  refine AV (AF (AJ (tr ?_)));refine yq O ((by exact AN O BT Co O O (Sl.shape P0 (Af _)) (by omega))) ?_;refine yq O ((by exact Ai O O (Et (i:=i) P0 (by omega)))) ?_;refine yp O ((fun w hw=>V9 b v L w (k.mono (R3.trans hw.le)) a ha (AG (BQ p) i []) (by have:=Ey _ (BE (d:=[]) (show i<(BQ p).length by omega));omega) (AMX NK (by omega)) (by have:=Hy _ (BE (d:=Bi) (show a.toNat<L.length by omega));omega))) ?_;refine AH O (AK O (AA O (fun A6=>?_) (fun A6=>?_)))
  ·simp at A6
   have hse:(Fe (L.map Ne.nd) a (AG (BQ p) i [])).2≠0:=by omega
   rw[VE _ _ _ _ _ (by omega) (by omega),AI hse]at CS;refine AK O (Ak (Cu O O O O (fun w' hw=>?_)));refine⟨?_,(hw.less R3).below⟩;rw[HG,AB (by rw[NW];simp),show QM (L.map Ne.nd) d p=_ from CS,AI hse]
   rfl
  simp at A6
  have hse:(Fe (L.map Ne.nd) a (AG (BQ p) i [])).2=0:=by omega
  refine AY (AL (AS (AC (yq O (AM O O O (by omega)) ?_))));refine AU O (DJ ((i+1,(Fe (L.map Ne.nd) a (AG (BQ p) i [])).1)) ?_ ?_)
  ·dsimp only;refine⟨by omega,PS (ZO NK (by rwa [Af]) _),?_⟩;rw[CS,VE _ _ _ _ _ (by omega) (by omega),AB (by omega)]
  dsimp only
  show _-(i+1)<_-i
  omega
 simp at An
 have DK:(BQ p).length<=i+1:=by omega
 rw[ALT _ _ _ _ _ (by omega)]at CS
 have WJ:=Fx L a.toNat
 refine Av (AE (AE (AO (AS (AF (AJ (tr (yq O ((by exact Ai O O (A8 ((k.row 0 _ O).mono R3)))) ?_))))))));refine yq O ((by exact Bq O Jt Ij O O (Sl.shape (k.sl.mono R3) (Af _)) (by omega))) ?_;refine yq O ((by exact Ai O O (Mu (i:=a.toNat) (j:=0) (k.sl.mono R3) (by omega) O))) ?_;refine AH O (AA O (fun BJ=>?_) (fun BJ=>?_))
 ·refine AK O (Ak (Cu O O O O (fun w' hw=>?_)));refine⟨?_,(hw.less R3).below⟩;rw[HG,AB (by rw[NW];simp),show QM (L.map Ne.nd) d p=_ from CS,AB (by simp),AI (by rw[WJ];exact BM BJ)]
  rfl
 refine tr (yp O ((fun w hw=>Og b v L w (k.mono (R3.trans hw.le)) a 1)) (AH O (AA O (fun Bj=>?_) (fun Bj=>?_))))
 ·refine AK O (Ak (Cu O O O O (fun w' hw=>?_)));refine⟨?_,(hw.less R3).below⟩;rw[HG,AB (by rw[NW];simp),show QM (L.map Ne.nd) d p=_ from CS,AB (by simp),AB (by rw[WJ];simpa using BW BJ),AI (by simpa using Bj)]
  rfl
 refine tq ?_;refine zq O ((by exact BH O BT O (Sl.lenOf P0 (Af _)))) ?_
 refine zO 7 O (fun h72=>by
   simp at h72
   have T4:0<(BQ p).length:=BV.2 h72
   refine zq O ((by exact BH O BT O (Sl.lenOf P0 (Af _)))) ?_;refine zq O (Bl O O O (by omega)) ?_;refine zq O ((by exact Bq O BT Co O O (Sl.shape P0 (Af _)) (by omega))) ?_;refine zq O ((by exact Ai O O (Et (i:=(((BQ p).length:Int)-1).toNat) P0 (by omega)))) ?_;refine zq O (AR O O O) ?_;exact zv O
  ) ?_
 refine zO 7 O (fun h81=>by
   simp at h81
   have T4:0<(BQ p).length:=BV.2 h81.1
   refine zq O ((by exact BH O BT O (Sl.lenOf P0 (Af _)))) ?_;refine zq O (Bl O O O (by omega)) ?_;refine zq O ((by exact Bq O BT Co O O (Sl.shape P0 (Af _)) (by omega))) ?_;refine zq O ((by exact Ai O O (Et (i:=(((BQ p).length:Int)-1).toNat) P0 (by omega)))) ?_;refine zq O (AR O O O) ?_;exact zv O
  ) ?_
 refine De O (AA O (fun B4=>?_) (fun B4=>?_))
 ·have hla:=AXb B4
  refine AK O (Ak (Cu O O O O (fun w' hw=>?_)));refine⟨?_,(hw.less R3).below⟩;rw[HG,AB (by rw[NW];simp),show QM (L.map Ne.nd) d p=_ from CS,AB (by simp),AB (by rw[WJ];simpa using BW BJ),AB (by simpa using Bj),AI hla]
  rfl
 have hla:=AYT B4
 have T4:0<(BQ p).length:=BV.2 (fun h9=>hla (.inl h9))
 refine tr ?_;refine yq O ((by exact BH O BT O (Sl.lenOf P0 (Af _)))) ?_;refine yq O (Bl O O O (by omega)) ?_;refine yq O ((by exact Bq O BT Co O O (Sl.shape P0 (Af _)) (by omega))) ?_;refine yq O ((by exact Ai O O (Et (i:=(((BQ p).length:Int)-1).toNat) P0 (by omega)))) ?_;refine yq O (AW O BX O) (AH O (AA O (fun CP=>?_) (fun CP=>?_)))
 ·refine AK O (Ak (Cu O O O O (fun w' hw=>?_)));refine⟨?_,(hw.less R3).below⟩
  have Eg:AG (BQ p) (((BQ p).length:Int)-1).toNat []=G9 (BQ p):=by unfold G9;congr 1;omega
  rw[HG,AB (by rw[NW];simp),show QM (L.map Ne.nd) d p=_ from CS,AB (by simp),AB (by rw[WJ];simpa using BW BJ),AB (by simpa using Bj),AB hla,AI (by have:=BM CP;rw[Eg]at this;omega)]
  rfl
 refine AY (AL (AS (AF (Bd mo (by kernel_rfl) (fun _ _ _ _ _ h=>h) ?_))));refine zq O ((by exact BH O BT O (Sl.lenOf P0 (Af _)))) ?_;refine zq O (Bl O O O (by omega)) ?_;refine zq O ((by exact Bq O BT Co O O (Sl.shape P0 (Af _)) (by omega))) ?_;refine zq O ((by exact Ai O O (Et (i:=(((BQ p).length:Int)-1).toNat) P0 (by omega)))) ?_;refine De O (AX (Cu O O O O (fun w' hw=>?_)));refine⟨?_,(hw.less R3).below⟩
 have Eg:AG (BQ p) (((BQ p).length:Int)-1).toNat []=G9 (BQ p):=by unfold G9;congr 1;omega
 rw[HG,AB (by rw[NW];simp),show QM (L.map Ne.nd) d p=_ from CS,AB (by simp),AB (by rw[WJ];simpa using BW BJ),AB (by simpa using Bj),AB hla,AB (by have:=BW CP;rw[Eg]at this;omega),Eg]
theorem AGL(b:Nat)(v:Value)(L:List Ne)(d:Nat)(n:List UInt8)(kk:Int)(hd:d<L.length)(hL:L.length<=1000000)(Dg:(AG L d Bi).nd.inos.length=(AG L d Bi).nd.names.length)(hnl:(AG L d Bi).nd.names.length<=1000000)(I:AQ)(Dt:∀x∈L,G8 I x)(F:List HA)(w0 w:World)(BZ:St w0 I (fsH b v L F) w):Calls prog 59 [.pointer (some ⟨b,0,none⟩),.int .i64 (d:Int),Au n,.int .i64 kk].toArray w (fun e w'=> ∃v0,e=.returned v0/\∃I' H',(Le I I'/\v0=.tuple #[]/\∃L',H'=fsH b v L' F/\(∀x∈L',G8 I' x)/\L'.map Ne.nd=Ox (L.map Ne.nd) d n kk)/\St w I' H' w'):=by
 have hxm:(AG L d Bi)∈L:=BE hd
 have DD:=Dt _ hxm
 refine enter func59 O ntmps59 O (BZ.self) (tr (yq O ((by exact Az O O (by rfl))) ?_));refine yq O ((by exact Fp O Jt Ij O O (by omega))) ?_;refine yq O ((by exact Br O AVY Ij O O (AMt (L:=L) (i:=d) (by exact .tail _ (.head _)) (by omega)))) ?_
 refine HO _ O fun b8=>?_
 refine El (Io (AG L d Bi)) O ?_ (by exact DD.ones);refine DL (AH O (AF (AJ (EB (ι:=Nat) [0,1,2,3,8] (fun zz=>zz<=(AG L d Bi).nd.names.length/\∀j,j<zz->Op.bytesLess (AG (AG L d Bi).nd.names j []) n=true) (fun zz=>(AG L d Bi).nd.names.length-zz) (fun zz=>[(9,.int .i64 (zz:Int))]) (fun zz=>I) (fun zz=>(row b8 87 (Io (AG L d Bi))::row b 90 [v]::Ap 87 8 Io v L::F)) 0 O ?_ ?_))))
 ·exact⟨Aw _,fun j h=>Ac h (Nat.not_lt_zero _)⟩
 rintro i ⟨hi,Eg⟩;dsimp only at *;refine AF (tq (zq rfl ((by exact Az rfl rfl (by rfl))) ?_));refine zq rfl ((by exact BH rfl BT rfl (Sl.lenOf DD.nv (Af _)))) ?_
 refine zA 7 O (fun h30=>by
   simp at h30
   have DK:i<(AG L d Bi).nd.names.length:=by omega
   refine zq O ((by exact Az O O (by rfl))) ?_;refine zq O ((by exact AN O BT Co O O (Sl.shape DD.nv (Af _)) (by omega))) ?_;refine zq O ((by exact Ai O O (Et (i:=i) DD.nv (by omega)))) ?_;refine zq O (Rz O O O) ?_;exact zv O
  ) ?_
 refine Dp (AA O (fun Ab=>?_) (fun Ab=>?_))
 ·rw[Ay]at Ab
  have DK:i<(AG L d Bi).nd.names.length:=by have:=BM Ab.1;omega
  have hbl:=Ab.2
  refine AV (AJ (AC (yq O (AM O O O (by omega)) ?_)));refine AU O (AL (DJ (i+1) ?_ ?_))
  ·refine⟨by omega,fun j hj=>?_⟩;rcases Nat.lt_succ_iff_lt_or_eq.1 hj with h|rfl
   ·exact Eg j h
   exact hbl
  show _-(i+1)<_-i
  omega
 have AXd:ADV (AG L d Bi).nd.names n=i:=ASU hi Eg (fun DK=>by have h9:=Ab;rw[BK (show(i:Int)<((AG L d Bi).nd.names.length:Int) by omega),Bool.true_and]at h9;exact h9)
 refine Av (AE (AE (AO (AS (EZ (ι:=Value) [9,0,1,2,3,8,30] (fun zz=>JS zz) (fun zz=>[]) (fun zz=>I) (fun zz=>(row b8 87 (Io ⟨⟨(AG L d Bi).nd.kind,(AG L d Bi).nd.mode,(AG L d Bi).nd.links,(AG L d Bi).nd.holds,(AG L d Bi).nd.parent,(AG L d Bi).nd.data,(AG L d Bi).nd.names.take i++[n]++(AG L d Bi).nd.names.drop i,(AG L d Bi).nd.inos⟩,zz,(AG L d Bi).iv⟩)::Ap 9 1 Ce zz ((AG L d Bi).nd.names.take i++[n]++(AG L d Bi).nd.names.drop i)::row b 90 [v]::Ap 87 8 Io v L::F)) O ?_ ?_)))))
 ·refine Bo [0,5,7,8,13,15] [15] [row b8 87 (Io (AG L d Bi))] mo (by kernel_rfl) (fun _ _ _ _ _ h=>h) (xr [1] O O (x0 2 O (Le.refl _) O (fun _ hI=>(by exact Az O O (by rfl))) ?_));refine xr [3] O O (xf 4 O O (fun _=>(by exact IK O BT Co O O (Sl.capOf DD.nv (Af _)) (by omega))) ?_);refine xr [6,9] O O (x0 10 O (Le.refl _) O (fun _ hI=>(by exact Az O O (by rfl))) ?_);refine xr [11] O O (xf 12 O O (fun _=>(by exact CW O BT Co O O (Sl.lenOf DD.nv (Af _)) (by omega))) ?_);refine Gp 0 7 (by kernel_rfl) (by kernel_rfl) ?_ ?_
  ·refine Oq 0 O O (Le.refl _) O O O (Bn O BT Co) ?_;rintro v33 _ _ ⟨⟨b33,Agu⟩,rfl,rfl⟩;refine xk (Gp 5 7 (by kernel_rfl) (by kernel_rfl) ?_ ?_)
   ·refine Oq 5 O O (Le.refl _) O O O (BG (f:=Ce) (l:=[]) (ls:=(AG L d Bi).nd.names.take i) O BT Co O O O O (V7 DD.nv (by omega)) O (fun _=>rfl) B1 (by(try simp only[maxLen,BL,Bb]);omega) (by(try simp only[BL,Bb]);omega)) ?_;rintro v38 _ _ ⟨rfl,rfl⟩;refine xk (xe 7 rfl rfl (BD rfl BT Co rfl rfl rfl (by rfl) rfl) ?_);rintro _ _ _ ⟨b40,rfl,rfl,rfl⟩;refine xk ?_;refine xe 8 rfl rfl (B8 (f:=Ce) (l:=(AG L d Bi).nd.names.take i) (c:=n) rfl BT Co rfl rfl rfl rfl rfl rfl rfl (B1 _) (by(try simp only[maxLen,BL]);omega) (by(try simp only[BL]);omega)) ?_;rintro v41 _ _ ⟨rfl,rfl⟩;refine xk ?_;refine xe 13 rfl rfl (BG (f:=Ce) (l:=(AG L d Bi).nd.names.take i++[n]) (ls:=(AG L d Bi).nd.names.drop i) rfl BT Co rfl rfl rfl rfl (Sl.dropM DD.nv rfl (by omega)) rfl (fun _=>rfl) B1 (by(try simp only[maxLen,Bh,BL,BA,CD,Bb]);omega) (by(try simp only[Bh,BL,BA,CD,Bb]);omega)) ?_;rintro v46 _ _ ⟨rfl,rfl⟩;refine xk (Fd v46 (fun AWl S7=>?_));refine xr [14] rfl rfl ?_;refine FP 15 (by kernel_rfl) (by kernel_rfl) rfl (Le.refl _) rfl rfl (Bz rfl Gs rfl rfl (by assumption) rfl (by rfl)) ?_
    rintro _ _ _ ⟨rfl,rfl⟩;refine⟨Le.refl _,.inl rfl,?_⟩;refine Bx (H':=row b8 87 (Io ⟨⟨(AG L d Bi).nd.kind,(AG L d Bi).nd.mode,(AG L d Bi).nd.links,(AG L d Bi).nd.holds,(AG L d Bi).nd.parent,(AG L d Bi).nd.data,(AG L d Bi).nd.names.take i++[n]++(AG L d Bi).nd.names.drop i,(AG L d Bi).nd.inos⟩,v46,(AG L d Bi).iv⟩)::_) ?_ (fun _ h=>h);refine CX (CB (v46) ?_)
    exact S7
   refine Oq 7 O O (Le.refl _) O O O (BD O BT Co O O O (by rfl) O) ?_;rintro _ _ _ ⟨b40,rfl,rfl,rfl⟩;refine xk ?_;refine xe 5 rfl rfl (BG (f:=Ce) (l:=[]) (ls:=(AG L d Bi).nd.names.take i) rfl BT Co rfl rfl rfl rfl (V7 DD.nv (by omega)) rfl (fun _=>rfl) B1 (by(try simp only[maxLen,BL,Bb]);omega) (by(try simp only[BL,Bb]);omega)) ?_;rintro v38 _ _ ⟨rfl,rfl⟩;refine xk ?_;refine xe 8 rfl rfl (B8 (f:=Ce) (l:=(AG L d Bi).nd.names.take i) (c:=n) rfl BT Co rfl rfl rfl rfl rfl rfl rfl (B1 _) (by(try simp only[maxLen,BL]);omega) (by(try simp only[BL]);omega)) ?_;rintro v41 _ _ ⟨rfl,rfl⟩;refine xk ?_;refine xe 13 rfl rfl (BG (f:=Ce) (l:=(AG L d Bi).nd.names.take i++[n]) (ls:=(AG L d Bi).nd.names.drop i) rfl BT Co rfl rfl rfl rfl (Sl.dropM DD.nv rfl (by omega)) rfl (fun _=>rfl) B1 (by(try simp only[maxLen,Bh,BL,BA,CD,Bb]);omega) (by(try simp only[Bh,BL,BA,CD,Bb]);omega)) ?_;rintro v46 _ _ ⟨rfl,rfl⟩;refine xk (Fd v46 (fun AWl S7=>?_));refine xr [14] rfl rfl ?_
   refine FP 15 (by kernel_rfl) (by kernel_rfl) O (Le.refl _) O O (Bz O Gs O O (by assumption) O (by rfl)) ?_;rintro _ _ _ ⟨rfl,rfl⟩;refine⟨Le.refl _,.inl rfl,?_⟩;refine Bx (H':=row b8 87 (Io ⟨⟨(AG L d Bi).nd.kind,(AG L d Bi).nd.mode,(AG L d Bi).nd.links,(AG L d Bi).nd.holds,(AG L d Bi).nd.parent,(AG L d Bi).nd.data,(AG L d Bi).nd.names.take i++[n]++(AG L d Bi).nd.names.drop i,(AG L d Bi).nd.inos⟩,v46,(AG L d Bi).iv⟩)::_) ?_ (fun _ h=>h);refine CX (CB (v46) ?_)
   exact S7
  refine Oq 7 O O (Le.refl _) O O O (BD O BT Co O O O (by rfl) O) ?_;rintro _ _ _ ⟨b40,rfl,rfl,rfl⟩;refine xk (xe 0 rfl rfl (Bn rfl BT Co) ?_);rintro v33 _ _ ⟨⟨b33,Agu⟩,rfl,rfl⟩;refine xk ?_;refine xe 5 rfl rfl (BG (f:=Ce) (l:=[]) (ls:=(AG L d Bi).nd.names.take i) rfl BT Co rfl rfl rfl rfl (V7 DD.nv (by omega)) rfl (fun _=>rfl) B1 (by(try simp only[maxLen,BL,Bb]);omega) (by(try simp only[BL,Bb]);omega)) ?_;rintro v38 _ _ ⟨rfl,rfl⟩;refine xk ?_;refine xe 8 rfl rfl (B8 (f:=Ce) (l:=(AG L d Bi).nd.names.take i) (c:=n) rfl BT Co rfl rfl rfl rfl rfl rfl rfl (B1 _) (by(try simp only[maxLen,BL]);omega) (by(try simp only[BL]);omega)) ?_;rintro v41 _ _ ⟨rfl,rfl⟩;refine xk ?_;refine xe 13 rfl rfl (BG (f:=Ce) (l:=(AG L d Bi).nd.names.take i++[n]) (ls:=(AG L d Bi).nd.names.drop i) rfl BT Co rfl rfl rfl rfl (Sl.dropM DD.nv rfl (by omega)) rfl (fun _=>rfl) B1 (by(try simp only[maxLen,Bh,BL,BA,CD,Bb]);omega) (by(try simp only[Bh,BL,BA,CD,Bb]);omega)) ?_;rintro v46 _ _ ⟨rfl,rfl⟩;refine xk (Fd v46 (fun AWl S7=>?_));refine xr [14] rfl rfl ?_
  refine FP 15 (by kernel_rfl) (by kernel_rfl) O (Le.refl _) O O (Bz O Gs O O (by assumption) O (by rfl)) ?_;rintro _ _ _ ⟨rfl,rfl⟩;refine⟨Le.refl _,.inl rfl,?_⟩;refine Bx (H':=row b8 87 (Io ⟨⟨(AG L d Bi).nd.kind,(AG L d Bi).nd.mode,(AG L d Bi).nd.links,(AG L d Bi).nd.holds,(AG L d Bi).nd.parent,(AG L d Bi).nd.data,(AG L d Bi).nd.names.take i++[n]++(AG L d Bi).nd.names.drop i,(AG L d Bi).nd.inos⟩,v46,(AG L d Bi).iv⟩)::_) ?_ (fun _ h=>h);refine CX (CB (v46) ?_)
  exact S7
 rintro nw S7;refine EZ (ι:=Value×AQ) [9,0,1,2,3,8,30] (fun zz=>JS zz.1/\Le I zz.2/\Sl zz.2 1 nw (((AG L d Bi).nd.names.take i++[n]++(AG L d Bi).nd.names.drop i).map Ce)) (fun zz=>[]) (fun zz=>zz.2) (fun zz=>(row b8 87 (Io ⟨⟨(AG L d Bi).nd.kind,(AG L d Bi).nd.mode,(AG L d Bi).nd.links,(AG L d Bi).nd.holds,(AG L d Bi).nd.parent,(AG L d Bi).nd.data,(AG L d Bi).nd.names.take i++[n]++(AG L d Bi).nd.names.drop i,(AG L d Bi).nd.inos.take i++[kk]++(AG L d Bi).nd.inos.drop i⟩,nw,zz.1⟩)::Ap 3 1 inC zz.1 ((AG L d Bi).nd.inos.take i++[kk]++(AG L d Bi).nd.inos.drop i)::row b 90 [v]::Ap 87 8 Io v L::F)) rfl ?_ ?_
 ·refine Bf (f:=Ce) (l:=(AG L d Bi).nd.names.take i++[n]++(AG L d Bi).nd.names.drop i) nw (fun _=>rfl) (fun J1 UB hnv=>?_);refine Bo [0,5,7,8,13,15] [15] [row b8 87 (Io ⟨⟨(AG L d Bi).nd.kind,(AG L d Bi).nd.mode,(AG L d Bi).nd.links,(AG L d Bi).nd.holds,(AG L d Bi).nd.parent,(AG L d Bi).nd.data,(AG L d Bi).nd.names.take i++[n]++(AG L d Bi).nd.names.drop i,(AG L d Bi).nd.inos⟩,nw,(AG L d Bi).iv⟩)] mo (by kernel_rfl) (fun _ _ _ _ _ h=>h) (xr [1] O O (x0 2 O (Le.refl _) O (fun _ hI=>(by exact Az O O (by rfl))) ?_));refine xr [3] O O (xf 4 O O (fun _=>(by exact IK O NU I2 O O (Sl.capOf DD.iv ((Af _).trans Dg)) (by omega))) ?_);refine xr [6,9] O O (x0 10 O (Le.refl _) O (fun _ hI=>(by exact Az O O (by rfl))) ?_);refine xr [11] O O (xf 12 O O (fun _=>(by exact CW O NU I2 O O (Sl.lenOf DD.iv ((Af _).trans Dg)) (by omega))) ?_);refine Gp 0 7 (by kernel_rfl) (by kernel_rfl) ?_ ?_
  ·refine Oq 0 O O (Le.refl _) O O O (Bn O NU I2) ?_;rintro v48 _ _ ⟨⟨b48,AkS⟩,rfl,rfl⟩;refine xk (Gp 5 7 (by kernel_rfl) (by kernel_rfl) ?_ ?_)
   ·refine Oq 5 O O (Le.refl _) O O O (BG (f:=inC) (l:=[]) (ls:=(AG L d Bi).nd.inos.take i) O NU I2 O O O O (V7 (DD.iv.mono UB) (by omega)) O (fun _=>rfl) HZ (by(try simp only[maxLen,BL,Bb]);omega) (by(try simp only[BL,Bb]);omega)) ?_;rintro v53 _ _ ⟨rfl,rfl⟩;refine xk (xe 7 rfl rfl (BD rfl NU I2 rfl rfl rfl (by rfl) rfl) ?_);rintro _ _ _ ⟨b55,rfl,rfl,rfl⟩;refine xk ?_;refine xe 8 rfl rfl (B8 (f:=inC) (l:=(AG L d Bi).nd.inos.take i) (c:=kk) rfl NU I2 rfl rfl rfl rfl rfl rfl rfl (HZ _) (by(try simp only[maxLen,BL]);omega) (by(try simp only[BL]);omega)) ?_;rintro v56 _ _ ⟨rfl,rfl⟩;refine xk ?_;refine xe 13 rfl rfl (BG (f:=inC) (l:=(AG L d Bi).nd.inos.take i++[kk]) (ls:=(AG L d Bi).nd.inos.drop i) rfl NU I2 rfl rfl rfl rfl (Sl.dropM (DD.iv.mono UB) Dg (by omega)) rfl (fun _=>rfl) HZ (by(try simp only[maxLen,Bh,BL,BA,CD,Bb]);omega) (by(try simp only[Bh,BL,BA,CD,Bb]);omega)) ?_;rintro v61 _ _ ⟨rfl,rfl⟩;refine xk (Fd v61 (fun AWT Rt=>?_));refine xr [14] rfl rfl ?_
    refine FP 15 (by kernel_rfl) (by kernel_rfl) O (Le.refl _) O O (Bz O ASb O O (by assumption) O (by rfl)) ?_;rintro _ _ _ ⟨rfl,rfl⟩;refine⟨Le.refl _,.inl rfl,?_⟩;refine Bx (H':=row b8 87 (Io ⟨⟨(AG L d Bi).nd.kind,(AG L d Bi).nd.mode,(AG L d Bi).nd.links,(AG L d Bi).nd.holds,(AG L d Bi).nd.parent,(AG L d Bi).nd.data,(AG L d Bi).nd.names.take i++[n]++(AG L d Bi).nd.names.drop i,(AG L d Bi).nd.inos.take i++[kk]++(AG L d Bi).nd.inos.drop i⟩,nw,v61⟩)::_) ?_ (fun _ h=>h);refine CX (CB ((v61,J1)) ?_)
    dsimp only;exact⟨Rt,UB,hnv⟩
   refine Oq 7 O O (Le.refl _) O O O (BD O NU I2 O O O (by rfl) O) ?_;rintro _ _ _ ⟨b55,rfl,rfl,rfl⟩;refine xk ?_;refine xe 5 rfl rfl (BG (f:=inC) (l:=[]) (ls:=(AG L d Bi).nd.inos.take i) rfl NU I2 rfl rfl rfl rfl (V7 (DD.iv.mono UB) (by omega)) rfl (fun _=>rfl) HZ (by(try simp only[maxLen,BL,Bb]);omega) (by(try simp only[BL,Bb]);omega)) ?_;rintro v53 _ _ ⟨rfl,rfl⟩;refine xk ?_;refine xe 8 rfl rfl (B8 (f:=inC) (l:=(AG L d Bi).nd.inos.take i) (c:=kk) rfl NU I2 rfl rfl rfl rfl rfl rfl rfl (HZ _) (by(try simp only[maxLen,BL]);omega) (by(try simp only[BL]);omega)) ?_;rintro v56 _ _ ⟨rfl,rfl⟩;refine xk ?_;refine xe 13 rfl rfl (BG (f:=inC) (l:=(AG L d Bi).nd.inos.take i++[kk]) (ls:=(AG L d Bi).nd.inos.drop i) rfl NU I2 rfl rfl rfl rfl (Sl.dropM (DD.iv.mono UB) Dg (by omega)) rfl (fun _=>rfl) HZ (by(try simp only[maxLen,Bh,BL,BA,CD,Bb]);omega) (by(try simp only[Bh,BL,BA,CD,Bb]);omega)) ?_;rintro v61 _ _ ⟨rfl,rfl⟩;refine xk (Fd v61 (fun AWT Rt=>?_));refine xr [14] rfl rfl ?_
   refine FP 15 (by kernel_rfl) (by kernel_rfl) O (Le.refl _) O O (Bz O ASb O O (by assumption) O (by rfl)) ?_;rintro _ _ _ ⟨rfl,rfl⟩;refine⟨Le.refl _,.inl rfl,?_⟩;refine Bx (H':=row b8 87 (Io ⟨⟨(AG L d Bi).nd.kind,(AG L d Bi).nd.mode,(AG L d Bi).nd.links,(AG L d Bi).nd.holds,(AG L d Bi).nd.parent,(AG L d Bi).nd.data,(AG L d Bi).nd.names.take i++[n]++(AG L d Bi).nd.names.drop i,(AG L d Bi).nd.inos.take i++[kk]++(AG L d Bi).nd.inos.drop i⟩,nw,v61⟩)::_) ?_ (fun _ h=>h);refine CX (CB ((v61,J1)) ?_)
   dsimp only;exact⟨Rt,UB,hnv⟩
  refine Oq 7 O O (Le.refl _) O O O (BD O NU I2 O O O (by rfl) O) ?_;rintro _ _ _ ⟨b55,rfl,rfl,rfl⟩;refine xk (xe 0 rfl rfl (Bn rfl NU I2) ?_);rintro v48 _ _ ⟨⟨b48,AkS⟩,rfl,rfl⟩;refine xk ?_;refine xe 5 rfl rfl (BG (f:=inC) (l:=[]) (ls:=(AG L d Bi).nd.inos.take i) rfl NU I2 rfl rfl rfl rfl (V7 (DD.iv.mono UB) (by omega)) rfl (fun _=>rfl) HZ (by(try simp only[maxLen,BL,Bb]);omega) (by(try simp only[BL,Bb]);omega)) ?_;rintro v53 _ _ ⟨rfl,rfl⟩;refine xk ?_;refine xe 8 rfl rfl (B8 (f:=inC) (l:=(AG L d Bi).nd.inos.take i) (c:=kk) rfl NU I2 rfl rfl rfl rfl rfl rfl rfl (HZ _) (by(try simp only[maxLen,BL]);omega) (by(try simp only[BL]);omega)) ?_;rintro v56 _ _ ⟨rfl,rfl⟩;refine xk ?_;refine xe 13 rfl rfl (BG (f:=inC) (l:=(AG L d Bi).nd.inos.take i++[kk]) (ls:=(AG L d Bi).nd.inos.drop i) rfl NU I2 rfl rfl rfl rfl (Sl.dropM (DD.iv.mono UB) Dg (by omega)) rfl (fun _=>rfl) HZ (by(try simp only[maxLen,Bh,BL,BA,CD,Bb]);omega) (by(try simp only[Bh,BL,BA,CD,Bb]);omega)) ?_;rintro v61 _ _ ⟨rfl,rfl⟩;refine xk (Fd v61 (fun AWT Rt=>?_));refine xr [14] rfl rfl ?_
  refine FP 15 (by kernel_rfl) (by kernel_rfl) O (Le.refl _) O O (Bz O ASb O O (by assumption) O (by rfl)) ?_;rintro _ _ _ ⟨rfl,rfl⟩;refine⟨Le.refl _,.inl rfl,?_⟩;refine Bx (H':=row b8 87 (Io ⟨⟨(AG L d Bi).nd.kind,(AG L d Bi).nd.mode,(AG L d Bi).nd.links,(AG L d Bi).nd.holds,(AG L d Bi).nd.parent,(AG L d Bi).nd.data,(AG L d Bi).nd.names.take i++[n]++(AG L d Bi).nd.names.drop i,(AG L d Bi).nd.inos.take i++[kk]++(AG L d Bi).nd.inos.drop i⟩,nw,v61⟩)::_) ?_ (fun _ h=>h);refine CX (CB ((v61,J1)) ?_)
  dsimp only;exact⟨Rt,UB,hnv⟩
 rintro⟨mw,J1⟩ ⟨Rt,UB,hnv⟩;dsimp only at *;refine Bf (f:=inC) (l:=(AG L d Bi).nd.inos.take i++[kk]++(AG L d Bi).nd.inos.drop i) mw (fun _=>rfl) (fun J2 Pe hiv=>?_)
 have hn2:G8 J2 ⟨⟨(AG L d Bi).nd.kind,(AG L d Bi).nd.mode,(AG L d Bi).nd.links,(AG L d Bi).nd.holds,(AG L d Bi).nd.parent,(AG L d Bi).nd.data,(AG L d Bi).nd.names.take i++[n]++(AG L d Bi).nd.names.drop i,(AG L d Bi).nd.inos.take i++[kk]++(AG L d Bi).nd.inos.drop i⟩,nw,mw⟩:=⟨hnv.mono Pe,hiv⟩
 refine Bo [7] [] [row b8 87 (Io ⟨⟨(AG L d Bi).nd.kind,(AG L d Bi).nd.mode,(AG L d Bi).nd.links,(AG L d Bi).nd.holds,(AG L d Bi).nd.parent,(AG L d Bi).nd.data,(AG L d Bi).nd.names.take i++[n]++(AG L d Bi).nd.names.drop i,(AG L d Bi).nd.inos.take i++[kk]++(AG L d Bi).nd.inos.drop i⟩,nw,mw⟩),row b 90 [v]] mo (by kernel_rfl) (fun _ _ _ _ _ h=>h) (xr [0,1,2] O O (xq 3 O O ((by exact Az O O (by rfl))) ?_));refine xr [4] O O (xq 5 O O ((by exact A7 O AVY Ij O O O)) ?_);refine xq 6 O O ((by exact Fp O Jt Ij O O (by omega))) ?_;refine FP 7 (by kernel_rfl) (by kernel_rfl) O (Le.refl _) O O (Df (⟨⟨(AG L d Bi).nd.kind,(AG L d Bi).nd.mode,(AG L d Bi).nd.links,(AG L d Bi).nd.holds,(AG L d Bi).nd.parent,(AG L d Bi).nd.data,(AG L d Bi).nd.names.take i++[n]++(AG L d Bi).nd.names.drop i,(AG L d Bi).nd.inos.take i++[kk]++(AG L d Bi).nd.inos.drop i⟩,nw,mw⟩) O Ij O O ((G8.ones hn2)) (fun _=>rfl) hd (by decide)) ?_;rintro _ _ _ ⟨rfl,rfl⟩;refine xk (CX (EK rfl (fun w' hw=>?_)))
 refine⟨_,O,J2,_,⟨UB.trans Pe,O,L.set d ⟨⟨(AG L d Bi).nd.kind,(AG L d Bi).nd.mode,(AG L d Bi).nd.links,(AG L d Bi).nd.holds,(AG L d Bi).nd.parent,(AG L d Bi).nd.data,(AG L d Bi).nd.names.take i++[n]++(AG L d Bi).nd.names.drop i,(AG L d Bi).nd.inos.take i++[kk]++(AG L d Bi).nd.inos.drop i⟩,nw,mw⟩,O,fun x hx=>?_,?_⟩,AD hw⟩
 ·rcases List.mem_or_eq_of_mem_set hx with hx|rfl
  ·exact(Dt x hx).mono (UB.trans Pe)
  exact hn2
 unfold Ox;simp only;rw[Fx,AXd,List.map_set]
theorem AZt{L:List Ne}(h:NG (L.map Ne.nd)):2<=L.length:=by have:=h.two;rwa [Af]at this
theorem AfY{L:List Ne}{k:Nat}(h:k<L.length)(hk:0<(AG L k Bi).nd.kind):k<(L.map Ne.nd).length/\0<(AG (L.map Ne.nd) k JI).kind:=by rw[Af,Fx];exact⟨h,hk⟩
theorem ANP{I J:AQ}{L:List Ne}(h:∀x∈L,G8 I x)(CH:Le I J):∀x∈L++[Bi],G8 J x:=fun x hx=>by
 rcases Ic.1 hx with hx|hx
 ·exact(h x hx).mono CH
 rw[FK.1 hx];exact AFF
theorem Acc{L L1:List Ne}{c:Prop}[Decidable c](NK:NG (L.map Ne.nd))(Hy:Q9 L)(h:L1.map Ne.nd=if c then L.map Ne.nd++[JI]else L.map Ne.nd):∀x∈L1,x.nd.inos.length=x.nd.names.length/\x.nd.names.length<=1000000:=fun x hx=>by
 have h1:x.nd∈L1.map Ne.nd:=FL.2 ⟨x,hx,O⟩
 have key:∀y∈L.map Ne.nd,y.inos.length=y.names.length/\y.names.length<=1000000:=fun y hy=>by
  refine⟨NK.len y hy,?_⟩;obtain⟨z,hz,rfl⟩:=FL.1 hy;exact Hy z hz
 rw[h]at h1
 split at h1
 ·rcases Ic.1 h1 with h2|h2
  ·exact key _ h2
  rw[FK.1 h2];exact⟨O,Aw _⟩
 exact key _ h1
theorem AKu{L1:List Ne}{e:Ne}(h:∀x∈L1,x.nd.inos.length=x.nd.names.length/\x.nd.names.length<=1000000)(he:e.nd.inos.length=e.nd.names.length/\e.nd.names.length<=1000000)(hj:j<L1.length):(AG (L1.set i e) j Bi).nd.inos.length=(AG (L1.set i e) j Bi).nd.names.length/\(AG (L1.set i e) j Bi).nd.names.length<=1000000:=by
 rcases List.mem_or_eq_of_mem_set (BE (d:=Bi) (show j<(L1.set i e).length by rwa [Il]))with h9|h9
 ·exact h _ h9
 rw[h9];exact he
theorem AUG{I J:AQ}{L:List Ne}{e:Ne}(h:∀x∈L,G8 I x)(CH:Le I J)(he:G8 J e):∀x∈L.set i e,G8 J x:=fun x hx=>by
 rcases List.mem_or_eq_of_mem_set hx with hx|rfl
 ·exact(h x hx).mono CH
 exact he
def T0:List Ne:=[Bi,⟨⟨2,493,1,0,1,[],[],[]⟩,As,As⟩]
theorem AST{I:AQ}:∀x∈T0,G8 I x:=fun x hx=>by
 simp only[T0,Ci,List.not_mem_nil,or_false]at hx;rcases hx with rfl|rfl
 ·exact AFF
 exact⟨Hn,Hn⟩
structure FsI(I:AQ)(b:Nat)(v:Value)(L:List Ne):Prop where
 row:∀k u,[v][k]? =some u->DA I b k u
 sl:Sl I 8 v (L.map Io)
 ok:∀x∈L,G8 I x
 len:L.length<=1000000
theorem FsI.w{I:AQ}{L:List Ne}(k:FsI I b v L){w:World}(h:Le I (Ao w)):FsW w b v L:=⟨fun j u hj=>(k.row j u hj).mono h,k.sl.mono h,fun x hx=>(k.ok x hx).mono h,k.len⟩
theorem FsI.mono{I J:AQ}{L:List Ne}(k:FsI I b v L)(h:Le I J):FsI J b v L:=⟨fun j u hj=>(k.row j u hj).mono h,k.sl.mono h,fun x hx=>(k.ok x hx).mono h,k.len⟩
theorem ACb(b:Nat)(v:Value)(L:List Ne)(d:Int)(hd0:0<=d)(n:List UInt8)(kk:Int)(hd:d.toNat<L.length)(hL:L.length<=1000000)(Dg:(AG L d.toNat Bi).nd.inos.length=(AG L d.toNat Bi).nd.names.length)(hnl:(AG L d.toNat Bi).nd.names.length<=1000000)(I:AQ)(Dt:∀x∈L,G8 I x)(F:List HA)(w0 w:World)(BZ:St w0 I (fsH b v L F) w):Calls prog 59 [.pointer (some ⟨b,0,none⟩),.int .i64 d,Au n,.int .i64 kk].toArray w (fun e w'=> ∃v0,e=.returned v0/\∃I' H',(Le I I'/\v0=.tuple #[]/\∃L',H'=fsH b v L' F/\(∀x∈L',G8 I' x)/\L'.map Ne.nd=Ox (L.map Ne.nd) d.toNat n kk)/\St w I' H' w'):=by
 have h:=AGL b v L d.toNat n kk hd hL Dg hnl I Dt F w0 w BZ
 rw[Int.toNat_of_nonneg hd0]at h;exact h
theorem Ta(b:Nat)(v:Value)(L:List Ne)(hL:L.length<=900000)(NK:NG (L.map Ne.nd))(Hy:Q9 L)(d:Int)(p:List UInt8)(hp:p.length<=100000000)(kd md:Int)(I:AQ)(Dt:∀x∈L,G8 I x)(F:List HA)(w0 w:World)(BZ:St w0 I (fsH b v L F) w):Calls prog 33 [.pointer (some ⟨b,0,none⟩),.int .i64 d,Au p,.int .i64 kd,.int .i64 md].toArray w (fun e w'=> ∃v0,e=.returned v0/\∃I' H',(Le I I'/\v0=.tuple #[.int .i64 (Fk (L.map Ne.nd) d p kd md).1,.int .i64 (Fk (L.map Ne.nd) d p kd md).2.1]/\∃v' L',H'=fsH b v' L' F/\(∀x∈L',G8 I' x)/\L'.map Ne.nd=(Fk (L.map Ne.nd) d p kd md).2.2)/\St w I' H' w'):=by
 have h2l:=AZt NK
 have ha:=PS (WA NK (d:=d) (p:=p))
 have hL9:L.length<=1000000:=by omega
 have Dg:=AMX NK (i:=(B7 (L.map Ne.nd) d p).1.toNat) (by omega)
 have hnl:=Hy _ (BE (d:=Bi) (show(B7 (L.map Ne.nd) d p).1.toNat<L.length by omega))
 refine enter func33 O ntmps33 O (BZ.self) (AK O (tr (yp O ((fun w hw=>ABr b v L w (ZQ hw (fun x hx=>(Dt x hx)) hL9) NK Hy d p hp)) (AH O (AF (AJ (AK O (AA O (fun Ab=>?_) (fun Ab=>?_)))))))))
 ·simp at Ab
  have he:(B7 (L.map Ne.nd) d p).2.2≠0:=by omega
  have hmk:(Fk (L.map Ne.nd) d p kd md)=(0,(B7 (L.map Ne.nd) d p).2.2,(L.map Ne.nd)):=by rw[Ih,AI he]
  refine AK O (Ak (Aj O O O (fun w' hw=>?_)));rw[hmk];exact⟨_,O,I,_,⟨Le.refl _,O,v,L,O,Dt,O⟩,AD hw⟩
 simp at Ab
 have he:(B7 (L.map Ne.nd) d p).2.2=0:=by omega
 refine tq ?_
 refine zA 2 O (fun KE=>by
   simp at KE
   refine zp O ((fun w hw=>U2 p w (by omega))) ?_;exact zv O
  ) ?_
 refine De O (AA O (fun An=>?_) (fun An=>?_))
 ·rw[Ay,BC]at An
  have hmk:(Fk (L.map Ne.nd) d p kd md)=(0,21,(L.map Ne.nd)):=by rw[Ih,AB (by rw[he];simp),AI An]
  refine AK O (Ak (Aj O O O (fun w' hw=>?_)));rw[hmk];exact⟨_,O,I,_,⟨Le.refl _,O,v,L,O,Dt,O⟩,AD hw⟩
 have Rn:¬(kd=1/\OD p=true):=fun h9=>by rw[BK h9.1,h9.2]at An;cases An
 refine tr (yp O ((fun w hw=>WZ b v L w (ZQ hw (fun x hx=>(Dt x hx)) hL9) (B7 (L.map Ne.nd) d p).1 ha (B7 (L.map Ne.nd) d p).2.1 Dg (by omega))) ?_);refine AH O (AA O (fun A6=>?_) (fun A6=>?_))
 ·simp at A6
  have Zp:0<Qr (AG L (B7 (L.map Ne.nd) d p).1.toNat Bi).nd (B7 (L.map Ne.nd) d p).2.1:=by omega
  have hmk:(Fk (L.map Ne.nd) d p kd md)=(0,17,(L.map Ne.nd)):=by rw[Ih,AB (by rw[he];simp),AB Rn,Fx,AI Zp]
  refine AK O (Ak (Aj O O O (fun w' hw=>?_)));rw[hmk];exact⟨_,O,I,_,⟨Le.refl _,O,v,L,O,Dt,O⟩,AD hw⟩
 simp at A6
 have Zp:¬0<Qr (AG L (B7 (L.map Ne.nd) d p).1.toNat Bi).nd (B7 (L.map Ne.nd) d p).2.1:=by omega
 refine tr (yq O ((by exact Az O O (by rfl))) ?_);refine yq O ((by exact HX O Jt Ij O O (by omega))) ?_;refine yq O ((by exact Ai O O (AMt (L:=L) (i:=(B7 (L.map Ne.nd) d p).1.toNat) (by exact .tail _ (.head _)) (by omega) 2 _ O))) ?_;refine AH O (AA O (fun BJ=>?_) (fun BJ=>?_))
 ·have T4:(AG L (B7 (L.map Ne.nd) d p).1.toNat Bi).nd.links=0:=BM BJ
  have hmk:(Fk (L.map Ne.nd) d p kd md)=(0,2,(L.map Ne.nd)):=by rw[Ih,AB (by rw[he];simp),AB Rn,Fx,AB Zp,AI T4]
  refine AK O (Ak (Aj O O O (fun w' hw=>?_)));rw[hmk];exact⟨_,O,I,_,⟨Le.refl _,O,v,L,O,Dt,O⟩,AD hw⟩
 have T4:¬(AG L (B7 (L.map Ne.nd) d p).1.toNat Bi).nd.links=0:=BW BJ
 refine tr (yp O ((fun w hw=>Og b v L w (ZQ hw (fun x hx=>(Dt x hx)) hL9) (B7 (L.map Ne.nd) d p).1 2)) (AH O (AA O (fun Bj=>?_) (fun Bj=>?_))))
 ·have hm0:RP (L.map Ne.nd) (B7 (L.map Ne.nd) d p).1 2=false:=by rw[FJ]at Bj;exact Bj
  have hmk:(Fk (L.map Ne.nd) d p kd md)=(0,13,(L.map Ne.nd)):=by rw[Ih,AB (by rw[he];simp),AB Rn,Fx,AB Zp,AB T4,AI hm0]
  refine AK O (Ak (Aj O O O (fun w' hw=>?_)));rw[hmk];exact⟨_,O,I,_,⟨Le.refl _,O,v,L,O,Dt,O⟩,AD hw⟩
 have hm0:RP (L.map Ne.nd) (B7 (L.map Ne.nd) d p).1 2=true:=by rw[Bool.not_eq_false']at Bj;exact Bj
 refine tr (yp O ((fun w hw=>ABc b v L w (ZQ hw (fun x hx=>(Dt x hx)) hL9))) (AH O (AA O (fun B4=>?_) (fun B4=>?_))))
 ·simp at B4
  have NZ:100<=M1 (L.map Ne.nd):=by omega
  have hmk:(Fk (L.map Ne.nd) d p kd md)=(0,23,(L.map Ne.nd)):=by rw[Ih,AB (by rw[he];simp),AB Rn,Fx,AB Zp,AB T4,AB (by rw[hm0];simp),AI NZ]
  refine AK O (Ak (Aj O O O (fun w' hw=>?_)));rw[hmk];exact⟨_,O,I,_,⟨Le.refl _,O,v,L,O,Dt,O⟩,AD hw⟩
 simp at B4
 have NZ:¬100<=M1 (L.map Ne.nd):=by omega
 refine AY (AL (AS (AK O (AF (AJ (EB (ι:=Nat) [0,1,2,3,4,10,11,12,13,14,24,28,35,41,51,56] (fun zz=>1<=zz/\zz<=L.length/\∀j,1<=j->j<zz->j<(L.map Ne.nd).length/\0<(AG (L.map Ne.nd) j JI).kind) (fun zz=>L.length-zz) (fun zz=>[(15,.int .i64 (zz:Int))]) (fun zz=>I) (fun zz=>(fsH b v L F)) 1 O ?_ ?_))))))
 ·exact⟨A5 _,by omega,fun j h1 h2=>by omega⟩
 rintro i ⟨Ym,hi,hgo⟩;dsimp only at *;refine AF (tq (zq rfl ((by exact Az rfl rfl (by rfl))) ?_));refine zq rfl ((by exact IP rfl Jt rfl)) ?_
 refine zA 9 O (fun h77=>by
   simp at h77
   have DK:i<L.length:=by omega
   refine zq O ((by exact Az O O (by rfl))) ?_;refine zq O ((by exact Fp O Jt Ij O O (by omega))) ?_;refine zq O ((by exact Ai O O (AMt (L:=L) (i:=i) (by exact .tail _ (.head _)) (by omega) 0 _ O))) ?_;exact zv O
  ) ?_
 refine Dp (AA O (fun CP=>?_) (fun CP=>?_))
 ·rw[Ay]at CP
  have DK:i<L.length:=by have:=BM CP.1;omega
  have hkp:0<(AG L i Bi).nd.kind:=by have:=BM CP.2;omega
  refine AV (AJ (AC (yq O (AM O O O (by omega)) ?_)));refine AU O (AL (DJ (i+1) ?_ ?_))
  ·refine⟨by omega,by omega,fun j h1 h2=>?_⟩;rcases Nat.lt_succ_iff_lt_or_eq.1 h2 with h|rfl
   ·exact hgo j h1 h
   exact AfY DK hkp
  show _-(i+1)<_-i
  omega
 have hfr:O7 (L.map Ne.nd) (L.map Ne.nd).length 1=i:=AUk Ym hgo (fun h9=>by
  rw[Af,Fx]at h9
  have h8:=CP
  rw[BK (show(i:Int)<(L.length:Int) by omega),Bool.true_and,CA]at h8
  omega) (by rw[Af];omega)
 refine Av (AE (AE (AO (AS (EZ (ι:=Value×List Ne×AQ) [15,0,1,2,3,4,10,11,12,13,14,24,28,35,41,51,56,77] (fun zz=>Le I zz.2.2/\(∀x∈zz.2.1,G8 zz.2.2 x)/\zz.2.1.map Ne.nd=(if i=(L.map Ne.nd).length then(L.map Ne.nd)++[JI]else(L.map Ne.nd))) (fun zz=>[]) (fun zz=>zz.2.2) (fun zz=>(fsH b zz.1 zz.2.1 F)) O ?_ ?_)))))
 ·refine tr (yq O ((by exact Az O O (by rfl))) ?_);refine yq O ((by exact IP O Jt O)) ?_;refine AH O (AA O (fun DF=>?_) (fun DF=>?_))
  ·simp at DF
   have Rl:i=L.length:=by omega
   refine Bf (f:=Io) (l:=L) v (fun _=>rfl) (fun J0 hJ0 Wh=>?_);refine AC (ye O (Bn O Jt Ij) ?_);rintro v88 _ _ ⟨⟨b88,Alm⟩,rfl,rfl⟩;refine yq rfl ((by exact Az rfl rfl (by rfl))) ?_;refine ye rfl (G6 (f:=Io) (l:=[]) (ls:=L) rfl Jt Ij rfl rfl rfl rfl (Wh) rfl (fun _=>rfl) (fun x hx=>(Dt x hx).ones) (by(try simp only[maxLen,Bb]);omega) (by(try simp only[Bb]);omega)) ?_;rintro v93 _ _ ⟨rfl,rfl⟩;refine Em [_,_,_,_,_,_,_,_] rfl (NF _ rfl (fun b95=>?_) (by rfl));refine V4 (f:=Io) (xs:=L) Bi rfl (fun v96=>?_) (G8.ones (AFF (I:=I))) (by(try simp only[maxLen]);omega) (by omega);refine FB (H':=Ap 87 8 Io v96 (L++[Bi])::_) ?_ (fun _ h=>h);refine AOd v96 (fun Akg Ahe=>?_);refine Eu [v96] rfl ?_ (by assumption);refine C7 (CB ((v96,L++[Bi],J0)) ?_)
   dsimp only;exact⟨hJ0,ANP Dt hJ0,by rw[AI (by rw[Af];exact Rl),Gm];try rfl⟩
  simp at DF
  have Rl:¬i=L.length:=by omega
  refine AY (CB ((v,L,I)) ?_)
  dsimp only;exact⟨Le.refl _,Dt,by rw[AB (by rw[Af];exact Rl)]⟩
 rintro⟨v1,L1,J1⟩ ⟨UB,Aee,AQg⟩;dsimp only at *;refine AF ?_
 have Ri:L.length<=L1.length/\i<L1.length/\L1.length<=L.length+1:=by
  have h9:=B3 List.length AQg
  rw[Af]at h9
  split at h9
  ·rename_i h8;rw[Af]at h8;rw[Bh,Af,KZ]at h9;omega
  rename_i h8;rw[Af]at h8 h9;omega
 have AfM:=AKu (i:=i) (j:=(B7 (L.map Ne.nd) d p).1.toNat) (e:=(⟨⟨kd,MU md 511,1,0,(B7 (L.map Ne.nd) d p).1,[],[],[]⟩,As,As⟩:Ne)) (Acc NK Hy AQg) ⟨O,Aw _⟩ (by omega)
 refine AC (yq O ((by exact Az O O (by rfl))) ?_);refine yq O (TZ O O O) (Em (Io (⟨⟨kd,MU md 511,1,0,(B7 (L.map Ne.nd) d p).1,[],[],[]⟩,As,As⟩:Ne)) O ?_);refine yq O ((by exact Fp O Jt Ij O O (by omega))) ?_;refine y0 O (Df (⟨⟨kd,MU md 511,1,0,(B7 (L.map Ne.nd) d p).1,[],[],[]⟩,As,As⟩) O Ij O O ((G8.ones (I:=J1) ⟨Hn,Hn⟩)) (fun _=>rfl) Ri.2.1 (by decide)) ?_;rintro _ _ _ ⟨rfl,rfl⟩;refine DL (yc rfl (fun w hw=>ACb b v1 (L1.set i ⟨⟨kd,MU md 511,1,0,(B7 (L.map Ne.nd) d p).1,[],[],[]⟩,As,As⟩) (B7 (L.map Ne.nd) d p).1 ha.1 (B7 (L.map Ne.nd) d p).2.1 (i:Int) (by rw[Il];omega) (by rw[Il];omega) AfM.1 AfM.2 J1 (AUG Aee (Le.refl _) ⟨Hn,Hn⟩) F _ w (Bm (row b 90 [v1]) (Ap 87 8 Io v1 (L1.set i ⟨⟨kd,MU md 511,1,0,(B7 (L.map Ne.nd) d p).1,[],[],[]⟩,As,As⟩)) hw)) ?_);rintro _ J2 _ ⟨Pe,rfl,L2,rfl,Ada,Aea⟩;refine DL (AH rfl (AX (Aj rfl rfl rfl (fun w' hw=>?_))))
 have hmk:(Fk (L.map Ne.nd) d p kd md)=((i:Int),0,Ox ((L1.set i ⟨⟨kd,MU md 511,1,0,(B7 (L.map Ne.nd) d p).1,[],[],[]⟩,As,As⟩).map Ne.nd) (B7 (L.map Ne.nd) d p).1.toNat (B7 (L.map Ne.nd) d p).2.1 i):=by
  rw[Ih,AB (by rw[he];simp),AB Rn,Fx,AB Zp,AB T4,AB (by rw[hm0];simp),AB NZ];unfold mkE;simp only;rw[hfr,List.map_set,AQg]
 rw[hmk];exact⟨_,O,J2,_,⟨UB.trans Pe,O,v1,L2,O,Ada,Aea⟩,AD hw⟩
theorem Zt(b:Nat)(v:Value)(L:List Ne)(hL:L.length<=900000)(NK:NG (L.map Ne.nd))(Hy:Q9 L)(d:Int)(p:List UInt8)(hp:p.length<=100000000)(md:Int)(I:AQ)(Dt:∀x∈L,G8 I x)(F:List HA)(w0 w:World)(BZ:St w0 I (fsH b v L F) w):Calls prog 16 [.pointer (some ⟨b,0,none⟩),.int .i64 d,Au p,.int .i64 md].toArray w (fun e w'=> ∃v0,e=.returned v0/\∃I' H',(Le I I'/\v0=.int .i64 (Fk (L.map Ne.nd) d p 2 md).2.1/\∃v' L',H'=fsH b v' L' F/\(∀x∈L',G8 I' x)/\L'.map Ne.nd=(Fk (L.map Ne.nd) d p 2 md).2.2)/\St w I' H' w'):=by
 refine enter func16 O ntmps16 O (BZ.self) (AK O (tr (yc O (fun w hw=>Ta b v L hL NK Hy d p hp 2 md I Dt F _ w hw) ?_)));rintro _ J9 _ ⟨hJ9,rfl,v9,L9,rfl,APw,APj⟩;refine AH rfl (AK rfl (AX (AP rfl rfl (fun w' hw=>?_))));exact⟨_,rfl,J9,_,⟨hJ9,rfl,v9,L9,rfl,APw,APj⟩,AD hw⟩
theorem XC(b:Nat)(v:Value)(L:List Ne)(hL:L.length<=900000)(NK:NG (L.map Ne.nd))(Hy:Q9 L)(d:Int)(p:List UInt8)(hp:p.length<=100000000)(md:Int)(I:AQ)(Dt:∀x∈L,G8 I x)(F:List HA)(w0 w:World)(BZ:St w0 I (fsH b v L F) w):Calls prog 17 [.pointer (some ⟨b,0,none⟩),.int .i64 d,Au p,.int .i64 md].toArray w (fun e w'=> ∃v0,e=.returned v0/\∃I' H',(Le I I'/\v0=.tuple #[.int .i64 (Fk (L.map Ne.nd) d p 1 md).1,.int .i64 (Fk (L.map Ne.nd) d p 1 md).2.1]/\∃v' L',H'=fsH b v' L' F/\(∀x∈L',G8 I' x)/\L'.map Ne.nd=(Fk (L.map Ne.nd) d p 1 md).2.2)/\St w I' H' w'):=by
 refine enter func17 O ntmps17 O (BZ.self) (AK O (tr (yc O (fun w hw=>Ta b v L hL NK Hy d p hp 1 md I Dt F _ w hw) ?_)));rintro _ J9 _ ⟨hJ9,rfl,v9,L9,rfl,APw,APj⟩;refine AH rfl (AX (Aj rfl rfl rfl (fun w' hw=>?_)));exact⟨_,rfl,J9,_,⟨hJ9,rfl,v9,L9,rfl,APw,APj⟩,AD hw⟩
theorem KK(I:AQ)(F:List HA)(w0 w:World)(BZ:St w0 I F w):Calls prog 12 [].toArray w (ER w fun v I' H'=>I=I'/\∃b v1,v=.pointer (some ⟨b,0,none⟩)/\H'=fsH b v1 T0 F):=by
 refine enter func12 O ntmps12 O (BZ.self) (AK O (tr (Em [_,_,_,_,_,_,_,_] O (Em [_,_,_,_,_,_,_,_] O (ye O (Cl (vs:=[_,_]) (css:=[[.int .i64 0,.int .i64 0,.int .i64 0,.int .i64 0,.int .i64 0,Au [],.slice none 0 0,.slice none 0 0],[.int .i64 2,.int .i64 493,.int .i64 1,.int .i64 0,.int .i64 1,Au [],.slice none 0 0,.slice none 0 0]]) O Jt Ij O O O O (O) (by simp[])) ?_)))));rintro _ _ _ ⟨b3,rfl,rfl,rfl⟩;refine FB (H':=Ap 87 8 Io (.slice (some ⟨b3,0,none⟩) 2 2) T0::_) ?_ (fun _ h=>H5 h rfl (by decide));refine Em [_] rfl (JC [.slice (some ⟨b3,0,none⟩) 2 2] rfl fun b5=>(AH rfl (AX (AP rfl rfl (fun w' hw=>?_)))));exact⟨_,rfl,I,_,⟨rfl,b5,.slice (some ⟨b3,0,none⟩) 2 2,rfl,rfl⟩,AD hw⟩
end Go.Tri
