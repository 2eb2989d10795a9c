/-
 What a tree is worth.
-/
import Derived.Test.YtbndcpjklngfhaaGreatDoorEH9
namespace Go.Tri
open Go.Proofs.Tryz
open Go.Proofs Go.RowKit
set_option maxRecDepth 10000
variable {q e e1 e2:Nat} {op nm s:List UInt8} {a b v u a0 a1 a2:Int} {vs:List (List UInt8×List UInt8)}
theorem Ff.row{J:AQ}:∀{x:Ex} {q:Nat},Ff J x q->∃(kv:Value) (vs:List Value),HR J q (YQ (R9 x) (nmE x) (nE x) kv)/\Sl J 1 kv (vs.map fun v=>[v])/\vs.length=(WU x).length/\∀(i:Nat) (y:Ex),(WU x)[i]? =some y->∃a,vs[i]? =some (Gg a)/\Ff J y a
 | .num n,q,h=>⟨Vq,[],h,E3 (fun _ h=>by cases h),rfl,fun _ _ h=>by cases h⟩
 | .var nm,q,h=>⟨Vq,[],h,E3 (fun _ h=>by cases h),rfl,fun _ _ h=>by cases h⟩
 | .asg op nm k,q,⟨_,kv,a,h1,h2,h3⟩=>⟨kv,[Gg a],h1,h2,O,fun i y h=>by
   match i,h with
   |0,h=>cases h;exact⟨a,rfl,h3⟩
   |i+1,h=>cases h⟩
 | .una op k,q,⟨_,kv,a,h1,h2,h3⟩=>⟨kv,[Gg a],h1,h2,O,fun i y h=>by
   match i,h with
   |0,h=>cases h;exact⟨a,rfl,h3⟩
   |i+1,h=>cases h⟩
 | .bin op x y,q,⟨_,kv,a,b,h1,h2,h3,h4⟩=>⟨kv,[Gg a,Gg b],h1,h2,O,fun i y h=>by
   match i,h with
   |0,h=>cases h;exact⟨a,rfl,h3⟩
   |1,h=>cases h;exact⟨b,rfl,h4⟩
   |i+2,h=>cases h⟩
 | .cho x y z,q,⟨kv,a,b,c,h1,h2,h3,h4,h5⟩=>⟨kv,[Gg a,Gg b,Gg c],h1,h2,O,fun i y h=>by
   match i,h with
   |0,h=>cases h;exact⟨a,rfl,h3⟩
   |1,h=>cases h;exact⟨b,rfl,h4⟩
   |2,h=>cases h;exact⟨c,rfl,h5⟩
   |i+3,h=>cases h⟩
theorem AJS:[] ∉ Oo:=by decide
theorem AZm{J:AQ}{x:Ex}(h:Ff J x q)(ho:R9 x=[]):∃n,x=.num n:=by
 cases x with
 |num n=>exact⟨n,O⟩
 |var nm=>cases ho
 |asg op nm k=>exact Ac ho h.1.1
 |una op k=>exact Ac (ho ▸ h.1:[]∈Oo) AJS
 |bin op a b=>exact Ac ho h.1.1
 |cho a b c=>cases ho
theorem Aah{J:AQ}{x:Ex}(h:Ff J x q)(ho:R9 x=K1):∃nm,x=.var nm:=by
 cases x with
 |num n=>cases ho
 |var nm=>exact⟨nm,O⟩
 |asg op nm k=>exact Ac ho h.1.2.1
 |una op k=>exact Ac (show K1∈Oo from ho ▸ h.1) (by decide)
 |bin op a b=>exact Ac ho h.1.2.1
 |cho a b c=>cases ho
theorem AXK{x:Ex}(h1:R9 x≠K1)(hn:nmE x≠[]):∃op nm k,x=.asg op nm k:=by
 cases x with
 |num n=>exact Ac O hn
 |var nm=>exact Ac O h1
 |asg op nm k=>exact⟨op,nm,k,O⟩
 |una op k=>exact Ac O hn
 |bin op a b=>exact Ac O hn
 |cho a b c=>exact Ac O hn
theorem Z1{J:AQ}{x:Ex}(h:Ff J x q)(hn:nmE x=[])(ho:R9 x=op)(hu:op∈Oo):∃k,x=.una op k:=by
 subst ho
 cases x with
 |num n=>exact Ac hu AJS
 |var nm=>exact Ac (show K1∈Oo from hu) (by decide)
 |asg op nm k=>exact Ac hn h.1.2.2.1
 |una op k=>exact⟨k,O⟩
 |bin op a b=>exact Ac hu h.1.2.2.1
 |cho a b c=>exact Ac (show[63]∈Oo from hu) (by decide)
theorem Aaa{J:AQ}{x:Ex}(h:Ff J x q)(hn:nmE x=[])(ho:R9 x=[63]):∃a b c,x=.cho a b c:=by
 cases x with
 |num n=>cases ho
 |var nm=>cases ho
 |asg op nm k=>exact Ac hn h.1.2.2.1
 |una op k=>exact Ac (show[63]∈Oo from ho ▸ h.1) (by decide)
 |bin op a b=>exact Ac ho h.1.2.2.2
 |cho a b c=>exact⟨a,b,c,O⟩
theorem AaG{J:AQ}{x:Ex}(h:Ff J x q)(hn:nmE x=[])(h0:R9 x≠[])(h1:R9 x≠K1)(hu:R9 x ∉ Oo)(hc:R9 x≠[63]):∃a b,x=.bin (R9 x) a b:=by
 cases x with
 |num n=>exact Ac O h0
 |var nm=>exact Ac O h1
 |asg op nm k=>exact Ac hn h.1.2.2.1
 |una op k=>exact Ac h.1 hu
 |bin op a b=>exact⟨a,b,O⟩
 |cho a b c=>exact Ac O hc
theorem AYo{J:AQ}{x:Ex}(h:Ff J x q)(h0:R9 x≠[])(h1:R9 x≠K1):∃y,(WU x)[0]? =some y:=by
 cases x with
 |num n=>exact Ac O h0
 |var nm=>exact Ac O h1
 |asg op nm k=>exact⟨k,O⟩
 |una op k=>exact⟨k,O⟩
 |bin op a b=>exact⟨a,O⟩
 |cho a b c=>exact⟨a,O⟩
theorem AGq{x y:Ex}{i:Nat}(h:(WU x)[i]? =some y):Ld y+1<=Ld x:=by
 cases x with
 |num n=>cases h
 |var nm=>cases h
 |asg op nm k=>
  match i,h with
  |0,h=>cases h;simp only[Ld];omega
  |i+1,h=>cases h
 |una op k=>
  match i,h with
  |0,h=>cases h;simp only[Ld];omega
  |i+1,h=>cases h
 |bin op a b=>
  match i,h with
  |0,h=>cases h;simp only[Ld];omega
  |1,h=>cases h;simp only[Ld];omega
  |i+2,h=>cases h
 |cho a b c=>
  match i,h with
  |0,h=>cases h;simp only[Ld];omega
  |1,h=>cases h;simp only[Ld];omega
  |2,h=>cases h;simp only[Ld];omega
  |i+3,h=>cases h
def HC(r:WR)(a:Int)(e:Nat)(S':List Dw):Prop:=match r with
 | .ok a' S1=>e=0/\a=a'/\S'=S1
 | .bad e2=>e=e2/\e≠0
theorem HC.t{r:WR}{S':List Dw}(h:HC r a e S')(he:e=0):r=.ok a S':=by
 cases r with
 |ok a' S1=>rw[h.2.1,h.2.2]
 |bad e2=>exact Ac he h.2
theorem HC.f{r:WR}{S':List Dw}(h:HC r a e S')(he:e≠0):r=.bad e:=by
 cases r with
 |ok a' S1=>exact Ac h.1 he
 |bad e2=>rw[h.1]
theorem WW{r:WR}{S':List Dw}(h:r=.ok a S'):HC r a 0 S':=by rw[h];exact⟨rfl,rfl,rfl⟩
theorem Z4{r:WR}{S':List Dw}(h:r=.bad e)(he:e≠0):HC r a e S':=by rw[h];exact⟨rfl,he⟩
def AHh(fid:Nat)(x:Ex):Prop:=∀(b:Nat) (vv sv:Value) (vars:List Vr) (S:List Dw) (q:Nat) (I:AQ) (F:List HA) (w0 w:World),Ff I x q->Sl I 5 vv (vars.map DP)->I3 vars->S.length+Ld x<=1000000000->St w0 I (row b 242 [vv,sv]::Ap 190 2 F5 sv S::F) w→
 Calls prog fid [Gg b,Gg q].toArray w (ER w fun v I' H'=>I=I'/\∃(a:Int) (e1:Nat) (sv':Value) (S':List Dw),v=.tuple #[.int .i64 a,.int .i64 (e1:Int)]/\H'=row b 242 [vv,sv']::Ap 190 2 F5 sv' S'::F/\HC (A1 (vars.map Vr.nv) x S) a e1 S')
theorem ZT{k:Ex}{S S1:List Dw}(h:A1 vs k S=.ok a S1)(hb:APr op a=b):A1 vs (.una op k) S=.ok b S1:=by
 simp only[A1];rw[h];simp only;rw[hb]
theorem AKR{J:AQ}{x y:Ex}{S:List Dw}(h0:Ff J x q)(hn:nmE x=[])(hy:(WU x)[0]? =some y)(h:A1 vs y S=.bad e):A1 vs x S=.bad e:=by
 cases x with
 |num n=>cases hy
 |var nm=>cases hy
 |asg op nm k=>exact Ac hn h0.1.2.2.1
 |una op k=>cases hy;simp only[A1];rw[h]
 |bin op a b=>cases hy;simp only[A1];rw[h]
 |cho a b c=>cases hy;simp only[A1];rw[h]
theorem AJg{a b:Ex}{S S1:List Dw}(h1:A1 vs a S=.ok v S1)(ho:op=[38,38]\/op=[124,124])(h:(decide (v≠0)==decide (op=[124,124]))=true):A1 vs (.bin op a b) S=.ok (Zy (decide (v≠0))) S1:=by
 simp only[A1];rw[h1];simp only
 rw[AI ho,AI (by simpa using h)]
def AfN(r:WR):WR:=match r with
 | .bad e=>.bad e
 | .ok u S2=>.ok (Zy (decide (u≠0))) S2
def AkF(op:List UInt8)(v:Int)(r:WR):WR:=match r with
 | .bad e=>.bad e
 | .ok u S2=>if(CO op v u).2=0 then .ok (CO op v u).1 S2 else .bad (CO op v u).2
theorem AGU{a b:Ex}{S S1:List Dw}(h1:A1 vs a S=.ok v S1)(ho:op=[38,38]\/op=[124,124])(h:(decide (v≠0)==decide (op=[124,124]))=false):A1 vs (.bin op a b) S=AfN (A1 vs b S1):=by
 simp only[A1];rw[h1];simp only
 rw[AI ho,AB (by intro h2;rw[h2]at h;simp at h)];try rfl
theorem YP{a b:Ex}{S S1:List Dw}(h1:A1 vs a S=.ok v S1)(ho:¬(op=[38,38]\/op=[124,124])):A1 vs (.bin op a b) S=AkF op v (A1 vs b S1):=by
 simp only[A1];rw[h1];simp only
 rw[AB ho];try rfl
theorem AbP{a b c:Ex}{S S1 S':List Dw}(h1:A1 vs a S=.ok v S1)(h:v≠0)(hr:HC (A1 vs b S1) u e S'):HC (A1 vs (.cho a b c) S) u e S':=by
 simp only[A1];rw[h1];simp only
 rw[AI h];exact hr
theorem AbZ{a b c:Ex}{S S1 S':List Dw}(h1:A1 vs a S=.ok v S1)(h:¬v≠0)(hr:HC (A1 vs c S1) u e S'):HC (A1 vs (.cho a b c) S) u e S':=by
 simp only[A1];rw[h1];simp only
 rw[AB h];exact hr
theorem ALt{r:WR}{S':List Dw}(h:HC r u e S'):HC (AfN r) (Zy (decide (u≠0))) e S':=by
 cases r with
 |ok a S1=>obtain⟨h1,h2,h3⟩:=h;exact⟨h1,by rw[h2],h3⟩
 |bad e2=>exact h
theorem AUg{S':List Dw}:HC (if(CO op v u).2=0 then WR.ok (CO op v u).1 S' else .bad (CO op v u).2) (CO op v u).1 (CO op v u).2 S':=by
 by_cases h:(CO op v u).2=0
 ·rw[AI h];exact⟨h,O,O⟩
 rw[AB h];exact⟨O,h⟩
theorem AXn{k:Ex}{S S1:List Dw}(ho:op=[61])(h:A1 vs k S=.ok b S1):A1 vs (.asg op nm k) S=.ok b (S1++[(nm,b)]):=by
 simp only[A1];rw[AI ho,h]
theorem AUr{k:Ex}{S:List Dw}(hw:op≠[61]->(Bt vs S nm).2=0)(h:A1 vs k S=.bad e):A1 vs (.asg op nm k) S=.bad e:=by
 simp only[A1]
 by_cases ho:op=[61]
 ·rw[AI ho,h]
 rw[AB ho,AI (hw ho),h]
theorem AeJ{k:Ex}{S:List Dw}(ho:op≠[61])(h:(Bt vs S nm).2≠0):A1 vs (.asg op nm k) S=.bad (Bt vs S nm).2:=by
 simp only[A1];rw[AB ho,AB h]
theorem AIH{k:Ex}{S S1:List Dw}(ho:op≠[61])(hw:(Bt vs S nm).2=0)(h:A1 vs k S=.ok b S1):A1 vs (.asg op nm k) S=(if(CO (Lib.trimSuffix op [61]) (Bt vs S nm).1 b).2=0 then .ok (CO (Lib.trimSuffix op [61]) (Bt vs S nm).1 b).1 (S1++[(nm,(CO (Lib.trimSuffix op [61]) (Bt vs S nm).1 b).1)])else .bad (CO (Lib.trimSuffix op [61]) (Bt vs S nm).1 b).2):=by
 simp only[A1];rw[AB ho,AI hw,h]
theorem AbS(h:(decide ((e1:Int)=0)&&decide (op≠[61]))=true):e1=0/\op≠[61]:=by
 rw[Ay,BC,BC]at h;exact⟨by omega,h.2⟩
theorem AZE(h:(decide ((e1:Int)=0)&&decide (op≠[61]))=false):e1=0->op=[61]:=fun he=>by
 subst he
 by_cases ho:op=[61]
 ·exact ho
 rw[BK ho]at h;cases h
theorem AUy{k:Ex}{S S1:List Dw}(hr:HC (A1 vs k S) a1 e1 S1)(ha:op≠[61]->(Bt vs S nm).2=0/\a0=(Bt vs S nm).1)
  (h0:e1≠0->e2=e1) (h1:e1=0->op=[61]->a2=a1/\e2=0) (h2:e1=0->op≠[61]->a2=(CO (Lib.trimSuffix op [61]) a0 a1).1/\e2=(CO (Lib.trimSuffix op [61]) a0 a1).2) (he:e2=0):A1 vs k S=.ok a1 S1/\A1 vs (.asg op nm k) S=.ok a2 (S1++[(nm,a2)]):=by
 have Kn:e1=0:=by
  rcases Nat.eq_zero_or_pos e1 with h|h
  ·exact h
  have:=h0 (by omega);omega
 have hw:=hr.t Kn
 refine⟨hw,?_⟩
 by_cases ho:op=[61]
 ·rw[AXn ho hw,(h1 Kn ho).1]
 obtain⟨h3,h4⟩:=h2 Kn ho;obtain⟨h5,h6⟩:=ha ho;subst h6;rw[AIH ho h5 hw,AI (by omega),<-h3]
theorem AOW{k:Ex}{S S1:List Dw}(hr:HC (A1 vs k S) a1 e1 S1)(ha:op≠[61]->(Bt vs S nm).2=0/\a0=(Bt vs S nm).1)
  (h0:e1≠0->e2=e1) (h1:e1=0->op=[61]->a2=a1/\e2=0) (h2:e1=0->op≠[61]->a2=(CO (Lib.trimSuffix op [61]) a0 a1).1/\e2=(CO (Lib.trimSuffix op [61]) a0 a1).2) (he:e2≠0) {v:Int} {S':List Dw}:HC (A1 vs (.asg op nm k) S) v e2 S':=by
 by_cases Kn:e1=0
 ·have hw:=hr.t Kn
  have ho:op≠[61]:=fun ho=>he (h1 Kn ho).2
  obtain⟨h3,h4⟩:=h2 Kn ho;obtain⟨h5,h6⟩:=ha ho;subst h6;rw[AIH ho h5 hw,<-h4,AB he];exact⟨rfl,he⟩
 rw[h0 Kn];exact Z4 (AUr (fun ho=>(ha ho).1) (hr.f Kn)) Kn
theorem Za(op nm:List UInt8)(k:Ex)(ih:AHh 145 k)(b:Nat)(vv sv:Value)(vars:List Vr)(S:List Dw)(q:Nat)(I:AQ)(F:List HA)(w0 w:World)(hx:Ff I (.asg op nm k) q)(hv:Sl I 5 vv (vars.map DP))(hV:I3 vars)(hS:S.length+(Ld k+1)<=1000000000)(BZ:St w0 I (row b 242 [vv,sv]::Ap 190 2 F5 sv S::F) w):Calls prog 173 [Gg b,Gg q].toArray w (ER w fun v I' H'=>I=I'/\∃(a:Int) (e1:Nat) (sv':Value) (S':List Dw),v=.tuple #[.int .i64 a,.int .i64 (e1:Int)]/\H'=row b 242 [vv,sv']::Ap 190 2 F5 sv' S'::F/\HC (A1 (vars.map Vr.nv) (.asg op nm k) S) a e1 S'):=by
 obtain⟨LS,kv,q0,IE,Wv,hk0⟩:=hx
 have Ri:[Gg q0].length=1:=rfl
 refine enter func173 O ntmps173 O (BZ.self) (AK O (AK O (EZ (ι:=Int) [0,1] (fun zz=>(op≠[61]->(Bt (vars.map Vr.nv) S nm).2=0/\zz=(Bt (vars.map Vr.nv) S nm).1)) (fun zz=>[(6,.int .i64 zz)]) (fun zz=>I) (fun zz=>(row b 242 [vv,sv]::Ap 190 2 F5 sv S::F)) O ?_ ?_)))
 ·refine tr (yq O ((by exact Ai O O (A8 (IE 0 _ O)))) ?_);refine yq O (Bs O O O) (ln (AA O (fun Ab=>?_) (fun Ab=>?_)))
  ·have Dk:op≠[61]:=BM Ab
   refine tr (yq O ((by exact Ai O O (A8 (IE 1 _ O)))) ?_);refine yp O ((fun w hw=>Ug b vv sv vars S nm w (D7 (b:=b) hw) (hv.mono hw.le) (ANM (v:=sv) (S:=S) hw) hV (by omega))) ?_;refine AH O (AF (AK O (AA O (fun An=>?_) (fun An=>?_))))
   ·have JM:(Bt (vars.map Vr.nv) S nm).2≠0:=by have:=BM An;omega
    refine AK O (Ak (Aj O O O (fun w' hw=>?_)));exact⟨_,O,I,row b 242 [vv,sv]::Ap 190 2 F5 sv S::F,⟨O,0,(Bt (vars.map Vr.nv) S nm).2,sv,S,O,O,Z4 (AeJ Dk JM) JM⟩,AD hw⟩
   refine AV (AC (AU O (CB ((Bt (vars.map Vr.nv) S nm).1) ?_)))
   exact fun _=>⟨by have:=BW An;omega,O⟩
  refine AY (CB (0) ?_)
  exact fun h=>Ac h (by simpa using Ab)
 rintro a0 ha0;refine tr (yq rfl ((by exact Ai rfl rfl (A8 (IE 3 _ rfl)))) ?_);refine yq rfl ((by exact Bq rfl TL QG rfl rfl (Sl.shape Wv (Af _)) (by omega))) ?_;refine yq rfl ((by exact Ai rfl rfl (H7 (i:=0) Wv rfl))) ?_;refine yc rfl (fun w hw=>ih b vv sv vars S q0 _ _ _ w hk0 hv hV (by omega) (Bm (row b 242 [vv,sv]) (Ap 190 2 F5 sv S) hw)) ?_;rintro _ _ _ ⟨rfl,a37,e37,sv37,S37,rfl,rfl,Adw⟩;refine AH rfl (EZ (ι:=Int×Nat) [6,0,1] (fun zz=>(e37≠0->zz.2=e37)/\(e37=0->op=[61]->zz.1=a37/\zz.2=0)/\(e37=0->op≠[61]->zz.1=(CO (Lib.trimSuffix op [61]) a0 a37).1/\zz.2=(CO (Lib.trimSuffix op [61]) a0 a37).2)) (fun zz=>[(9,.int .i64 zz.1),(10,.int .i64 (zz.2:Int))]) (fun zz=>I) (fun zz=>(row b 242 [vv,sv37]::Ap 190 2 F5 sv37 S37::F)) rfl ?_ ?_)
 ·refine tq ?_
  refine zA 5 O (fun h48=>by
    simp at h48
    refine zq O ((by exact Ai O O (A8 (IE 0 _ O)))) ?_;refine zq O (Bs O O O) ?_;exact zv O
   ) ?_
  refine Dp (AA O (fun A6=>?_) (fun A6=>?_))
  ·refine AC (yq O ((by exact Ai O O (A8 (IE 0 _ O)))) ?_);refine yp O ((fun w _=>T2 op [61] w (by have:=LS.2.2.2;omega))) ?_;refine yp O ((fun w _=>AEf (Lib.trimSuffix op [61]) a0 a37 w)) (AU O (CB (((CO (Lib.trimSuffix op [61]) a0 a37).1,(CO (Lib.trimSuffix op [61]) a0 a37).2)) ?_))
   dsimp only;obtain⟨h1,h2⟩:=AbS A6;exact⟨fun h=>Ac h1 h,fun _ h=>Ac h h2,fun _ _=>⟨rfl,rfl⟩⟩
  refine AY (CB ((a37,e37)) ?_)
  dsimp only;exact⟨fun _=>rfl,fun h _=>⟨O,h⟩,fun h h2=>Ac (AZE A6 h) h2⟩
 rintro⟨a2,e2⟩ ⟨hz0,hz1,hz2⟩;dsimp only at *;refine AF (AK rfl (AA rfl (fun BJ=>?_) (fun BJ=>?_)))
 ·have P3:e2≠0:=by have:=BM BJ;omega
  refine AK O (Ak (Aj O O O (fun w' hw=>?_)));exact⟨_,O,I,row b 242 [vv,sv37]::Ap 190 2 F5 sv37 S37::F,⟨O,0,e2,sv37,S37,O,O,AOW Adw ha0 hz0 hz1 hz2 P3⟩,AD hw⟩
 have P3:e2=0:=by have:=BW BJ;omega
 have Kp:=AUy Adw ha0 hz0 hz1 hz2 P3
 have Dg:=EE k S S37 a37 Kp.1
 refine AV (AF (Bo [11,12,15] [12,15] [row b 242 [vv,sv37]] mo (by kernel_rfl) (fun _ _ _ _ _ h=>h) (xr [0,1,2,3] O O (x0 4 O (Le.refl _) O (fun _ hI=>(by exact Az O O (by rfl))) ?_))));refine xr [5,6,7] O O (xq 8 O O ((by exact Ai O O (A8 (IE 1 _ O)))) ?_);refine xr [9] O O (xf 10 O O (fun _=>C0 (pl:=[(_,_),(_,_)]) (cs:=(F5 (nm,a2)).toArray) O APF O2 ⟨O,⟨_,_,Co⟩,O,⟨_,_,ti2⟩,trivial⟩ O O) (xe 11 O O (BD O Rg O2 O O O (by rfl) O) ?_));rintro _ _ _ ⟨b74,rfl,rfl,rfl⟩;refine xk ?_;refine xe 12 rfl rfl (B8 (f:=F5) (c:=(nm,a2)) rfl Rg O2 rfl rfl rfl rfl rfl rfl rfl (by exact Qw _) (by simp only[maxLen];omega) (by omega)) ?_;rintro v75 _ _ ⟨rfl,rfl⟩;refine⟨Le.refl _,.inl rfl,?_⟩;refine AHY v75 (fun Ma=>?_);refine xr [13,14] rfl rfl ?_;refine FP 15 (by kernel_rfl) (by kernel_rfl) rfl (Le.refl _) rfl rfl (Bz rfl AIv rfl rfl (by assumption) rfl (by(simp only[Iw,DS];try rfl))) ?_;rintro _ _ _ ⟨rfl,rfl⟩;refine⟨Le.refl _,.inl rfl,?_⟩;refine Bx (H':=row b 242 [vv,v75]::_) ?_ (fun _ h=>h);refine CX (AS (AK rfl (AX (Aj rfl rfl rfl (fun w' hw=>?_)))));exact⟨_,rfl,I,row b 242 [vv,v75]::Ap 190 2 F5 v75 (S37++[(nm,a2)])::F,⟨rfl,a2,0,v75,(S37++[(nm,a2)]),rfl,rfl,WW Kp.2⟩,AD hw⟩
theorem AUH{S:List Dw}:HC (A1 vs (.var nm) S) (Bt vs S nm).1 (Bt vs S nm).2 S:=by
 simp only[A1]
 by_cases h:(Bt vs S nm).2=0
 ·rw[AI h];exact⟨h,O,O⟩
 rw[AB h];exact⟨O,h⟩
theorem AVI(h1:op≠[49,43])(h2:op≠[49,45])(h3:op≠[49,126])(h4:op≠[49,33]):op ∉ Oo:=fun h=>by
 simp only[Oo,Ci,List.not_mem_nil,or_false]at h;rcases h with h|h|h|h
 ·exact h1 h
 ·exact h2 h
 ·exact h4 h
 exact h3 h
theorem H9(x:Ex)(ih:∀y:Ex,(∃i:Nat,(WU x)[i]? =some y)->AHh 145 y)(ihA:∀op nm k,x=.asg op nm k->AHh 173 x)(b:Nat)(vv sv:Value)(vars:List Vr)(S:List Dw)(q:Nat)(I:AQ)(F:List HA)(w0 w:World)(hx:Ff I x q)(hv:Sl I 5 vv (vars.map DP))(hV:I3 vars)(hS:S.length+Ld x<=1000000000)(BZ:St w0 I (row b 242 [vv,sv]::Ap 190 2 F5 sv S::F) w):Calls prog 145 [Gg b,Gg q].toArray w (ER w fun v I' H'=>I=I'/\∃(a:Int) (e1:Nat) (sv':Value) (S':List Dw),v=.tuple #[.int .i64 a,.int .i64 (e1:Int)]/\H'=row b 242 [vv,sv']::Ap 190 2 F5 sv' S'::F/\HC (A1 (vars.map Vr.nv) x S) a e1 S'):=by
 obtain⟨kv,vs,IE,Wv,Wl,ACO⟩:=hx.row;refine enter func145 rfl ntmps145 rfl (BZ.self) (AK rfl (AF (AJ (tr (yq rfl ((by exact Ai rfl rfl (A8 (IE 0 _ rfl)))) ?_)))));refine yq rfl (AR rfl rfl rfl) (AH rfl (AA rfl (fun Ab=>?_) (fun Ab=>?_)))
 ·obtain⟨n,rfl⟩:=AZm hx (BM Ab);refine tr (yq rfl ((by exact Ai rfl rfl (A8 (IE 2 _ rfl)))) ?_);refine AH rfl (Ak (Aj rfl rfl rfl (fun w' hw=>?_)));exact⟨_,rfl,I,row b 242 [vv,sv]::Ap 190 2 F5 sv S::F,⟨rfl,n,0,sv,S,rfl,rfl,WW rfl⟩,AD hw⟩
 have h0:R9 x≠[]:=BW Ab
 refine tr (yq O ((by exact Ai O O (A8 (IE 0 _ O)))) ?_);refine yq O (AR O O O) (AH O (AA O (fun An=>?_) (fun An=>?_)))
 ·obtain⟨nm,rfl⟩:=Aah hx (BM An);refine tr (yq rfl ((by exact Ai rfl rfl (A8 (IE 1 _ rfl)))) ?_);refine yp rfl ((fun w hw=>Ug b vv sv vars S nm w (D7 (b:=b) hw) (hv.mono hw.le) (ANM (v:=sv) (S:=S) hw) hV (by omega))) ?_;refine AH rfl (Ak (Aj rfl rfl rfl (fun w' hw=>?_)));exact⟨_,rfl,I,row b 242 [vv,sv]::Ap 190 2 F5 sv S::F,⟨rfl,(Bt (vars.map Vr.nv) S nm).1,(Bt (vars.map Vr.nv) S nm).2,sv,S,rfl,rfl,AUH⟩,AD hw⟩
 have h1:R9 x≠K1:=BW An
 refine tr (yq O ((by exact Ai O O (A8 (IE 1 _ O)))) ?_);refine yq O (Bs O O O) (AH O (AA O (fun A6=>?_) (fun A6=>?_)))
 ·obtain⟨op,nm,k,rfl⟩:=AXK h1 (BM A6);refine tr (yc rfl (fun w hw=>(ihA op nm k rfl) b vv sv vars S q _ _ _ w hx hv hV hS (Bm (row b 242 [vv,sv]) (Ap 190 2 F5 sv S) hw)) ?_);rintro _ _ _ ⟨rfl,a43,e43,sv43,S43,rfl,rfl,AkG⟩;refine AH rfl (Ak (Aj rfl rfl rfl (fun w' hw=>?_)));exact⟨_,rfl,I,row b 242 [vv,sv43]::Ap 190 2 F5 sv43 S43::F,⟨rfl,a43,e43,sv43,S43,rfl,rfl,AkG⟩,AD hw⟩
 have Hb:nmE x=[]:=Decidable.not_not.1 (BW A6)
 refine AY (AL (AS (AF ?_)));obtain⟨y0,Zw⟩:=AYo hx h0 h1;obtain⟨a0,ha0,hx0⟩:=ACO 0 y0 Zw
 have Ahq:0<vs.length:=by have:=(List.getElem?_eq_some_iff.1 ha0).1;omega
 refine AC (yq O ((by exact Ai O O (A8 (IE 3 _ O)))) ?_);refine yq O ((by exact AN O TL QG O O (Sl.shape Wv (Af _)) (by omega))) ?_;refine yq O ((by exact Ai O O (H7 (i:=0) Wv ha0))) ?_;refine yc O (fun w hw=>(ih y0 ⟨0,Zw⟩) b vv sv vars S a0 _ _ _ w hx0 hv hV (by have:=AGq Zw;omega) (Bm (row b 242 [vv,sv]) (Ap 190 2 F5 sv S) hw)) ?_;rintro _ _ _ ⟨rfl,a54,e54,sv54,S54,rfl,rfl,ATT⟩;refine AH rfl (AF (AK rfl (AA rfl (fun BJ=>?_) (fun BJ=>?_))))
 ·have he:e54≠0:=by have:=BM BJ;omega
  refine AK O (Ak (Aj O O O (fun w' hw=>?_)));exact⟨_,O,I,row b 242 [vv,sv54]::Ap 190 2 F5 sv54 S54::F,⟨O,0,e54,sv54,S54,O,O,Z4 (AKR hx Hb Zw (ATT.f he)) he⟩,AD hw⟩
 have he:e54=0:=by have:=BW BJ;omega
 have hk:=ATT.t he
 have Dg:=EE y0 S S54 a54 hk
 refine AV (AF (tr (yq O ((by exact Ai O O (A8 (IE 0 _ O)))) ?_)));refine ln (AJ (tr (yq O (AR O O O) (AH O (AA O (fun Bj=>?_) (fun Bj=>?_))))))
 ·have ho:R9 x=[49,43]:=BM Bj
  obtain⟨k1,rfl⟩:=Z1 hx Hb ho (by decide)
  cases Zw
  refine AK O (Ak (Aj O O O (fun w' hw=>?_)));exact⟨_,O,I,row b 242 [vv,sv54]::Ap 190 2 F5 sv54 S54::F,⟨O,a54,0,sv54,S54,O,O,WW (ZT hk (by rfl))⟩,AD hw⟩
 have ho4:R9 x≠[49,43]:=BW Bj
 refine tr (yq O (AR O O O) (AH O (AA O (fun B4=>?_) (fun B4=>?_))))
 ·have ho:R9 x=[49,45]:=BM B4
  obtain⟨k1,rfl⟩:=Z1 hx Hb ho (by decide)
  cases Zw
  refine tr (yq O (Vu O O) (AH O (Ak (Aj O O O (fun w' hw=>?_)))));exact⟨_,O,I,row b 242 [vv,sv54]::Ap 190 2 F5 sv54 S54::F,⟨O,_,0,sv54,S54,O,O,WW (ZT hk (by rfl))⟩,AD hw⟩
 have ho5:R9 x≠[49,45]:=BW B4
 refine tr (yq O (AR O O O) (AH O (AA O (fun CP=>?_) (fun CP=>?_))))
 ·have ho:R9 x=[49,126]:=BM CP
  obtain⟨k1,rfl⟩:=Z1 hx Hb ho (by decide)
  cases Zw
  refine tr (yq O (ATV O O) (AH O (Ak (Aj O O O (fun w' hw=>?_)))));exact⟨_,O,I,row b 242 [vv,sv54]::Ap 190 2 F5 sv54 S54::F,⟨O,_,0,sv54,S54,O,O,WW (ZT hk (by rfl))⟩,AD hw⟩
 have ho6:R9 x≠[49,126]:=BW CP
 refine tr (yq O (AR O O O) (AH O (AA O (fun DF=>?_) (fun DF=>?_))))
 ·have ho:R9 x=[49,33]:=BM DF
  obtain⟨k1,rfl⟩:=Z1 hx Hb ho (by decide)
  cases Zw
  refine tr (yp O ((fun w _=>FN _ w)) (AH O (Ak (Aj O O O (fun w' hw=>?_)))));exact⟨_,O,I,row b 242 [vv,sv54]::Ap 190 2 F5 sv54 S54::F,⟨O,_,0,sv54,S54,O,O,WW (ZT hk (by rfl))⟩,AD hw⟩
 have ho7:R9 x≠[49,33]:=BW DF
 refine tr (yq O (AR O O O) (AH O (AA O (fun GQ=>?_) (fun GQ=>?_))))
 ·obtain⟨y,y1,y2,rfl⟩:=Aaa hx Hb (BM GQ)
  cases Zw
  have AmC:vs.length=3:=Wl
  refine AF (AK O (AA O (fun KD=>?_) (fun KD=>?_)))
  ·refine AF ?_;obtain⟨a1,AHD,AQK⟩:=ACO 1 y1 rfl;refine AC (yq rfl ((by exact Ai rfl rfl (A8 (IE 3 _ rfl)))) ?_);refine yq rfl ((by exact Bq rfl TL QG rfl rfl (Sl.shape Wv (Af _)) (by omega))) ?_;refine yq rfl ((by exact Ai rfl rfl (H7 (i:=1) Wv AHD))) ?_;refine yc rfl (fun w hw=>(ih y1 ⟨1,rfl⟩) b vv sv54 vars S54 a1 _ _ _ w AQK hv hV (by simp only[Ld]at hS;omega) (Bm (row b 242 [vv,sv54]) (Ap 190 2 F5 sv54 S54) hw)) ?_;rintro _ _ _ ⟨rfl,a91,e91,sv91,S91,rfl,rfl,AjL⟩;refine AH rfl (Ak (Aj rfl rfl rfl (fun w' hw=>?_)));exact⟨_,rfl,I,row b 242 [vv,sv91]::Ap 190 2 F5 sv91 S91::F,⟨rfl,a91,e91,sv91,S91,rfl,rfl,AbP hk (BM KD) AjL⟩,AD hw⟩
  refine AV (AF ?_);obtain⟨a2,Ahs,Agl⟩:=ACO 2 y2 rfl;refine AC (yq rfl ((by exact Ai rfl rfl (A8 (IE 3 _ rfl)))) ?_);refine yq rfl ((by exact Bq rfl TL QG rfl rfl (Sl.shape Wv (Af _)) (by omega))) ?_;refine yq rfl ((by exact Ai rfl rfl (H7 (i:=2) Wv Ahs))) ?_;refine yc rfl (fun w hw=>(ih y2 ⟨2,rfl⟩) b vv sv54 vars S54 a2 _ _ _ w Agl hv hV (by simp only[Ld]at hS;omega) (Bm (row b 242 [vv,sv54]) (Ap 190 2 F5 sv54 S54) hw)) ?_;rintro _ _ _ ⟨rfl,a101,e101,sv101,S101,rfl,rfl,AdO⟩;refine AH rfl (Ak (Aj rfl rfl rfl (fun w' hw=>?_)));exact⟨_,rfl,I,row b 242 [vv,sv101]::Ap 190 2 F5 sv101 S101::F,⟨rfl,a101,e101,sv101,S101,rfl,rfl,AbZ hk (BW KD) AdO⟩,AD hw⟩
 have ho8:R9 x≠[63]:=BW GQ
 obtain⟨x1,y1,hxe⟩:=AaG hx Hb h0 h1 (AVI ho4 ho5 ho6 ho7) ho8
 have hy1:(WU x)[1]? =some y1:=by rw[hxe];try rfl
 have APQ:y0=x1:=by rw[hxe]at Zw;cases Zw;rfl
 have MG:Ld x=Ld y0+Ld y1+1:=by rw[hxe,APQ];try rfl
 refine EZ (ι:=Unit) [0,1,4,5,11,21,35,6,7,58,63,64,67,71,75,80] (fun _=>True) (fun _=>[(104,.bool (decide (R9 x=[38,38]\/R9 x=[124,124])))]) (fun _=>I) (fun _=>(row b 242 [vv,sv54]::Ap 190 2 F5 sv54 S54::F)) O ?_ ?_
 ·refine tr (yq O (AR O O O) (AH O (AA O (fun EW=>?_) (fun EW=>?_))))
  ·refine AY (Dd (()) ?_ (A0 O (by rw[EW,BK (Or.inl (BM EW))]) (Bk)) (BS O) (fun _ h=>by dsimp only;exact AD h))
   trivial
  refine AC (yq O (AR O O O) (AU O (Dd (()) ?_ (A0 O (B3 Value.bool (by rw[decide_eq_decide];exact⟨Or.inr,fun h=>h.resolve_left (BW EW)⟩)) (Bk)) (BS O) (fun _ h=>by dsimp only;exact AD h))))
  trivial
 rintro _ _;refine AA rfl (fun Eq=>?_) (fun Eq=>?_)
 ·have hlo:=BM Eq
  refine AF (tr (yq O ((by exact Ai O O (A8 (IE 0 _ O)))) ?_));refine yq O (AR O O O) (yq O (Ph O un4 O O) (ln (AA O (fun Fb=>?_) (fun Fb=>?_))))
  ·refine tr (yp O ((fun w _=>FN _ w)) (AH O (Ak (Aj O O O (fun w' hw=>?_)))));exact⟨_,O,I,row b 242 [vv,sv54]::Ap 190 2 F5 sv54 S54::F,⟨O,_,0,sv54,S54,O,O,by rw[hxe];exact WW (AJg (APQ ▸ hk) hlo Fb)⟩,AD hw⟩
  refine AV (AF ?_);obtain⟨a1,AHD,AQK⟩:=ACO 1 y1 hy1
  have AfG:1<vs.length:=(List.getElem?_eq_some_iff.1 AHD).1
  refine AC (yq O ((by exact Ai O O (A8 (IE 3 _ O)))) ?_);refine yq O ((by exact AN O TL QG O O (Sl.shape Wv (Af _)) (by omega))) ?_;refine yq O ((by exact Ai O O (H7 (i:=1) Wv AHD))) ?_;refine yc O (fun w hw=>(ih y1 ⟨1,hy1⟩) b vv sv54 vars S54 a1 _ _ _ w AQK hv hV (by have:=AGq Zw;omega) (Bm (row b 242 [vv,sv54]) (Ap 190 2 F5 sv54 S54) hw)) ?_;rintro _ _ _ ⟨rfl,a126,e126,sv126,S126,rfl,rfl,AfW⟩;refine AH rfl (tr (yp rfl ((fun w _=>FN _ w)) (AH rfl (Ak (Aj rfl rfl rfl (fun w' hw=>?_))))));exact⟨_,rfl,I,row b 242 [vv,sv126]::Ap 190 2 F5 sv126 S126::F,⟨rfl,_,e126,sv126,S126,rfl,rfl,by rw[hxe,AGU (APQ ▸ hk) hlo Fb];exact ALt AfW⟩,AD hw⟩
 have hlo:=BW Eq
 refine AY (AL (AS (AF ?_)));obtain⟨a1,AHD,AQK⟩:=ACO 1 y1 hy1
 have AfG:1<vs.length:=(List.getElem?_eq_some_iff.1 AHD).1
 refine AC (yq O ((by exact Ai O O (A8 (IE 3 _ O)))) ?_);refine yq O ((by exact AN O TL QG O O (Sl.shape Wv (Af _)) (by omega))) ?_;refine yq O ((by exact Ai O O (H7 (i:=1) Wv AHD))) ?_;refine yc O (fun w hw=>(ih y1 ⟨1,hy1⟩) b vv sv54 vars S54 a1 _ _ _ w AQK hv hV (by have:=AGq Zw;omega) (Bm (row b 242 [vv,sv54]) (Ap 190 2 F5 sv54 S54) hw)) ?_;rintro _ _ _ ⟨rfl,a141,e141,sv141,S141,rfl,rfl,AWL⟩;refine AH rfl (AF (AK rfl (AA rfl (fun GC=>?_) (fun GC=>?_))))
 ·have P3:e141≠0:=by have:=BM GC;omega
  refine AK O (Ak (Aj O O O (fun w' hw=>?_)));exact⟨_,O,I,row b 242 [vv,sv141]::Ap 190 2 F5 sv141 S141::F,⟨O,0,e141,sv141,S141,O,O,Z4 (by rw[hxe,YP (APQ ▸ hk) hlo,AWL.f P3];try rfl) P3⟩,AD hw⟩
 have P3:e141=0:=by have:=BW GC;omega
 refine AV (tr (yq O ((by exact Ai O O (A8 (IE 0 _ O)))) ?_));refine yp O ((fun w _=>AEf (R9 x) a54 a141 w)) (AH O (AX (Aj O O O (fun w' hw=>?_))));exact⟨_,O,I,row b 242 [vv,sv141]::Ap 190 2 F5 sv141 S141::F,⟨O,_,_,sv141,S141,O,O,by rw[hxe,YP (APQ ▸ hk) hlo,AWL.t P3];exact AUg⟩,AD hw⟩
theorem Iz:∀x,AHh 145 x
 | .num n=>fun b vv sv vars S q I F w0 w hx hv hV hS BZ=>H9 (.num n) (fun y ⟨i,h⟩=>by cases h) (fun _ _ _ h=>by cases h) b vv sv vars S q I F w0 w hx hv hV hS BZ
 | .var nm=>fun b vv sv vars S q I F w0 w hx hv hV hS BZ=>H9 (.var nm) (fun y ⟨i,h⟩=>by cases h) (fun _ _ _ h=>by cases h) b vv sv vars S q I F w0 w hx hv hV hS BZ
 | .asg op nm k=>
  have hk:=Iz k
  fun b vv sv vars S q I F w0 w hx hv hV hS BZ=>H9 (.asg op nm k) (fun y ⟨i,h⟩=>by
   match i,h with
   |0,h=>cases h;exact hk
   |i+1,h=>cases h) (fun _ _ _ h=>by
    cases h
    exact fun b vv sv vars S q I F w0 w hx hv hV hS BZ=>Za op nm k hk b vv sv vars S q I F w0 w hx hv hV hS BZ) b vv sv vars S q I F w0 w hx hv hV hS BZ
 | .una op k=>
  have hk:=Iz k
  fun b vv sv vars S q I F w0 w hx hv hV hS BZ=>H9 (.una op k) (fun y ⟨i,h⟩=>by
   match i,h with
   |0,h=>cases h;exact hk
   |i+1,h=>cases h) (fun _ _ _ h=>by cases h) b vv sv vars S q I F w0 w hx hv hV hS BZ
 | .bin op x y=>
  have hk:=Iz x
  have PJ:=Iz y
  fun b vv sv vars S q I F w0 w hx hv hV hS BZ=>H9 (.bin op x y) (fun y ⟨i,h⟩=>by
   match i,h with
   |0,h=>cases h;exact hk
   |1,h=>cases h;exact PJ
   |i+2,h=>cases h) (fun _ _ _ h=>by cases h) b vv sv vars S q I F w0 w hx hv hV hS BZ
 | .cho x y z=>
  have hk:=Iz x
  have PJ:=Iz y
  have Td:=Iz z
  fun b vv sv vars S q I F w0 w hx hv hV hS BZ=>H9 (.cho x y z) (fun y ⟨i,h⟩=>by
   match i,h with
   |0,h=>cases h;exact hk
   |1,h=>cases h;exact PJ
   |2,h=>cases h;exact Td
   |i+3,h=>cases h) (fun _ _ _ h=>by cases h) b vv sv vars S q I F w0 w hx hv hV hS BZ
theorem AVX(h:Dy s=.bad e):Fc s vs=(0,[],e):=by
 unfold Fc;rw[h]
theorem AaO{x:Ex}(h:Dy s=.ok x)(hw:A1 vs x []=.bad e):Fc s vs=(0,[],e):=by
 unfold Fc;rw[h];simp only;rw[hw]
theorem Acl{x:Ex}{S:List Dw}(h:Dy s=.ok x)(hw:A1 vs x []=.ok v S):Fc s vs=(v,S,0):=by
 unfold Fc;rw[h];simp only;rw[hw]
theorem AFr(s:List UInt8)(vv:Value)(vars:List Vr)(I:AQ)(F:List HA)(w0 w:World)(hs:s.length<=900000000)(hv:Sl I 5 vv (vars.map DP))(hV:I3 vars)(hG:Fr I)(BZ:St w0 I F w):Calls prog 115 [Au s,vv].toArray w (ER w fun v I' H'=>Le I I'/\F=H'/\∃sl,v=.tuple #[.int .i64 (Fc s (vars.map Vr.nv)).1,sl,.int .i64 ((Fc s (vars.map Vr.nv)).2.2:Int)]/\Sl I' 2 sl ((Fc s (vars.map Vr.nv)).2.1.map F5)):=by
 refine enter func115 O ntmps115 O (BZ.self) (AK O (tr (yc O (fun w hw=>ACI s _ _ _ w hs hG hw) ?_)));rintro _ J13 _ ⟨En,rfl,q13,e13,rfl,UA⟩;refine AH rfl (AF (AK rfl (AA rfl (fun Ab=>?_) (fun Ab=>?_))))
 ·have he:e13≠0:=by have:=BM Ab;omega
  have hE:=AVX (vs:=(vars.map Vr.nv)) (UA.f he)
  refine AK O (Ak (Cu O O O O (fun w' hw=>?_)));refine⟨_,O,J13,_,⟨En,O,Vq,?_,?_⟩,hw⟩
  ·rw[hE];try rfl
  rw[hE];exact E3 (fun _ h=>by cases h)
 have he:e13=0:=by have:=BW Ab;omega
 obtain⟨x13,hx,hxa⟩:=UA.t he;refine AV (tr (Em ([vv,.slice none 0 0]) rfl ?_ (by obtain⟨A,c,h⟩:=Sl.lenOf hv rfl;rw[h];try rfl)))
 refine JC _ O fun b21=>?_
 refine FB (H':=row b21 242 [vv,(.slice none 0 0)]::Ap 190 2 F5 (.slice none 0 0) []::F) ?_ (fun _ h=>AD (CI 190 2 F5 h));refine AH O (tr (yc O (fun w hw=>Iz x13 b21 vv (.slice none 0 0) vars [] q13 _ _ _ w hxa (hv.mono En) hV (by have:=ABO hs hx;simp only[Bb];omega) (Bm (row b21 242 [vv,(.slice none 0 0)]) (Ap 190 2 F5 (.slice none 0 0) []) hw)) ?_));rintro _ _ _ ⟨rfl,a25,e25,sv25,S25,rfl,rfl,ANk⟩;refine AH rfl (AF (AK rfl (AA rfl (fun An=>?_) (fun An=>?_))))
 ·have P3:e25≠0:=by have:=BM An;omega
  have hE:=AaO hx (ANk.f P3)
  refine AK O (Ak (Cu O O O O (fun w' hw=>?_)));refine⟨_,O,J13,F,⟨En,O,Vq,?_,?_⟩,AD hw⟩
  ·rw[hE];try rfl
  rw[hE];exact E3 (fun _ h=>by cases h)
 have P3:e25=0:=by have:=BW An;omega
 have hE:=Acl hx (ANk.t P3)
 refine AV (AF (Bf (f:=F5) (l:=S25) sv25 (fun _=>rfl) (fun J8 hJ8 C3=>?_)));refine Bd mo (by kernel_rfl) (fun _ _ _ _ _ h=>h) (EA O ?_);refine De O (AX (Cu O O O O (fun w' hw=>?_)));refine⟨_,O,J8,F,⟨En.trans hJ8,O,sv25,?_,?_⟩,AD hw⟩
 ·rw[hE];try rfl
 rw[hE];exact C3
end Go.Tri
