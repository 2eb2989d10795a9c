/-
 Paths as the host tells them.
-/
import Derived.Test.YtbndcpjklngfhaaGreatDoorFG7
import Derived.Test.YtbndcpjklngfhaaGreatDoorEM7
import Derived.Test.YtbndcpjklngfhaaGreatDoorEQ1
import Derived.Test.YtbndcpjklngfhaaGreatDoorPEw
import Derived.Test.YtbndcpjklngfhaaGreatDoorPExV
namespace Go.Tri
open Go.Proofs.Tryz
open Go.Proofs Go.RowKit
set_option maxRecDepth 10000
variable {ps:List (List UInt8)} {bf:Nat} {vf av:Value} {w0 w:World} {s:List UInt8}
theorem ANO(ps:List (List UInt8))(hp:ps.length<=1000):∀x∈GF ps,x.names.length<=1000000:=by
 have key:∀(ps:List (List UInt8)) (fs:List Nd) (m:Nat),NG fs->(∀x∈fs,x.names.length<=m)->∀x∈ps.foldl Ol fs,x.names.length<=m+ps.length:=by
  intro ps
  induction ps with
  |nil=>intro fs m _ h;exact h
  |cons p ps ih=>
   intro fs m hw h x hx
   have h1:=ih (Ol fs p) (m+1) (AHv hw p) (by unfold Ol;split<;>exact ST hw h _ _ _ _) x hx
   rw[CD];omega
 intro x hx
 have:=key ps fs0 2 AOo (by decide) x hx
 omega
theorem AQl{Ln:List Ne}(h:Ln.map Ne.nd=GF (ps.take 20)):Q9 Ln:=fun x hx=>ANO _ (by rw[BL];omega) _ (h ▸ FL.2 ⟨x,hx,rfl⟩)
theorem T6(p:HP)(Ln:List Ne)(NK:NG (Ln.map Ne.nd))(Hy:Q9 Ln)(Hb:SB (Ln.map Ne.nd))(bf:Nat)(vf:Value)(hfv:p.fv=.pointer (some ⟨bf,0,none⟩))(h:Hx)(f:List Ch)(hf:f.length<=100000)(I:AQ)(lv av fv:Value)(F:List HA)(w0 w:World)(k:FsI I bf vf Ln)(C3:Sl I 2 fv (f.map D5))(BZ:St w0 I (DW p lv av h F) w):Calls prog 261 [.pointer (some ⟨p.hb,0,none⟩),fv].toArray w (ER w fun v I' H'=>Le I I'/\H'=DW p lv av h F/\Sl I' 1 v ((CG (Ln.map Ne.nd) 1 f).map Ce)):=by
 refine enter func261 O ntmps261 O (BZ.self) (AK O (AF (Bo [15] [] [row p.hb 35 [.pointer (some ⟨p.eb,0,none⟩)],row p.eb 41 (Js p av)] mo (by kernel_rfl) (fun _ _ _ _ _ h=>h) (xr [0,1,2] O O (xq 3 O O (Az O O (by rfl)) ?_)))));refine xr [4,5] O O (xq 6 O O (Az O O (by rfl)) ?_);refine xr [7,8,9] O O (xq 10 O O (Az O O (by rfl)) ?_);refine xr [11,12] O O (xq 13 O O (Az O O (by rfl)) ?_);refine xr [14] O O (xe 15 O O (ec O O O (fun w hw=>Xt Ln NK Hy Hb bf vf hfv _ f hf _ _ _ w k C3 hw)) ?_);rintro v20 J20 _ ⟨Lz,rfl,Acu⟩;refine⟨Lz,.inr Fs.sub,?_⟩;refine xr [16] rfl rfl (CX (AS (AX (AP rfl rfl (fun w' hw=>?_)))));exact⟨_,rfl,J20,DW p lv av h F,⟨Lz,rfl,Acu⟩,AD hw⟩
theorem ALK{I0:AQ}{p:HP}{Ln:List Ne}(hm:Ln.map Ne.nd=GF (ps.take 20))(hfv:p.fv=.pointer (some ⟨bf,0,none⟩))(k:FsI I0 bf vf Ln)(h:Hx)(f:List Ch)(hf:f.length<=100000):AMh I0 p h f (CG (GF (ps.take 20)) 1 f):=by
 intro I lv av fv F w0 w CH hi C3 hw;rw[<-hm];exact T6 p Ln (hm ▸ (US _).1) (AQl hm) (hm ▸ AHQ _) bf vf hfv h f hf I lv av fv F w0 w (k.mono CH) C3 hw
theorem ABj{I0:AQ}{p:HP}{Ln:List Ne}(hm:Ln.map Ne.nd=GF (ps.take 20))(hfv:p.fv=.pointer (some ⟨bf,0,none⟩))(k:FsI I0 bf vf Ln)(h:Hx)(s:List UInt8):VS I0 p (fun _ f=>CG (GF (ps.take 20)) 1 f) h s:=fun L h' _ g _ ho f hf _=>ALK hm hfv k h' f (by
 obtain⟨i,hi,rfl⟩:=List.getElem_of_mem hf
 have:=(FQ.1 ho).1 i hi
 rw[CT hi]at this
 omega)
structure AIY(w:World)(eb vb:Nat)(lv av:Value)(h:Hx):Prop where
 e0:DA (Ao w) eb 0 (.pointer (some ⟨vb,0,none⟩))
 e5:DA (Ao w) eb 5 av
 v0:DA (Ao w) vb 0 lv
 li:Sl (Ao w) 5 lv (h.vars.map DP)
 ak:Sl (Ao w) 1 av (h.asked.map Ce)
 vn:h.vars.length<=64
theorem AJu{I J:AQ}{H:List HA}{p:HP}{lv:Value}{h:Hx}(hi:Ca J p lv h)(hJ:Le J I)(ha:Sl I 1 av (h.asked.map Ce))(hw:St w0 I H w)[E2 p.eb 41 (Js p av) H][E2 p.vb 49 [lv,p.gv] H]:AIY w p.eb p.vb lv av h:=
 have he:=B5 (b:=p.eb) (T:=41) (cs:=Js p av) hw
 ⟨he 0 _ O,he 5 _ O,(B5 (b:=p.vb) (T:=49) (cs:=[lv,p.gv]) hw) 0 _ O,hi.li.mono (hJ.trans hw.le),ha.mono hw.le,hi.vn⟩
theorem AMg{I J:AQ}{H:List HA}{p:HP}{lv:Value}{h:Hx}{m:List UInt8}(hi:Ca J p lv h)(hJ:Le J I)(ha:Sl I 1 av (h.asked.map Ce))(hw:St w0 I H w)[E2 p.eb 41 (Ow p av m) H][E2 p.vb 49 [lv,p.gv] H]:AIY w p.eb p.vb lv av h:=
 have he:=B5 (b:=p.eb) (T:=41) (cs:=Ow p av m) hw
 ⟨he 0 _ O,he 5 _ O,(B5 (b:=p.vb) (T:=49) (cs:=[lv,p.gv]) hw) 0 _ O,hi.li.mono (hJ.trans hw.le),ha.mono hw.le,hi.vn⟩
theorem AJr{H:List HA}{I:AQ}{F:List HA}{p:HP}{lv:Value}{vs:List Vr}{al outs:List (List UInt8)}[hq:K3 [row p.eb 41 (Js p As),row p.vb 49 [lv,p.gv]] F H](hw:St w0 I H w):St w0 I (DN p lv As ⟨vs,al,outs,[]⟩ [] F) w:=
 AD (H:=Ap 9 1 Ce As []::row p.eb 41 (Js p As)::row p.vb 49 [lv,p.gv]::F) (H':=row p.eb 41 (Js p As)::row p.vb 49 [lv,p.gv]::Ap 9 1 Ce As []::F) (CI 9 1 Ce (hw.perm hq.perm))
set_option maxRecDepth 100000 in
theorem AjW(c:Vr)(w:World):(Op.equalIn 10000 46 (.agg (DP c).toArray) (.agg (DP c).toArray)).run prog w=.ok true w:=by
 rw[run_equalIn_agg w 9999 46 _ _ (by kernel_rfl) (by kernel_rfl)]
 show(Op.eqFields 9999 _ _ [_,_,_,_,_]).run prog w=_
 have eb:∀(x y:Bool) (w:World),(Op.equalIn 9999 4 (.bool x) (.bool y)).run prog w=.ok (x==y) w:=fun x y w=>run_equalIn_bool' (P:=prog) w 9998 4 x y un4
 have es:∀(x y:ByteArray) (w:World),(Op.equalIn 9999 9 (.string x) (.string y)).run prog w=.ok (x.toList==y.toList) w:=fun x y w=>run_equalIn_string (P:=prog) w 9998 9 x y BX
 simp[Op.eqFields,DP,Au,part,EY un4 O,EY BX O,eb,es]
theorem APD(pf:Hx->List Ch->List (List UInt8))(h:Hx)(s:List UInt8):(Dz pf h s).1.length<=200:=by
 unfold Dz
 cases IS h s 0 with
 |bad e m h'=>exact Aw _
 |ok L h'=>
  show(Gz _ _ _).1.length<=200
  unfold Gz
  split
  ·exact Aw _
  split
  ·exact Aw _
  rename_i h1 h2;exact Nat.le_of_not_lt h2
theorem AJE{h:Hx}{kd:Int}(hB:HB h)(ho:∀l,Di s kd=.ok l->C5 l<=2000/\NH l):UI h 2000 0 0 (IS h s kd):=by
 unfold IS
 cases hp:Di s kd with
 |bad e=>exact⟨hB,by omega⟩
 |ok l=>exact(Ei l false h [] (ho l hp).2 hB).mono (ho l hp).1
theorem AFC{pf:Hx->List Ch->List (List UInt8)}{h:Hx}(hb:UI h 2000 0 0 (IS h s 0)):(Dz pf h s).2.2.2.asked.length<=h.asked.length+2000:=by
 unfold Dz
 cases hx:IS h s 0 with
 |bad e m h'=>rw[hx]at hb;exact hb.2
 |ok L h'=>rw[hx]at hb;exact hb.2.1
theorem Xe(hs:s.length<=1500):∀l,Di s 0=.ok l->C5 l<=2000/\NH l:=fun l hl=>by
 have h1:=AKz hl
 have h2:=AJj hl
 exact⟨by omega,Zq l (by omega)⟩
theorem AGk(e:Nat)(w:World):B2 prog 9 [.int .i64 (e:Int)] w (.int .i64 ((erN e:Nat):Int)):=by
 refine enter func9 O ntmps9 O (St.start w (Ao w) (Le.refl _)) (AK O (AF (AK O (AA O (fun Ab=>?_) (fun Ab=>?_)))))
 ·simp at Ab
  have he:e=9999:=by omega
  refine AK O (Ak (AP O O (fun w' hw=>?_)));refine⟨?_,hw.below⟩
  rw[he];try rfl
 simp at Ab
 have he:e≠9999:=by omega
 refine AV (AK O (AX (AP O O (fun w' hw=>?_))));refine⟨?_,hw.below⟩
 unfold erN;rw[AB he]
theorem ALp(eb1 vb1 eb2 vb2:Nat)(lv1 av1 lv2 av2:Value)(h:Hx)(hal:h.asked.length<=1000000000)(w:World)(k1:AIY w eb1 vb1 lv1 av1 h)(k2:AIY w eb2 vb2 lv2 av2 h):B2 prog 11 [.pointer (some ⟨eb1,0,none⟩),.pointer (some ⟨eb2,0,none⟩)] w (.bool true):=by
 have hvn:=k1.vn
 refine enter func11 O ntmps11 O (St.start w (Ao w) (Le.refl _)) (AK O (AF (AF (Bd mo (by kernel_rfl) (fun _ _ _ _ _ h=>h) (zq O ((by exact Ai O O (A8 k1.e0))) ?_)))));refine zq O ((by exact Ai O O (A8 k1.v0))) ?_;refine zq O ((by exact BH O Dn O (Sl.lenOf k1.li (Af _)))) ?_;refine zq O ((by exact Ai O O (A8 k2.e0))) ?_;refine zq O ((by exact Ai O O (A8 k2.v0))) ?_;refine zq O ((by exact BH O Dn O (Sl.lenOf k2.li (Af _)))) ?_
 refine zO 10 O (fun KE=>by
   simp at KE
   refine zq O ((by exact Ai O O (A8 k1.e5))) ?_;refine zq O ((by exact Ai O O (A8 k2.e5))) ?_;refine zp O ((fun w hw=>VB av1 av2 h.asked h.asked w (k1.ak.mono hw.le) (k2.ak.mono hw.le) hal)) ?_;exact zv O
  ) ?_
 refine Dp (AA O (fun Ab=>?_) (fun Ab=>?_))
 ·simp at Ab
 refine AV (AF (tr (yq O ((by exact Ai O O (A8 k1.e0))) ?_)));refine yq O ((by exact Ai O O (A8 k1.v0))) ?_;refine yq O ((by exact BH O Dn O (Sl.lenOf k1.li (Af _)))) ?_;refine AH O (AJ (EB (ι:=Nat) [0,1,34,42] (fun zz=>zz<=h.vars.length) (fun zz=>h.vars.length-zz) (fun zz=>[(43,.int .i64 (zz:Int))]) (fun zz=>Ao w) (fun zz=>[]) 0 O ?_ ?_))
 ·exact Aw _
 rintro i hi;dsimp only at *;refine AK rfl (AF (AA rfl (fun An=>?_) (fun An=>?_)))
 ·simp at An
  have DK:i<h.vars.length:=by omega
  refine AV (AF (AJ (AK O (AF (Bd mo (by kernel_rfl) (fun _ _ _ _ _ h=>h) (zq O ((by exact Ai O O (A8 k1.e0))) ?_))))));refine zq O ((by exact Ai O O (A8 k1.v0))) ?_;refine zq O ((by exact AN O Dn DY O O (Sl.shape k1.li (Af _)) (by omega))) ?_;refine zq O ((by exact Br O Ov DY O O (Nq (i:=i) k1.li (by omega)))) ?_;refine zq O ((by exact Ai O O (A8 k2.e0))) ?_;refine zq O ((by exact Ai O O (A8 k2.v0))) ?_;refine zq O ((by exact AN O Dn DY O O (Sl.shape k2.li (Af _)) (by omega))) ?_;refine zq O ((by exact Br O Ov DY O O (Nq (i:=i) k2.li (by omega)))) ?_;refine zq O (ABG O (by kernel_rfl) O O (AjW _)) (Dp (AA O (fun A6=>?_) (fun A6=>?_)))
  ·cases A6
  refine AY (AL (AS (AC (yq O (AM O O O (by omega)) ?_))));refine AU O (DJ (i+1) ?_ ?_)
  ·show i+1<=_
   omega
  show h.vars.length-(i+1)<h.vars.length-i
  omega
 simp at An
 refine Av (AE (AE (AO (AS (AK O (AX (AP O O (fun w' hw=>?_))))))));exact⟨O,hw.below⟩
set_option maxHeartbeats 2000000 in
theorem QH(vars:List Vr)(al outs ps:List (List UInt8))(vv sv ov pv:Value)(s:List UInt8)(w:World)(hG:Fr (Ao w))(Wh:Sl (Ao w) 5 vv (vars.map DP))(hsv:Sl (Ao w) 1 sv (al.map Ce))(NE:Sl (Ao w) 1 ov (outs.map Ce))(UG:Sl (Ao w) 1 pv (ps.map Ce))(hsm:LZ vars al outs s<=1000000000)(Wl:vars.length<=10000000)(hvn:∀v∈vars,v.name.length<=1000000000)(P0:∀s∈ps,s.length<=100000000)(EU:ps.length<=1000000000)(hs9:s.length<=10000000)(AmE:al.length<=10000000):B2 prog 3 [.agg #[vv,sv,ov,pv],Au s] w (.bool true):=by
 refine enter func3 O ntmps3 O (St.start w (Ao w) (Le.refl _)) (tr (JC _ O fun b2=>?_));refine AH O (AF (tr (yp O ((fun w hw=>AFK w (hG.mono hw.le))) (AH O (AA O (fun Ab=>?_) (fun Ab=>?_))))))
 ·cases Ab
 refine AV (AF (tr (yq O (A7 O AYi ATQ O O O) (yp O ((fun w hw=>AFy vars al outs vv sv ov pv UG.one s w (Wh.mono hw.le) (hsv.mono hw.le) (NE.mono hw.le) hsm (by omega))) ?_))));refine AH O (AA O (fun An=>?_) (fun An=>?_))
 ·refine AK O (Ak (AP O O (fun w' hw=>?_)));exact⟨O,hw.below⟩
 have hsb:AAp vars al outs s=true:=by rw[Bool.not_eq_false']at An;exact An
 unfold AAp at hsb;rw[Ay,BC,BC]at hsb
 have MG:=hsb.1
 have Amd:s.length+LB vars+(Lib.lens al+al.length)+(Lib.lens outs+outs.length)<=1500:=MG
 refine AV (AF (Bo [1,3] [] [row b2 25 [vv,sv,ov,pv]] mo (by kernel_rfl) (fun _ _ _ _ _ h=>h) (xq 0 O O (A7 O AYi ATQ O O O) (x0 2 O (Le.refl _) O (fun _ hI=>A7 O AYi ATQ O O O) (xe 1 O O (ec O O O (fun w hw=>Pj vars al outs ps vv sv ov pv (by omega) hvn (by omega) P0 EU _ Wh hsv NE UG _ _ w hw)) ?_)))));rintro _ J20 _ ⟨Lz,p,lv,bf,vf,Lf,rfl,hpf,rfl,AiP,Adr,Adi⟩;refine⟨Lz,.inr Fs.sub,?_⟩;refine re 3 (by kernel_rfl) rfl (Lz) rfl (ec rfl rfl rfl (fun w hw=>Pj vars al outs ps vv sv ov pv (by omega) hvn (by omega) P0 EU _ (Wh.mono Lz) (hsv.mono Lz) (NE.mono Lz) (UG.mono Lz) _ _ w hw)) ?_;rintro _ J22 _ ⟨Sp,p2,lv2,bf2,vf2,Lf2,rfl,AjE,rfl,Agz,Abo,AId⟩;refine⟨Sp,.inr Fs.sub,?_⟩;refine xr [4,5] rfl rfl (CX (AS (tr (Em (([.pointer (some ⟨p.eb,0,none⟩)]:List Value)) rfl (JC _ rfl fun b26=>?_)))));refine FB (H':=DW {p with hb:=b26} lv As ⟨HS vars,EM al,outs,[]⟩ [row p2.eb 41 (Js p2 As),row p2.vb 49 [lv2,p2.gv],row b2 25 [vv,sv,ov,pv]]) ?_ (fun _ h=>Uw h)
 refine yq O (Tf O ABQ O O) (yc O (fun w hw=>Oz {p with hb:=b26} s (by omega) ⟨HS vars,EM al,outs,[]⟩ (QX {p with hb:=b26} (MA MG) (Aw _) (Xe (by omega))).1 (QX {p with hb:=b26} (MA MG) (Aw _) (Xe (by omega))).2 (fun _ f=>CG (GF (ps.take 20)) 1 f) (fun _ f=>Yv _ 1 f) (ABj (p:={p with hb:=b26}) Adi hpf (Adr.mono Sp) ⟨HS vars,EM al,outs,[]⟩ s) lv As J22 [row p2.eb 41 (Js p2 As),row p2.vb 49 [lv2,p2.gv],row b2 25 [vv,sv,ov,pv]] _ w (hG.mono (Lz.trans Sp)) ((AiP.mono Sp).hb b26) hw) ?_);rintro _ J29 _ ⟨Oj,lv3,av3,v1,rfl,rfl,AiQ,AXy⟩;refine AH rfl (tr (yc rfl (fun w hw=>Wa p2 Lf2 (AId ▸ (US _).1) (AQl AId) (AId ▸ AHQ _) bf2 vf2 AjE s (by omega) ⟨HS vars,EM al,outs,[]⟩ (AKI p2 (MA MG) (Aw _) (Xe (by omega))) (QX {p with hb:=b26} (MA MG) (Aw _) (Xe (by omega))).2 (fun L h' e=>by have h9:=AJE (MA MG) (Xe (s:=s) (by omega));rw[e]at h9;exact h9.1) [] lv2 As J29 (Abo.mono Oj) (DW {p with hb:=b26} lv3 av3 (Dz (fun _ f=>CG (GF (ps.take 20)) 1 f) ⟨HS vars,EM al,outs,[]⟩ s).2.2.2 [row b2 25 [vv,sv,ov,pv]]) _ w (Agz.mono Oj) (AJr hw)) ?_));rintro _ J36 _ ⟨AHA,e9,lv4,av4,v2,rfl,rfl,Aeb,ASF,AaK⟩;rw[AId]at ASF Aeb AaK ⊢
 refine AH O (AK O (EZ (ι:=List UInt8) [0,1,2,4,14,18,5,6,7,8,9,10,11] (fun zz=>zz=(Dz (fun _ f=>CG (GF (ps.take 20)) 1 f) ⟨HS vars,EM al,outs,[]⟩ s).2.1) (fun zz=>[(12,Au zz)]) (fun zz=>J36) (fun zz=>(DN p2 lv4 av4 (Dz (fun _ f=>CG (GF (ps.take 20)) 1 f) ⟨HS vars,EM al,outs,[]⟩ s).2.2.2 (Dz (fun _ f=>CG (GF (ps.take 20)) 1 f) ⟨HS vars,EM al,outs,[]⟩ s).2.1 (DW {p with hb:=b26} lv3 av3 (Dz (fun _ f=>CG (GF (ps.take 20)) 1 f) ⟨HS vars,EM al,outs,[]⟩ s).2.2.2 [row b2 25 [vv,sv,ov,pv]]))) O ?_ ?_))
 ·refine AK O (AA O (fun A6=>?_) (fun A6=>?_))
  ·simp at A6
   refine AC (DE O ?_);refine AU O (CB ((Dz (fun _ f=>CG (GF (ps.take 20)) 1 f) ⟨HS vars,EM al,outs,[]⟩ s).2.1) ?_)
   dsimp only
   skip
  simp at A6
  refine AY (CB ([]) ?_)
  exact(ASy _ _ _ (by rw[<-AaK];unfold erN;split<;>omega)).symm
 rintro m9 hm9;refine AF (Bf (f:=Ce) (l:=(Dz (fun _ f=>CG (GF (ps.take 20)) 1 f) ⟨HS vars,EM al,outs,[]⟩ s).2.2.2.asked) av3 (fun _=>rfl) (fun Ja hJa ha=>?_));refine Bf (f:=Ce) (l:=(Dz (fun _ f=>CG (GF (ps.take 20)) 1 f) ⟨HS vars,EM al,outs,[]⟩ s).2.2.2.asked) av4 (fun _=>rfl) (fun Jb U3 hb=>?_);refine FU (zp rfl ((fun w hw=>AGk e9 w)) ?_)
 refine zA 3 O (fun h53=>by
   simp at h53
   refine zq O (AR O O O) ?_;exact zv O
  ) ?_
 refine zA 3 O (fun h58=>by
   simp at h58
   refine zp O ((fun w hw=>VB v1 v2 (Dz (fun _ f=>CG (GF (ps.take 20)) 1 f) ⟨HS vars,EM al,outs,[]⟩ s).1 (Dz (fun _ f=>CG (GF (ps.take 20)) 1 f) ⟨HS vars,EM al,outs,[]⟩ s).1 w (AXy.mono (AHA.trans (hJa.trans (U3.trans hw.le)))) (ASF.mono (hJa.trans (U3.trans hw.le))) (by have:=APD (fun _ f=>CG (GF (ps.take 20)) 1 f) ⟨HS vars,EM al,outs,[]⟩ s;omega))) ?_;exact zv O
  ) ?_
 refine zA 3 O (fun MN=>by
   simp at MN
   refine zp O ((fun w hw=>ALp _ _ _ _ _ _ _ _ (Dz (fun _ f=>CG (GF (ps.take 20)) 1 f) ⟨HS vars,EM al,outs,[]⟩ s).2.2.2 (by have:=AFC (pf:=(fun _ f=>CG (GF (ps.take 20)) 1 f)) (AJE (MA MG) (Xe (s:=s) (by omega)));simp only[Bb]at this;omega) w (AJu (p:={p with hb:=b26}) AiQ (AHA.trans (hJa.trans U3)) (ha.mono U3) hw) (AMg (m:=(Dz (fun _ f=>CG (GF (ps.take 20)) 1 f) ⟨HS vars,EM al,outs,[]⟩ s).2.1) Aeb (hJa.trans U3) hb hw))) ?_;exact zv O
  ) ?_
 refine De O (AX (AP O O (fun w' hw=>?_)));refine⟨?_,(hw.less (Lz.trans (Sp.trans (Oj.trans (AHA.trans (hJa.trans U3)))))).below⟩;refine B3 (fun b=>Ending.returned (.bool b)) ?_
 rw[AaK,hm9];simp
end Go.Tri
