/-
 What is laid.
-/
import Derived.Test.YtbndcpjklngfhaaGreatDoorEA7
import Derived.Test.YtbndcpjklngfhaaGreatDoorPLex12
import Derived.Test.YtbndcpjklngfhaaGreatDoorPOct
import Derived.Test.YtbndcpjklngfhaaGreatDoorTriY
import Derived.Test.YtbndcpjklngfhaaGreatDoorESh
import Derived.Shelf.Strings.SlTrimAscii
import Derived.Test.YtbndcpjklngfhaaGreatDoorPWord7
namespace Go.Tri
open Go.Proofs.Tryz
open Go.Proofs Go.RowKit
variable {w':World} {s:List UInt8} {i n d k e b kd dp e1:Nat} {v' vl:Value} {c:UInt8}
structure GW(w:World):Prop where
 tab:Lib.TabIs prog w "internal/strconv.uint64pow10" .u64 Lib.pow10Tab
 max:∃m,w.cell? ⟨0,0,none⟩=some (.int .i64 m)
theorem AUv{w:World}(h:Le (Ao w) (Ao w')){a:Addr}{v:Value}(hc:w.cell? a=some v):w'.cell? a=some v:=by
 unfold World.cell? at *
 cases hb:w.heap[a.block]? with
 |none=>rw[hb]at hc;cases hc
 |some o=>rw[hb]at hc;rw[show w'.heap[a.block]? =some o from h _ _ hb];exact hc
theorem AYY{w:World}(h:Le (Ao w) (Ao w')){P:Program}{n:String}{cs:Array Value}(hc:w.var? P n=some cs):w'.var? P n=some cs:=by
 unfold World.var? at *;rw[Option.bind_eq_some_iff]at *;obtain⟨g,hg,hc⟩:=hc;refine⟨g,hg,?_⟩
 cases hb:w.heap[g]? with
 |none=>rw[hb]at hc;cases hc
 |some o=>rw[hb]at hc;rw[show w'.heap[g]? =some o from h _ _ hb];exact hc
theorem GW.le{w:World}(h:GW w)(k:Le (Ao w) (Ao w')):GW w' where
 tab:=AYY k h.tab
 max:=let⟨m,h1⟩:=h.max;⟨m,AUv k h1⟩
def Fr(I:AQ):Prop:= ∃W0,GW W0/\Le (Ao W0) I
theorem Fr.mono{I J:AQ}(h:Fr I)(k:Le I J):Fr J:=let⟨W0,h1,h2⟩:=h;⟨W0,h1,h2.trans k⟩
theorem Fr.gw{w:World}(h:Fr (Ao w)):GW w:=let⟨_,h1,h2⟩:=h;h1.le h2
theorem Fr.cell{w:World}(h:Fr (Ao w)):∃m,w.cell? ⟨0,0,none⟩=some (.int .i64 m):=h.gw.max
theorem IY(s sub:List UInt8)(w:World)(hs:s.length<=1000000000)(hG:Fr (Ao w)):B2 prog 159 [Au s,Au sub] w (.bool (Lib.contains s sub)):=by
 obtain⟨m,hm⟩:=hG.cell
 have MG:=Ee s
 refine(Tryz.strings_Contains ⟨s.toArray⟩ ⟨sub.toArray⟩ m w (by omega) hm).mono fun e w' ⟨h1,h2⟩=>?_
 subst h2;exact⟨h1,Below.refl _ _⟩
set_option maxRecDepth 10000
theorem AOF(s:List UInt8)(i:Nat):(!CV (AG s i 0)&&(decide ((i:Int)=0)||decide (((AG s i 0).toNat:Int)<48)||decide (57<((AG s i 0).toNat:Int))))= !XJ s i:=by
 unfold XJ BO
 by_cases h1:(i:Int)=0<;>by_cases h2:((AG s i 0).toNat:Int)<48<;>by_cases h3:57<((AG s i 0).toNat:Int)<;>cases CV (AG s i 0)<;>simp[h1,h2,h3]<;>omega
theorem AUJ(h:(!CV (AG s i 0)&&(decide ((i:Int)=0)||decide (((AG s i 0).toNat:Int)<48)||decide (57<((AG s i 0).toNat:Int))))=true):XJ s i=false:=by
 rw[AOF]at h;simpa using h
theorem AMo(h:(!CV (AG s i 0)&&(decide ((i:Int)=0)||decide (((AG s i 0).toNat:Int)<48)||decide (57<((AG s i 0).toNat:Int))))=false):XJ s i=true:=by
 rw[AOF]at h;simpa using h
theorem ACl(c:UInt8)(w:World):B2 prog 165 [u8 c] w (.bool (CV c)):=by
 refine enter func165 O ntmps165 O (St.start w (Ao w) (Le.refl _)) (AK O (tq (zq O (UH (d:=32) O O O) ?_)))
 refine zA 3 O (fun h10=>by
   simp at h10
   refine zq O (UH (d:=32) O O O) ?_;exact zv O
  ) ?_
 refine zA 2 O (fun h14=>by
   simp at h14
   exact zv O
  ) ?_
 refine zO 2 O (fun h18=>by
   simp at h18
   refine zq O (Ae O O O O) ?_;exact zv O
  ) ?_
 refine De O (AX (AP O O (fun w' hw=>?_)));refine⟨?_,hw.below⟩
 rw[<-AKg c];try rfl
theorem Lt(s:List UInt8)(w:World)(hs:s.length<=4611686018427387904):B2 prog 143 [Au s] w (.bool (CF s)):=by
 refine enter func143 O ntmps143 O (St.start w (Ao w) (Le.refl _)) (AK O (AF (tr (ye O (AFV O BX O8 un5 O) ?_))));rintro v6 J6 _ ⟨hJ6,hs6,rfl⟩;refine yq rfl ((by exact BH rfl O8 rfl (Sl.lenOf hs6 (Af _)))) ?_;refine AH rfl (AJ (EB (ι:=Nat) [0,6,7] (fun i=>i<=s.length/\∀k,k<i->XJ s k=true) (fun i=>s.length-i) (fun i=>[(8,.int .i64 (i:Int))]) (fun i=>J6) (fun i=>[]) 0 rfl ?_ ?_))
 ·exact⟨Aw _,fun k hk=>Ac hk (Nat.not_lt_zero _)⟩
 rintro i ⟨hi,DD⟩;refine AK rfl (AF (AA rfl (fun Ab=>?_) (fun Ab=>?_)))
 ·simp at Ab
  refine AV (AF (AJ (tr ?_)));refine yq O ((by exact AN O O8 ti5 O O (Sl.shape hs6 (Af _)) (by omega))) ?_;refine yq O ((by exact Ai O O (Aco hs6 (by omega)))) ?_;refine AH O (tq (zp O ((fun w _=>ACl _ w)) ?_))
  refine zA 10 O (fun h27=>by
    simp at h27
    refine zO 2 O (fun h22=>by
      simp at h22
      exact zv O
     ) ?_
    refine zO 2 O (fun h26=>by
      simp at h26
      exact zv O
     ) ?_
    exact zv O
   ) ?_
  refine Dp (AA O (fun An=>?_) (fun An=>?_))
  ·have AGe:XJ s i=false:=AUJ An
   refine AK O (Ak (AP O O (fun w' hw=>?_)));refine⟨?_,(hw.less hJ6).below⟩;rw[TG (by omega) AGe]
  have AGe:XJ s i=true:=AMo An
  refine AY (AL (AS (AC (yq O (AM O O O (by omega)) ?_))));refine AU O (DJ (i+1) ?_ ?_)
  ·refine⟨by omega,fun k hk=>?_⟩;rcases Nat.lt_succ_iff_lt_or_eq.1 hk with h|rfl
   ·exact DD k h
   exact AGe
  omega
 simp at Ab
 refine Av (AE (AE (AO (AS (tr (yq O (Bs O O O) (AH O (AX (AP O O (fun w' hw=>?_))))))))));refine⟨?_,(hw.less hJ6).below⟩;rw[YU fun k hk=>DD k (by omega)]
theorem Zd{l:List UInt8}(h:l.all (fun b=>decide (b.toNat<128))=true):∀(j:Nat) b,l[j]? =some b->b.toNat<128:=fun j b hb=>by
 have:=List.all_eq_true.1 h b (List.mem_of_getElem? hb)
 simpa using this
theorem Pn(s cs:List UInt8)(w:World)(hc:cs.length<=1000)(ha:cs.all (fun b=>decide (b.toNat<128))=true):B2 prog 158 [Au s,Au cs] w (Au (Lib.trimLeftS s cs)):=by
 have h2:=Ee cs
 exact(Any.strings_TrimLeft_laid Tryz.lays161 (by kernel_rfl) ⟨s.toArray⟩ ⟨cs.toArray⟩ w (by omega) (Zd (l:=cs) ha)).mono fun e w' ⟨h3,h4⟩=>⟨h3,h4⟩
theorem Lu{f n:Nat}{s:List UInt8}(h:¬(n<s.length/\CF (s.take (n+1))=true)):Dc f n s=n:=by
 cases f with
 |zero=>rfl
 |succ f=>rw[Dc,AB h]
theorem KU{f n:Nat}{s:List UInt8}(hf:s.length-n<=f)(h1:n<s.length)(h2:CF (s.take (n+1))=true):Dc f n s=Dc (f-1) (n+1) s:=by
 obtain⟨g,rfl⟩:∃g,f=g+1:=⟨f-1,by omega⟩
 rw[Dc,AI ⟨h1,h2⟩];try rfl
theorem E6(s cs:List UInt8):(Lib.trimLeftS s cs).length<=s.length:=(List.dropWhile_sublist _).length_le
theorem AFu(hn:n=Dc s.length 0 s)(hd:d=if n=0 then s.length-(Lib.trimLeftS s Ec).length else n)(h:(decide ((d:Int)=0)&&decide (s≠[])&&decide (0<=Lib.indexByte VX (AG s 0 0)))=true):Ag s=1:=by
 rw[Ay,Ay,BC,BC,DB]at h;unfold Ag;simp only[<-hn]
 have h0:n=0:=by
  rcases Nat.eq_zero_or_pos n with h1|h1
  ·exact h1
  rw[AB (by omega)]at hd;omega
 rw[AI h0]at hd;rw[AB (by omega),AB (by omega),AI ⟨h.1.2,h.2⟩]
theorem AKW(hn:n=Dc s.length 0 s)(hd:d=if n=0 then s.length-(Lib.trimLeftS s Ec).length else n)(h:(decide ((d:Int)=0)&&decide (s≠[])&&decide (0<=Lib.indexByte VX (AG s 0 0)))=false):Ag s=d:=by
 rw[DB]at h;unfold Ag;simp only[<-hn]
 by_cases h0:n=0
 ·rw[AI h0]at hd;rw[AB (by omega),<-hd]
  by_cases h1:d=0
  ·rw[AB (by omega),AB,h1];rintro⟨h2,h3⟩;rw[BK (show(d:Int)=0 by omega),BK h2,h3]at h
   cases h
  rw[AI h1]
 rw[AB h0]at hd;rw[AI h0,hd]
theorem PP(s:List UInt8)(w:World)(hs:s.length<=1000000000):B2 prog 131 [Au s] w (.int .i64 (Ag s:Int)):=by
 refine enter func131 O ntmps131 O (St.start w (Ao w) (Le.refl _)) (AK O (AK O (AF (AJ (EB (ι:=Nat×Nat) [0,2] (fun zz=>zz.1<=s.length/\Dc s.length 0 s=Dc zz.2 zz.1 s/\s.length-zz.1<=zz.2) (fun zz=>s.length-zz.1) (fun zz=>[(3,.int .i64 (zz.1:Int))]) (fun zz=>Ao w) (fun zz=>[]) (0,s.length) O ?_ ?_)))))
 ·dsimp only;exact⟨Aw _,O,A5 _⟩
 rintro⟨n,g⟩ ⟨hn,hx,hg⟩;dsimp only at *;refine AF (tq (zq rfl (AW rfl BX rfl) ?_))
 refine zA 5 O (fun h14=>by
   simp at h14
   refine zq O (AM O O O (by omega)) ?_;refine zq O (Ba O BX O O (by omega)) ?_;refine zp O ((fun w _=>Lt (s.take (n+1)) w (by rw[BL];omega))) ?_;exact zv O
  ) ?_
 refine Dp (AA O (fun Ab=>?_) (fun Ab=>?_))
 ·have h0:n<s.length/\CF (s.take (n+1))=true:=by
   have h:=Ab
   rw[Ay,BC]at h;exact⟨by omega,h.2⟩
  refine AV (AJ (AC (yq O (AM O O O (by omega)) ?_)));refine AU O (AL (DJ ((n+1,g-1)) ?_ ?_))
  ·dsimp only;exact⟨by omega,hx.trans (KU hg h0.1 h0.2),by omega⟩
  dsimp only
  show s.length-(n+1)<s.length-n
  omega
 have h0:¬(n<s.length/\CF (s.take (n+1))=true):=fun⟨h1,h2⟩=>by
  have h:(decide ((n:Int)<(s.length:Int))&&CF (s.take (n+1)))=false:=Ab
  rw[h2,BK (by omega)]at h
  cases h
 have Hb:n=Dc s.length 0 s:=by rw[hx,Lu h0]
 refine Av (AE (AE (AO (AS (EZ (ι:=Nat) [0,2,14] (fun zz=>zz=if n=0 then s.length-(Lib.trimLeftS s Ec).length else n) (fun zz=>[(3,.int .i64 (zz:Int))]) (fun zz=>Ao w) (fun zz=>[]) O ?_ ?_)))))
 ·refine AK O (AA O (fun An=>?_) (fun An=>?_))
  ·simp at An
   have NZ:n=0:=by omega
   have htl:=E6 s Ec
   refine AC (yq O (AW O BX O) (yp O ((fun w _=>Pn s Ec w (by decide) (by decide))) ?_));refine yq O (AW O BX O) (yq O (Bl O O O (by omega)) ?_);refine AU O (Dd (s.length-(Lib.trimLeftS s Ec).length) ?_ (A0 O (B3 (Value.int IntKind.i64) (by omega)) (Bk)) (BS O) (fun _ h=>by dsimp only;exact AD h))
   rw[AI NZ]
  simp at An
  have NZ:¬n=0:=by omega
  refine AY (CB (n) ?_)
  rw[AB NZ]
 rintro d hd;refine AF (tq ?_)
 refine zA 2 O (fun h30=>by
   simp at h30
   refine zq O (Bs O O O) ?_;exact zv O
  ) ?_
 refine zA 4 O (fun h36=>by
   simp at h36
   have OL:0<s.length:=BV.2 h36.2
   refine zq O ((by exact AZ O BX O O (by omega))) ?_;refine zp O ((fun w _=>EP VX (AG s 0 0) w)) ?_;exact zv O
  ) ?_
 refine Dp (AA O (fun A6=>?_) (fun A6=>?_))
 ·have hp:=AFu Hb hd A6
  refine AC (AH O (AK O (AX (AP O O (fun w' hw=>?_)))));refine⟨?_,hw.below⟩
  rw[hp];try rfl
 have hp:=AKW Hb hd A6
 refine AV (AK O (AX (AP O O (fun w' hw=>?_))));refine⟨?_,hw.below⟩;rw[hp]
def AQa(r:SP)(l:List PT)(k e:Nat):Prop:=match r with
 | .ok acc k'=>e=0/\k=k'/\l=acc
 | .bad e'=>e=e'/\e≠0
theorem AQa.t{r:SP}{l:List PT}(h:AQa r l k e)(he:e=0):r=.ok l k:=by
 cases r with
 |ok acc k'=>rw[h.2.1,h.2.2]
 |bad e'=>exact Ac he h.2
theorem AQa.f{r:SP}{l:List PT}(h:AQa r l k e)(he:e≠0):r=.bad e:=by
 cases r with
 |ok acc k'=>exact Ac h.1 he
 |bad e'=>rw[h.1]
def Dv(b:Nat)(s:List UInt8)(kd dp:Nat)(r:SP)(v0:Value)(I I':AQ)(F H':List HA):Prop:=
 Le I I'/\∃(v':Value) (L':List PE) (k e:Nat),v0=.tuple #[.int .i64 (k:Int),.int .i64 (e:Int)]/\H'=row b 164 (GR s kd dp v')::Ap 147 5 Aa v' L'::F/\Cg I' L'/\AQa r (L'.map PE.pt) k e
theorem Dv.good{r:SP}{I I':AQ}{F H':List HA}(CH:Le I I'){L':List PE}{acc:List PT}(hr:r=.ok acc k)(hH:H'=row b 164 (GR s kd dp v')::Ap 147 5 Aa v' L'::F)(hW:Cg I' L')(hL:L'.map PE.pt=acc):
  Dv b s kd dp r (.tuple #[.int .i64 (k:Int),.int .i64 0]) I I' F H':=⟨CH,v',L',k,0,O,hH,hW,by rw[hr];exact⟨O,O,hL⟩⟩
theorem Dv.fail{r:SP}{I I':AQ}{F H':List HA}(CH:Le I I'){L':List PE}(hr:r=.bad e)(he:e≠0)(hH:H'=row b 164 (GR s kd dp v')::Ap 147 5 Aa v' L'::F)(hW:Cg I' L'):
  Dv b s kd dp r (.tuple #[.int .i64 0,.int .i64 (e:Int)]) I I' F H':=⟨CH,v',L',0,e,O,hH,hW,by rw[hr];exact⟨O,he⟩⟩
def On(r:PR)(I:AQ)(vl:Value)(e1:Nat):Prop:=match r with
 | .ok l=>e1=0/\QU I vl l
 | .bad e2=>e1=e2/\e1≠0/\vl=As
theorem On.t{r:PR}{I:AQ}(h:On r I vl e1)(he:e1=0):∃l,r=.ok l/\QU I vl l:=by
 cases r with
 |ok l=>exact⟨l,O,h.2⟩
 |bad e2=>exact Ac he h.2.1
theorem On.f{r:PR}{I:AQ}(h:On r I vl e1)(he:e1≠0):r=.bad e1/\vl=As:=by
 cases r with
 |ok l=>exact Ac h.1 he
 |bad e2=>obtain⟨h1,_,h2⟩:=h;rw[h1];exact⟨rfl,h2⟩
theorem On.w{r:PR}{I:AQ}(h:On r I vl e1):∃wl,QU I vl wl/\(e1=0->r=.ok wl)/\(e1≠0->r=.bad e1):=by
 cases r with
 |ok l=>exact⟨l,h.2,fun _=>rfl,fun he=>Ac h.1 he⟩
 |bad e2=>obtain⟨h1,h2,h3⟩:=h;rw[h3];exact⟨[],Be _,fun he=>Ac he h2,fun _=>by rw[h1]⟩
def L6(n:Nat):Prop:=∀(s:List UInt8) (kind d:Nat) (I:AQ) (F:List HA) (w0 w:World),24-d=n->d<=24->kind<=2->s.length<=100000000->Fr I->St w0 I F w→
 Calls prog 60 [Au s,.int .i64 (kind:Int),.int .i64 (d:Int)].toArray w (ER w fun v I' H'=>Le I I'/\F=H'/\∃vl,∃e1:Nat,v=.tuple #[vl,.int .i64 (e1:Int)]/\On (wP n kind s) I' vl e1)
theorem AKw(h:(decide ((kd:Int)=0)||decide (0<=Lib.indexByte [36,96,92] c)||(decide ((kd:Int)=1)&&decide (c=34)))=true):kd=0\/Ho [36,96,92] c=true\/(kd=1/\c=34):=by
 rw[DB]at h;simp only[C4,Ay,BC]at h;rcases h with (h|h)|h
 ·exact .inl (by omega)
 ·exact .inr (.inl h)
 exact .inr (.inr ⟨by omega,h.2⟩)
theorem AUt(h:(decide ((kd:Int)=0)||decide (0<=Lib.indexByte [36,96,92] c)||(decide ((kd:Int)=1)&&decide (c=34)))=false):¬(kd=0\/Ho [36,96,92] c=true\/(kd=1/\c=34)):=by
 rw[DB]at h;simp only[Bool.or_eq_false_iff,Bool.and_eq_false_iff,CA]at h;rintro(h1|h1|⟨h1,h2⟩)
 ·omega
 ·rw[h1]at h;exact Ac h.1.2 (by simp)
 rcases h.2 with h3|h3
 ·omega
 exact h3 h2
theorem AKJ(b:Nat)(s:List UInt8)(kd dp:Nat)(v:Value)(L:List PE)(l:List UInt8)(I:AQ)(F:List HA)(w0 w:World)(hn:L.length<=200000000)(AcM:Gl L<=200000000)(hl:l≠[])(UU:l.length<=100000000)(P4:Cg I L)(BZ:St w0 I (row b 164 (GR s kd dp v)::Ap 147 5 Aa v L::F) w):Calls prog 101 [.pointer (some ⟨b,0,none⟩),Au l].toArray w (fun e w'=> ∃v0,e=.returned v0/\∃I' H',(I=I'/\∃(v':Value) (L':List PE) (k:Nat),v0=.int .i64 (k:Int)/\H'=row b 164 (GR s kd dp v')::Ap 147 5 Aa v' L'::F/\Cg I L'/\Sg kd l (L.map PE.pt)=.ok (L'.map PE.pt) k)/\St w I' H' w'):=by
 have hp:=BV.2 hl
 refine enter func101 O ntmps101 O (BZ.self) (AK O (AF (tr (yq O (AW O BX O) (AH O (AA O (fun Ab=>?_) (fun Ab=>?_)))))))
 ·simp at Ab
  have h1:l.length=1:=by omega
  refine tr (yc O (fun w hw=>HE b s kd dp v L [92] true _ _ _ w (by omega) (by(simp;done)) (fun x hx=>by have:=D4 hx;omega) (Bm (row b 164 (GR s kd dp v)) (Ap 147 5 Aa v L) hw)) ?_);rintro _ _ _ ⟨rfl,rfl,v10,rfl⟩;refine DL (AH rfl (Ak (AP rfl rfl (fun w' hw=>?_))));exact⟨_,rfl,I,_,⟨rfl,v10,ES L [92] true,1,rfl,rfl,Dj P4,(by rw[Sg,AI h1,Fz])⟩,AD hw⟩
 simp at Ab
 have h1:¬l.length=1:=by omega
 have h1l:2<=l.length:=by omega
 refine AV (AF ?_)
 have h1l:2<=l.length:=by omega
 refine FU (EA O ?_)
 refine zO 4 O (fun h21=>by
   simp at h21
   refine zq O ((by exact Bu O BX O O (by omega))) ?_;refine zp O ((fun w _=>EP [36,96,92] (AG l 1 0) w)) ?_;exact zv O
  ) ?_
 refine zO 10 O (fun Tu=>by
   simp at Tu
   refine EA O ?_
   refine zA 3 O (fun h32=>by
     simp at h32
     refine zq O ((by exact Bu O BX O O (by omega))) ?_;refine zq O (Ae O O O O) ?_;exact zv O
    ) ?_
   exact zv O
  ) ?_
 refine De O (AF (AJ (tr (yq O ((by exact Bu O BX O O (by omega))) ?_))));refine yq O (Ae O O O O) (AH O (AA O (fun An=>?_) (fun An=>?_)))
 ·simp only[BC]at An
  have h2:AG l 1 0=10:=An
  refine AY (AL (AS (AK O (AX (AP O O (fun w' hw=>?_))))));exact⟨_,O,I,_,⟨O,v,L,2,O,O,P4,(by rw[Sg,AB h1,AI h2])⟩,AD hw⟩
 simp only[CA]at An
 have h2:¬AG l 1 0=10:=An
 refine AK O (AA O (fun A6=>?_) (fun A6=>?_))
 ·have h3:=AKw A6
  refine AC (yq O (CK O BX O O O (by omega)) ?_);refine yc O (fun w hw=>HE b s kd dp v L ((l.drop 1).take 1) true _ _ _ w (by omega) (by(rw[BL,BA];omega)) (fun x hx=>by have:=D4 hx;omega) (Bm (row b 164 (GR s kd dp v)) (Ap 147 5 Aa v L) hw)) ?_;rintro _ _ _ ⟨rfl,rfl,v45,rfl⟩;refine C7 (AL (AS (AK rfl (AX (AP rfl rfl (fun w' hw=>?_))))));exact⟨_,rfl,I,_,⟨rfl,v45,ES L ((l.drop 1).take 1) true,2,rfl,rfl,Dj P4,(by rw[Sg,AB h1,AB h2,AI h3,AGN,Fz])⟩,AD hw⟩
 have h3:=AUt A6
 refine tr (yc O (fun w hw=>HE b s kd dp v L [92] true _ _ _ w (by omega) (by(simp;done)) (fun x hx=>by have:=D4 hx;omega) (Bm (row b 164 (GR s kd dp v)) (Ap 147 5 Aa v L) hw)) ?_);rintro _ _ _ ⟨rfl,rfl,v35,rfl⟩;refine DL (AH rfl (Ak (AP rfl rfl (fun w' hw=>?_))));exact⟨_,rfl,I,_,⟨rfl,v35,ES L [92] true,1,rfl,rfl,Dj P4,(by rw[Sg,AB h1,AB h2,AB h3,Fz])⟩,AD hw⟩
theorem ALf(s:List UInt8)(q:Bool)(w:World)(hs:s.length<=100000000):B2 prog 133 [Au s,.bool q] w (.bool (H4 s q)):=by
 refine enter func133 O ntmps133 O (St.start w (Ao w) (Le.refl _)) (AK O (AF (tr (yp O ((fun w _=>FA s [40] w)) (AH O (AA O (fun Ab=>?_) (fun Ab=>?_)))))))
 ·have Ab:Dl s [40]=false:=by simpa using Ab
  refine AK O (Ak (AP O O (fun w' hw=>?_)));refine⟨?_,hw.below⟩
  rw[H4,Ab];try rfl
 have Ab:Dl s [40]=true:=by simpa using Ab
 refine AV (tr (yq O (F1 O O O (by(simp only[CD,Bb];omega))) ?_));refine yp O ((fun w _=>VO (36::s) 0 0 q w (by simp only[CD];omega))) ?_;rw[AOT Ab];refine AH O (tq ?_)
 refine zA 5 O (fun h27=>by
   simp at h27
   refine zq O (AW O BX O) (zq O (AM O O O (by omega)) ?_);exact zv O
  ) ?_
 refine De O (AX (AP O O (fun w' hw=>?_)));refine⟨?_,hw.below⟩;rw[<-Uy Ab]
end Go.Tri
