/-
 Awake.
-/
import Derived.Test.YtbndcpjklngfhaaGreatDoorEM7
import Derived.Test.YtbndcpjklngfhaaGreatDoorPExV
namespace Go.Tri
open Go.Proofs.Tryz
open Go.Proofs Go.RowKit
set_option maxRecDepth 10000
theorem Uw{H:List HA}{I:AQ}{w0 w:World}{F:List HA}{p:HP}{lv:Value}{vs:List Vr}{al outs:List (List UInt8)}{b:Nat}[hq:K3 [row b 35 [.pointer (some ⟨p.eb,0,none⟩)],row p.eb 41 (Js p As),row p.vb 49 [lv,p.gv]] F H](hw:St w0 I H w):St w0 I (DW {p with hb:=b} lv As ⟨vs,al,outs,[]⟩ F) w:=
 AD (H:=Ap 9 1 Ce As []::row b 35 [.pointer (some ⟨p.eb,0,none⟩)]::row p.eb 41 (Js p As)::row p.vb 49 [lv,p.gv]::F) (H':=row b 35 [.pointer (some ⟨p.eb,0,none⟩)]::row p.eb 41 (Js p As)::row p.vb 49 [lv,p.gv]::Ap 9 1 Ce As []::F) (CI 9 1 Ce (hw.perm hq.perm))
theorem Ca.hb{I:AQ}{p:HP}{lv:Value}{h:Hx}(k:Ca I p lv h)(b:Nat):Ca I {p with hb:=b} lv h:=⟨k.sp,k.ou,k.li,k.ar,k.on,k.an,k.vn⟩
theorem AEZ{p:HP}{h:Hx}{s:List UInt8}(hn:AQV h s){I0:AQ}(pf:Hx->List Ch->List (List UInt8)):VS I0 p pf h s:=fun L h' hx g hg _ f hf hw=>by rw[hn L h' hx g hg f hf]at hw;cases hw
def APu:Hx->List Ch->List (List UInt8):=fun _ _=>[]
theorem ASG:∀h f,(APu h f).length<=1000:=fun _ _=>Aw _
def l16:List PT:=[.mk 2 [120] [] [] false,.mk 2 [120] [] [] false]
theorem VJ:Di Vs 0=.ok l16:=by kernel_rfl
def ABl:List Px:=B0 [97,32,98] false++B0 [97,32,98] false
theorem AGC:hxX (some [97,32,98])=L5:=rfl
theorem ADq:IS L5 Vs 0=.ok ABl L5:=by
 unfold IS;rw[VJ,<-AGC]
 show CE false (hxX (some [97,32,98])) [] l16=_
 rw[l16,CE,ABy]
 show CE false (hxX (some [97,32,98])) _ _=_
 rw[AJY,ABy];try rfl
theorem ABI:Cf L5=ALG:=by decide+kernel
theorem AEI:Bc ABl=[ABl.map Px.p]:=rfl
theorem Th:Aq (ABl.map Px.p) ALG=[[⟨97,false⟩],[⟨98,false⟩,⟨97,false⟩],[⟨98,false⟩]]:=by decide+kernel
theorem ALz:AQV L5 Vs:=by
 intro L h' hx g hg f hf;rw[ADq]at hx
 injection hx with h1 h2
 subst h1 h2;rw[AEI,FK]at hg;subst hg;rw[ABI,Th]at hf
 have key:∀f∈([[⟨97,false⟩],[⟨98,false⟩,⟨97,false⟩],[⟨98,false⟩]]:List (List Ch)),Fa f=false:=by decide+kernel
 exact key f hf
theorem ALg:Dz APu L5 Vs=([[97],[98,97],[98]],[],0,L5):=by
 rw[VR ADq]
 have h1:Jo (APu L5) (Cf L5) [] (Bc ABl)=([[97],[98,97],[98]],0):=by
  rw[AEI,ABI,Jo,Th,AI (by decide+kernel),Jo]
  decide+kernel
 rw[Ps h1 (by decide)]
theorem AIA(p:HP):AJJ p L5 Vs 0/\Small (IS L5 Vs 0):=QX p (AGC ▸ AhK (by decide)) (by decide) (fun l hl=>by
 rw[VJ]at hl
 cases hl
 exact⟨by decide,by simp[NH,okT,l16]⟩)
theorem AFK(w:World)(hG:Fr (Ao w)):B2 prog 4 [] w (.bool true):=by
 refine enter func4 O ntmps4 O (St.start w (Ao w) (Le.refl _)) (AK O (tr (Em (DP ⟨[120],[97,32,98],false,false,false⟩) O (NF _ O (fun b6=>?_) (by rfl)))));refine CU b6 (fun J6 hJ6 hk6=>?_)
 have hv6:=Kd (f:=DP) (sz:=5) (SV (some [97,32,98])) hk6 O O (fun _=>rfl)
 refine Em [_,_,_,_] O (yc O (fun w hw=>AKB (SV (some [97,32,98])) [] [] (.slice (some ⟨b6,0,none⟩) 1 1) As As (by decide) (fun v hv=>by rw[show SV (some [97,32,98])=[xV [97,32,98]]from O,FK]at hv;subst hv;decide) (by decide) J6 hv6 Gv Gv _ _ w hw) ?_);rintro _ J8 _ ⟨hJ8,p,lv,rfl,rfl,hi8⟩;rw[Aej (x:=some [97,32,98]) (by decide),AGC]at hi8;refine Em (([.pointer (some ⟨p.eb,0,none⟩)]:List Value)) rfl (JC _ rfl fun b10=>?_);refine FB (H':=DW {p with hb:=b10} lv As L5 []) ?_ (fun _ h=>Uw h);refine yq rfl (Tf rfl ABQ rfl rfl) (yc rfl (fun w hw=>Oz {p with hb:=b10} Vs (by decide) L5 (AIA _).1 (AIA {p with hb:=b10}).2 APu ASG (AEZ ALz APu) lv As J8 [] _ w (hG.mono (hJ6.trans hJ8)) (hi8.hb b10) hw) ?_);rintro _ J12 _ ⟨Ts,lv2,av2,v1,rfl,rfl,Agq,AUs⟩;rw[ALg]at AUs Agq ⊢;refine AH rfl (tq ?_)
 refine zA 3 O (fun h22=>by
   simp at h22
   refine zq O ((by exact BH O BT O (Sl.lenOf (n:=3) AUs O))) ?_;exact zv O
  ) ?_
 refine zA 4 O (fun h28=>by
   simp at h28
   refine zq O ((by exact Bq O BT Co O O (Sl.shape (n:=3) AUs O) (by omega))) ?_;refine zq O ((by exact Ai O O (Et (i:=1) AUs (by decide)))) ?_;refine zq O (AR O O O) ?_;exact zv O
  ) ?_
 refine zq O (APg O O) (De O (AX (AP O O (fun w' hw=>?_))));refine⟨?_,(hw.less (hJ6.trans (hJ8.trans Ts))).below⟩
 rfl
end Go.Tri
