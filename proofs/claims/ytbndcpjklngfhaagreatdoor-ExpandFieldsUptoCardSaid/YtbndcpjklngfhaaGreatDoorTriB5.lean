/-
 A range over a function: the iterator's word, the caller's rule; a function that holds such a loop.
-/
import Derived.Test.YtbndcpjklngfhaaGreatDoorTriQs
import Derived.RangeFuncLeaves
import Derived.RangeFuncRecord
import Derived.Laws.StructEq
import Derived.Laws.IdiomStrings
import Derived.Lib.Bytealg
import Derived.Lib.UnsafeStr
import Derived.Lib.Builder
import Derived.Laws.Pointers
import Derived.LaidEqlPtr
import Derived.Laws.Slices
import Derived.Deep.Upon
import Derived.Lib.ConvBytes
import Derived.Lib.AppendStr
namespace Go.Tri
open Go.RowKit
variable {w0 w:World} {rest:List Oper} {l dj fuel h off:Nat} {γ α:Type} {xs cs:List Value} {args:Array Operand} {ts:Array TypeId} {body:Code} {rec:Loop} {g:Operand} {P:Program} {bs X Z:List Nat} {te e' e2:TypeId} {a:Bool} {parts:Array (Nat×Operand)} {oj:Oper} {listed:Array Bool} {xss:List (List Value)} {u:Value} {rs:List ResultVar}

theorem St.self{I:AQ}{H:List HA}(h:St w0 I H w):St w I H w:={h with os:=rfl,tape:=rfl,output:=rfl,size:=A5 _}
class OZ(b:Nat)(x:outParam Obj)(F:outParam (List HA))(H:List HA):Prop where
 pick:ADR H (Fg b x) F
instance ATJ{b:Nat}{x:Obj}{F:List HA}:OZ b x F (Fg b x::F):=⟨MI⟩
instance(priority:=low) pickObj_tail {b:Nat} {x:Obj} {y:HA} {F H:List HA} [h:OZ b x F H]:OZ b x (y::F) (y::H):=⟨MJ h.pick⟩

theorem Pb{I:AQ}{F:List HA}{b:Nat}{x y:Obj}(h:St w0 I (Fg b x::F) w):St w0 I (Fg b y::F) (w.putObj b y):=by
 have hb:w.heap[b]? =some x:=h.sat _ (CQ)
 refine h.turn O O O (by simp) (fun k _ hk=>World.putObj_heap_other (fun e=>hk (by rw[e];rfl))) ?_ (.inl O)
 exact World.putObj_heap_same (GN hb)

def Ze(P:Program)(l:Nat){γ:Type}(Cd Cx:Nat->γ->Prop)(G:γ->List HA)(II:γ->AQ)(xs:List (List Value)):Prop:=
 ∀(i:Nat) (vs:List Value) (g:γ),xs[i]? =some vs->Cd i g->∀(w0:World) (F:List HA) (w:World),St w0 (II g) (F++G g) w→
  ∃fn tmps assign body,(Instr.yield l vs.toArray).run P w=.ok (.round l fn tmps assign body) w∧
   RoundIn (WF none) 0 P l fn tmps assign body w (fun e w'=>
    (e=.returned (.bool true)/\∃g',Cd (i+1) g'/\Le (II g) (II g')/\St w0 (II g') (F++G g') w')∨
    (e=.returned (.bool false)/\∃g',Cx (i+1) g'/\Le (II g) (II g')/\St w0 (II g') (F++G g') w'))

def Kk(P:Program)(gf:FuncId)(lb:List Value)(xs:List (List Value))(Pre:AQ->Prop):Prop:=
 ∀(γ:Type) (Cd Cx:Nat->γ->Prop) (G:γ->List HA) (II:γ->AQ) (l:Nat),Ze P l Cd Cx G II xs->∀(w0:World) (g:γ) (F:List HA) (w:World),Cd 0 g->Pre (II g)->St w0 (II g) (F++G g) w→
  Calls P gf (.func (.yield l) #[] #[]::lb).toArray w (fun e w'=> ∃v,e=.returned v/\∃g',(Cd xs.length g'\/ ∃i,i<=xs.length/\Cx i g')/\Le (II g) (II g')/\St w0 (II g') (F++G g') w')

class Tl(T:List HA)(F:outParam (List HA))(M:outParam (List HA->List HA))(H:List HA):Prop where
 eq:H=F++T
 app:∀T',F++T'=M T'
instance AjN{T:List HA}:Tl T [] (fun T'=>T') T:=⟨rfl,fun _=>rfl⟩
instance Aiw{T F:List HA}:Tl T F (fun T'=>F++T') (F++T):=⟨rfl,fun _=>rfl⟩
instance(priority:=low) tl_cons {T F H:List HA} {M:List HA->List HA} {x:HA} [h:Tl T F M H]:Tl T (x::F) (fun T'=>x::M T') (x::H):=⟨by rw[h.eq];rfl,fun T'=>by rw[NA,h.app]⟩

section iter
variable {C:Cx} {E:Cq} {I:AQ} {H:List HA} {D:List Deferred} {Q:Exit->Act->World->Prop} {o:Oper}

theorem Mb{ops:Array Oper}{d i:Nat}{Cd Cx:Nat->γ->Prop}{G:γ->List HA}{II:γ->AQ}{xs:List (List Value)}{vs:List Value}{y:Operand}{F:List HA}{M:List HA->List HA}(g:γ)
  (hwt:∀a:Act,Jv E C.n a.tmps->Region.wanted o (yielded ops a.tmps)=true) (hd:o.dst=some d) (hn:Nat.blt d C.n=true)
  (ho:o.op=.call {callee:=.value y,args:=args,argTypes:=ts}) (hy:ev E y=some (.func (.yield l) #[] #[])) (he:evs E args.toList=some vs)
  (hY:Ze C.P l Cd Cx G II xs) (hi:xs[i]? =some vs) (hc:Cd i g) (hI:I=II g) [ht:Tl (G g) F M H]
  (kt:∀g',Cd (i+1) g'->Le I (II g')->L C ops rest ((d,.bool true)::E) (II g') (M (G g')) D Q)
  (kf:∀g',Cx (i+1) g'->Le I (II g')->L C ops rest ((d,.bool false)::E) (II g') (M (G g')) D Q):L C ops (o::rest) E I H D Q:=by
 intro a w hs MO hw
 subst hI
 rw[ht.eq]at hw
 obtain⟨fn,tmps,assign,body,GY,MP⟩:=hY i vs g hi hc C.w0 F w hw
 refine wpListIn_step fun K hK=>?_
 rw[AI (hwt a hs)]
 have h1:args.map a.eval=vs.toArray:=by
  rw[<-hs.evs he];cases args;simp
 refine⟨fun _ _=>trivial,?_⟩
 rw[Oper.semAt_eq _ _ _ (fun c hc=>by rw[ho]at hc;cases hc)]
 have hx:(execOp a.eval o).run C.P w=.ok (.round l fn tmps assign body) w:=by
  simp only[execOp,ho,resolve,h1,hs.ev hy]
  simp[Deferred.ofValue,invoke,GY]
 rw[hx]
 refine⟨fun h=>by simp at h,?_⟩
 have hr:RoundIn (WF C.r) 0 C.P l fn tmps assign body w _:=MP
 refine hr.mono fun e w' he=>?_
 rcases he with ⟨rfl,g',h1,h2,h3⟩|⟨rfl,g',h1,h2,h3⟩
 ·refine hK _ _ ?_
  rw[hd]
  exact kt g' h1 h2 _ _ (hs.put (by simpa using hn) _) (by simpa[Act.put]using MO) (ht.app (G g') ▸ h3)
 refine hK _ _ ?_
 rw[hd]
 exact kf g' h1 h2 _ _ (hs.put (by simpa using hn) _) (by simpa[Act.put]using MO) (ht.app (G g') ▸ h3)

def RC:List Nat->List Value->Cq->Cq
 |p::ps,v::vs,E=>RC ps vs ((p,v)::E)
 |_,_,E=>E

theorem WY{n:Nat}:∀(ps:List Nat) (vs:List Value) (E:Cq) (τ:Array Value),Jv E n τ->ps.all (Nat.blt · n)=true->Jv (RC ps vs E) n ((ps.zip vs).foldl (fun t (x:Nat×Value)=>t.setIfInBounds x.1 x.2) τ)
 | [],_,_,_,h,_=>by simpa[RC]using h
 |_::_,[],_,_,h,_=>by simpa[RC]using h
 |p::ps,v::vs,E,τ,h,hp=>by
  simp only[List.all_cons,Ay]at hp
  simp only[List.zip_cons_cons,Qz,RC]
  have:=h.put (a:=⟨τ,[]⟩) (by simpa using hp.1) v
  exact WY ps vs _ _ this hp.2

def AOr(C:Cx)(l:Nat)(body:Code)(Rd:Exit->Act->World->Prop)(a₁:Act)(w₁:World):Prop:=
 ∃w₂,(Instr.beginRound l).run C.P w₁=.ok () w₂/\body.wpIn (WF (some l)) 0 C.P Rd a₁ w₂

theorem Mn{Rd Q':Exit->Act->World->Prop}{F:List HA}(hr:C.r=some l)[hp:OZ l (.loop rec) F H](hs:rec.state=.ready)
  (h:T C body E I (Fg l (.loop {rec with state:=.busy})::F) D Rd):N C .normal E I H D (Exit.then (AOr C l body Rd) Q'):=by
 intro a w Jh hd hw
 have hw':=hw.perm hp.pick
 have hb:w.heap[l]? =some (.loop rec):=hw'.sat _ (CQ)
 have:=h a _ Jh hd (Pb (y:=.loop {rec with state:=.busy}) hw')
 rw[hr]at this
 exact⟨_,run_beginRound hb hs,this⟩

theorem Gy{R:Ending->World->Prop}{F:List HA}[hp:OZ l (.loop rec) F H]
  (h:∀w,St C.w0 I (Fg l (.loop {rec with state:=.ready,pending:=none})::F) w->R (.returned (.bool true)) w):N C .normal E I H D (roundPost C.P l R):=by
 intro a w _ _ hw
 have hw':=hw.perm hp.pick
 have hb:w.heap[l]? =some (.loop rec):=hw'.sat _ (CQ)
 exact⟨_,_,run_endRound none hb,h _ (Pb hw')⟩
theorem AAg{R:Ending->World->Prop}{F:List HA}[hp:OZ l (.loop rec) F H]
  (h:∀w,St C.w0 I (Fg l (.loop {rec with state:=.done,pending:=some .ret})::F) w->R (.returned (.bool false)) w):N C .ret E I H D (roundPost C.P l R):=by
 intro a w _ _ hw
 have hw':=hw.perm hp.pick
 have hb:w.heap[l]? =some (.loop rec):=hw'.sat _ (CQ)
 exact⟨_,_,run_endRound (some .ret) hb,h _ (Pb hw')⟩
def O4(fn:FuncId)(tmps:Array Value)(ps:Array Tmp)(assign body:Code)(bd:Nat)(s:LoopState)(p:Option Code):Loop:={state:=s,pending:=p,fn,tmps,params:=ps,assign,body,defers:=bd}

theorem OO{ps:List Nat}{assign:Code}{gf:FuncId}{fng:Func}{lb:List Value}{xs:List (List Value)}{Pre:AQ->Prop}(hit:Kk C.P gf lb xs Pre)(hr:C.r=none)
  (hg:ev E g=some (.func (.func gf) #[] lb.toArray)) (OG:C.P.funcs[gf]? =some fng) (Hb:(fng.name== "runtime.NumGoroutine")=false) (Wr:fng.body.isNone=false)
  (Inv:Nat->γ->Prop) (Ex:Code->γ->Prop) (F0:List HA) (Hc:γ->List HA->List HA) (hHc:∀gg T,Hc gg T=Hc gg []++T) (IIc:γ->AQ) (E0:Cq) (hE0:Rh E E0) (g0:γ) (h0:Inv 0 g0) (Uz:Pre (IIc g0)) (P2:Le I (IIc g0))
  (hh:∀w,St C.w0 I H w->St C.w0 (IIc g0) (Hc g0 F0) w) (P0:ps.all (Nat.blt · C.n)=true) (hvs:∀vs∈xs,vs.length=ps.length)
  (round:∀(bl:Nat) (ready busy done:Loop) (dfr:HA) (i:Nat) (vs:List Value) (gg:γ) (w0':World) (F:List HA),xs[i]? =some vs->Inv i gg->ready.state=.ready->busy={ready with state:=.busy}→
   T ⟨C.P,some bl,C.n,w0'⟩ assign (RC ps vs E0) (IIc gg) (Hc gg (Fg bl (.loop ready)::dfr::F)) []
    (Exit.then (AOr ⟨C.P,some bl,C.n,w0'⟩ bl body (roundPost C.P bl fun e w'=>
     (e=.returned (.bool true)/\∃g',Inv (i+1) g'/\Le (IIc gg) (IIc g')/\St w0' (IIc g') (Hc g' (Fg bl (.loop {ready with state:=.ready,pending:=none})::dfr::F)) w')∨
     (e=.returned (.bool false)/\∃c g',Ex c g'/\Le (IIc gg) (IIc g')/\St w0' (IIc g') (Hc g' (Fg bl (.loop {ready with state:=.done,pending:=some c})::dfr::F)) w'))) (fun _ _ _=>False)))
  (kdone:∀bd gg,Inv xs.length gg->Le I (IIc gg)->N C .normal E (IIc gg) (Hc gg (Fg bd (.deferred (some []))::F0)) ({target:=.collected bd,args:=#[]}::D) Q)
  (kstop:∀bd c gg,Ex c gg->Le I (IIc gg)->T C c E (IIc gg) (Hc gg (Fg bd (.deferred (some []))::F0)) ({target:=.collected bd,args:=#[]}::D) Q):
  T C (.rangeFunc g ps.toArray assign body) E I H D Q:=by
 intro a w hs hd hw
 refine wpIn_rangeFunc ?_
 intro fn Aju
 rw[AER,hr]
 obtain⟨W1,hW1⟩:∃W1,(w.alloc (.deferred (some []))).alloc (.loop (O4 fn a.tmps ps.toArray assign body w.heap.size .ready none))=W1:=⟨_,rfl⟩
 have Lg:St C.w0 (IIc g0) (Hc g0 []++(Fg (w.heap.size+1) (.loop (O4 fn a.tmps ps.toArray assign body w.heap.size .ready none))::Fg w.heap.size (.deferred (some []))::F0)) W1:=by
  have h1:=((hh w hw).new (.deferred (some []))).new (.loop (O4 fn a.tmps ps.toArray assign body w.heap.size .ready none))
  rw[World.size_alloc,hW1,hHc g0 F0]at h1
  refine h1.perm ?_
  refine(List.perm_append_comm (l₁:=[Fg (w.heap.size+1) (.loop (O4 fn a.tmps ps.toArray assign body w.heap.size .ready none)),Fg w.heap.size (.deferred (some []))]) (l₂:=Hc g0 []++F0)).trans ?_
  rw[Ka]
  exact List.Perm.append_left _ List.perm_append_comm
 refine⟨w.heap.size+1,[{target:=.collected w.heap.size,args:=#[]}],W1,{target:=.fn (.func gf) lb.toArray,args:=#[.func (.yield (w.heap.size+1)) #[] #[]]},W1,gf,
  (.func (.yield (w.heap.size+1)) #[] #[]::lb).toArray,W1,?_,?_,fun _ _=>trivial,?_,fun h=>by simp at h,?_⟩
 ·rw[<-hW1];exact run_enterLoop_outer _ _ _ _ _
 ·simp only[resolve,hs.ev hg]
  simp[Deferred.ofValue,Act.eval]
 ·simp[invoke,MY OG Hb Wr]

 let recS:LoopState->Option Code->Loop:=O4 fn a.tmps ps.toArray assign body w.heap.size
 let Cd:Nat->γ×Loop->Prop:=fun i p=>Inv i p.1/\p.2=recS .ready none
 let Cx:Nat->γ×Loop->Prop:=fun _ p=> ∃c,Ex c p.1/\p.2=recS .done (some c)
 let G:γ×Loop->List HA:=fun p=>Hc p.1 []++(Fg (w.heap.size+1) (.loop p.2)::Fg w.heap.size (.deferred (some []))::F0)
 let II:γ×Loop->AQ:=fun p=>IIc p.1
 have Vb:∀(F:List HA) (p:γ×Loop),(F++G p).Perm (Hc p.1 (Fg (w.heap.size+1) (.loop p.2)::Fg w.heap.size (.deferred (some []))::(F0++F))):=fun F p=>by
  rw[hHc p.1 (_::_)]
  refine(List.perm_append_comm (l₁:=F)).trans ?_
  show((Hc p.1 []++(Fg (w.heap.size+1) (.loop p.2)::Fg w.heap.size (.deferred (some []))::F0))++F).Perm _
  rw[Ka]
  exact List.Perm.refl _
 have hY:Ze C.P (w.heap.size+1) Cd Cx G II xs:=by
  intro i vs p hi hc w0' F w2 JM
  obtain⟨gg,rec⟩:=p
  obtain⟨Ek,JG⟩:=hc
  simp only at Ek JG
  subst JG
  have hw3:=JM.perm (Vb F (gg,recS .ready none))
  have hl:w2.heap[w.heap.size+1]? =some (.loop (recS .ready none)):=hw3.sat (Fg (w.heap.size+1) (.loop (recS .ready none))) (by rw[hHc];exact List.mem_append_right _ (CQ))
  have Dg:vs.toArray.size=(recS .ready none).params.size:=by
   show vs.toArray.size=ps.toArray.size
   simpa using hvs vs (List.mem_of_getElem? hi)
  refine⟨_,_,_,_,run_yield hl Dg,?_⟩
  refine roundIn_of_wpIn (F:=WF none) trivial ?_
  have Jh:Jv (RC ps vs E0) C.n (((recS .ready none).params.zip vs.toArray).foldl (fun t (x:Nat×Value)=>t.setIfInBounds x.1 x.2) (recS .ready none).tmps):=by
   have:=WY ps vs E0 a.tmps (hs.sub hE0) P0
   show Jv _ _ ((ps.toArray.zip vs.toArray).foldl _ a.tmps)
   rw[<-Array.foldl_toList]
   simpa using this
  have MP:=round (w.heap.size+1) (recS .ready none) (recS .busy none) (recS .done none) (Fg w.heap.size (.deferred (some []))) i vs gg w0' (F0++F) hi Ek O O
   ⟨_,[]⟩ w2 Jh O hw3
  refine wpIn_mono MP ?_
  rintro e a3 w3 hq
  cases e with
  |normal=>
   obtain⟨w4,Oi,Wi⟩:=hq
   refine⟨w4,Oi,wpIn_mono Wi ?_⟩
   have conv:∀e w',((e=Ending.returned (.bool true)/\∃g',Inv (i+1) g'/\Le (IIc gg) (IIc g')/\St w0' (IIc g') (Hc g' (Fg (w.heap.size+1) (.loop {recS .ready none with state:=.ready,pending:=none})::Fg w.heap.size (.deferred (some []))::(F0++F))) w')∨
    (e=.returned (.bool false)/\∃c g',Ex c g'/\Le (IIc gg) (IIc g')/\St w0' (IIc g') (Hc g' (Fg (w.heap.size+1) (.loop {recS .ready none with state:=.done,pending:=some c})::Fg w.heap.size (.deferred (some []))::(F0++F))) w'))→
    ((e=.returned (.bool true)/\∃g',Cd (i+1) g'/\Le (II (gg,recS .ready none)) (II g')/\St w0' (II g') (F++G g') w')∨
    (e=.returned (.bool false)/\∃g',Cx (i+1) g'/\Le (II (gg,recS .ready none)) (II g')/\St w0' (II g') (F++G g') w')):=by
    intro e w' h
    rcases h with ⟨rfl,g',h1,h2,h3⟩|⟨rfl,c,g',h1,h2,h3⟩
    ·exact .inl ⟨O,(g',recS .ready none),⟨h1,O⟩,h2,h3.perm (Vb F (g',recS .ready none)).symm⟩
    exact .inr ⟨O,(g',recS .done (some c)),⟨c,h1,O⟩,h2,h3.perm (Vb F (g',recS .done (some c))).symm⟩
   rintro e a5 w5 hp
   cases e<;>simp only[roundPost]at hp ⊢ <;>first | (obtain⟨v,w6,h1,h2⟩:=hp;exact⟨v,w6,h1,conv _ _ h2⟩)|exact hp
  |exit id=>exact hq
  |goto t=>exact hq
  |ret=>exact hq
  |panic c=>exact hq
  |outgrown=>exact hq
 have APq:=hit (γ×Loop) Cd Cx G II (w.heap.size+1) hY C.w0 (g0,recS .ready none) [] W1 ⟨h0,O⟩ Uz Lg
 have AGE:CallsIn (WF none) 0 C.P gf (.func (.yield (w.heap.size+1)) #[] #[]::lb).toArray W1 _:=callsIn_wide.2 APq
 have AHK:CallsIn (WF C.r) 0 C.P gf (.func (.yield (w.heap.size+1)) #[] #[]::lb).toArray W1 _:=AGE
 refine AHK.mono ?_
 rintro e w' ⟨v,rfl,⟨gg,rec⟩,Yi,CH,hw'⟩
 have hw'':St C.w0 (IIc gg) (Fg (w.heap.size+1) (.loop rec)::Fg w.heap.size (.deferred (some []))::(F0++Hc gg [])) w':=by
  refine hw'.perm ?_
  exact List.perm_append_comm (l₁:=Hc gg [])
 have hl:w'.heap[w.heap.size+1]? =some (.loop rec):=hw''.sat _ (CQ)
 have ADx:∀y,St C.w0 (IIc gg) (Hc gg (Fg w.heap.size (.deferred (some []))::F0)) (w'.putObj (w.heap.size+1) y):=fun y=>by
  have:=(Pb (y:=y) hw'').tail
  refine this.perm ?_
  rw[hHc gg (_::_)]
  exact List.perm_append_comm (l₁:=Fg w.heap.size (.deferred (some []))::F0)
 rcases Yi with ⟨Ek,JG⟩|⟨i,_,c,XF,JG⟩
 ·simp only at Ek JG
  subst JG
  refine⟨none,_,run_endLoop hl (show LoopState.ready≠LoopState.busy by decide),?_⟩
  exact kdone w.heap.size gg Ek (P2.trans CH) {a with defers:=[{target:=.collected w.heap.size,args:=#[]}]++a.defers} _ hs (by rw[<-hd];rfl) (ADx _)
 simp only at XF JG
 subst JG
 refine⟨some c,_,run_endLoop hl (show LoopState.done≠LoopState.busy by decide),?_⟩
 have hk:=kstop w.heap.size c gg XF (P2.trans CH) {a with defers:=[{target:=.collected w.heap.size,args:=#[]}]++a.defers}
 simp only[hr]at hk
 exact hk _ hs (by rw[<-hd];rfl) (ADx _)
end iter

theorem Aag{f:FuncId}{fn:Func}{c:Code}{args:List Value}{R:Ending->World->Prop}{n:Nat}{I:AQ}{H:List HA}
  (hf:P.funcs[f]? =some fn) (hb:fn.body=some c) (hn:fn.ntmps=n) (ha:Nat.ble args.length n=true) (CS:St w I H w)
  (h:T ⟨P,none,n,w⟩ c (AJb 0 args) I H [] (bodyPostM (WF none) 0 P fn R)):Calls P f args.toArray w R:=by
 have hal:args.length<=n:=by simpa using ha
 refine callsIn_wide (n:=0).1 (callsIn_of_wp_marks hf hb trivial ?_)
 refine h _ w ⟨by simp[hn,hal],fun k v hk=>?_⟩ O CS
 obtain⟨_,h2⟩:=VA args 0 k v hk
 have Eg:k<args.length:=by
  have:=(List.getElem?_eq_some_iff.1 h2).1
  omega
 show(args.toArray++Array.replicate (fn.ntmps-args.toArray.size) undef)[k]? =some v
 rw[Array.getElem?_append_left (by simpa using Eg)]
 simpa using h2

section ret
variable {C:Cx} {E:Cq} {I:AQ} {H:List HA} {R:Ending->World->Prop} {fn:Func}
def Xj(bs:List Nat):List Deferred:=bs.map fun b=>{target:=.collected b,args:=#[]}

theorem Q5{P:Program}{tmps:Array Value}{w0:World}{v:Value}(hr:∀w,(results fn tmps).run P w=.ok v w):∀(bs:List Nat) (F:List HA) (w:World),St w0 I (bs.map (fun b=>Fg b (.deferred (some [])))++F) w→
  (∀w,St w0 I F w->R (.returned v) w)->LeavesInM (WF none) 0 P fn tmps R (Xj bs) .returning w
 | [],_,w,hw,k=>⟨v,hr w,k w hw⟩
 |b::bs,F,w,hw,k=>by
  refine⟨(by intro h;cases h),.inl ⟨b,w.putObj b (.deferred none),rfl,?_,?_⟩⟩
  ·exact run_takeDeferred (hw.sat (Fg b (.deferred (some []))) (CQ))
  exact Q5 hr bs F _ (Pb (y:=.deferred none) hw).tail k

class Pp(bs:List Nat)(F:outParam (List HA))(H:List HA):Prop where
 sub:Pw H (bs.map (fun b=>Fg b (.deferred (some [])))++F)
instance Aac{H:List HA}:Pp [] H H:=⟨X9 H⟩
instance AWW{b:Nat}{bs:List Nat}{F F' H:List HA}[p:Y4 (Fg b (.deferred (some []))) F' H][h:Pp bs F F']:Pp (b::bs) F H:=⟨YO p.pick h.sub⟩

theorem AOu{F:List HA}{v:Value}{e:Exit}(he:e=.ret\/e=.normal)[hp:Pp bs F H](hr:∀τ w,Jv E C.n τ->(results fn τ).run C.P w=.ok v w)(k:∀w,St C.w0 I F w->R (.returned v) w):N C e E I H (Xj bs) (bodyPostM (WF none) 0 C.P fn R):=by
 intro a w hs hd hw
 have:=Q5 (P:=C.P) (tmps:=a.tmps) (fn:=fn) (R:=R) (fun w=>hr a.tmps w hs) bs F w (hw.sub hp.sub) k
 rcases he with rfl|rfl
 ·show LeavesInM _ _ _ _ _ _ a.defers .returning w
  rw[hd];exact this
 show LeavesInM _ _ _ _ _ _ a.defers .returning w
 rw[hd];exact this
theorem AIj{F:List HA}{t:Nat}{v:Value}(hr:fn.results=#[.tmp t])(hv:get E t=some v)[hp:Pp bs F H](k:∀w,St C.w0 I F w->R (.returned v) w):N C .ret E I H (Xj bs) (bodyPostM (WF none) 0 C.P fn R):=
 AOu (.inl O) (fun τ w hs=>by rw[results_tmp hr];simp[hs.2 t v hv]) k
theorem AHk{F:List HA}{t u:Nat}{v x:Value}(hr:fn.results=#[.tmp t,.tmp u])(hv:get E t=some v)(hx:get E u=some x)[hp:Pp bs F H](k:∀w,St C.w0 I F w->R (.returned (.tuple #[v,x])) w):N C .ret E I H (Xj bs) (bodyPostM (WF none) 0 C.P fn R):=
 AOu (.inl O) (fun τ w hs=>by rw[results_tmp2 hr];simp[hs.2 t v hv,hs.2 u x hx]) k
end ret

section ops
variable {C:Cx} {E:Cq} {I:AQ} {H:List HA} {D:List Deferred} {Q:Exit->Act->World->Prop} {o:Oper}

theorem APg{c:Operand}{b:Bool}(ho:o.op=.pick c (.const (.bool true)) (.const (.bool false)))(hc:ev E c=some (.bool b)):BI C E I H o (.bool b):=by
 have h:=Po (C:=C) (I:=I) (H:=H) ho hc (u:=.bool true) (v:=.bool false) O O
 cases b<;>exact h
section strings
variable {x y i j:Operand} {t t':TypeId} {s s':List UInt8} {k kl kh:IntKind} {m n:Int}
theorem N3(s:List UInt8)(l h:Nat):(⟨s.toArray⟩:ByteArray).extract l h=⟨((s.drop l).take (h-l)).toArray⟩:=by
 apply ByteArray.ext
 simp[ByteArray.data_extract]
theorem AZ{j:Nat}(ho:o.op=.index t x i)(ht:C.P.underlying t=some .string)(hx:ev E x=some (Au s))(hi:ev E i=some (.int k (j:Int)))(h:j<s.length):
  BI C E I H o (u8 (AG s j 0)):=Bu ho ht hx hi ⟨by omega,by omega⟩
theorem AN{e:TypeId}{v z:Value}{j n sz bytes:Nat}(ho:o.op=.indexAddr t x i)(ht:C.P.underlying t=some (.slice e))(hi:TI C.P e sz bytes z)
  (hx:ev E x=some v) (hix:ev E i=some (.int k (j:Int))) (hv:∃A c,v=.slice A n c/\(0<n->∀a,A=some a->a.spot=none)/\(0<n->A≠none)) (h0:j<n):
  BI C E I H o (.pointer (some ⟨(Eb v).block,(Eb v).off+j * sz,none⟩)):=Bq ho ht hi hx hix hv ⟨by omega,by omega⟩
theorem Fp{e:TypeId}{v z:Value}{j n sz sz' bytes:Nat}(ho:o.op=.indexAddr t x i)(ht:C.P.underlying t=some (.slice e))(hi:TI C.P e sz bytes z)
  (hx:ev E x=some v) (hix:ev E i=some (.int k (j:Int))) [hm:H3 v te sz' n xs H] (h0:j<n):
  BI C E I H o (.pointer (some ⟨(Eb v).block,(Eb v).off+j * sz,none⟩)):=HX ho ht hi hx hix ⟨by omega,by omega⟩
theorem CK(ho:o.op=.slice t x (some i) (some j) none)(ht:C.P.underlying t=some .string)(hx:ev E x=some (Au s))(hi:ev E i=some (.int kl m))(hj:ev E j=some (.int kh n))(h:0<=m/\m<=n/\n<=s.length):
  BI C E I H o (Au ((s.drop m.toNat).take (n.toNat-m.toNat))):=
 Bw (by rw[ho];rfl) fun a w hs _=>by
  simp only[execOp,ho,hs.ev hx,Option.map_some,Option.map_none,hs.ev hi,hs.ev hj]
  rw[Sem.run_bind,run_sliceAt_string w t _ _ _ _ ht]
  unfold Au
  rw[run_slice_string w t _ kl kh m n ht h.1 h.2.1 (by rw[Ee];exact h.2.2),N3]
  rfl
theorem BF(ho:o.op=.slice t x (some i) none none)(ht:C.P.underlying t=some .string)(hx:ev E x=some (Au s))(hi:ev E i=some (.int kl m))(h:0<=m/\m<=s.length):
  BI C E I H o (Au (s.drop m.toNat)):=
 Bw (by rw[ho];rfl) fun a w hs _=>by
  simp only[execOp,ho,hs.ev hx,Option.map_some,Option.map_none,hs.ev hi]
  rw[Sem.run_bind,run_sliceAt_string w t _ _ _ _ ht]
  unfold Au
  have h1:=run_slice_string_l (P:=C.P) (w:=w) (t:=t) ht (s:=⟨s.toArray⟩) kl m h.1 (by rw[Ee];exact h.2)
  rw[h1,N3,Ee,LG (by simp)]
  rfl
theorem Ba(ho:o.op=.slice t x none (some j) none)(ht:C.P.underlying t=some .string)(hx:ev E x=some (Au s))(hj:ev E j=some (.int kh n))(h:0<=n/\n<=s.length):
  BI C E I H o (Au (s.take n.toNat)):=
 Bw (by rw[ho];rfl) fun a w hs _=>by
  simp only[execOp,ho,hs.ev hx,Option.map_some,Option.map_none,hs.ev hj]
  rw[Sem.run_bind,run_sliceAt_string w t _ _ _ _ ht]
  unfold Au
  have h1:=run_slice_string_h (P:=C.P) (w:=w) (t:=t) ht (s:=⟨s.toArray⟩) kh n h.1 (by rw[Ee];exact h.2)
  rw[h1,N3]
  simp
theorem F1(ho:o.op=.binOp .add t x y t')(hx:ev E x=some (Au s))(hy:ev E y=some (Au s'))(h:s.length+s'.length<=9223372036854775807):BI C E I H o (Au (s++s')):=
 B9 ho hx hy fun w=>by
  have e:(⟨s.toArray⟩:ByteArray)++⟨s'.toArray⟩=⟨(s++s').toArray⟩:=by apply ByteArray.ext;simp
  simp only[eqGuard,Au,binOp]
  rw[Sem.run_bind]
  simp[run_string_add_sum (P:=C.P) (w:=w) ⟨s.toArray⟩ ⟨s'.toArray⟩ (by simpa[Ee]using h),e]
theorem Bs(ho:o.op=.binOp .neq t x y t')(hx:ev E x=some (Au s))(hy:ev E y=some (Au s')):BI C E I H o (.bool (decide (s≠s'))):=
 B9 ho hx hy fun w=>by
  simp[eqGuard,Au,binOp,Op.stringOp,ByteArray.toList_eq];rw[Bool.eq_iff_iff];simp
theorem Ph{b:Bool}(ho:o.op=.binOp .eql t x y t')(ht:C.P.underlying t=some .bool)(hx:ev E x=some (.bool a))(hy:ev E y=some (.bool b)):BI C E I H o (.bool (a==b)):=
 B9 ho hx hy fun w=>by
  simp[eqGuard,binOp,Op.equal,Op.maxDepth,run_equalIn_bool' (P:=C.P) w 9999 t a b ht]
theorem Pu{b:Bool}(ho:o.op=.binOp .neq t x y t')(ht:C.P.underlying t=some .bool)(hx:ev E x=some (.bool a))(hy:ev E y=some (.bool b)):BI C E I H o (.bool (a != b)):=
 B9 ho hx hy fun w=>by
  simp[eqGuard,binOp,Op.equal,Op.maxDepth,run_equalIn_bool' (P:=C.P) w 9999 t a b ht]
  cases a<;>cases b<;>rfl
theorem G1{d:TypeDesc}{k':IntKind}{r:Int}(ho:o.op=.convert t t' x)(hs:C.P.underlying t=some d)(hd:C.P.underlying t'=some (.int k'))(hx:ev E x=some (.int k n))(hr:k'.wrap n=r):BI C E I H o (.int k' r):=
 Bw (by rw[ho];rfl) fun a w Jh _=>by
  subst hr
  simp[execOp,ho,Jh.ev hx,convert,run_underlying hs,run_underlying hd,Conv.intToInt]
def Km(c:UInt8):List Value:=[u8 c]
theorem RD(c:UInt8):∀u∈Km c,u.oneCell'=true:=fun u hu=>by
 rw[Km,FK]at hu
 subst hu
 rfl
theorem QB(l:List UInt8):(l.map Km).flatten=l.map u8:=by
 induction l with
 |nil=>rfl
 |cons c l ih=>simp[Km,ih]
theorem LE{e:TypeId}{v:Value}{T:TypeId}{l:List UInt8}(ho:o.op=.convert t t' x)(hs:C.P.underlying t=some (.slice e))(hd:C.P.underlying t'=some .string)(he:C.P.underlying e=some (.int .u8))(hx:ev E x=some v)[hm:H3 v T 1 l.length (l.map Km).flatten H]:BI C E I H o (Au l):=
 Bw (by rw[ho];rfl) fun a w Jh hw=>by
  obtain⟨hl,hh⟩:=hw.sat _ hm.mem
  simp only[execOp,ho,Jh.ev hx]
  rw[QB]at hh
  rcases hh with ⟨rfl,hz⟩|⟨g,cap,cur,rfl,hg,hn,hc,MG,QO⟩
  ·have:l=[]:=List.eq_nil_of_length_eq_zero hz
   subst this
   simp[convert,run_underlying hs,run_underlying hd,run_underlying he,Conv.bytesToString,Au]
   rfl
  rw[Sem.run_bind,run_convert_bytes_back (P:=C.P) w t t' e ⟨g,0,none⟩ cap l hs he hd (fun j hj=>by
   rw[Addr.add_lit]
   have hg':w.heap[g]? =some (.cells cur T (0,0)):=hg
   unfold World.cell?
   simp only[hg',Option.isSome_none,RZ,O9,Nat.zero_add]
   have h2:(l.map u8)[j]? =some (u8 l[j]):=by simp[hj]
   rw[<-QO,List.getElem?_take]at h2
   split at h2
   ·simpa[u8]using h2
   cases h2)]
  rfl
end strings

section bytes
variable {x y:Operand} {t t':TypeId} {c d:UInt8} {n:Int}
theorem AIq(c d:UInt8):((c.toNat:Int)=(d.toNat:Int))↔c=d:=by
 constructor
 ·intro h;exact UInt8.toNat_inj.1 (by omega)
 intro h;rw[h]
theorem AMl{n:Int}(c:UInt8)(h:(decide (0<=n)&&decide (n<256))=true):((c.toNat:Int)=n)↔c=UInt8.ofNat n.toNat:=by
 simp only[Ay,BC]at h
 rw[<-AIq]
 have:(UInt8.ofNat n.toNat).toNat=n.toNat:=by rw[UInt8.toNat_ofNat'];omega
 rw[this]
 omega
theorem Ly(ho:o.op=.binOp .eql t x y t')(hx:ev E x=some (u8 c))(hy:ev E y=some (u8 d)):BI C E I H o (.bool (decide (c=d))):=by
 have:=AOs (C:=C) (I:=I) (H:=H) ho hx hy
 simpa only[AIq]using this
theorem Ae(ho:o.op=.binOp .eql t x y t')(hx:ev E x=some (u8 c))(hy:ev E y=some (.int .u8 n))(h:(decide (0<=n)&&decide (n<256))=true):BI C E I H o (.bool (decide (c=UInt8.ofNat n.toNat))):=by
 have:=AOs (C:=C) (I:=I) (H:=H) ho hx hy
 simpa only[AMl c h]using this
theorem Yj(ho:o.op=.binOp .neq t x y t')(hx:ev E x=some (u8 c))(hy:ev E y=some (.int .u8 n))(h:(decide (0<=n)&&decide (n<256))=true):BI C E I H o (.bool (decide (c≠UInt8.ofNat n.toNat))):=by
 have:=AWg (C:=C) (I:=I) (H:=H) ho hx hy
 simpa only[ne_eq,AMl c h]using this
end bytes

def evP(E:Cq):List (Nat×Operand)->Option (List (Nat×Value))
 | []=>some []
 | (i,x)::r=>match ev E x,evP E r with
  |some v,some vs=>some ((i,v)::vs)
  |_,_=>none
theorem Jv.evP{n:Nat}{a:Act}(h:Jv E n a.tmps):∀{xs:List (Nat×Operand)} {vs:List (Nat×Value)},evP E xs=some vs->xs.map (fun p=>(p.1,a.eval p.2))=vs
 | [],_,hx=>by cases hx;rfl
 | (i,x)::r,vs,hx=>by
  unfold Tri.evP at hx
  split at hx
  ·rename_i v vs' h1 h2
   cases hx
   rw[EN,h.ev h1,h.evP h2]
  cases hx
def Rs(P:Program):List Field->List (Nat×Nat)->Prop
 | [],[]=>True
 |f::fs,(o,s)::pl=>f.offset=o/\(∃b z,TI P f.type s b z)/\Rs P fs pl
 |_,_=>False
theorem VY{P:Program}{w:World}:∀{fs:List Field} {pl:List (Nat×Nat)},Rs P fs pl->(fs.mapM (fun f=>do pure (f.offset,<-sizeOf f.type):Field->Sem (Nat×Nat))).run P w=.ok pl w
 | [],[],_=>by simp
 |f::fs,(o,s)::pl,h=>by
  obtain⟨h1,⟨b,z,h2⟩,h3⟩:=h
  have ih:=VY (w:=w) h3
  subst h1
  simp only[List.mapM_cons,Sem.run_bind,h2.sizeOf,Sem.run_pure,PM,ih]
 | [],_::_,h=>h.elim
 |_::_,[],h=>h.elim
theorem C0{t:TypeId}{fs:Array Field}{n bytes:Nat}{z:Value}{vs:List (Nat×Value)}{pl:List (Nat×Nat)}{cs:Array Value}(ho:o.op=.build t parts)(ht:C.P.underlying t=some (.struct fs))(hi:TI C.P t n bytes z)
  (EU:Rs C.P fs.toList pl) (hv:evP E parts.toList=some vs) (hf:Instr.fill (fun i=>pl[i]?) z.cells vs=some cs):BI C E I H o (.agg cs):=
 Bw (by rw[ho];rfl) fun a w hs _=>by
  have h1:(parts.map fun p=>(p.1,a.eval p.2)).toList=vs:=by rw[<-hs.evP hv];simp
  simp only[execOp,ho,Instr.build]
  have h2:=VY (w:=w) EU
  have h3:(fs.mapM (fun f=>do pure (f.offset,<-sizeOf f.type):Field->Sem (Nat×Nat))).run C.P w=.ok pl.toArray w:=by
   obtain⟨fl⟩:=fs
   simp only[List.mapM_toArray]
   rw[Sem.run_map]
   simp only at h2
   rw[h2]
   rfl
  simp only[Sem.run_bind,hi.zero,run_underlying ht,PM,h3]
  have h4:(fun(i:Nat)=>pl.toArray[i]?)=(fun(i:Nat)=>pl[i]?):=by funext i;simp
  rw[h4]
  have h5:(parts.map fun x=>match x with| (i,x)=>(i,a.eval x)).toList=vs:=h1
  rw[h5,hf]
  rfl
theorem ABG{x y:Operand}{t t':TypeId}{xs ys:Array Value}{r:Bool}(ho:o.op=.binOp .neq t x y t')(hg:C.P.eqGuardType C.P.depth t=false)(hx:ev E x=some (.agg xs))(hy:ev E y=some (.agg ys))(hr:∀w,(Op.equalIn 10000 t (.agg xs) (.agg ys)).run C.P w=.ok r w):BI C E I H o (.bool (!r)):=
 B9 ho hx hy fun w=>by
  rw[Sem.run_bind,run_eqGuard_agg w _ _ _ _ _ _ hg]
  simp only[PM]
  rw[run_neq_struct,hr]
  rfl

@[reducible] def ER(w:World)(Post:Value->AQ->List HA->Prop):Ending->World->Prop:=fun e w'=> ∃v,e=.returned v/\∃I' H',Post v I' H'/\St w I' H' w'
theorem AOY{f:FuncId}{vs:List Value}{fn:Func}{Post:Value->AQ->List HA->Prop}
  (ho:o.op=.call {callee:=.value g,args:=args,argTypes:=ts}) (hg:ev E g=some (.func (.func f) #[] #[])) (he:evs E args.toList=some vs)
  (OG:C.P.funcs[f]? =some fn) (Hb:(fn.name== "runtime.NumGoroutine")=false) (Wr:fn.body.isNone=false)
  (hc:∀w,St C.w0 I H w->Calls C.P f vs.toArray w (fun e w'=> ∃v,e=.returned v/\∃I' H',Post v I' H'/\St w I' H' w')):LN C E I H o Post:=by
 intro a w hs hw K Q hk
 have h1:args.map a.eval=vs.toArray:=by
  rw[<-hs.evs he];cases args;simp
 have GY:(execOp a.eval o).run C.P w=.ok (.enter f vs.toArray) w:=by
  simp only[execOp,ho,resolve,h1,hs.ev hg]
  simp[Deferred.ofValue,invoke,MY OG Hb Wr]
 exact JU (by rw[ho];rfl) GY (hc w hw) fun v w'' ⟨I',H',hp,hw'⟩=>hk v I' H' w'' hp (St.rebase hw hw')

theorem Qk{f:FuncId}{vs:List Value}{fn:Func}{e:Array Value->Sem Value}{v:Value}
  (ho:o.op=.call {callee:=.value g,args:=args,argTypes:=ts}) (hg:ev E g=some (.func (.func f) #[] #[])) (he:evs E args.toList=some vs)
  (OG:C.P.funcs[f]? =some fn) (Hb:(fn.name== "runtime.NumGoroutine")=false) (Wr:fn.body=none) (h1:Extern.findNext fn=none) (h2:Extern.find fn=some e)
  (hr:∀w,(e vs.toArray).run C.P w=.ok v w):BI C E I H o v:=
 Bw (by rw[ho];rfl) fun a w hs _=>by
  have h3:args.map a.eval=vs.toArray:=by
   rw[<-hs.evs he];cases args;simp
  have hn':¬fn.name= "runtime.NumGoroutine":=by simpa using Hb
  simp only[execOp,ho,resolve,h3,hs.ev hg]
  simp[Deferred.ofValue,invoke,callFunc,OG,hn',Wr,h1,h2,hr]

theorem CL{ops:Array Oper}{l:List Oper}(k:Nat)(hs:QS C ops (l.take k) E I H (fun a'=>a'.defers=D->∀w',St C.w0 I H w'->wpListIn (WF C.r) 0 C.P ops Q (l.drop k) a' w')):L C ops l E I H D Q:=by
 intro a w Jh hd hw
 have h1:=QK _ a (hs a Jh)
 have:=UJ (Q:=Q) (l.take k) (l.drop k) a w (Jy (fun a' h' w' hb=>h'.1 (h'.2.1.trans hd) w' (hw.garb hb)) _ a h1) hw
 rwa [Iu]at this
theorem FR{ops:Array Oper}{l:List Oper}(h:L C ops l E I H D Q):QS C ops [] E I H (fun a'=>a'.defers=D->∀w',St C.w0 I H w'->wpListIn (WF C.r) 0 C.P ops Q l a' w'):=fun a hs hd w' hw'=>h a w' hs hd hw'
theorem AIC{ops:Array Oper}{l:List Oper}{t:Nat}{b:Bool}(hb:get E t=some (.bool b))(ht:b=true->L C ops l ((t,.bool true)::E) I H D Q)(hf:b=false->L C ops l ((t,.bool false)::E) I H D Q):L C ops l E I H D Q:=by
 cases b
 ·exact AWA (FY hb (Rh.refl E)) (hf O)
 exact AWA (FY hb (Rh.refl E)) (ht O)
theorem Np{ops:Array Oper}{d j:Nat}{b b':Bool}(hg:o.guard=some (j,b))(hj:ops[j]? =some oj)(QL:oj.dst=some dj)(hb:get E dj=some (.bool b'))(We:(b==b')=false)(hd:o.dst=some d)(hn:Nat.blt d C.n=true)
  (k:L C ops rest ((d,undef)::E) I H D Q):L C ops (o::rest) E I H D Q:=by
 intro a w hs MO hw
 have hy:=Mk (C:=C) hs hj QL hb
 refine wpListIn_step fun K hK=>?_
 rw[AB (by
  have:¬b'=b:=fun e=>by subst e;simp at We
  simp[Region.wanted,hg,hy,this])]
 refine⟨fun _ _=>trivial,hK _ _ ?_⟩
 rw[hd]
 exact k _ _ (hs.put (by simpa using hn) undef) (by simpa[Act.put]using MO) hw
theorem GO{ops:Array Oper}{j:Nat}{b:Bool}(hg:o.guard=some (j,b))(hj:ops[j]? =some oj)(QL:oj.dst=some dj)(hb:get E dj=some (.bool b)):∀a:Act,Jv E C.n a.tmps->Region.wanted o (yielded ops a.tmps)=true:=fun a hs=>by
 simp[Region.wanted,hg,Mk (C:=C) hs hj QL hb]
theorem Fi{ops:Array Oper}(hg:o.guard=none):∀a:Act,Jv E C.n a.tmps->Region.wanted o (yielded ops a.tmps)=true:=fun a _=>by simp[Region.wanted,hg]
theorem Z7{ops:Array Oper}{d:Nat}{v:Value}(hw:∀a:Act,Jv E C.n a.tmps->Region.wanted o (yielded ops a.tmps)=true)(hd:o.dst=some d)(hn:Nat.blt d C.n=true)
  (hq:BI C E I H o v) (k:L C ops rest ((d,v)::E) I H D Q):L C ops (o::rest) E I H D Q:=by
 intro a w hs MO CS
 refine wpListIn_step fun K hK=>?_
 rw[AI (hw a hs)]
 refine(hq a w hs CS).wpIn fun w' g=>hK _ _ ?_
 rw[hd]
 exact k _ _ (hs.put (by simpa using hn) v) (by simpa[Act.put]using MO) (CS.garb g)
theorem AhI{ops:Array Oper}{d:Nat}{Post:Value->AQ->List HA->Prop}(hw:∀a:Act,Jv E C.n a.tmps->Region.wanted o (yielded ops a.tmps)=true)(hd:o.dst=some d)(hn:Nat.blt d C.n=true)
  (he:LN C E I H o Post) (k:∀v I' H',Post v I' H'->L C ops rest ((d,v)::E) I' H' D Q):L C ops (o::rest) E I H D Q:=by
 intro a w hs MO CS
 refine wpListIn_step fun K hK=>?_
 rw[AI (hw a hs)]
 refine he a w hs CS _ _ fun v I' H' w' hp hw'=>hK _ _ ?_
 rw[hd]
 exact k v I' H' hp _ _ (hs.put (by simpa using hn) v) (by simpa[Act.put]using MO) hw'

theorem JS.cells{v:Value}(h:JS v):v.cells=[v].toArray:=h.1
@[reducible] def Ap{α:Type}(T:TypeId)(sz:Nat)(f:α->List Value)(v:Value)(l:List α):HA:=Ww v T sz l.length (l.map f).flatten
theorem AIP{v:Value}(h:JS v):∀u∈[v],u.oneCell'=true:=fun u hu=>by
 rw[FK]at hu
 subst hu
 exact h.2
theorem ABi{x y:Operand}{t e:TypeId}{n m c sz bytes b:Nat}{v z:Value}{F:List HA}(ho:o.op=.call {callee:=.builtin .append,args:=#[x,y],argTypes:=#[t,t]})
  (ht:C.P.underlying t=some (.slice e)) (hi:TI C.P e sz bytes z) (hz:z.cells.size=sz) (MG:Nat.blt 0 sz=true)
  (hx:ev E x=some v) (hy:ev E y=some (.slice (some ⟨b,0,none⟩) m c)) [hpk:Dx v e' sz n xs F H] (hee:e=e') [hm:E2 b e2 cs H]
  (hl:cs.length=m * sz) (h1:∀u∈cs,u.oneCell'=true) (MN:n+m<=maxLen) (hby:(n+m) * bytes<=140737488355328):
  LN C E I H o (fun v' I' H'=>I=I'/\H'=Ww v' e' sz (n+m) (xs++cs)::F):=
 V6 ho ht hi hz MG hx hy hee (AAL (n:=cs.length) hm.mem (by simp)) hl h1 MN hby
theorem B8{f:α->List Value}{l:List α}{x y:Operand}{t e:TypeId}{k sz bytes b:Nat}{v z:Value}{F:List HA}(c:α)(ho:o.op=.call {callee:=.builtin .append,args:=#[x,y],argTypes:=#[t,t]})
  (ht:C.P.underlying t=some (.slice e)) (hi:TI C.P e sz bytes z) (hz:z.cells.size=sz) (MG:Nat.blt 0 sz=true)
  (hx:ev E x=some v) (hy:ev E y=some (.slice (some ⟨b,0,none⟩) 1 k)) [hpk:Dx v e' sz l.length (l.map f).flatten F H] (hee:e=e') [hm:E2 b e2 cs H] (hc:cs=f c)
  (hl:(f c).length=sz) (h1:∀u∈f c,u.oneCell'=true) (MN:l.length+1<=maxLen) (hby:(l.length+1) * bytes<=140737488355328):
  LN C E I H o (fun v' I' H'=>I=I'/\H'=Ap e' sz f v' (l++[c])::F):=by
 subst hc
 have:=ABi (C:=C) (I:=I) ho ht hi hz MG hx hy hee (hm:=hm) (by rw[hl,Nat.one_mul]) h1 MN hby
 simpa[Ap]using this
theorem KH{f:α->List Value}{l:List α}{ops:Array Oper}{os:List Oper}{T:TypeId}{sz:Nat}{F:List HA}(v:Value)[hp:Dx v T sz l.length (l.map f).flatten F H](hu:∀c,(f c).length=sz)
  (k:∀J,Le I J->Sl J sz v (l.map f)->L C ops os E J F D Q):L C ops os E I H D Q:=by
 intro a w hs hd hw
 obtain⟨J,h1,h2,h3⟩:=KB (hw.perm hp.pick) (by simp) (fun cs H8=>by obtain⟨c,_,rfl⟩:=FL.1 H8;exact hu c)
 exact k J h1 h3 a w hs hd h2
theorem Bf{f:α->List Value}{l:List α}{c:Code}{T:TypeId}{sz:Nat}{F:List HA}(v:Value)[hp:Dx v T sz l.length (l.map f).flatten F H](hu:∀c,(f c).length=sz)
  (k:∀J,Le I J->Sl J sz v (l.map f)->Tri.T C c E J F D Q):Tri.T C c E I H D Q:=by
 intro a w hs hd hw
 obtain⟨J,h1,h2,h3⟩:=KB (hw.perm hp.pick) (by simp) (fun cs H8=>by obtain⟨c,_,rfl⟩:=FL.1 H8;exact hu c)
 exact k J h1 h3 a w hs hd h2

theorem FB{ops:Array Oper}{l:List Oper}{I':AQ}{H':List HA}(h:L C ops l E I' H' D Q)(hi:∀w,St C.w0 I H w->St C.w0 I' H' w):L C ops l E I H D Q:=fun a w s hd hw=>h a w s hd (hi w hw)
theorem UE{v:Value}{T:TypeId}{sz n:Nat}(hw:St w0 I H w)[hm:H3 v T sz n xs H]:JS v:=by
 obtain⟨_,hh⟩:=hw.sat _ hm.mem
 rcases hh with ⟨rfl,_⟩|⟨g,cap,cur,rfl,_⟩<;>exact⟨rfl,rfl⟩
theorem Un{ops:Array Oper}{l:List Oper}{T:TypeId}{sz n:Nat}(v:Value)[hm:H3 v T sz n xs H](k:JS v->L C ops l E I H D Q):L C ops l E I H D Q:=fun a w hs hd hw=>k (UE hw) a w hs hd hw
theorem AHY{ops:Array Oper}{I0:AQ}{R0:List HA}{T:TypeId}{sz n:Nat}(v:Value)[hm:H3 v T sz n xs H](k:JS v->R C ops X Z I0 R0 fuel listed E I H D Q):R C ops X Z I0 R0 fuel listed E I H D Q:=
 fun EU hQ a w hs hd hw=>k (UE hw) EU hQ a w hs hd hw
theorem Bx{ops:Array Oper}{I0:AQ}{R0:List HA}{I':AQ}{H':List HA}(k:R C ops X Z I0 R0 fuel listed E I' H' D Q)(hi:∀w,St C.w0 I H w->St C.w0 I' H' w):R C ops X Z I0 R0 fuel listed E I H D Q:=
 fun EU hQ a w hs hd hw=>k EU hQ a w hs hd (hi w hw)
theorem Sl.lenOf{sz n:Nat}{v:Value}(h:Sl I sz v xss)(hn:xss.length=n):∃A c,v=.slice A n c:=by
 obtain⟨⟨A,c,rfl,_⟩,_⟩:=h
 exact⟨A,c,by rw[hn]⟩
theorem Sl.rd{sz:Nat}{v:Value}(h:Sl I sz v xss){i j:Nat}(hi:xss[i]? =some cs)(hj:cs[j]? =some u):Rd w0 I H (Eb v).block ((Eb v).off+i * sz+j) u:=A8 (h.2 i j cs u hi hj)
theorem Sl.rds{sz:Nat}{v:Value}(h:Sl I sz v xss){i:Nat}(hi:xss[i]? =some cs):Rds w0 I H (Eb v).block ((Eb v).off+i * sz) cs:=fun _ _ hj=>h.rd hi hj
class K3(Ms:List HA)(F:outParam (List HA))(H:List HA):Prop where
 perm:H.Perm (Ms++F)
instance Aam{H:List HA}:K3 [] H H:=⟨List.Perm.refl _⟩
instance AXV{x:HA}{Ms F F' H:List HA}[p:Y4 x F' H][h:K3 Ms F F']:K3 (x::Ms) F H:=⟨p.pick.trans (List.Perm.cons x h.perm)⟩
theorem Al{F:List HA}(a:HA)[h:K3 [a] F H](hw:St w0 I H w):St w0 I (a::F) w:=hw.perm h.perm
theorem Bm{F:List HA}(a b:HA)[h:K3 [a,b] F H](hw:St w0 I H w):St w0 I (a::b::F) w:=hw.perm h.perm
theorem So{F:List HA}(a b c:HA)[h:K3 [a,b,c] F H](hw:St w0 I H w):St w0 I (a::b::c::F) w:=hw.perm h.perm
theorem OP{F:List HA}(a b c d:HA)[h:K3 [a,b,c,d] F H](hw:St w0 I H w):St w0 I (a::b::c::d::F) w:=hw.perm h.perm

theorem RU{b:Nat}{T:TypeId}{F:List HA}(h:St w0 I (row b T cs::F) w):
  ∃J,Le I J/\St w0 J F w/\∀k u,cs[k]? =some u->DA J b k u:=by
 have hb:w.heap[b]? =some (.cells cs.toArray T (0,0)):=h.sat _ (CQ)
 have hIb:I b=none:=h.dis _ (CQ) b O
 let J:AQ:=fun k=>if k=b then some (.cells cs.toArray T (0,0))else I k
 refine⟨J,fun k o hk=>?_,?_,fun k u hu=>⟨cs.toArray,T,(0,0),by show(if b=b then _ else _)=_;rw[AI O],by simpa using hu⟩⟩
 ·show(if k=b then _ else I k)=_
  split
  ·rename_i e;subst e;rw[hIb]at hk;cases hk
  exact hk
 refine{h.tail with imm:=fun k o hk=>?_,dis:=fun y hy k hk=>?_}
 ·have hk':(if k=b then some (Obj.cells cs.toArray T (0,0))else I k)=some o:=hk
  by_cases e:k=b
  ·subst e
   rw[AI O]at hk'
   cases hk'
   exact hb
  rw[AB e]at hk'
  exact h.imm k o hk'
 show(if k=b then _ else I k)=none
 by_cases e:k=b
 ·subst e
  exfalso
  have NI:=h.sep
  unfold T3 at NI
  rw[List.filterMap_cons]at NI
  exact(List.nodup_cons.1 NI).1 (List.mem_filterMap.2 ⟨y,hy,hk⟩)
 rw[AB e]
 exact h.tail.dis y hy k hk
theorem Cw{c:Code}{T:TypeId}{F:List HA}(b:Nat)[hp:Hs b T cs F H](k:∀J,Le I J->(∀k u,cs[k]? =some u->DA J b k u)->Tri.T C c E J F D Q):Tri.T C c E I H D Q:=by
 intro a w hs hd hw
 obtain⟨J,h1,h2,h3⟩:=RU (hw.perm hp.pick)
 exact k J h1 h3 a w hs hd h2
theorem ALX{F:List HA}(T:TypeId)(sz:Nat)(h:St w0 I F w):St w0 I (Ww (.slice none 0 0) T sz 0 []::F) w:=
 {h with
  sat:=fun x hx=>by
   rcases Ci.1 hx with rfl|hx
   ·exact⟨by simp,.inl ⟨O,O⟩⟩
   exact h.sat x hx
  sep:=h.sep
  dis:=fun x hx b hb=>by
   rcases Ci.1 hx with rfl|hx
   ·cases hb
   exact h.dis x hx b hb}
theorem CI{F:List HA}(T:TypeId)(sz:Nat)(f:α->List Value)(h:St w0 I F w):St w0 I (Ap T sz f (.slice none 0 0) []::F) w:=ALX T sz h
theorem H5{F:List HA}{b:Nat}{T:TypeId}{sz n:Nat}(h:St w0 I (row b T cs::F) w)(hl:cs.length=n * sz)(hn:n<=maxLen):St w0 I (Ww (.slice (some ⟨b,0,none⟩) n n) T sz n cs::F) w:=by
 have hb:w.heap[b]? =some (.cells cs.toArray T (0,0)):=h.sat _ (CQ)
 exact{h with
  sat:=fun x hx=>by
   rcases Ci.1 hx with rfl|hx
   ·exact⟨hl,.inr ⟨b,n,cs.toArray,O,hb,A5 _,hn,by simpa using hl,by simp[<-hl]⟩⟩
   exact h.sat x (List.mem_cons_of_mem _ hx)
  sep:=h.sep
  dis:=fun x hx b' hb'=>by
   rcases Ci.1 hx with rfl|hx
   ·cases hb'
    exact h.dis _ (CQ) b O
   exact h.dis x (List.mem_cons_of_mem _ hx) b' hb'}
end ops
section
variable {C:Cx} {E:Cq} {I:AQ} {H:List HA} {D:List Deferred} {Q:Exit->Act->World->Prop} {o:Oper}
variable {x y:Operand} {t t':TypeId}
theorem AHM{p:Option Addr}(ho:o.op=.binOp .eql t x y t')(ht:C.P.underlying t=some (.pointer (C.P.pointee t)))(hx:ev E x=some (.pointer p))(hy:ev E y=some (.pointer none)):BI C E I H o (.bool p.isNone):=
 B9 ho hx hy fun w=>run_eql_pointer_nil w t p ht
theorem ABb{b:Addr}{n bytes:Nat}{z:Value}(ho:o.op=.binOp .neq t x y t')(ht:C.P.underlying t=some (.pointer te))(hi:TI C.P te n bytes z)(hx:ev E x=some (.pointer (some b)))(hy:ev E y=some (.pointer (some b))):BI C E I H o (.bool false):=
 B9 ho hx hy fun w=>by
  obtain⟨j,hj,_⟩:=hi
  exact Lib.run_neq_ptr_same w b ht hj
theorem Yk{b:Nat}{T:TypeId}{fr:Nat×Nat}(hb:w.heap[b]? =some (.cells cs.toArray T fr)):w.shape? b=some (T,cs.length):=by
 unfold World.shape?
 rw[hb]
 simp
theorem AGr{T:TypeId}{b n bytes:Nat}{z:Value}(ho:o.op=.convert t t' x)(hs:C.P.underlying t=some (.pointer te))(hd:C.P.underlying t'=some .unsafePointer)(hi:TI C.P te n bytes z)(hn:Nat.beq n 0=false)
  (hx:ev E x=some (.pointer (some ⟨b,0,none⟩))) [hm:E2 b T cs H] (H8:Nat.blt 0 cs.length=true):BI C E I H o (.pointer (some ⟨b,0,none⟩)):=
 Bw (by rw[ho];rfl) fun a w Jh hw=>by
  obtain⟨j,hj,hj1,_⟩:=hi
  have hb:w.heap[b]? =some (.cells cs.toArray T (0,0)):=hw.sat _ hm.mem
  simp only[execOp,ho,Jh.ev hx]
  rw[Sem.run_bind,Lib.run_to_unsafe (P:=C.P) w ⟨b,0,none⟩ hs hd hj (by rw[hj1];intro h;subst h;simp at hn) (Yk hb) (by simpa using H8)]
  rfl
theorem Zi{T:TypeId}{b n bytes:Nat}{z:Value}(ho:o.op=.convert t t' x)(hs:C.P.underlying t=some .unsafePointer)(hd:C.P.underlying t'=some (.pointer te))(hi:TI C.P te n bytes z)
  (hx:ev E x=some (.pointer (some ⟨b,0,none⟩))) [hm:E2 b T cs H] (hl:liesAt C.P C.P.depth T (cs.length / C.P.cellsOf T) 0 te 1=true):BI C E I H o (.pointer (some ⟨b,0,none⟩)):=
 Bw (by rw[ho];rfl) fun a w Jh hw=>by
  obtain⟨j,hj,hj1,_⟩:=hi
  have hb:w.heap[b]? =some (.cells cs.toArray T (0,0)):=hw.sat _ hm.mem
  simp only[execOp,ho,Jh.ev hx]
  rw[Sem.run_bind,Lib.run_from_unsafe (P:=C.P) w ⟨b,0,none⟩ hs hd hj (Yk hb) hl]
  rfl

def sdp:Value->Option Addr
 | .slice A _ _=>A
 |_=>none
def L7(v:Value)(l:List UInt8):Prop:=v=.slice none 0 0\/l≠[]
theorem ABd{ty:TypeId}{T:TypeId}{v:Value}{l:List UInt8}(ho:o.op=.call {callee:=.builtin .unsafeSliceData,args:=#[x],argTypes:=#[t]})(hx:ev E x=some v)[hm:H3 v T 1 l.length (l.map Km).flatten H](DD:L7 v l):BI C E I H o (.pointer (sdp v)):=
 Bw (by rw[ho];rfl) fun a w Jh hw=>by
  obtain⟨_,hh⟩:=hw.sat _ hm.mem
  simp only[execOp,ho,resolve]
  rcases hh with ⟨rfl,hz⟩|⟨g,cap,cur,rfl,hg,hn,hc,MG,QO⟩
  ·simp[Jh.ev hx,invoke,builtin,Lib.run_unsafeSliceData_nil,sdp]
  have h0:l≠[]:=by rcases DD with h|h;cases h;exact h
  have hl:0<l.length:=BV.2 h0
  simp[Jh.ev hx,invoke,builtin,Lib.run_unsafeSliceData_row (P:=C.P) w #[t] _ ⟨g,0,none⟩ l.length cap (by omega),sdp]

theorem Va{pt it e:TypeId}{v:Value}{l:List UInt8}{F:List HA}(ho:o.op=.call {callee:=.builtin .unsafeString,args:=#[x,y],argTypes:=#[pt,it]})(hp:C.P.underlying pt=some (.pointer e))(hc:Nat.beq (C.P.cellsOf e) 1=true)
  (hx:ev E x=some (.pointer (sdp v))) (hy:ev E y=some (.int .i64 (l.length:Int))) [hpk:Dx v e' 1 l.length (l.map Km).flatten F H] (hee:e=e') (DD:L7 v l) (MN:l.length<=9223372036854775807):
  LN C E I H o (fun u I' H'=>u=Au l/\I=I'/\H'=F):=by
 subst hee
 intro a w hs hw K Q hk
 have hw':=hw.perm hpk.pick
 obtain⟨hl,hv⟩:IV v e 1 l.length (l.map Km).flatten (Ao w):=hw'.sat _ (CQ)
 rcases hv with ⟨rfl,hz⟩|⟨g,cap,cur,rfl,hg,hn,AdU,MG,QO⟩
 ·have AOf:l=[]:=List.eq_nil_of_length_eq_zero hz
  subst AOf
  refine D8 (v:=.string .empty) (w':=w) (by rw[ho];rfl) ?_ (hk _ I F w ⟨O,O,O⟩ hw'.tail)
  simp only[execOp,ho,resolve]
  simp[hs.ev hx,hs.ev hy,invoke,builtin,sdp,Lib.run_unsafeString_none]
 have h0:l≠[]:=by rcases DD with h|h;cases h;exact h
 have hg':w.heap[g]? =some (.cells cur e (0,0)):=hg
 rw[QB]at QO
 have Ahp:cur.size=cap:=by simpa using MG
 have GY:=Lib.run_unsafeString_row (P:=C.P) w pt it o.type e hp (by simpa using hc) g cap (by unfold World.shape?;rw[hg'];simp[Ahp]) l h0 hn MN (fun j c hj=>by
  rw[Addr.add_lit]
  unfold World.cell?
  simp only[hg',Option.isSome_none,RZ,O9,Nat.zero_add]
  obtain⟨hj1,W7⟩:=List.getElem?_eq_some_iff.1 hj
  have h2:(l.map u8)[j]? =some (u8 c):=by simp[hj]
  rw[<-QO,List.getElem?_take]at h2
  split at h2
  ·simpa[u8]using h2
  cases h2)
 have Eg:g<w.heap.size:=GN hg'
 have Dg:l.length≠0:=by simpa using h0
 refine D8 (v:=Au l) (w':=w.freeze ⟨g,0,none⟩ l.length) (by rw[ho];rfl) ?_ (hk _ I F _ ⟨O,O,O⟩ (St.tail (x:=Fg g (.cells cur e (0,l.length)))
  (hw'.turn (x:=Ww _ _ _ _ _) (y:=Fg g (.cells cur e (0,l.length))) ?_ ?_ ?_ ?_ ?_ ?_ (.inl O))))
 ·simp only[execOp,ho,resolve]
  simp[hs.ev hx,hs.ev hy,invoke,builtin,sdp,GY,Au]
 ·unfold World.freeze;rw[AB Dg]
 ·unfold World.freeze;rw[AB Dg]
 ·unfold World.freeze;rw[AB Dg]
 ·unfold World.freeze;rw[AB Dg];simp
 ·intro k hk Dk
  unfold World.freeze;rw[AB Dg]
  simp only[Array.getElem?_modify]
  rw[AB (fun h=>Dk (by subst h;rfl))]
 show(w.freeze ⟨g,0,none⟩ l.length).heap[g]? =_
 unfold World.freeze;rw[AB Dg]
 simp only[Array.getElem?_modify,if_true,hg']
 simp
end
theorem ABM:∀(l:List Value) (k:Nat) (A:Array Value),k+l.length<=A.size->((l.zipIdx k).foldl (fun cs (x:Value×Nat)=>cs.setIfInBounds x.2 x.1) A)=(A.toList.take k++l++A.toList.drop (k+l.length)).toArray
 | [],k,A,hk=>by simp
 |v::l,k,A,hk=>by
  simp only[CD]at hk
  rw[List.zipIdx_cons,Qz,ABM l (k+1) _ (by simp;omega)]
  congr 1
  simp only[Array.toList_setIfInBounds,CD]
  rw[List.take_set,List.drop_set,AI (by omega),List.set_eq_take_append_cons_drop,AI (by simp;omega),List.take_take,Nat.min_eq_left (by omega),show k+1+l.length=k+(l.length+1) by omega]
  simp
theorem Abk(c:Array Value)(off:Nat)(A:Array Value)(h:off+c.size<=A.size):(c.zipIdx.foldl (fun cs (x:Value×Nat)=>cs.setIfInBounds (off+x.2) x.1) A)=(A.toList.take off++c.toList++A.toList.drop (off+c.size)).toArray:=by
 have h1:=ABM c.toList off A (by simpa using h)
 rw[<-Array.foldl_toList]
 have h2:(c.toList.zipIdx off)=c.toList.zipIdx.map (fun x=>(x.1,off+x.2)):=by
  rw[List.zipIdx_eq_map_add]
 rw[h2,List.foldl_map]at h1
 simpa using h1
def MS:Nat->List Value->List (Nat×Value)
 |_,[]=>[]
 |k,v::vs=>(k,v)::MS (k+1) vs
theorem Y2(n:Nat):∀(vs:List Value) (css:List (List Value)) (k:Nat) (A:Array Value),A.size=(k+vs.length) * n->vs.map (fun v=>v.cells.toList)=css->(∀cs∈css,cs.length=n)→
  Instr.fill (fun i=>some (i * n,n)) A (MS k vs)=some (A.toList.take (k * n)++css.flatten).toArray
 | [],css,k,A,hA,H8,_=>by
  simp only[WI]at H8
  subst H8
  have:A.toList.take (k * n)=A.toList:=LG (by simp[hA])
  simp[MS,Instr.fill,this]
 |v::vs,css,k,A,hA,H8,hn=>by
  simp only[EN]at H8
  subst H8
  have hv:v.cells.size=n:=by simpa using hn v.cells.toList (CQ)
  have e1:(k+(vs.length+1)) * n=k * n+n+vs.length * n:=by rw[Nat.add_mul,Nat.add_mul];omega
  simp only[CD]at hA
  rw[e1]at hA
  have Lq:k * n+v.cells.size<=A.size:=by rw[hv,hA];omega
  have e2:(k+1) * n=k * n+n:=by rw[Nat.add_mul,Nat.one_mul]
  have Dg:(A.toList.take (k * n)).length=k * n:=by
   rw[BL];simp;omega
  show(match(some (k * n,n):Option (Nat×Nat))with|none=>none|some (off,size)=>if v.cells.size≠size||off+v.cells.size>A.size then none else Instr.fill _ (v.cells.zipIdx.foldl (fun cs (c,j)=>cs.setIfInBounds (off+j) c) A) (MS (k+1) vs))=_
  simp only[hv,ne_eq,not_true_eq_false,decide_false,Bool.false_or,gt_iff_lt]
  rw[AB (by rw[hv]at Lq;simpa using Lq)]
  have AdM:=Abk v.cells (k * n) A Lq
  rw[AdM]
  have e3:(k+1+vs.length) * n=k * n+n+vs.length * n:=by rw[Nat.add_mul,e2]
  rw[Y2 n vs _ (k+1) _ (by simp;rw[e3];omega) O (fun cs h=>hn cs (List.mem_cons_of_mem _ h))]
  congr 2
  simp only[List.flatten_cons]
  rw[<-Ka]
  congr 1
  rw[e2,show k * n+n=(A.toList.take (k * n)++v.cells.toList).length by rw[Bh,Dg];simp[hv]]
  rw[List.take_left]
section
variable {C:Cx} {E:Cq} {I:AQ} {H:List HA} {D:List Deferred} {Q:Exit->Act->World->Prop} {o:Oper}
theorem Cl{t e:TypeId}{m n bytes:Nat}{vs:List Value}{css:List (List Value)}{z:Value}(ho:o.op=.buildSlice t m parts)(ht:C.P.underlying t=some (.slice e))(hi:TI C.P e n bytes z)(hn:(Nat.ble 1 n&&Nat.ble (m * n) 1000&&Nat.ble 1 m)=true)(hz:z.cells.size=n)
  (hx:evP E parts.toList=some (MS 0 vs)) (hm:vs.length=m) (hc:vs.map (fun v=>v.cells.toList)=css) (hl:∀cs∈css,cs.length=n):
  LN C E I H o (fun v I' H'=> ∃b,v=.slice (some ⟨b,0,none⟩) m m/\I=I'/\H'=row b e css.flatten::H):=by
 refine UF (x:=fun p=>match p with| .pointer a=>.slice a m m|_=>p) (by rw[ho];rfl) fun a w hs _=>?_
 have hn:(1<=n/\m * n<=1000)/\1<=m:=by simpa using hn
 have hp:(parts.map fun(p:Nat×Operand)=>(p.1,a.eval p.2)).toList=MS 0 vs:=by
  rw[Array.toList_map]
  exact hs.evP hx
 have hf:Instr.fill (fun i=>some (i * n,n)) ((Array.range (m * n)).map (z.cells[· % z.cells.size]!)) (MS 0 vs)=some css.flatten.toArray:=by
  rw[Y2 n vs css 0 _ (by simp[hm]) hc hl]
  simp
 have hmn:¬(m * n=0):=by
  have:=Nat.mul_pos (show 0<m by omega) (show 0<n by omega)
  omega
 simp only[execOp,ho,Instr.buildSlice]
 simp only[hp]
 simp[run_underlying ht,hi.sizeOf,hi.zero,show ¬(16777216<m * n)from by omega,hf,KQ]
 intro h
 exact Ac h hmn
theorem AHz{x y:Operand}{t t':TypeId}{k:IntKind}{m n:Int}(ho:o.op=.binOp .rem t x y t')(hx:ev E x=some (.int k m))(hy:ev E y=some (.int k n))(h:n≠0):BI C E I H o (.int k (m.tmod n)):=
 B9 ho hx hy fun w=>by simp[eqGuard_rem,binOp_rem,Op.intDiv,h]
end
def F7(sz l h:Nat):Value->Value
 | .slice a _ c=>.slice (if c=l then a else a.map (·.add (l * sz))) (h-l) (c-l)
 |v=>v
theorem Sl.cut{I:AQ}{sz:Nat}{v:Value}(hs:Sl I sz v xss)(h1:l<=h)(h2:h<=xss.length):Sl I sz (F7 sz l h v) ((xss.drop l).take (h-l)):=by
 obtain⟨⟨A,c,rfl,hc,hA,Dk⟩,LD⟩:=hs
 have Dg:((xss.drop l).take (h-l)).length=h-l:=by simp;omega
 have ANA:(xss.drop l).take (h-l)≠[]->l<h:=fun hn=>by
  have:=BV.2 hn
  omega
 have hx:(xss.drop l).take (h-l)≠[]->xss≠[]:=fun hn he=>by subst he;simp at hn
 refine⟨⟨_,_,by rw[Dg];rfl,by omega,fun hn a ha=>?_,fun hn=>?_⟩,fun i j cs u hi hj=>?_⟩
 ·have:=ANA hn
  rw[AB (by omega)]at ha
  cases A with
  |none=>cases ha
  |some a0=>
   have h0:=hA (hx hn) a0 O
   obtain⟨b,o,sp⟩:=a0
   cases h0
   simp only[Option.map_some,Xq]at ha
   rw[Addr.add_lit]at ha
   subst ha;rfl
 ·have:=ANA hn
  rw[AB (by omega)]
  cases A with
  |none=>exact Ac O (Dk (hx hn))
  |some a0=>simp
 have hi':i<h-l:=by
  have:=(List.getElem?_eq_some_iff.1 hi).1
  rw[Dg]at this;exact this
 rw[List.getElem?_take,AI hi',List.getElem?_drop]at hi
 have hn:xss≠[]:=by rintro rfl;simp at hi
 have hk:=LD (l+i) j cs u hi hj
 cases A with
 |none=>exact Ac O (Dk hn)
 |some a0=>
  have h0:=hA hn a0 O
  obtain⟨b,o,sp⟩:=a0
  cases h0
  simp only[F7,Eb]
  rw[AB (by omega)]
  simp only[Option.map_some,Addr.add_lit]
  have e:o+l * sz+i * sz+j=o+(l+i) * sz+j:=by rw[Nat.add_mul];omega
  rw[e]
  exact hk
theorem Sl.drop{I:AQ}{sz n:Nat}{v:Value}(hs:Sl I sz v xss)(hn:xss.length=n)(h1:l<=n):Sl I sz (F7 sz l n v) (xss.drop l):=by
 have:=hs.cut (l:=l) (h:=n) h1 (by omega)
 rwa [LG (by simp;omega)]at this
theorem Sl.dropM{I:AQ}{sz n:Nat}{v:Value}{f:α->List Value}{xs:List α}(hs:Sl I sz v (xs.map f))(hn:xs.length=n)(h1:l<=n):Sl I sz (F7 sz l n v) ((xs.drop l).map f):=by
 have:=hs.drop (l:=l) (n:=n) (by rw[Af];exact hn) h1
 rwa [<-List.map_drop]at this
theorem Sl.cutM{I:AQ}{sz:Nat}{v:Value}{f:α->List Value}{xs:List α}(hs:Sl I sz v (xs.map f))(h1:l<=h)(h2:h<=xs.length):Sl I sz (F7 sz l h v) (((xs.drop l).take (h-l)).map f):=by
 have:=hs.cut (l:=l) (h:=h) h1 (by rw[Af];exact h2)
 rwa [<-List.map_drop,<-List.map_take]at this

section
variable {C:Cx} {E:Cq} {I:AQ} {H:List HA} {D:List Deferred} {Q:Exit->Act->World->Prop} {o:Oper}
variable {x i j:Operand} {t e:TypeId} {v z:Value} {kl kh:IntKind} {m k:Int} {n sz bytes:Nat}
theorem AAZ{t e:TypeId}(ht:P.underlying t=some (.slice e)):P.underlying t=some (.slice (P.elem t))/\P.elem t=e:=by
 have:P.elem t=e:=by unfold Program.elem;rw[ht]
 exact⟨by rw[this];exact ht,this⟩
theorem CW(ho:o.op=.slice t x (some i) none none)(ht:C.P.underlying t=some (.slice e))(hi:TI C.P e sz bytes z)(hx:ev E x=some v)(hj:ev E i=some (.int kl m))(hv:∃A c,v=.slice A n c)(h:0<=m/\m<=n):
  BI C E I H o (F7 sz m.toNat n v):=
 Bw (by rw[ho];rfl) fun a w hs _=>by
  obtain⟨A,c,rfl⟩:=hv
  obtain⟨ht',he⟩:=AAZ ht
  simp only[execOp,ho,hs.ev hx,Option.map_some,Option.map_none,hs.ev hj]
  rw[Sem.run_bind,run_sliceAt_slice w t _ _ _ _ ht',run_slice_l w t A n c ht' kl m h.1 h.2,he]
  simp[hi.sizeOf,sliced,F7]
theorem IK(ho:o.op=.slice t x none (some j) none)(ht:C.P.underlying t=some (.slice e))(hi:TI C.P e sz bytes z)(hx:ev E x=some v)(hj:ev E j=some (.int kh k))(hv:∃A c,v=.slice A n c/\n<=c)(h:0<=k/\k<=n):
  BI C E I H o (F7 sz 0 k.toNat v):=
 Bw (by rw[ho];rfl) fun a w hs _=>by
  obtain⟨A,c,rfl,hc⟩:=hv
  obtain⟨ht',he⟩:=AAZ ht
  simp only[execOp,ho,hs.ev hx,Option.map_some,Option.map_none,hs.ev hj]
  rw[Sem.run_bind,run_sliceAt_slice w t _ _ _ _ ht',run_slice_h w t A n c ht' kh k h.1 (by omega),he]
  simp[hi.sizeOf,sliced,F7]
theorem AFJ(ho:o.op=.slice t x (some i) (some j) none)(ht:C.P.underlying t=some (.slice e))(hi:TI C.P e sz bytes z)(hx:ev E x=some v)(hj:ev E i=some (.int kl m))(hk:ev E j=some (.int kh k))(hv:∃A c,v=.slice A n c/\n<=c)(h:0<=m/\m<=k/\k<=n):
  BI C E I H o (F7 sz m.toNat k.toNat v):=
 Bw (by rw[ho];rfl) fun a w hs _=>by
  obtain⟨A,c,rfl,hc⟩:=hv
  obtain⟨ht',he⟩:=AAZ ht
  simp only[execOp,ho,hs.ev hx,Option.map_some,Option.map_none,hs.ev hj,hs.ev hk]
  rw[Sem.run_bind,run_sliceAt_slice w t _ _ _ _ ht',run_slice_lh w t A n c ht' kl kh m k h.1 h.2.1 (by omega),he]
  simp[hi.sizeOf,sliced,F7]
theorem Sl.capOf(h:Sl I sz v xss)(hn:xss.length=n):∃A c,v=.slice A n c/\n<=c:=by
 obtain⟨⟨A,c,rfl,hc,_⟩,_⟩:=h
 exact⟨A,c,by rw[hn],by omega⟩
end
def LV(ops:Array Oper)(j:Nat)(want:Bool):List Oper->List Nat->Bool
 | [],_=>true
 |o::G,dead=>(match o.guard with
   |none=>false
   |some (j',b')=>(Nat.beq j' j&&b'==want)||(match ops[j']? with
    |some oj=>match oj.dst with|some d=>dead.contains d|none=>false
    |none=>false))&&LV ops j want G (match o.dst with|some d=>d::dead|none=>dead)
section
variable {C:Cx} {ops:Array Oper} {I:AQ} {H:List HA} {E:Cq} {D:List Deferred} {Q:Exit->Act->World->Prop} {K K':Act->Prop}
def AJf(a:Act)(d:Nat):Prop:=a.tmps[d]? =some undef\/a.tmps[d]? =none
theorem AOp{a:Act}{d:Nat}{dst:Option Nat}(h:AJf a d):AJf (a.put dst undef) d:=by
 cases dst with
 |none=>exact h
 |some e=>
  unfold AJf at *
  by_cases he:e=d
  ·subst he
   rcases Nat.lt_or_ge e a.tmps.size with Eg|Ua
   ·left;simp[Act.put,Eg]
   right;simp[Act.put,Ua]
  simpa[Act.put,Array.getElem?_setIfInBounds_ne he]using h
theorem Wz(a:Act)(d:Nat):AJf (a.put (some d) undef) d:=by
 unfold AJf
 rcases Nat.lt_or_ge d a.tmps.size with Eg|Ua
 ·left;simp[Act.put,Eg]
 right;simp[Act.put,Ua]
theorem Yr{j:Nat}{b b':Bool}(We:b≠b'):∀(G:List Oper) (dead:List Nat) (a:Act),LV ops j b G dead=true->(∀d∈dead,AJf a d)->yielded ops a.tmps j=some b'->(∀oj dj,ops[j]? =some oj->oj.dst=some dj->dj ∉ KO G)→
  (∀a',a'.defers=a.defers->a'.tmps.size=a.tmps.size->(∀t,t ∉ KO G->a'.tmps[t]? =a.tmps[t]?)->K a')->qs C ops I H K G a
 | [],_,_,_,_,_,_,h=>h _ O O fun _ _=>rfl
 |o::G,dead,a,hG,hd0,hy,hn,h=>by
  unfold LV at hG
  rw[Ay]at hG
  refine .inr ⟨?_,Yr We G (match o.dst with|some d=>d::dead|none=>dead) _ hG.2 ?_ ?_ (fun oj dj h1 h2 hm=>hn oj dj h1 h2 ?_) (fun a' h1 h2 h3=>h a' (h1.trans (put_defers _ _ _)) (h2.trans (AEY _ _ _)) fun t ht=>?_)⟩
  ·cases hg:o.guard with
   |none=>simp[hg]at hG
   |some p=>
    obtain⟨j',b1⟩:=p
    have h1:=hG.1
    simp only[hg,C4,Ay]at h1
    rcases h1 with ⟨h1,h2⟩|h1
    ·have e1:=Nat.eq_of_beq_eq_true h1
     subst e1
     have e2:b1=b:=by simpa using h2
     subst e2
     simp[Region.wanted,hg,hy,We.symm]
    cases hj:ops[j']? with
    |none=>simp[hj]at h1
    |some oj=>
     simp only[hj]at h1
     cases QL:oj.dst with
     |none=>simp[QL]at h1
     |some dj=>
      simp only[QL]at h1
      have:=hd0 dj (by simpa using h1)
      have hyn:yielded ops a.tmps j'=none:=by
       unfold yielded
       simp only[hj,QL,Option.bind_some]
       rcases this with e|e<;>simp[e,undef]
      simp[Region.wanted,hg,hyn]
  ·intro d hd
   cases ho:o.dst with
   |none=>rw[ho]at hd;exact hd0 d hd
   |some e=>
    rw[ho]at hd
    rcases Ci.1 hd with rfl|hd
    ·exact Wz a _
    exact AOp (hd0 d hd)
  ·cases hd:o.dst with
   |none=>exact hy
   |some d=>
    unfold yielded at hy ⊢
    cases hj:ops[j]? with
    |none=>simp[hj]at hy
    |some oj=>
     cases QL:oj.dst with
     |none=>simp[hj,QL]at hy
     |some dj=>
      have Dk:d≠dj:=fun e=>hn oj dj hj QL (by subst e;unfold KO;rw[List.filterMap_cons,hd];exact CQ)
      simp only[hj,QL,Option.bind_some]at hy ⊢
      simpa[Act.put,Array.getElem?_setIfInBounds_ne Dk]using hy
  ·unfold KO at hm ⊢
   rw[List.filterMap_cons]
   split
   ·exact hm
   exact List.mem_cons_of_mem _ hm
  unfold KO at ht
  rw[List.filterMap_cons]at ht
  cases hd:o.dst with
  |none=>
   rw[hd]at ht
   have:=h3 t ht
   rw[hd]at this
   exact this
  |some d=>
   rw[hd]at ht
   have:=h3 t (fun hm=>ht (List.mem_cons_of_mem _ hm))
   rw[hd]at this
   rw[this]
   have Dk:d≠t:=fun e=>ht (by subst e;exact CQ)
   simp[Act.put,Array.getElem?_setIfInBounds_ne Dk]
theorem Ra{l:List Oper}{p:Oper}(k j dj d y:Nat)(want b c:Bool)(PN:l.drop k=p::rest)(hga:LV ops j want (l.take k) []=true)(hj:ops[j]? =some oj)(QL:oj.dst=some dj)
  (hb:get E dj=some (.bool b)) (AFk:(Ia (KO (l.take k)) E&& !(KO (l.take k)).contains dj)=true)
  (hy:b=want->QS C ops (l.take k) ((dj,.bool want)::E) I H (fun a'=>a'.tmps[y]? =some (.bool c)))
  (hpw:∀a:Act,Jv E C.n a.tmps->Region.wanted p (yielded ops a.tmps)=true) (hpd:p.dst=some d) (hn:Nat.blt d C.n=true) (hpp:(want=true/\p.op=.pick (.tmp dj) (.tmp y) (.const (.bool false)))\/(want=false/\p.op=.pick (.tmp dj) (.const (.bool true)) (.tmp y)))
  (kk:QS C ops rest ((d,.bool (if want then b&&c else b||c))::E) I H K):QS C ops l E I H K:=by
 intro a hs
 rw[Ay]at AFk
 rw[<-Iu k l,PN]
 refine SC _ _ _ ?_
 have hyl:=Mk (C:=C) hs hj QL hb
 have after:∀a':Act,a'.defers=a.defers->a'.tmps.size=a.tmps.size->(∀t,t ∉ KO (l.take k)->a'.tmps[t]? =a.tmps[t]?)->(b=want->a'.tmps[y]? =some (.bool c))->qs C ops I H K (p::rest) a':=by
  intro a' _ h2 h3 h4
  have hsE:Jv E C.n a'.tmps:=⟨by rw[h2];exact hs.1,fun t v ht=>by rw[h3 t (Tn AFk.1 ht)];exact hs.2 t v ht⟩
  have hc:a'.eval (.tmp dj)=.bool b:=hsE.ev (x:=.tmp dj) hb
  refine .inl ⟨hpw a' hsE,.bool (if want then b&&c else b||c),fun w _=>?_,by rw[hpd];exact kk _ (hsE.put (by simpa using hn) _)⟩
  have e1:∀u,a'.eval (.const u)=u:=fun _=>rfl
  rcases hpp with ⟨rfl,hp⟩|⟨rfl,hp⟩
  ·refine⟨by rw[hp];rfl,?_⟩
   cases b with
   |false=>simp[execOp,hp,hc,asBool,e1]
   |true=>
    have hy':a'.eval (.tmp y)=.bool c:=by simp[Act.eval,h4 O]
    simp[execOp,hp,hc,hy',asBool,e1]
  refine⟨by rw[hp];rfl,?_⟩
  cases b with
  |true=>simp[execOp,hp,hc,asBool,e1]
  |false=>
   have hy':a'.eval (.tmp y)=.bool c:=by simp[Act.eval,h4 O]
   simp[execOp,hp,hc,hy',asBool,e1]
 by_cases e:b=want
 ·subst e
  have h1:=hy O a (hs.sub (FY hb (Rh.refl E)))
  exact Jy (fun a' h=>after a' h.2.1 h.2.2.1 h.2.2.2 fun _=>h.1) _ _ (QK _ _ h1)
 refine Yr (b:=want) (b':=b) (Ne.symm e) _ [] a hga (fun d hd=>by cases hd) hyl (fun oj' dj' h1 h2=>?_) fun a' h1 h2 h3=>after a' h1 h2 h3 fun e'=>Ac e' e
 have:oj'=oj:=O3 (h1.symm.trans hj)
 subst this
 rw[QL]at h2
 cases h2
 simpa using AFk.2
end
theorem St.newW{w':World}{I:AQ}{H:List HA}(h:St w0 I H w)(o:Obj)(os:w'.os=w.os)(tape:w'.tape=w.tape)(output:w'.output=w.output)(size:w.heap.size<=w'.heap.size)
  (old:∀k,k<w.heap.size->w'.heap[k]? =w.heap[k]?) (new:w'.heap[w.heap.size]? =some o):St w0 I (Fg w.heap.size o::H) w':=by
 have h':=h.garb (w':=w') ⟨os,tape,output,size,old⟩
 have h0:=h.new o
 exact{h' with
  sat:=fun x hx=>by
   rcases Ci.1 hx with rfl|hx
   ·exact new
   exact h'.sat x hx
  sep:=h0.sep
  dis:=h0.dis}
theorem Zh{I:AQ}{b:Nat}{o:Obj}{F:List HA}(h:St w0 I (Fg b o::F) w):∃J,Le I J/\J b=some o/\St w0 J F w:=by
 have hb:w.heap[b]? =some o:=h.sat _ (CQ)
 have hIb:I b=none:=h.dis _ (CQ) b O
 let J:AQ:=fun k=>if k=b then some o else I k
 refine⟨J,fun k o' hk=>?_,by show(if b=b then _ else _)=_;rw[AI O],?_⟩
 ·show(if k=b then _ else I k)=_
  split
  ·rename_i e;subst e;rw[hIb]at hk;cases hk
  exact hk
 refine{h.tail with imm:=fun k o' hk=>?_,dis:=fun y hy k hk=>?_}
 ·have hk':(if k=b then some o else I k)=some o':=hk
  by_cases e:k=b
  ·subst e
   rw[AI O]at hk'
   cases hk'
   exact hb
  rw[AB e]at hk'
  exact h.imm k o' hk'
 show(if k=b then _ else I k)=none
 by_cases e:k=b
 ·subst e
  exfalso
  have NI:=h.sep
  unfold T3 at NI
  rw[List.filterMap_cons]at NI
  exact(List.nodup_cons.1 NI).1 (List.mem_filterMap.2 ⟨y,hy,hk⟩)
 rw[AB e]
 exact h.tail.dis y hy k hk
theorem OQ{α:Type}{f:α->List Value}{sz:Nat}(hu:∀c,(f c).length=sz):∀{l:List α} {i j:Nat} {cs:List Value} {u:Value},(l.map f)[i]? =some cs->cs[j]? =some u->(l.map f).flatten[i * sz+j]? =some u
 | [],_,_,_,_,hi,_=>by cases hi
 |c::l,0,j,cs,u,hi,hj=>by
  simp only[EN,List.getElem?_cons_zero,Xq]at hi
  subst hi
  have Eg:=(List.getElem?_eq_some_iff.1 hj).1
  simp only[EN,List.flatten_cons,Nat.zero_mul,Nat.zero_add]
  rw[List.getElem?_append_left Eg]
  exact hj
 |c::l,i+1,j,cs,u,hi,hj=>by
  simp only[EN,List.getElem?_cons_succ]at hi
  simp only[EN,List.flatten_cons]
  rw[Nat.add_mul,Nat.one_mul,List.getElem?_append_right (by rw[hu];omega),hu,show i * sz+sz+j-sz=i * sz+j by omega]
  exact OQ hu hi hj
section
variable {C:Cx} {E:Cq} {I:AQ} {H:List HA} {D:List Deferred} {Q:Exit->Act->World->Prop} {o:Oper}
theorem AFV{t t' e:TypeId}{x:Operand}{s:List UInt8}(ho:o.op=.convert t t' x)(hs:C.P.underlying t=some .string)(hd:C.P.underlying t'=some (.slice e))(he:C.P.underlying e=some (.int .u8))(hx:ev E x=some (Au s)):
  LN C E I H o (fun v I' H'=>Le I I'/\Sl I' 1 v (s.map Km)/\H=H'):=by
 intro a w Jh hw K Q hk
 have Lg:=hw.newW (w':=Lib.bytesWorld w e ⟨s.toArray⟩) _ (by simp[Lib.bytesWorld,World.freeze];rfl) (by simp[Lib.bytesWorld,World.freeze]) (by simp[Lib.bytesWorld,World.freeze];rfl) (by rw[Lib.bytesWorld_size];omega) (fun k hk=>Lib.bytesWorld_at_old w e _ k hk) (Lib.bytesWorld_at_new w e ⟨s.toArray⟩)
 obtain⟨J,h1,h2,h3⟩:=Zh Lg
 refine D8 (w':=Lib.bytesWorld w e ⟨s.toArray⟩) (v:=.slice (some ⟨w.heap.size,0,none⟩) s.length (grownCap w s.length 0 e)) (by rw[ho];rfl) ?_ (hk _ J H _ ⟨h1,?_,O⟩ h3)
 ·simp only[execOp,ho,Jh.ev hx]
  rw[Sem.run_bind]
  unfold Au
  rw[Lib.run_convert_string_bytes w t t' e ⟨s.toArray⟩ hs hd he]
  simp[Ee]
 refine⟨⟨some ⟨w.heap.size,0,none⟩,_,by rw[Af],?_,fun _ a ha=>(by cases ha;rfl),fun _ h=>(by cases h)⟩,fun i j cs u hi hj=>⟨_,_,_,h2,?_⟩⟩
 ·rw[Af];exact grownCap_ge w s.length 0 e
 have:=OQ (sz:=1) (fun _=>rfl) hi hj
 rw[QB]at this
 show(Lib.bytesCells w e ⟨s.toArray⟩)[0+i * 1+j]? =some u
 rw[Nat.zero_add]
 unfold Lib.bytesCells
 have Eg:=(List.getElem?_eq_some_iff.1 this).1
 rw[Af]at Eg
 rw[Array.getElem?_append_left (by simpa using Eg)]
 simpa[u8]using this
theorem Bn{t e:TypeId}{n bytes:Nat}{z:Value}(ho:o.op=.buildSlice t 0 #[])(ht:C.P.underlying t=some (.slice e))(hi:TI C.P e n bytes z):
  LN C E I H o (fun v I' H'=>(∃b,v=.slice (some ⟨b,0,none⟩) 0 0)/\I=I'/\H'=Ww v e n 0 []::H):=by
 intro a w hs hw K Q hk
 have Lg:=hw.new (.cells #[] e (0,0))
 refine D8 (w':=w.alloc (.cells #[] e)) (v:=.slice (some ⟨w.heap.size,0,none⟩) 0 0) (by rw[ho];rfl) ?_ (hk _ I _ _ ⟨⟨_,O⟩,O,O⟩ ?_)
 ·simp only[execOp,ho,Instr.buildSlice]
  simp[run_underlying ht,hi.sizeOf,Instr.fill,KQ]
  congr 2
  exact Array.eq_empty_of_size_eq_zero (by simp)
 exact{Lg with
  sat:=fun x hx=>by
   rcases Ci.1 hx with rfl|hx
   ·exact⟨by simp,.inr ⟨w.heap.size,0,#[],O,heap_alloc_new w _,A5 _,by simp[maxLen],by simp,by simp⟩⟩
   exact Lg.sat x (List.mem_cons_of_mem _ hx)
  sep:=Lg.sep
  dis:=fun x hx b' hb'=>by
   rcases Ci.1 hx with rfl|hx
   ·cases hb'
    exact Lg.dis _ (CQ) _ O
   exact Lg.dis x (List.mem_cons_of_mem _ hx) b' hb'}
theorem BG{f:α->List Value}{l ls:List α}{x y:Operand}{t e:TypeId}{sz bytes:Nat}{v vy z:Value}{F:List HA}(ho:o.op=.call {callee:=.builtin .append,args:=#[x,y],argTypes:=#[t,t]})
  (ht:C.P.underlying t=some (.slice e)) (hi:TI C.P e sz bytes z) (hz:z.cells.size=sz) (MG:Nat.blt 0 sz=true)
  (hx:ev E x=some v) (hy:ev E y=some vy) (C3:Sl I sz vy (ls.map f)) [hpk:Dx v e' sz l.length (l.map f).flatten F H] (hee:e=e')
  (hu:∀c,(f c).length=sz) (h1:∀c,∀u∈f c,u.oneCell'=true) (MN:l.length+ls.length<=maxLen) (hby:(l.length+ls.length) * bytes<=140737488355328):
  LN C E I H o (fun v' I' H'=>I=I'/\H'=Ap e' sz f v' (l++ls)::F):=by
 by_cases hn:ls=[]
 ·subst hn
  subst hee
  intro a w hs hw K Q hk
  have hw':=hw.perm hpk.pick
  obtain⟨⟨A,c,rfl,hc,_⟩,_⟩:=C3
  obtain⟨i,M6,Ym,EG,N2⟩:=hi
  obtain⟨hl,hv⟩:IV v e sz l.length (l.map f).flatten (Ao w):=hw'.sat _ (CQ)
  have CH:∃base cap,v=.slice base l.length cap/\l.length<=cap:=by
   rcases hv with ⟨rfl,h0⟩|⟨g,cap,cur,rfl,_,CH,_⟩
   ·exact⟨none,0,by rw[h0],by omega⟩
   exact⟨_,_,O,CH⟩
  obtain⟨base,cap,rfl,CH⟩:=CH
  have AhH:∀w,Lib.bytesWorld w e ⟨#[]⟩=Lib.bytesWorld w e ⟨#[]⟩:=fun _=>rfl
  have GY:(Builtin.append_ #[t,t] o.type #[.slice base l.length cap,.slice A 0 c]).run C.P w=.ok (.slice base l.length cap) w:=by
   refine run_append_nothing (P:=C.P) w t t o.type e i ht M6 base l.length cap CH (.slice A 0 c) ⟨.inl ⟨e,ht⟩,fun w'=>rfl,?_,?_,by simp,fun _ h=>by cases h⟩<;>cases A<;>simp[Builtin.firstCells,loadCells,loadCellsFrom]
  refine D8 (v:=.slice base l.length cap) (w':=w) (by rw[ho];rfl) ?_ (hk _ I _ w ⟨O,by rw[Ap,Nj]⟩ hw')
  simp only[execOp,ho,resolve]
  simp only[WI,Bb]at hy
  simp[hs.ev hx,hs.ev hy,invoke,builtin,GY]
 have hmn:ls.map f≠[]:=by simpa using hn
 obtain⟨⟨A,c,rfl,hc,UT,Dk⟩,LD⟩:=id C3
 cases A with
 |none=>exact Ac O (Dk hmn)
 |some ad=>
  have ABR:=UT hmn ad O
  obtain⟨b,off,sp⟩:=ad
  cases ABR
  have Dg:∀m:List α,(m.map f).flatten.length=m.length * sz:=fun m=>by
   induction m with
   |nil=>simp
   |cons d m ih=>simp only[EN,List.flatten_cons,Bh,ih,hu,CD,Nat.add_mul,Nat.one_mul];omega
  have key:∀(m:List α) (j:Nat) (u:Value),(m.map f).flatten[j]? =some u->∃i k cs,(m.map f)[i]? =some cs/\cs[k]? =some u/\j=i * sz+k:=by
   intro m
   induction m with
   |nil=>intro j u h;cases h
   |cons d m ih=>
    intro j u h
    simp only[EN,List.flatten_cons]at h
    rcases Nat.lt_or_ge j (f d).length with Eg|Ua
    ·rw[List.getElem?_append_left Eg]at h
     exact⟨0,j,f d,O,h,by omega⟩
    rw[List.getElem?_append_right Ua]at h
    obtain⟨i,k,cs,h1,h2,h3⟩:=ih _ _ h
    refine⟨i+1,k,cs,by simpa using h1,h2,?_⟩
    rw[hu]at h3 Ua
    rw[Nat.add_mul,Nat.one_mul]
    omega
  have hy':ev E y=some (.slice (some ⟨b,off,none⟩) ls.length c):=by rw[hy,Af]
  have:=V6 (C:=C) (E:=E) (I:=I) (H:=H) (news:=(ls.map f).flatten) ho ht hi hz MG hx hy' hee (AHV fun j u hj=>by
   obtain⟨i,k,cs,h1,h2,rfl⟩:=key ls j u hj
   have:=LD i k cs u h1 h2
   rw[<-Nat.add_assoc]
   exact this) (Dg ls) (fun u hu'=>by
    obtain⟨cs,h2,h3⟩:=List.mem_flatten.1 hu'
    obtain⟨c',_,rfl⟩:=FL.1 h2
    exact h1 c' u h3) MN hby
  simpa[Ap]using this
end
def PH(C:Cx)(E:Cq)(I:AQ)(F:List HA):List ResultVar->List Value->Prop
 | [],[]=>True
 | .tmp t::rs,v::vs=>get E t=some v/\PH C E I F rs vs
 | .cell a t::rs,v::vs=>(∃b off d,get E a=some (.pointer (some ⟨b,off,none⟩))/\C.P.underlying t=some d/\Nw d=true/\Rd C.w0 I F b off v)/\PH C E I F rs vs
 |_,_=>False
def XM:List Value->Value
 | [v]=>v
 |vs=>.tuple vs.toArray
section
variable {C:Cx} {E:Cq} {I:AQ} {H F:List HA} {R:Ending->World->Prop} {fn:Func}
theorem Fy:PH C E I F [] []:=trivial
theorem UV{t:Nat}{v:Value}{vs:List Value}(h:get E t=some v)(k:PH C E I F rs vs):PH C E I F (.tmp t::rs) (v::vs):=⟨h,k⟩
theorem CR{a b:Nat}{t:TypeId}{d:TypeDesc}{v:Value}{vs:List Value}(h:get E a=some (.pointer (some ⟨b,off,none⟩)))(ht:C.P.underlying t=some d)(hd:Nw d=true)(hr:Rd C.w0 I F b off v)(k:PH C E I F rs vs):
  PH C E I F (.cell a t::rs) (v::vs):=⟨⟨b,off,d,h,ht,hd,hr⟩,k⟩
def ADK(τ:Array Value):ResultVar->Sem Value
 | .tmp t=>pure (τ.getD t undef)
 | .cell a t=>do loadVar t (<-asAddr (τ.getD a undef))
theorem U0(fn:Func)(τ:Array Value):results fn τ=(do let vs <-fn.results.mapM (ADK τ);pure (if h:vs.size=1 then vs[0]else .tuple vs)):=by
 unfold results
 congr 2
theorem Zz{τ:Array Value}{w:World}(hs:Jv E C.n τ)(hw:St C.w0 I F w):∀{rs:List ResultVar} {vs:List Value},PH C E I F rs vs->(rs.mapM (ADK τ)).run C.P w=.ok vs w
 | [],[],_=>by simp
 | .tmp t::rs,v::vs,h=>by
  have ih:=Zz hs hw h.2
  have h1:=hs.2 t v h.1
  simp only[List.mapM_cons,Sem.run_bind]
  simp[h1,ADK,ih]
 | .cell a t::rs,v::vs,h=>by
  obtain⟨⟨b,off,d,h1,h2,h3,h4⟩,h5⟩:=h
  have ih:=Zz hs hw h5
  have h6:=hs.2 a _ h1
  have h7:=h4 w hw
  simp only[List.mapM_cons,Sem.run_bind]
  simp[ADK,h6,asAddr,loadVar,EY h2 h3,h7,ih]
 | [],_::_,h=>h.elim
 | .tmp _::_,[],h=>h.elim
 | .cell _ _::_,[],h=>h.elim
theorem ADo{τ:Array Value}{vs:List Value}(hr:fn.results=rs.toArray)(hs:Jv E C.n τ)(hw:St C.w0 I F w)(h:PH C E I F rs vs):(results fn τ).run C.P w=.ok (XM vs) w:=by
 rw[U0,hr,List.mapM_toArray,Sem.run_bind,Sem.run_map]
 rw[Zz hs hw h]
 simp only[PM]
 match vs with
 | []=>simp[XM]
 | [v]=>simp[XM]
 |_::_::_=>simp[XM]
theorem PF{P:Program}{tmps:Array Value}{w0:World}{v:Value}(hr:∀w,St w0 I F w->(results fn tmps).run P w=.ok v w):∀(bs:List Nat) (w:World),St w0 I (bs.map (fun b=>Fg b (.deferred (some [])))++F) w→
  (∀w,St w0 I F w->R (.returned v) w)->LeavesInM (WF none) 0 P fn tmps R (Xj bs) .returning w
 | [],w,hw,k=>⟨v,hr w hw,k w hw⟩
 |b::bs,w,hw,k=>by
  refine⟨(by intro h;cases h),.inl ⟨b,w.putObj b (.deferred none),rfl,?_,?_⟩⟩
  ·exact run_takeDeferred (hw.sat (Fg b (.deferred (some []))) (CQ))
  exact PF hr bs _ (Pb (y:=.deferred none) hw).tail k
theorem F3{vs:List Value}{e:Exit}(he:e=.ret\/e=.normal)(hr:fn.results=rs.toArray)[hp:Pp bs F H](h:PH C E I F rs vs)(k:∀w,St C.w0 I F w->R (.returned (XM vs)) w):
  N C e E I H (Xj bs) (bodyPostM (WF none) 0 C.P fn R):=by
 intro a w hs hd hw
 have:=PF (P:=C.P) (tmps:=a.tmps) (fn:=fn) (R:=R) (fun w hw=>ADo hr hs hw h) bs w (hw.sub hp.sub) k
 rcases he with rfl|rfl
 ·show LeavesInM _ _ _ _ _ _ a.defers .returning w
  rw[hd];exact this
 show LeavesInM _ _ _ _ _ _ a.defers .returning w
 rw[hd];exact this
end
theorem Cs{I:AQ}{H:List HA}{b o:Nat}{T:TypeId}[hm:E2 b T cs H](hu:cs[o]? =some u):Rd w0 I H b o u:=PO hm.mem hu
def AHS(P:Program)(f:FuncId)(args:List Value)(w:World)(R:Value->Prop):Prop:=
 Calls P f args.toArray w fun e w'=> ∃v,e=.returned v/\R v/\Below w.heap.size w w'
theorem Sv{C:Cx}{E:Cq}{I:AQ}{H:List HA}{o:Oper}{f:FuncId}{vs:List Value}{fn:Func}{R:Value->Prop}
  (ho:o.op=.call {callee:=.value g,args:=args,argTypes:=ts}) (hg:ev E g=some (.func (.func f) #[] #[])) (he:evs E args.toList=some vs)
  (OG:C.P.funcs[f]? =some fn) (Hb:(fn.name== "runtime.NumGoroutine")=false) (Wr:fn.body.isNone=false)
  (hc:∀w,St C.w0 I H w->AHS C.P f vs w R):LN C E I H o (fun v I' H'=>R v/\I=I'/\H=H'):=by
 intro a w hs hw K Q hk
 have h1:args.map a.eval=vs.toArray:=by
  rw[<-hs.evs he];cases args;simp
 have GY:(execOp a.eval o).run C.P w=.ok (.enter f vs.toArray) w:=by
  simp only[execOp,ho,resolve,h1,hs.ev hg]
  simp[Deferred.ofValue,invoke,MY OG Hb Wr]
 refine JU (R:=fun v w''=>R v/\Below w.heap.size w w'') (by rw[ho];rfl) GY ((hc w hw).mono fun e w' ⟨v,h1,h2,h3⟩=>⟨v,h1,h2,h3⟩) fun v w'' ⟨hp,hb⟩=>hk v I H w'' ⟨hp,O,O⟩ (hw.garb hb)
theorem Le.of_st{I:AQ}{H:List HA}(h:St w0 I H w):Le I (Ao w):=h.imm
theorem Bz{C:Cx}{E:Cq}{I:AQ}{H:List HA}{o:Oper}{p x:Operand}{t T:TypeId}{b bytes:Nat}{v z:Value}{cs':List Value}{F:List HA}(ho:o.op=.store t p x)(hi:TI C.P t 1 bytes z)
  (hp:ev E p=some (.pointer (some ⟨b,off,none⟩))) (hx:ev E x=some v) (h1:JS v) [hpk:Hs b T cs F H] (Eg:Nat.blt off cs.length=true) (H8:cs.set off v=cs'):
  LN C E I H o (fun _ I' H'=>I=I'/\H'=row b T cs'::F):=by
 subst H8
 exact AVT ho hi hp hx h1 Eg
def AHw(Q:Exit->Act->World->Prop):Exit->Act->World->Prop
 | .panic _,_,_=>False
 |e,a,w=>Q e a w
theorem Mw{f:FuncId}{fn:Func}{c:Code}{args:List Value}{R:Ending->World->Prop}{n:Nat}{I:AQ}{H:List HA}
  (hf:P.funcs[f]? =some fn) (hb:fn.body=some c) (hn:fn.ntmps=n) (ha:Nat.ble args.length n=true) (CS:St w I H w)
  (h:T ⟨P,none,n,w⟩ c (AJb 0 args) I H [] (AHw (bodyPostM (WF none) 0 P fn R))):Calls P f args.toArray w R:=
 Aag hf hb hn ha CS (AYG h fun e a w hq=>by
  cases e<;>first |exact hq|exact hq.elim)
section
variable {C:Cx} {E:Cq} {I:AQ} {H:List HA} {D:List Deferred} {Q:Exit->Act->World->Prop}
theorem Db(h:N C .ret E I H D Q):N C .ret E I H D (AHw Q):=h
variable {ops:Array Oper} {K:Act->Prop}
theorem ART{l:List Oper}{p:Oper}(k j dj d y:Nat)(b c:Bool)(PN:l.drop k=p::rest)(hga:LV ops j true (l.take k) []=true)(hj:ops[j]? =some oj)(QL:oj.dst=some dj)
  (hb:get E dj=some (.bool b)) (AFk:(Ia (KO (l.take k)) E&& !(KO (l.take k)).contains dj)=true)
  (hy:b=true->QS C ops (l.take k) ((dj,.bool true)::E) I H (fun a'=>a'.tmps[y]? =some (.bool c)))
  (hpw:∀a:Act,Jv E C.n a.tmps->Region.wanted p (yielded ops a.tmps)=true) (hpd:p.dst=some d) (hn:Nat.blt d C.n=true) (hpp:p.op=.pick (.tmp dj) (.tmp y) (.const (.bool false)))
  (kk:QS C ops rest ((d,.bool (b&&c))::E) I H K):QS C ops l E I H K:=Ra k j dj d y true b c PN hga hj QL hb AFk hy hpw hpd hn (.inl ⟨O,hpp⟩) kk
theorem AWu{l:List Oper}{p:Oper}(k j dj d y:Nat)(b c:Bool)(PN:l.drop k=p::rest)(hga:LV ops j false (l.take k) []=true)(hj:ops[j]? =some oj)(QL:oj.dst=some dj)
  (hb:get E dj=some (.bool b)) (AFk:(Ia (KO (l.take k)) E&& !(KO (l.take k)).contains dj)=true)
  (hy:b=false->QS C ops (l.take k) ((dj,.bool false)::E) I H (fun a'=>a'.tmps[y]? =some (.bool c)))
  (hpw:∀a:Act,Jv E C.n a.tmps->Region.wanted p (yielded ops a.tmps)=true) (hpd:p.dst=some d) (hn:Nat.blt d C.n=true) (hpp:p.op=.pick (.tmp dj) (.const (.bool true)) (.tmp y))
  (kk:QS C ops rest ((d,.bool (b||c))::E) I H K):QS C ops l E I H K:=Ra k j dj d y false b c PN hga hj QL hb AFk hy hpw hpd hn (.inr ⟨O,hpp⟩) kk
end
end Go.Tri
