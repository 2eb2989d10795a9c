/-
 A small logic of triples over the model's calculus: a frame is known by a list of slots, memory by a list of owned rows and by what does not turn.
-/
import Derived.WalkKit
import Derived.OwnWalkIn
import Derived.OrdersIn
import Derived.Maps.AppendAt
namespace Go.Tri
open Go.RowKit
theorem O.{u}{α:Sort u}{a:α}:a=a:=rfl
abbrev Af:=@List.length_map
abbrev BA:=@List.length_drop
abbrev Bh:=@List.length_append
abbrev BC:=@decide_eq_true_eq
abbrev CA:=@decide_eq_false_iff_not
abbrev BL:=@List.length_take
abbrev BM:=@of_decide_eq_true
abbrev BW:=@of_decide_eq_false
abbrev Bb:=@List.length_nil
abbrev CD:=@List.length_cons
abbrev Ay:=@Bool.and_eq_true
abbrev BV:=@List.length_pos_iff
abbrev Aw:=@Nat.zero_le
abbrev BK:=@decide_eq_true
abbrev A5:=@Nat.le_refl
abbrev AB:=@if_neg
abbrev AI:=@if_pos
abbrev Cy:=@List.getD_eq_getElem?_getD
abbrev CQ:=@List.mem_cons_self
abbrev FL:=@List.mem_map
abbrev NR:=@List.drop_eq_nil_of_le
abbrev Gb:=@List.take_length
abbrev K7:=@List.drop_length
abbrev Gm:=@List.map_append
abbrev Ka:=@List.append_assoc
abbrev Nj:=@List.append_nil
abbrev Ci:=@List.mem_cons
abbrev Ic:=@List.mem_append
abbrev Il:=@List.length_set
abbrev FK:=@List.mem_singleton
abbrev C4:=@Bool.or_eq_true
abbrev Xq:=@Option.some.injEq
abbrev FJ:=@Bool.not_eq_true'
abbrev LC:=@List.getElem?_eq_getElem
abbrev Cp:=@List.drop_drop
abbrev Iu:=@List.take_append_drop
abbrev EN:=@List.map_cons
abbrev PB:=@List.drop_zero
abbrev Qo:=@List.take_zero
abbrev PM:=@Result.andThen_ok
abbrev RZ:=@Bool.false_eq_true
abbrev O9:=@if_false
abbrev DC:=@decide_eq_false
abbrev NA:=@List.cons_append
abbrev PK:=@List.nil_append
abbrev KZ:=@List.length_singleton
abbrev ZE:=@List.length_reverse
abbrev Iw:=@List.set_cons_succ
abbrev DS:=@List.set_cons_zero
abbrev WI:=@List.map_nil
abbrev Qz:=@List.foldl_cons
abbrev ADZ:=@List.foldl_append
abbrev E4:=@List.drop_of_length_le
abbrev LG:=@List.take_of_length_le
abbrev Ac:=@absurd
abbrev B3:=@congrArg
abbrev V3:=@List.drop_eq_getElem_cons
abbrev Ky:=@Nat.le_trans
abbrev O3:=@Option.some.inj
abbrev TO:=@Nat.mul_le_mul_right
variable {w w':World} {a:Act} {v r z:Value} {d id size bytes sz off sz' dj:Nat} {E':List (Nat×Value)} {c:Code} {l rest:List Oper} {ι α:Type} {args:Array Operand} {ts:Array TypeId} {vs cs xs us:List Value} {P:Program} {fs:Array Field} {xss:List (List Value)} {e te:TypeId} {p:Operand} {oi oj:Oper}

def WF(r:Option Nat):Fence:={fn:=fun _=>True,depth:=none,alive:=false,round:=r}
@[simp] theorem AER(r:Option Nat):(WF r).round=r:=rfl
@[simp] theorem AfF(r:Option Nat):(WF r).depth=none:=rfl
@[simp] theorem Aki(r:Option Nat)(f:FuncId):(WF r).fn f=True:=rfl
theorem ASi:WF none=Fence.wide:=rfl

abbrev AQ:=Nat->Option Obj
def Ao(w:World):AQ:=fun b=>w.heap[b]?
def Le(I J:AQ):Prop:=∀b o,I b=some o->J b=some o
theorem Le.refl(I:AQ):Le I I:=fun _ _ h=>h
theorem Le.trans{I J K:AQ}(h:Le I J)(k:Le J K):Le I K:=fun b o x=>k b o (h b o x)

structure HA where
 own:Option Nat
 sat:AQ->Prop
 loc:∀h h':AQ,(∀b,own=some b->h' b=h b)->sat h->sat h'
 dom:∀h b,own=some b->sat h->∃o,h b=some o

def Fg(b:Nat)(o:Obj):HA:=
 ⟨some b,fun h=>h b=some o,fun _ _ e s=>(e b O).trans s,fun _ _ e s=>by cases e;exact⟨_,s⟩⟩
def row(b:Nat)(T:TypeId)(cs:List Value):HA:=Fg b (.cells cs.toArray T (0,0))

def IV(v:Value)(T:TypeId)(sz n:Nat)(xs:List Value)(h:AQ):Prop:=
 xs.length=n * sz/\((v=.slice none 0 0/\n=0)∨
  ∃g cap cur,v=.slice (some ⟨g,0,none⟩) n cap/\h g=some (.cells cur T (0,0))/\n<=cap/\cap<=maxLen/\cur.size=cap * sz/\cur.toList.take (n * sz)=xs)
def Ww(v:Value)(T:TypeId)(sz n:Nat)(xs:List Value):HA:=
 ⟨v.ownBlock,IV v T sz n xs,fun h h' e s=>by
  obtain⟨hl,hs⟩:=s
  refine⟨hl,?_⟩
  rcases hs with hs|⟨g,cap,cur,rfl,hg,r⟩
  ·exact .inl hs
  ·exact .inr ⟨g,cap,cur,O,(e g O).trans hg,r⟩,fun h b e s=>by
  obtain⟨_,hs⟩:=s
  rcases hs with ⟨rfl,_⟩|⟨g,cap,cur,rfl,hg,_⟩
  ·cases e
  cases e;exact⟨_,hg⟩⟩

def T3(H:List HA):List Nat:=H.filterMap HA.own

structure St(w0:World)(I:AQ)(H:List HA)(w:World):Prop where
 os:w.os=w0.os
 tape:w.tape=w0.tape
 output:w.output=w0.output
 size:w0.heap.size<=w.heap.size
 imm:∀b o,I b=some o->w.heap[b]? =some o
 sat:∀x∈H,x.sat (Ao w)
 sep:(T3 H).Nodup
 dis:∀x∈H,∀b,x.own=some b->I b=none

theorem GN{b:Nat}{o:Obj}(h:w.heap[b]? =some o):b<w.heap.size:=(Array.getElem?_eq_some_iff.1 h).1

theorem St.own_lt{w0:World}{I:AQ}{H:List HA}(h:St w0 I H w){x:HA}(hx:x∈H){b:Nat}(hb:x.own=some b):b<w.heap.size:=by
 obtain⟨o,ho⟩:=x.dom _ b hb (h.sat x hx)
 exact GN ho

theorem St.start(w:World)(I:AQ)(hI:Le I (Ao w)):St w I [] w:=
 ⟨O,O,O,A5 _,fun b o h=>hI b o h,(fun _ h=>by cases h),(by simp[T3]),(fun _ h=>by cases h)⟩

theorem St.garb{w0:World}{I:AQ}{H:List HA}(h:St w0 I H w)(g:Below w.heap.size w w'):St w0 I H w' where
 os:=g.os.trans h.os
 tape:=g.tape.trans h.tape
 output:=g.output.trans h.output
 size:=Ky h.size g.size
 imm:=fun b o hb=>by have:=h.imm b o hb;rw[g.block b (GN this)];exact this
 sat:=fun x hx=>x.loc _ _ (fun b hb=>g.block b (h.own_lt hx hb)) (h.sat x hx)
 sep:=h.sep
 dis:=h.dis

theorem St.below{w0:World}{H:List HA}(h:St w0 (Ao w0) H w):Below w0.heap.size w0 w:=
 ⟨h.os,h.tape,h.output,h.size,fun k hk=>by
  have hs:w0.heap[k]? =some w0.heap[k]:=Array.getElem?_eq_getElem hk
  rw[h.imm k _ hs,hs]⟩

theorem St.le{w0:World}{I:AQ}{H:List HA}(h:St w0 I H w):Le I (Ao w):=h.imm

theorem AKK{H H':List HA}(p:H.Perm H'):(T3 H).Perm (T3 H'):=p.filterMap _

theorem St.perm{w0:World}{I:AQ}{H H':List HA}(h:St w0 I H w)(p:H.Perm H'):St w0 I H' w:=
 {h with
  sat:=fun x hx=>h.sat x (p.mem_iff.2 hx)
  sep:=(AKK p).nodup_iff.1 h.sep
  dis:=fun x hx=>h.dis x (p.mem_iff.2 hx)}

theorem St.tail{w0:World}{I:AQ}{x:HA}{H:List HA}(h:St w0 I (x::H) w):St w0 I H w:=
 {h with
  sat:=fun y hy=>h.sat y (List.mem_cons_of_mem _ hy)
  sep:=by
   have:=h.sep
   unfold T3 at this ⊢
   rw[List.filterMap_cons]at this
   split at this
   ·exact this
   exact(List.nodup_cons.1 this).2
  dis:=fun y hy=>h.dis y (List.mem_cons_of_mem _ hy)}

theorem St.less{w0:World}{I J:AQ}{H:List HA}(h:St w0 J H w)(CH:Le I J):St w0 I H w:=
 {h with
  imm:=fun b o hb=>h.imm b o (CH b o hb)
  dis:=fun x hx b hb=>by
   have:=h.dis x hx b hb
   cases hI:I b with
   |none=>rfl
   |some o=>rw[CH b o hI]at this;cases this}

theorem St.rebase{w0 w1:World}{I J:AQ}{H H':List HA}(h:St w0 I H w1)(k:St w1 J H' w):St w0 J H' w:=
 {k with os:=k.os.trans h.os,tape:=k.tape.trans h.tape,output:=k.output.trans h.output,size:=Ky h.size k.size}

theorem St.new{w0:World}{I:AQ}{H:List HA}(h:St w0 I H w)(o:Obj):St w0 I (Fg w.heap.size o::H) (w.alloc o):=by
 have g:Below w.heap.size w (w.alloc o):=(Below.refl _ w).alloc (A5 _) o
 have h':=h.garb g
 refine{h' with sat:=?_,sep:=?_,dis:=?_}
 ·intro x hx
  rcases Ci.1 hx with rfl|hx
  ·exact heap_alloc_new w o
  exact h'.sat x hx
 ·unfold T3
  rw[List.filterMap_cons]
  show(w.heap.size::T3 H).Nodup
  refine List.nodup_cons.2 ⟨fun hm=>?_,h.sep⟩
  obtain⟨x,hx,he⟩:=List.mem_filterMap.1 hm
  have:=h.own_lt hx he
  omega
 intro x hx b hb
 rcases Ci.1 hx with rfl|hx
 ·cases hb
  cases hI:I w.heap.size with
  |none=>rfl
  |some o'=>have:=GN (h.imm _ _ hI);omega
 exact h.dis x hx b hb

theorem St.turn{w0:World}{I:AQ}{x y:HA}{F:List HA}(h:St w0 I (x::F) w)
  (os:w'.os=w.os) (tape:w'.tape=w.tape) (output:w'.output=w.output) (size:w.heap.size<=w'.heap.size)
  (same:∀k,k<w.heap.size->some k≠x.own->w'.heap[k]? =w.heap[k]?)
  (hy:y.sat (Ao w')) (AcA:y.own=x.own\/ ∃b,y.own=some b/\w.heap.size<=b):St w0 I (y::F) w':=by
 have hx:∀z∈F,∀b,z.own=some b->some b≠x.own:=by
  intro z hz b hb he
  have hs:=h.sep
  unfold T3 at hs
  rw[List.filterMap_cons,<-he]at hs
  exact(List.nodup_cons.1 hs).1 (List.mem_filterMap.2 ⟨z,hz,hb⟩)
 refine⟨os.trans h.os,tape.trans h.tape,output.trans h.output,Ky h.size size,?_,?_,?_,?_⟩
 ·intro b o hb
  have hw:=h.imm b o hb
  rw[same b (GN hw) (fun e=>by have:=h.dis x (CQ) b e.symm;rw[this]at hb;cases hb)]
  exact hw
 ·intro z hz
  rcases Ci.1 hz with rfl|hz
  ·exact hy
  exact z.loc _ _ (fun b hb=>same b (h.own_lt (List.mem_cons_of_mem _ hz) hb) (hx z hz b hb)) (h.sat z (List.mem_cons_of_mem _ hz))
 ·have ht:=h.tail.sep
  unfold T3 at ht ⊢
  rw[List.filterMap_cons]
  cases hyo:y.own with
  |none=>exact ht
  |some b=>
   refine List.nodup_cons.2 ⟨fun hm=>?_,ht⟩
   obtain⟨z,hz,he⟩:=List.mem_filterMap.1 hm
   rcases AcA with e|⟨b',e,CH⟩
   ·exact hx z hz b he (by rw[<-hyo];exact e)
   rw[hyo]at e;cases e
   have:=h.own_lt (List.mem_cons_of_mem _ hz) he
   omega
 intro z hz b hb
 rcases Ci.1 hz with rfl|hz
 ·rcases AcA with e|⟨b',e,CH⟩
  ·exact h.dis x (CQ) b (by rw[<-e];exact hb)
  rw[hb]at e;cases e
  cases hI:I b with
  |none=>rfl
  |some o'=>have:=GN (h.imm _ _ hI);omega
 exact h.dis z (List.mem_cons_of_mem _ hz) b hb

def get:List (Nat×Value)->Nat->Option Value
 | [],_=>none
 | (j,v)::r,k=>bif Nat.beq j k then some v else get r k
def ev(E:List (Nat×Value)):Operand->Option Value
 | .tmp t=>get E t
 | .const v=>some v
 | .func f=>some (.func (.func f) #[] #[])
 | .global g=>some (.pointer (some ⟨g,0,none⟩))
def evs(E:List (Nat×Value)):List Operand->Option (List Value)
 | []=>some []
 |x::r=>match ev E x,evs E r with
  |some v,some vs=>some (v::vs)
  |_,_=>none

def Jv(E:List (Nat×Value))(n:Nat)(τ:Array Value):Prop:=τ.size=n/\∀k v,get E k=some v->τ[k]? =some v

theorem Jv.ev{E:List (Nat×Value)}{n:Nat}(h:Jv E n a.tmps){x:Operand}(hx:ev E x=some v):a.eval x=v:=by
 cases x with
 |tmp t=>
  have:=h.2 t v hx
  simp[Act.eval,this]
 |const u=>cases hx;rfl
 |global g=>cases hx;rfl
 |func f=>cases hx;rfl

theorem Jv.evs{E:List (Nat×Value)}{n:Nat}(h:Jv E n a.tmps):∀{xs:List Operand} {vs:List Value},evs E xs=some vs->xs.map a.eval=vs
 | [],_,hx=>by cases hx;rfl
 |x::r,vs,hx=>by
  unfold Tri.evs at hx
  split at hx
  ·rename_i v vs' h1 h2
   cases hx
   rw[EN,h.ev h1,h.evs h2]
  cases hx

theorem Jv.put{E:List (Nat×Value)}{n:Nat}(h:Jv E n a.tmps)(hd:d<n)(v:Value):Jv ((d,v)::E) n (a.put (some d) v).tmps:=by
 refine⟨by simpa[Act.put]using h.1,fun k u hk=>?_⟩
 unfold get at hk
 by_cases e:d=k
 ·subst e
  rw[show Nat.beq d d=true from Nat.beq_refl d]at hk
  cases hk
  simp[Act.put,h.1,hd]
 rw[show Nat.beq d k=false from by cases hb:Nat.beq d k with|false=>rfl|true=>exact Ac (Nat.eq_of_beq_eq_true hb) e]at hk
 have:=h.2 k u hk
 simpa[Act.put,Array.getElem?_setIfInBounds_ne e]using this

def Rh(E E':List (Nat×Value)):Prop:=∀k v,get E' k=some v->get E k=some v
theorem Jv.sub{E:List (Nat×Value)}{n:Nat}{τ:Array Value}(h:Jv E n τ)(hs:Rh E E'):Jv E' n τ:=⟨h.1,fun k v hk=>h.2 k v (hs k v hk)⟩
theorem Bk{E:List (Nat×Value)}:Rh E []:=fun _ _ h=>by cases h
theorem FY{E:List (Nat×Value)}{k:Nat}(h:get E k=some v)(hs:Rh E E'):Rh E ((k,v)::E'):=by
 intro j u hj
 unfold get at hj
 by_cases e:k=j
 ·subst e
  rw[show Nat.beq k k=true from Nat.beq_refl k]at hj
  cases hj
  exact h
 rw[show Nat.beq k j=false from by cases hb:Nat.beq k j with|false=>rfl|true=>exact Ac (Nat.eq_of_beq_eq_true hb) e]at hj
 exact hs j u hj
theorem A0{E:List (Nat×Value)}{k:Nat}{v':Value}(h:get E k=some v')(e:v'=v)(hs:Rh E E'):Rh E ((k,v)::E'):=FY (e ▸ h) hs
theorem Rh.refl(E:List (Nat×Value)):Rh E E:=fun _ _ h=>h

structure Cx where
 P:Program
 r:Option Nat
 n:Nat
 w0:World

abbrev Cq:=List (Nat×Value)

def T(C:Cx)(c:Code)(E:Cq)(I:AQ)(H:List HA)(D:List Deferred)(Q:Exit->Act->World->Prop):Prop:=
 ∀a w,Jv E C.n a.tmps->a.defers=D->St C.w0 I H w->c.wpIn (WF C.r) 0 C.P Q a w
def L(C:Cx)(ops:Array Oper)(l:List Oper)(E:Cq)(I:AQ)(H:List HA)(D:List Deferred)(Q:Exit->Act->World->Prop):Prop:=
 ∀a w,Jv E C.n a.tmps->a.defers=D->St C.w0 I H w->wpListIn (WF C.r) 0 C.P ops Q l a w
def N(C:Cx)(e:Exit)(E:Cq)(I:AQ)(H:List HA)(D:List Deferred)(Q:Exit->Act->World->Prop):Prop:=
 ∀a w,Jv E C.n a.tmps->a.defers=D->St C.w0 I H w->Q e a w

section code
variable {C:Cx} {E:Cq} {I:AQ} {H:List HA} {D:List Deferred} {Q:Exit->Act->World->Prop}

theorem AF{x y:Code}(h:T C x E I H D (Exit.then (y.wpIn (WF C.r) 0 C.P Q) Q)):T C (.seq x y) E I H D Q:=
 fun a w hs hd hw=>wpIn_seq (h a w hs hd hw)
theorem AS{y:Code}(h:T C y E I H D Q):N C .normal E I H D (Exit.then (y.wpIn (WF C.r) 0 C.P Q) Q):=h
theorem Ah{K:Act->World->Prop}(h:N C .ret E I H D Q):N C .ret E I H D (Exit.then K Q):=h
theorem AE{K:Act->World->Prop}(h:N C (.exit id) E I H D Q):N C (.exit id) E I H D (Exit.then K Q):=h
theorem A4(h:N C .ret E I H D Q):N C .ret E I H D (Exit.inBlock id Q):=h
theorem AL(h:N C .normal E I H D Q):N C .normal E I H D (Exit.inBlock id Q):=h
theorem AO(h:N C .normal E I H D Q):N C (.exit id) E I H D (Exit.inBlock id Q):=fun a w hs hd hw=>by
 have:=h a w hs hd hw
 simpa[Exit.inBlock]using this
theorem GT{id':Nat}(e:Nat.beq id id'=false)(h:N C (.exit id) E I H D Q):N C (.exit id) E I H D (Exit.inBlock id' Q):=fun a w hs hd hw=>by
 have:=h a w hs hd hw
 have e':¬id=id':=fun x=>by subst x;rw[show Nat.beq id id=true from Nat.beq_refl id]at e;cases e
 simpa[Exit.inBlock,e']using this
theorem AY(h:N C .normal E I H D Q):T C .skip E I H D Q:=fun a w hs hd hw=>wpIn_skip (h a w hs hd hw)
theorem Av(h:N C (.exit id) E I H D Q):T C (.exit id) E I H D Q:=fun a w hs hd hw=>wpIn_exit (h a w hs hd hw)
theorem AX(h:N C .ret E I H D Q):T C .ret E I H D Q:=fun a w hs hd hw=>wpIn_ret (h a w hs hd hw)
theorem AJ(h:T C c E I H D (Exit.inBlock id Q)):T C (.block id c) E I H D Q:=fun a w hs hd hw=>wpIn_block (h a w hs hd hw)
theorem AA{c:Operand}{x y:Code}{b:Bool}(hc:ev E c=some (.bool b))(ht:b=true->T C x E I H D Q)(hf:b=false->T C y E I H D Q):T C (.cond c x y) E I H D Q:=
 fun a w hs hd hw=>wpIn_cond_split (hs.ev hc) (fun e=>ht e a w hs hd hw) (fun e=>hf e a w hs hd hw)
theorem AC(h:L C l.toArray l E I H D Q):T C (.region id l.toArray false) E I H D Q:=
 fun a w hs hd hw=>wpIn_region_lit (h a w hs hd hw)
theorem C7{ops:Array Oper}(h:N C .normal E I H D Q):L C ops [] E I H D Q:=h

theorem AWA{ops:Array Oper}{E':Cq}(hs:Rh E E')(h:L C ops l E' I H D Q):L C ops l E I H D Q:=fun a w s hd hw=>h a w (s.sub hs) hd hw
theorem AEx{I':AQ}{H':List HA}(h:T C c E I' H' D Q)(hi:∀w,St C.w0 I H w->St C.w0 I' H' w):T C c E I H D Q:=fun a w s hd hw=>h a w s hd (hi w hw)
theorem AYG{Q':Exit->Act->World->Prop}(h:T C c E I H D Q')(hq:∀e a w,Q' e a w->Q e a w):T C c E I H D Q:=fun a w s hd hw=>wpIn_mono (h a w s hd hw) hq

def YZ{ι:Type}(C:Cx)(Cd:ι->Prop)(μ:ι->Nat)(EI:ι->Cq)(II:ι->AQ)(HI:ι->List HA)(D:List Deferred)(i:ι)(a:Act)(w:World):Prop:=
 ∃j,Cd j/\μ j<μ i/\Jv (EI j) C.n a.tmps/\a.defers=D/\St C.w0 (II j) (HI j) w
theorem AaX(Cd:ι->Prop)(μ:ι->Nat)(EI:ι->Cq)(II:ι->AQ)(HI:ι->List HA)(i0:ι)(hc:Cd i0)(he:Rh E (EI i0))
  (hh:∀w,St C.w0 I H w->St C.w0 (II i0) (HI i0) w)
  (round:∀i,Cd i->T C c (EI i) (II i) (HI i) D (Exit.then (YZ C Cd μ EI II HI D i) Q)):T C (.loop c) E I H D Q:=by
 intro a w hs hd hw b k cs hro hb hr
 have key:∀m i a w,μ i=m->Cd i->Jv (EI i) C.n a.tmps->a.defers=D->St C.w0 (II i) (HI i) w→
   ∃e a' w',Q e a' w'/\ArrivesIn (Machine.fenced C.P (WF C.r)) C.P (lone (b.atR a (.code c::.inLoop c::k)) cs w) b k cs e a' w':=by
  intro m
  induction m using Nat.strongRecOn with
  |_ m ih=>
   intro i a w hk hci hs hd hw
   obtain⟨e,a₁,w₁,hq,ACQ⟩:=round i hci a w hs hd hw b (.inLoop c::k) cs hro hb hr
   cases e with
   |normal=>
    obtain⟨j,hcj,Eg,hsj,QL,hwj⟩:=hq
    obtain⟨e₂,a₂,w₂,hq₂,harr₂⟩:=ih (μ j) (hk ▸ Eg) j a₁ w₁ rfl hcj hsj QL hwj
    exact⟨e₂,a₂,w₂,hq₂,.of_steps (StepsIn.trans ACQ (.one (fenced_calm hb hr O) stepR_inLoop)) harr₂⟩
   |exit id=>exact⟨_,a₁,w₁,hq,.pass (x:=.inLoop c) O (fun _ _=>.inl (by simp)) ACQ⟩
   |goto l=>exact⟨_,a₁,w₁,hq,.pass (x:=.inLoop c) O (fun _ _=>.inl (by simp)) ACQ⟩
   |ret=>exact⟨_,a₁,w₁,hq,.pass (x:=.inLoop c) O (fun _ _=>.inl (by simp)) ACQ⟩
   |panic ch=>exact⟨_,a₁,w₁,hq,.pass (x:=.inLoop c) O (fun _ _=>.inl (by simp)) ACQ⟩
   |outgrown=>exact⟨_,a₁,w₁,hq,.pass (x:=.inLoop c) O (fun _ _=>.inl (by simp)) ACQ⟩
 obtain⟨e,a',w',hq,ACQ⟩:=key _ i0 a w rfl hc (hs.sub he) hd (hh w hw)
 exact⟨e,a',w',hq,.of_steps (.one (fenced_calm hb hr O) stepR_loop) ACQ⟩
theorem ASA{Cd:ι->Prop}{μ:ι->Nat}{EI:ι->Cq}{II:ι->AQ}{HI:ι->List HA}{i:ι}(j:ι)(hc:Cd j)(hm:μ j<μ i)(he:Rh E (EI j))
  (hh:∀w,St C.w0 I H w->St C.w0 (II j) (HI j) w):N C .normal E I H D (Exit.then (YZ C Cd μ EI II HI D i) Q):=
 fun _ w hs hd hw=>⟨j,hc,hm,hs.sub he,hd,hh w hw⟩
theorem AIW:∀(A B:Cq) (k:Nat),get (A++B) k=match get A k with|some v=>some v|none=>get B k
 | [],_,_=>rfl
 | (j,v)::A,B,k=>by
  show(bif Nat.beq j k then some v else get (A++B) k)=match(bif Nat.beq j k then some v else get A k)with|some v=>some v|none=>get B k
  cases Nat.beq j k with
  |true=>rfl
  |false=>exact AIW A B k
theorem AAF{A B:Cq}(h:Rh E A)(k:Rh E B):Rh E (A++B):=by
 intro j v hj
 rw[AIW]at hj
 split at hj
 ·rename_i u hu
  cases hj
  exact h j _ hu
 exact k j v hj

theorem AAB(Cd:ι->Prop)(μ:ι->Nat)(EV:ι->Cq)(E0:Cq)(II:ι->AQ)(HI:ι->List HA)(i0:ι)(hc:Cd i0)(he:Rh E (EV i0))(Wf:Rh E E0)
  (hh:∀w,St C.w0 I H w->St C.w0 (II i0) (HI i0) w)
  (round:∀i,Cd i->T C c (EV i++E0) (II i) (HI i) D (Exit.then (YZ C Cd μ (fun i=>EV i++E0) II HI D i) Q)):T C (.loop c) E I H D Q:=
 AaX Cd μ (fun i=>EV i++E0) II HI i0 hc (AAF he Wf) hh round
theorem Fl{Cd:ι->Prop}{μ:ι->Nat}{EV:ι->Cq}{E0:Cq}{II:ι->AQ}{HI:ι->List HA}{i:ι}(j:ι)(hc:Cd j)(hm:μ j<μ i)(he:Rh E (EV j))(Wf:Rh E E0)
  (hh:∀w,St C.w0 I H w->St C.w0 (II j) (HI j) w):N C .normal E I H D (Exit.then (YZ C Cd μ (fun i=>EV i++E0) II HI D i) Q):=
 ASA j hc hm (AAF he Wf) hh
def Cut{ι:Type}(C:Cx)(Cd:ι->Prop)(EV:ι->Cq)(E0:Cq)(II:ι->AQ)(HI:ι->List HA)(D:List Deferred)(a:Act)(w:World):Prop:=
 ∃j,Cd j/\Jv (EV j++E0) C.n a.tmps/\a.defers=D/\St C.w0 (II j) (HI j) w
theorem AcT{x y:Code}(Cd:ι->Prop)(EV:ι->Cq)(E0:Cq)(II:ι->AQ)(HI:ι->List HA)
  (hx:T C x E I H D (Exit.then (Cut C Cd EV E0 II HI D) Q)) (hy:∀i,Cd i->T C y (EV i++E0) (II i) (HI i) D Q):T C (.seq x y) E I H D Q:=by
 intro a w hs hd hw
 refine wpIn_seq (wpIn_mono (hx a w hs hd hw) ?_)
 intro e a' w' hq
 cases e with
 |normal=>
  obtain⟨j,h1,h2,h3,h4⟩:=hq
  exact hy j h1 a' w' h2 h3 h4
 |exit id=>exact hq
 |goto t=>exact hq
 |ret=>exact hq
 |panic c=>exact hq
 |outgrown=>exact hq
theorem Aae{x y:Code}(Cd:ι->Prop)(EV:ι->Cq)(E0:Cq)(II:ι->AQ)(HI:ι->List HA)(_:Rh E E0)
  (hx:T C x E I H D (Exit.then (Cut C Cd EV E0 II HI D) Q)) (hy:∀i,Cd i->T C y (EV i++E0) (II i) (HI i) D Q):T C (.seq x y) E I H D Q:=AcT Cd EV E0 II HI hx hy
theorem Dd{Cd:ι->Prop}{EV:ι->Cq}{E0:Cq}{II:ι->AQ}{HI:ι->List HA}(j:ι)(hc:Cd j)(he:Rh E (EV j))(Wf:Rh E E0)
  (hh:∀w,St C.w0 I H w->St C.w0 (II j) (HI j) w):N C .normal E I H D (Exit.then (Cut C Cd EV E0 II HI D) Q):=
 fun _ w hs hd hw=>⟨j,hc,hs.sub (AAF he Wf),hd,hh w hw⟩
end code

def Au(l:List UInt8):Value:=.string ⟨l.toArray⟩
def u8(c:UInt8):Value:=.int .u8 (c.toNat:Int)
def AG{α:Type}(l:List α)(i:Nat)(d:α):α:=l.getD i d
theorem CT{l:List α}{i:Nat}{d:α}(h:i<l.length):AG l i d=l[i]:=by simp[AG,List.getD,h]
theorem Jq{l:List α}{i:Nat}{d:α}(h:i<l.length):l[i]? =some (AG l i d):=by rw[CT h,LC h]
theorem Bg{l:List α}{i:Nat}(d:α)(h:i<l.length):l.drop i=AG l i d::l.drop (i+1):=by rw[CT h];exact V3 h
theorem C6{l:List α}{i:Nat}(d:α)(h:i<l.length):l.take (i+1)=l.take i++[AG l i d]:=by rw[CT h];exact List.take_succ_eq_append_getElem h
theorem BE{l:List α}{i:Nat}{d:α}(h:i<l.length):AG l i d∈l:=by rw[CT h];exact List.getElem_mem h
def OU:Op->Bool
 | .defer _=>false
 |_=>true

section ops
variable {C:Cx} {E:Cq} {I:AQ} {H:List HA} {D:List Deferred} {Q:Exit->Act->World->Prop} {o:Oper}

def qAt(C:Cx)(o:Oper)(ρ:Operand->Value)(w:World)(v:Value):Prop:=
 OU o.op=true/\match(execOp ρ o).run C.P w with
  | .ok (.value u) w'=>w'=w/\u=v
  | .ok (.enter f args) w'=>w'=w/\Calls C.P f args w (fun e w''=>e=.returned v/\Below w.heap.size w w'')
  |_=>False
def BI(C:Cx)(E:Cq)(I:AQ)(H:List HA)(o:Oper)(v:Value):Prop:=
 ∀(a:Act) (w:World),Jv E C.n a.tmps->St C.w0 I H w->qAt C o a.eval w v

theorem D8{K:Act->World->Prop}(hd:OU o.op=true)
  (h:(execOp a.eval o).run C.P w=.ok (.value v) w') (hk:K (a.put o.dst v) w'):o.wpIn (WF C.r) 0 C.P a w K Q:=by
 refine⟨fun f _=>trivial,?_⟩
 rw[Oper.semAt_eq _ _ _ (fun c hc=>by rw[hc]at hd;cases hd),h]
 exact hk
theorem JW{K:Act->World->Prop}(hd:OU o.op=true)
  (h:(execOp a.eval o).run C.P w=.ok .skip w') (hk:K (a.put o.dst undef) w'):o.wpIn (WF C.r) 0 C.P a w K Q:=by
 refine⟨fun f _=>trivial,?_⟩
 rw[Oper.semAt_eq _ _ _ (fun c hc=>by rw[hc]at hd;cases hd),h]
 exact hk
theorem JU{K:Act->World->Prop}{f:FuncId}{args:Array Value}{R:Value->World->Prop}(hd:OU o.op=true)
  (h:(execOp a.eval o).run C.P w=.ok (.enter f args) w) (hc:Calls C.P f args w (fun e w''=> ∃v,e=.returned v/\R v w'')) (hk:∀v w'',R v w''->K (a.put o.dst v) w''):o.wpIn (WF C.r) 0 C.P a w K Q:=by
 refine⟨fun f _=>trivial,?_⟩
 rw[Oper.semAt_eq _ _ _ (fun c hc=>by rw[hc]at hd;cases hd),h]
 refine⟨fun h=>by simp at h,?_⟩
 have hcc:CallsIn Fence.wide 0 C.P f args w (fun e w''=> ∃v,e=.returned v/\R v w''):=callsIn_wide.2 hc
 have hcr:CallsIn (WF C.r) 0 C.P f args w (fun e w''=> ∃v,e=.returned v/\R v w''):=hcc
 exact hcr.mono fun e w'' ⟨v,he,hr⟩=>by subst he;exact hk v w'' hr
theorem qAt.wpIn{K:Act->World->Prop}(h:qAt C o a.eval w v)(hk:∀w',Below w.heap.size w w'->K (a.put o.dst v) w'):o.wpIn (WF C.r) 0 C.P a w K Q:=by
 obtain⟨hp,h⟩:=h
 split at h
 ·rename_i u w' hr
  obtain⟨rfl,rfl⟩:=h
  exact D8 hp hr (hk _ (Below.refl _ _))
 ·rename_i f args w' hr
  obtain⟨rfl,hc⟩:=h
  exact JU (R:=fun u w''=>u=v/\Below w'.heap.size w' w'') hp hr (hc.mono fun e w'' ⟨he,hb⟩=>⟨v,he,O,hb⟩) fun u w'' ⟨hu,hb⟩=>by subst hu;exact hk w'' hb
 exact h.elim

theorem Bw(hd:OU o.op=true)
  (h:∀(a:Act) (w:World),Jv E C.n a.tmps->St C.w0 I H w->(execOp a.eval o).run C.P w=.ok (.value v) w):BI C E I H o v:=
 fun a w hs hw=>⟨hd,by rw[h a w hs hw];exact⟨O,O⟩⟩

theorem l_q{ops:Array Oper}(hg:o.guard=none)(hd:o.dst=some d)(hn:Nat.blt d C.n=true)
  (hq:BI C E I H o v) (k:L C ops rest ((d,v)::E) I H D Q):L C ops (o::rest) E I H D Q:=by
 intro a w hs MO hw
 refine wpListIn_plain hg fun K hK=>(hq a w hs hw).wpIn fun w' g=>hK _ _ ?_
 rw[hd]
 exact k _ _ (hs.put (by simpa using hn) v) (by simpa[Act.put]using MO) (hw.garb g)

theorem AGM{x:Operand}(ho:o.op=.move x)(hx:ev E x=some v):BI C E I H o v:=
 Bw (by rw[ho];rfl) fun a w hs _=>by simp[execOp,ho,hs.ev hx]
theorem AEM{x:Operand}(ho:o.op=.assign x)(hx:ev E x=some v):BI C E I H o v:=
 Bw (by rw[ho];rfl) fun a w hs _=>by simp[execOp,ho,hs.ev hx]

theorem B9{op:BinOp}{x y:Operand}{t t':TypeId}{u:Value}(ho:o.op=.binOp op t x y t')(hx:ev E x=some u)(hy:ev E y=some v)
  (hr:∀w,(do eqGuard op t x y u v;binOp op t u v:Sem Value).run C.P w=.ok r w):BI C E I H o r:=
 Bw (by rw[ho];rfl) fun a w hs _=>by
  simp only[execOp,ho,hs.ev hx,hs.ev hy]
  rw[Sem.run_bind,hr]
  rfl

section ints
variable {x y:Operand} {t t':TypeId} {k:IntKind} {m n:Int}
theorem Up(ho:o.op=.binOp .add t x y t')(hx:ev E x=some (.int k m))(hy:ev E y=some (.int k n)):BI C E I H o (.int k (k.wrap (m+n))):=
 B9 ho hx hy fun w=>by simp[go_sem]
theorem TU(ho:o.op=.binOp .sub t x y t')(hx:ev E x=some (.int k m))(hy:ev E y=some (.int k n)):BI C E I H o (.int k (k.wrap (m-n))):=
 B9 ho hx hy fun w=>by simp[go_sem]
theorem ADX(ho:o.op=.binOp .mul t x y t')(hx:ev E x=some (.int k m))(hy:ev E y=some (.int k n)):BI C E I H o (.int k (k.wrap (m * n))):=
 B9 ho hx hy fun w=>by simp[go_sem]
theorem AM(ho:o.op=.binOp .add t x y t')(hx:ev E x=some (.int .i64 m))(hy:ev E y=some (.int .i64 n))(h: -9223372036854775808<=m+n/\m+n<=9223372036854775807):BI C E I H o (.int .i64 (m+n)):=by
 have:=Up (C:=C) (I:=I) (H:=H) ho hx hy
 rwa [IntWalk.i64_in _ h]at this
theorem Bl(ho:o.op=.binOp .sub t x y t')(hx:ev E x=some (.int .i64 m))(hy:ev E y=some (.int .i64 n))(h: -9223372036854775808<=m-n/\m-n<=9223372036854775807):BI C E I H o (.int .i64 (m-n)):=by
 have:=TU (C:=C) (I:=I) (H:=H) ho hx hy
 rwa [IntWalk.i64_in _ h]at this
theorem Ack(ho:o.op=.binOp .lss t x y t')(hx:ev E x=some (.int k m))(hy:ev E y=some (.int k n)):BI C E I H o (.bool (decide (m<n))):=
 B9 ho hx hy fun w=>by simp[go_sem]
theorem Abp(ho:o.op=.binOp .leq t x y t')(hx:ev E x=some (.int k m))(hy:ev E y=some (.int k n)):BI C E I H o (.bool (decide (m<=n))):=
 B9 ho hx hy fun w=>by simp[go_sem]
theorem Acv(ho:o.op=.binOp .gtr t x y t')(hx:ev E x=some (.int k m))(hy:ev E y=some (.int k n)):BI C E I H o (.bool (decide (n<m))):=
 B9 ho hx hy fun w=>by simp[go_sem]
theorem Adb(ho:o.op=.binOp .geq t x y t')(hx:ev E x=some (.int k m))(hy:ev E y=some (.int k n)):BI C E I H o (.bool (decide (n<=m))):=
 B9 ho hx hy fun w=>by simp[go_sem]
theorem AOs(ho:o.op=.binOp .eql t x y t')(hx:ev E x=some (.int k m))(hy:ev E y=some (.int k n)):BI C E I H o (.bool (decide (m=n))):=
 B9 ho hx hy fun w=>by simp[go_sem];rfl
theorem AWg(ho:o.op=.binOp .neq t x y t')(hx:ev E x=some (.int k m))(hy:ev E y=some (.int k n)):BI C E I H o (.bool (decide (m≠n))):=
 B9 ho hx hy fun w=>by simp[go_sem];rfl
end ints

section strings
variable {x y i j:Operand} {t t':TypeId} {s s':List UInt8} {k kl kh:IntKind} {m n:Int}
theorem Ee(s:List UInt8):(⟨s.toArray⟩:ByteArray).size=s.length:=by simp[ByteArray.size]
theorem LQ{b:Builtin}(ho:o.op=.call {callee:=.builtin b,args:=args,argTypes:=ts})
  (he:evs E args.toList=some vs) (hr:∀cs w,(builtin b ts o.type cs vs.toArray).run C.P w=.ok (.value r) w):BI C E I H o r:=
 Bw (by rw[ho];rfl) fun a w hs _=>by
  have h1:args.map a.eval=vs.toArray:=by
   rw[<-hs.evs he];cases args;simp
  simp only[execOp,ho,resolve,h1]
  rw[Sem.run_bind,Sem.run_pure]
  exact hr _ w
theorem AW(ho:o.op=.call {callee:=.builtin .len,args:=#[x],argTypes:=#[t]})(ht:C.P.underlying t=some .string)(hx:ev E x=some (Au s)):
  BI C E I H o (.int .i64 (s.length:Int)):=
 LQ ho (vs:=[Au s]) (by simp[evs,hx]) fun cs w=>by
  simp[builtin,Au,Builtin.len_,run_underlying ht,goInt,Ee]
theorem Bu(ho:o.op=.index t x i)(ht:C.P.underlying t=some .string)(hx:ev E x=some (Au s))(hi:ev E i=some (.int k m))(h:0<=m/\m<s.length):
  BI C E I H o (u8 (AG s m.toNat 0)):=
 Bw (by rw[ho];rfl) fun a w hs _=>by
  have h1:=hs.ev hx
  have h2:=hs.ev hi
  have Eg:m.toNat<s.length:=by omega
  have hg:(⟨s.toArray⟩:ByteArray)[m.toNat]? =some s[m.toNat]:=by
   rw[getElem?_pos _ _ (by simpa[ByteArray.size]using Eg)];rfl
  simp[execOp,ho,h1,h2,Au,Instr.index,run_underlying ht,asIntOf,h.1,hg,u8,CT Eg]
theorem AR(ho:o.op=.binOp .eql t x y t')(hx:ev E x=some (Au s))(hy:ev E y=some (Au s')):BI C E I H o (.bool (decide (s=s'))):=
 B9 ho hx hy fun w=>by
  simp[eqGuard,Au,binOp,Op.stringOp,ByteArray.toList_eq];rw[Bool.eq_iff_iff];simp
end strings
end ops

def AJb:Nat->List Value->Cq
 |_,[]=>[]
 |k,v::r=>(k,v)::AJb (k+1) r

theorem VA:∀(vs:List Value) (k j:Nat) (v:Value),get (AJb k vs) j=some v->k<=j/\vs[j-k]? =some v
 | [],_,_,_,h=>by cases h
 |u::r,k,j,v,h=>by
  unfold AJb get at h
  by_cases e:k=j
  ·subst e
   rw[show Nat.beq k k=true from Nat.beq_refl k]at h
   cases h
   exact⟨A5 _,by simp⟩
  rw[show Nat.beq k j=false from by cases hb:Nat.beq k j with|false=>rfl|true=>exact Ac (Nat.eq_of_beq_eq_true hb) e]at h
  obtain⟨h1,h2⟩:=VA r (k+1) j v h
  refine⟨by omega,?_⟩
  rw[show j-k=(j-(k+1))+1 by omega,List.getElem?_cons_succ]
  exact h2

theorem enter{f:FuncId}{fn:Func}{args:List Value}{R:Ending->World->Prop}{n:Nat}{I:AQ}{H:List HA}
  (hf:P.funcs[f]? =some fn) (hb:fn.body=some c) (hn:fn.ntmps=n) (ha:Nat.ble args.length n=true) (CS:St w I H w)
  (h:T ⟨P,none,n,w⟩ c (AJb 0 args) I H [] (bodyPost P fn R)):Calls P f args.toArray w R:=by
 have hal:args.length<=n:=by simpa using ha
 refine callsIn_wide (n:=0).1 (callsIn_of_wp hf hb trivial ?_)
 refine h _ w ⟨by simp[hn,hal],fun k v hk=>?_⟩ O CS
 obtain⟨_,h2⟩:=VA args 0 k v hk
 have Eg:k<args.length:=by
  have:=(List.getElem?_eq_some_iff.1 h2).1
  omega
 show(args.toArray++Array.replicate (fn.ntmps-args.toArray.size) undef)[k]? =some v
 rw[Array.getElem?_append_left (by simpa using Eg)]
 simpa using h2

section ret
variable {C:Cx} {E:Cq} {I:AQ} {H:List HA} {R:Ending->World->Prop} {fn:Func}

theorem AP{t:Nat}(hr:fn.results=#[.tmp t])(hv:get E t=some v)(k:∀w,St C.w0 I H w->R (.returned v) w):N C .ret E I H [] (bodyPost C.P fn R):=by
 intro a w hs hd hw
 refine⟨hd,v,?_,k w hw⟩
 rw[results_tmp hr]
 simp[hs.2 t v hv]
theorem I7(hr:fn.results=#[])(k:∀w,St C.w0 I H w->R (.returned (.tuple #[])) w):N C .ret E I H [] (bodyPost C.P fn R):=
 fun a w _ hd hw=>⟨hd,_,results_none hr _ _ _,k w hw⟩
theorem EK(hr:fn.results=#[])(k:∀w,St C.w0 I H w->R (.returned (.tuple #[])) w):N C .normal E I H [] (bodyPost C.P fn R):=
 fun a w _ hd hw=>⟨hd,_,results_none hr _ _ _,k w hw⟩
theorem Aj{t u:Nat}{x:Value}(hr:fn.results=#[.tmp t,.tmp u])(hv:get E t=some v)(hx:get E u=some x)(k:∀w,St C.w0 I H w->R (.returned (.tuple #[v,x])) w):N C .ret E I H [] (bodyPost C.P fn R):=by
 intro a w hs hd hw
 refine⟨hd,_,?_,k w hw⟩
 rw[results_tmp2 hr]
 simp[hs.2 t v hv,hs.2 u x hx]
theorem Cu{t u s:Nat}{x y:Value}(hr:fn.results=#[.tmp t,.tmp u,.tmp s])(hv:get E t=some v)(hx:get E u=some x)(hy:get E s=some y)(k:∀w,St C.w0 I H w->R (.returned (.tuple #[v,x,y])) w):N C .ret E I H [] (bodyPost C.P fn R):=by
 intro a w hs hd hw
 refine⟨hd,.tuple #[v,x,y],?_,k w hw⟩
 simp[results,hr,hs.2 t v hv,hs.2 u x hx,hs.2 s y hy]
end ret

theorem MY{f:FuncId}{fn:Func}(hf:P.funcs[f]? =some fn)(hn:(fn.name== "runtime.NumGoroutine")=false)(hb:fn.body.isNone=false)(xs:Array Value)(w:World):(callFunc f xs).run P w=.ok (.enter f xs) w:=by
 have hn':¬fn.name= "runtime.NumGoroutine":=by simpa using hn
 have hb':¬fn.body=none:=by cases h:fn.body<;>simp_all
 simp[callFunc,hf,hn',hb']

def B2(P:Program)(f:FuncId)(args:List Value)(w:World)(v:Value):Prop:=
 Calls P f args.toArray w fun e w'=>e=.returned v/\Below w.heap.size w w'

theorem AGm{C:Cx}{E:Cq}{I:AQ}{H:List HA}{o:Oper}{g:Operand}{f:FuncId}
  (ho:o.op=.call {callee:=.value g,args:=args,argTypes:=ts}) (hg:ev E g=some (.func (.func f) #[] #[])) (he:evs E args.toList=some vs)
  {fn:Func} (OG:C.P.funcs[f]? =some fn) (Hb:(fn.name== "runtime.NumGoroutine")=false) (Wr:fn.body.isNone=false)
  (hc:∀w,St C.w0 I H w->B2 C.P f vs w v):BI C E I H o v:=by
 intro a w hs hw
 have h1:args.map a.eval=vs.toArray:=by
  rw[<-hs.evs he];cases args;simp
 have GY:(execOp a.eval o).run C.P w=.ok (.enter f vs.toArray) w:=by
  simp only[execOp,ho,resolve,h1,hs.ev hg]
  simp[Deferred.ofValue,invoke,MY OG Hb Wr]
 refine⟨by rw[ho];rfl,?_⟩
 rw[GY]
 exact⟨O,hc w hw⟩

def Nw:TypeDesc->Bool
 | .struct _| .array _ _=>false
 |_=>true
theorem EY{t:TypeId}{d:TypeDesc}(h:P.underlying t=some d)(hd:Nw d=true)(w:World):(isAgg t).run P w=.ok false w:=by
 unfold isAgg
 rw[Sem.run_bind,run_underlying h]
 cases d<;>first |rfl|cases hd
theorem NS{t:TypeId}(h:P.underlying t=some (.struct fs))(w:World):(isAgg t).run P w=.ok true w:=by
 unfold isAgg
 rw[Sem.run_bind,run_underlying h]
 rfl
def TI(P:Program)(t:TypeId)(size bytes:Nat)(z:Value):Prop:= ∃i,P.info? t=some i/\i.size=size/\i.bytes=bytes/\i.zero=some z
theorem CY{t:TypeId}(h:(P.info? t).map (fun i=>(i.size,i.bytes,i.zero))=some (size,bytes,some z)):TI P t size bytes z:=by
 cases hi:P.info? t with
 |none=>rw[hi]at h;cases h
 |some i=>
  rw[hi]at h
  simp only[Option.map_some,Xq,Prod.mk.injEq]at h
  exact⟨i,hi,h.1,h.2.1,h.2.2⟩
theorem TI.sizeOf{t:TypeId}(h:TI P t size bytes z)(w:World):(Go.sizeOf t).run P w=.ok size w:=by
 obtain⟨i,hi,h1,_,_⟩:=h
 unfold Go.sizeOf
 simp[typeInfo,hi,h1]
theorem TI.zero{t:TypeId}(h:TI P t size bytes z)(w:World):(zeroValue t).run P w=.ok z w:=by
 obtain⟨i,hi,_,_,h3⟩:=h
 unfold zeroValue
 simp[typeInfo,hi,h3]

def Rd(w0:World)(I:AQ)(H:List HA)(b o:Nat)(u:Value):Prop:=∀w,St w0 I H w->w.cell? ⟨b,o,none⟩=some u
def DA(I:AQ)(b o:Nat)(u:Value):Prop:= ∃cur T fr,I b=some (.cells cur T fr)/\cur[o]? =some u
theorem DA.mono{I J:AQ}{b o:Nat}{u:Value}(h:DA I b o u)(CH:Le I J):DA J b o u:=by
 obtain⟨cur,T,fr,h1,h2⟩:=h
 exact⟨cur,T,fr,CH _ _ h1,h2⟩
section
variable {w0:World} {I:AQ} {H:List HA} {b o:Nat} {u:Value}
theorem A8(h:DA I b o u):Rd w0 I H b o u:=fun w hw=>by
 obtain⟨cur,T,fr,h1,h2⟩:=h
 unfold World.cell?
 simp only[hw.imm b _ h1]
 exact h2
theorem PO{T:TypeId}(hm:row b T cs∈H)(hu:cs[o]? =some u):Rd w0 I H b o u:=fun w hw=>by
 have h1:w.heap[b]? =some (.cells cs.toArray T (0,0)):=hw.sat _ hm
 unfold World.cell?
 simp only[h1]
 simpa using hu
def Eb(v:Value):Addr:=match v with| .slice (some a) _ _=>a|_=>⟨0,0,none⟩
theorem AMW{T:TypeId}{n j:Nat}(hm:Ww v T sz n xs∈H)(hu:xs[j]? =some u):Rd w0 I H (Eb v).block ((Eb v).off+j) u:=fun w hw=>by
 obtain⟨hl,hs⟩:=hw.sat _ hm
 rcases hs with ⟨rfl,rfl⟩|⟨g,cap,cur,rfl,hg,hn,hc,MG,rfl⟩
 ·have:=(List.getElem?_eq_some_iff.1 hu).1
  rw[hl]at this
  simp at this
 unfold World.cell?
 have hg':w.heap[g]? =some (.cells cur T (0,0)):=hg
 simp only[Eb,hg']
 rw[List.getElem?_take]at hu
 split at hu
 ·simpa using hu
 cases hu
end

def Sl(I:AQ)(sz:Nat)(v:Value)(xss:List (List Value)):Prop:=
 (∃A c,v=.slice A xss.length c/\xss.length<=c/\(xss≠[]->∀a,A=some a->a.spot=none)/\(xss≠[]->A≠none))∧
 ∀i j cs u,xss[i]? =some cs->cs[j]? =some u->DA I (Eb v).block ((Eb v).off+i * sz+j) u
theorem Sl.mono{I J:AQ}(h:Sl I sz v xss)(CH:Le I J):Sl J sz v xss:=
 ⟨h.1,fun i j cs u h1 h2=>(h.2 i j cs u h1 h2).mono CH⟩
theorem E3{I:AQ}{c:Nat}{A:Option Addr}(hA:∀a,A=some a->a.spot=none):Sl I sz (.slice A 0 c) []:=
 ⟨⟨A,c,O,Aw _,fun _=>hA,fun h=>Ac O h⟩,fun _ _ _ _ h=>by cases h⟩

def JS(v:Value):Prop:=v.cells=#[v]/\v.oneCell'=true
theorem Sl.one{I:AQ}(h:Sl I sz v xss):JS v:=by
 obtain⟨⟨A,c,rfl,_⟩,_⟩:=h
 exact⟨O,O⟩

theorem AOq{a:Addr}{u:Value}(h:w.cell? a=some u):(load a).run P w=.ok u w:=by
 simp[load,Sem.run,h]

section ops
variable {C:Cx} {E:Cq} {I:AQ} {H:List HA} {D:List Deferred} {Q:Exit->Act->World->Prop} {o:Oper}

theorem AGg{x:Operand}{t:TypeId}{d:TypeDesc}{b:Nat}{u:Value}(ho:o.op=.load t x)(ht:C.P.underlying t=some d)(hd:Nw d=true)
  (hx:ev E x=some (.pointer (some ⟨b,off,none⟩))) (hr:Rd C.w0 I H b off u):BI C E I H o u:=
 Bw (by rw[ho];rfl) fun a w hs hw=>by
  have h1:=hs.ev hx
  have h2:=hr w hw
  simp[execOp,ho,h1,Instr.loadAt,Instr.sureAddr,loadVar,EY ht hd,load,Sem.run,h2]

def Rds(w0:World)(I:AQ)(H:List HA)(b o:Nat)(us:List Value):Prop:=∀j u,us[j]? =some u->Rd w0 I H b (o+j) u
theorem AAL{w0:World}{b k n:Nat}{T:TypeId}(hm:row b T cs∈H)(hu:(cs.drop k).take n=us):Rds w0 I H b k us:=fun j u hj=>by
 refine PO hm ?_
 subst hu
 rw[List.getElem?_take]at hj
 split at hj
 ·rw[<-List.getElem?_drop];exact hj
 cases hj
theorem AHV{w0:World}{b k:Nat}(h:∀j u,us[j]? =some u->DA I b (k+j) u):Rds w0 I H b k us:=fun j u hj=>A8 (h j u hj)

theorem O5{b k:Nat}(h:∀j u,us[j]? =some u->w.cell? ⟨b,k+j,none⟩=some u):
  (loadCells ⟨b,k,none⟩ us.length).run P w=.ok us.toArray w:=by
 unfold loadCells
 have key:∀(m i:Nat) (acc:Array Value),i+m=us.length->acc=(us.take i).toArray->(loadCellsFrom ⟨b,k,none⟩ i m acc).run P w=.ok us.toArray w:=by
  intro m
  induction m with
  |zero=>
   intro i acc hi ha
   rw[show i=us.length by omega,Gb]at ha
   simp[loadCellsFrom,ha]
  |succ m ih=>
   intro i acc hi ha
   have Eg:i<us.length:=by omega
   have hc:=h i us[i] (LC Eg)
   simp only[loadCellsFrom]
   rw[Sem.run_bind]
   rw[Addr.add_lit,AOq hc]
   simp only[PM]
   refine ih (i+1) _ (by omega) ?_
   subst ha
   rw[List.take_succ_eq_append_getElem Eg]
   simp
 exact key us.length 0 #[] (by omega) (by simp)

theorem Br{x:Operand}{t:TypeId}{b n:Nat}(ho:o.op=.load t x)(ht:C.P.underlying t=some (.struct fs))(hi:TI C.P t n bytes z)(hn:us.length=n)
  (hx:ev E x=some (.pointer (some ⟨b,off,none⟩))) (hr:Rds C.w0 I H b off us):BI C E I H o (.agg us.toArray):=
 Bw (by rw[ho];rfl) fun a w hs hw=>by
  have h1:=hs.ev hx
  have h2:=O5 (P:=C.P) (w:=w) (b:=b) (k:=off) (us:=us) (fun j u hj=>hr j u hj w hw)
  subst hn
  simp[execOp,ho,h1,Instr.loadAt,Instr.sureAddr,loadVar,NS ht,hi.sizeOf,h2]

theorem AGt{x:Operand}{a:Addr}(ho:o.op=.nilCheck x)(hx:ev E x=some (.pointer (some a))):BI C E I H o (.pointer (some a)):=
 Bw (by rw[ho];rfl) fun ac w hs _=>by simp[execOp,ho,hs.ev hx]

theorem ACL{x:Operand}{t tf:TypeId}{k b n:Nat}{f:Field}(ho:o.op=.fieldAddr t x k)(ht:C.P.underlying t=some (.struct fs))
  (hf:fs[k]? =some f) (htf:f.type=tf) (hi:TI C.P tf n bytes z) (hn:Nat.ble 1 n=true) (hx:ev E x=some (.pointer (some ⟨b,off,none⟩))):BI C E I H o (.pointer (some ⟨b,off+f.offset,none⟩)):=
 Bw (by rw[ho];rfl) fun a w hs _=>by
  have hn':n≠0:=by
   have:1<=n:=by simpa using hn
   omega
  subst htf
  simp[execOp,ho,hs.ev hx,Instr.fieldAt,run_underlying ht,hf,Instr.sureAddr,fieldPlace,hi.sizeOf,hn',Addr.add_lit]

theorem Bq{x i:Operand}{t:TypeId}{k:IntKind}{m:Int}{n:Nat}(ho:o.op=.indexAddr t x i)(ht:C.P.underlying t=some (.slice e))(hi:TI C.P e sz bytes z)
  (hx:ev E x=some v) (hix:ev E i=some (.int k m)) (hv:∃A c,v=.slice A n c/\(0<n->∀a,A=some a->a.spot=none)/\(0<n->A≠none)) (h0:0<=m/\m<n):
  BI C E I H o (.pointer (some ⟨(Eb v).block,(Eb v).off+m.toNat * sz,none⟩)):=
 Bw (by rw[ho];rfl) fun a w hs _=>by
  obtain⟨A,c,rfl,UT,Dk⟩:=hv
  cases A with
  |none=>exact Ac O (Dk (by omega))
  |some ad=>
   have ABR:=UT (by omega) ad O
   have AkE:ad.add (m.toNat * sz)=⟨ad.block,ad.off+m.toNat * sz,none⟩:=by
    obtain⟨b,of,sp⟩:=ad
    cases ABR
    exact Addr.add_lit b of _
   simp[execOp,ho,hs.ev hx,hs.ev hix,Instr.indexAt,run_underlying ht,hi.sizeOf,asIntOf,h0,Eb,AkE]
theorem Sl.shape{n:Nat}(h:Sl I sz v xss)(hn:xss.length=n):∃A c,v=.slice A n c/\(0<n->∀a,A=some a->a.spot=none)/\(0<n->A≠none):=by
 obtain⟨⟨A,c,rfl,_,h1,h2⟩,_⟩:=h
 subst hn
 exact⟨A,c,O,fun hp=>h1 (List.ne_nil_of_length_pos hp),fun hp=>h2 (List.ne_nil_of_length_pos hp)⟩

theorem BH{x:Operand}{t:TypeId}{n:Nat}(ho:o.op=.call {callee:=.builtin .len,args:=#[x],argTypes:=#[t]})(ht:C.P.underlying t=some (.slice e))(hx:ev E x=some v)
  (hv:∃A c,v=.slice A n c):BI C E I H o (.int .i64 (n:Int)):=
 LQ ho (vs:=[v]) (by simp[evs,hx]) fun cs w=>by
  obtain⟨A,c,rfl⟩:=hv
  simp[builtin,Builtin.len_,run_underlying ht,goInt]
theorem AKY{x:Operand}{t:TypeId}{n:Nat}(ho:o.op=.call {callee:=.builtin .len,args:=#[x],argTypes:=#[t]})(ht:C.P.underlying t=some (.slice e))(hx:ev E x=some v)
  (hm:Ww v te sz n xs∈H):BI C E I H o (.int .i64 (n:Int)):=by
 intro a w hs hw
 have hv:∃A c,v=.slice A n c:=by
  obtain⟨_,hh⟩:=hw.sat _ hm
  rcases hh with ⟨rfl,rfl⟩|⟨g,cap,cur,rfl,_⟩
  ·exact⟨_,_,O⟩
  exact⟨_,_,O⟩
 exact BH (C:=C) (I:=I) (H:=H) ho ht hx hv a w hs hw
theorem Tw{x i:Operand}{t:TypeId}{k:IntKind}{m:Int}{n:Nat}(ho:o.op=.indexAddr t x i)(ht:C.P.underlying t=some (.slice e))(hi:TI C.P e sz bytes z)
  (hx:ev E x=some v) (hix:ev E i=some (.int k m)) (hm:Ww v te sz' n xs∈H) (h0:0<=m/\m<n):
  BI C E I H o (.pointer (some ⟨(Eb v).block,(Eb v).off+m.toNat * sz,none⟩)):=by
 intro a w hs hw
 have hv:∃A c,v=.slice A n c/\(0<n->∀a,A=some a->a.spot=none)/\(0<n->A≠none):=by
  obtain⟨_,hh⟩:=hw.sat _ hm
  rcases hh with ⟨rfl,rfl⟩|⟨g,cap,cur,rfl,_⟩
  ·exact⟨_,_,O,(fun _ a ha=>by cases ha),(fun h=>Ac h (by omega))⟩
  exact⟨_,_,O,(fun _ a ha=>by cases ha;rfl),(fun _ h=>by cases h)⟩
 exact Bq (C:=C) (I:=I) (H:=H) ho ht hi hx hix hv h0 a w hs hw

theorem ADE{x:Operand}{t:TypeId}{b:Bool}(ho:o.op=.unOp .not t x)(hx:ev E x=some (.bool b)):BI C E I H o (.bool (!b)):=
 Bw (by rw[ho];rfl) fun a w hs _=>by simp[execOp,ho,hs.ev hx,Op.unary]
theorem Po{c x y:Operand}{b:Bool}{u:Value}(ho:o.op=.pick c x y)(hc:ev E c=some (.bool b))(hx:ev E x=some u)(hy:ev E y=some v):BI C E I H o (bif b then u else v):=
 Bw (by rw[ho];rfl) fun a w hs _=>by
  cases b<;>simp[execOp,ho,hs.ev hc,hs.ev hx,hs.ev hy,asBool]
theorem AJs{x:Operand}{k:Nat}{vs:Array Value}(ho:o.op=.extract x k)(hx:ev E x=some (.tuple vs))(hv:vs[k]? =some v):BI C E I H o v:=
 Bw (by rw[ho];rfl) fun a w hs _=>by simp[execOp,ho,hs.ev hx,Instr.extract,hv]
theorem F8{fn:Fn}{xs ys:Array Operand}(ho:o.op=.makeFunc fn xs ys)(hx:evs E xs.toList=some us)(hy:evs E ys.toList=some vs):BI C E I H o (.func fn us.toArray vs.toArray):=
 Bw (by rw[ho];rfl) fun a w hs _=>by
  have h1:xs.map a.eval=us.toArray:=by rw[<-hs.evs hx];cases xs;simp
  have h2:ys.map a.eval=vs.toArray:=by rw[<-hs.evs hy];cases ys;simp
  simp[execOp,ho,h1,h2,Instr.makeFunc]
end ops

def ADR(H:List HA)(x:HA)(F:List HA):Prop:=H.Perm (x::F)
theorem MI{x:HA}{F:List HA}:ADR (x::F) x F:=List.Perm.refl _
theorem MJ{x y:HA}{H F:List HA}(h:ADR H x F):ADR (y::H) x (y::F):=(List.Perm.cons y h).trans (List.Perm.swap x y F)

def Pw(H H':List HA):Prop:= ∃G,H.Perm (G++H')
theorem X9(H:List HA):Pw H H:=⟨[],List.Perm.refl _⟩
theorem AKt{x:HA}{H H':List HA}(h:Pw H H'):Pw (x::H) H':=by
 obtain⟨G,h⟩:=h
 exact⟨x::G,List.Perm.cons x h⟩
theorem YO{x:HA}{H F H':List HA}(p:ADR H x F)(h:Pw F H'):Pw H (x::H'):=by
 obtain⟨G,h⟩:=h
 exact⟨G,(p.trans (List.Perm.cons x h)).trans List.perm_middle.symm⟩
theorem St.drops{w0 w:World}{I:AQ}:∀{G H:List HA},St w0 I (G++H) w->St w0 I H w
 | [],_,h=>h
 |_::G,_,h=>St.drops (G:=G) h.tail
theorem St.sub{w0:World}{I:AQ}{H H':List HA}(h:St w0 I H w)(s:Pw H H'):St w0 I H' w:=by
 obtain⟨G,p⟩:=s
 exact(h.perm p).drops

class E2(b:Nat)(T:outParam TypeId)(cs:outParam (List Value))(H:List HA):Prop where
 mem:row b T cs∈H
instance AYE{b:Nat}{T:TypeId}{cs:List Value}{H:List HA}:E2 b T cs (row b T cs::H):=⟨CQ⟩
instance(priority:=low) inRow_tail {b:Nat} {T:TypeId} {cs:List Value} {y:HA} {H:List HA} [h:E2 b T cs H]:E2 b T cs (y::H):=⟨List.mem_cons_of_mem _ h.mem⟩
class H3(v:Value)(T:outParam TypeId)(sz n:outParam Nat)(xs:outParam (List Value))(H:List HA):Prop where
 mem:Ww v T sz n xs∈H
instance AXa{v:Value}{T:TypeId}{sz n:Nat}{xs:List Value}{H:List HA}:H3 v T sz n xs (Ww v T sz n xs::H):=⟨CQ⟩
instance(priority:=low) inVec_tail {v:Value} {T:TypeId} {sz n:Nat} {xs:List Value} {y:HA} {H:List HA} [h:H3 v T sz n xs H]:H3 v T sz n xs (y::H):=⟨List.mem_cons_of_mem _ h.mem⟩
class Hs(b:Nat)(T:outParam TypeId)(cs:outParam (List Value))(F:outParam (List HA))(H:List HA):Prop where
 pick:ADR H (row b T cs) F
instance AVQ{b:Nat}{T:TypeId}{cs:List Value}{F:List HA}:Hs b T cs F (row b T cs::F):=⟨MI⟩
instance(priority:=low) pickRow_tail {b:Nat} {T:TypeId} {cs:List Value} {y:HA} {F H:List HA} [h:Hs b T cs F H]:Hs b T cs (y::F) (y::H):=⟨MJ h.pick⟩
class Dx(v:Value)(T:outParam TypeId)(sz n:outParam Nat)(xs:outParam (List Value))(F:outParam (List HA))(H:List HA):Prop where
 pick:ADR H (Ww v T sz n xs) F
instance ATe{v:Value}{T:TypeId}{sz n:Nat}{xs:List Value}{F:List HA}:Dx v T sz n xs F (Ww v T sz n xs::F):=⟨MI⟩
instance(priority:=low) pickVec_tail {v:Value} {T:TypeId} {sz n:Nat} {xs:List Value} {y:HA} {F H:List HA} [h:Dx v T sz n xs F H]:Dx v T sz n xs (y::F) (y::H):=⟨MJ h.pick⟩
class Y4(x:HA)(F:outParam (List HA))(H:List HA):Prop where
 pick:ADR H x F
instance AZo{x:HA}{F:List HA}:Y4 x F (x::F):=⟨MI⟩
instance(priority:=low) pickI_tail {x y:HA} {F H:List HA} [h:Y4 x F H]:Y4 x (y::F) (y::H):=⟨MJ h.pick⟩
class Fs(H H':List HA):Prop where
 sub:Pw H H'
instance AbJ{H:List HA}:Fs H H:=⟨X9 H⟩
instance(priority:=low) subC_cons {x:HA} {H F H':List HA} [p:Y4 x F H] [h:Fs F H']:Fs H (x::H'):=⟨YO p.pick h.sub⟩
instance AfD{H:List HA}:Fs H []:=⟨⟨H,by simp⟩⟩
instance(priority:=low) subC_drop {x:HA} {H H':List HA} [h:Fs H H']:Fs (x::H) H':=⟨AKt h.sub⟩
theorem AD{w0:World}{I:AQ}{H H':List HA}[h:Fs H H'](hw:St w0 I H w):St w0 I H' w:=hw.sub h.sub

section ops
variable {C:Cx} {E:Cq} {I:AQ} {H:List HA} {D:List Deferred} {Q:Exit->Act->World->Prop} {o:Oper}

def LN(C:Cx)(E:Cq)(I:AQ)(H:List HA)(o:Oper)(Post:Value->AQ->List HA->Prop):Prop:=
 ∀(a:Act) (w:World),Jv E C.n a.tmps->St C.w0 I H w->∀(K:Act->World->Prop) (Q:Exit->Act->World->Prop),
  (∀v I' H' w',Post v I' H'->St C.w0 I' H' w'->K (a.put o.dst v) w')->o.wpIn (WF C.r) 0 C.P a w K Q

theorem l_e{ops:Array Oper}{Post:Value->AQ->List HA->Prop}(hg:o.guard=none)(hd:o.dst=some d)(hn:Nat.blt d C.n=true)
  (he:LN C E I H o Post) (k:∀v I' H',Post v I' H'->L C ops rest ((d,v)::E) I' H' D Q):L C ops (o::rest) E I H D Q:=by
 intro a w hs MO hw
 refine wpListIn_plain hg fun K hK=>he a w hs hw K Q fun v I' H' w' hp hw'=>hK _ _ ?_
 rw[hd]
 exact k v I' H' hp _ _ (hs.put (by simpa using hn) v) (by simpa[Act.put]using MO) hw'
theorem Agp{ops:Array Oper}{Post:Value->AQ->List HA->Prop}(hg:o.guard=none)(hd:o.dst=none)
  (he:LN C E I H o Post) (k:∀v I' H',Post v I' H'->L C ops rest E I' H' D Q):L C ops (o::rest) E I H D Q:=by
 intro a w hs MO hw
 refine wpListIn_plain hg fun K hK=>he a w hs hw K Q fun v I' H' w' hp hw'=>hK _ _ ?_
 rw[hd]
 exact k v I' H' hp _ _ hs MO hw'

theorem AHI{x:Operand}{t T:TypeId}{d:TypeDesc}{b:Nat}{u:Value}(ho:o.op=.load t x)(ht:C.P.underlying t=some d)(hd:Nw d=true)
  (hx:ev E x=some (.pointer (some ⟨b,off,none⟩))) [hm:E2 b T cs H] (hu:cs[off]? =some u):BI C E I H o u:=AGg ho ht hd hx (PO hm.mem hu)
theorem M0{x:Operand}{t T:TypeId}{d:TypeDesc}{n j:Nat}{u:Value}(ho:o.op=.load t x)(ht:C.P.underlying t=some d)(hd:Nw d=true)
  (hx:ev E x=some (.pointer (some ⟨(Eb v).block,(Eb v).off+j,none⟩))) [hm:H3 v T sz n xs H] (hu:xs[j]? =some u):BI C E I H o u:=AGg ho ht hd hx (AMW hm.mem hu)
theorem A7{x:Operand}{t T:TypeId}{b n:Nat}(ho:o.op=.load t x)(ht:C.P.underlying t=some (.struct fs))(hi:TI C.P t n bytes z)
  (hx:ev E x=some (.pointer (some ⟨b,off,none⟩))) [hm:E2 b T cs H] (hu:(cs.drop off).take n=us) (hn:us.length=n):BI C E I H o (.agg us.toArray):=Br ho ht hi hn hx (AAL hm.mem hu)
theorem IP{x:Operand}{t:TypeId}{n:Nat}(ho:o.op=.call {callee:=.builtin .len,args:=#[x],argTypes:=#[t]})(ht:C.P.underlying t=some (.slice e))(hx:ev E x=some v)
  [hm:H3 v te sz n xs H]:BI C E I H o (.int .i64 (n:Int)):=AKY ho ht hx hm.mem
theorem HX{x i:Operand}{t:TypeId}{k:IntKind}{m:Int}{n:Nat}(ho:o.op=.indexAddr t x i)(ht:C.P.underlying t=some (.slice e))(hi:TI C.P e sz bytes z)
  (hx:ev E x=some v) (hix:ev E i=some (.int k m)) [hm:H3 v te sz' n xs H] (h0:0<=m/\m<n):
  BI C E I H o (.pointer (some ⟨(Eb v).block,(Eb v).off+m.toNat * sz,none⟩)):=Tw ho ht hi hx hix hm.mem h0

theorem KQ{t:TypeId}{c:Array Value}:(newRow t c).run P w=.ok ⟨w.heap.size,0,none⟩ (w.alloc (.cells c t)):=by
 unfold newRow
 rfl

theorem UF{x:Value->Value}{T:TypeId}(hp:OU o.op=true)
  (hr:∀(a:Act) (w:World),Jv E C.n a.tmps->St C.w0 I H w->(execOp a.eval o).run C.P w=.ok (.value (x (.pointer (some ⟨w.heap.size,0,none⟩)))) (w.alloc (.cells cs.toArray T))):
  LN C E I H o (fun v I' H'=> ∃b,v=x (.pointer (some ⟨b,0,none⟩))/\I=I'/\H'=row b T cs::H):=
 fun a w hs hw K Q hk=>D8 hp (hr a w hs hw) (hk _ _ _ _ ⟨w.heap.size,O,O,O⟩ (hw.new _))

theorem I1{x:Operand}{T:TypeId}(ho:o.op=.box T x)(hx:ev E x=some v)(hc:v.cells=cs.toArray):
  LN C E I H o (fun v I' H'=> ∃b,v=.pointer (some ⟨b,0,none⟩)/\I=I'/\H'=row b T cs::H):=
 UF (x:=id) (by rw[ho];rfl) fun a w hs _=>by
  simp only[execOp,ho,hs.ev hx,Instr.box,newVar,hc]
  simp[KQ]
theorem Zu{T:TypeId}{n:Nat}(ho:o.op=.alloc T)(hi:TI C.P T n bytes z)(hc:z.cells=cs.toArray):
  LN C E I H o (fun v I' H'=> ∃b,v=.pointer (some ⟨b,0,none⟩)/\I=I'/\H'=row b T cs::H):=
 UF (x:=id) (by rw[ho];rfl) fun a w hs _=>by
  simp only[execOp,ho,Instr.alloc]
  simp[hi.zero,newVar,hc,KQ]

theorem APs{z c:Array Value}(h:c.size=z.size):Instr.fill (fun i=>some (i * c.size,c.size)) z [(0,.agg c)]=some c:=by
 simp only[Instr.fill,Value.cells,Nat.zero_mul,Nat.zero_add,ne_eq,not_true_eq_false,h,Nat.lt_irrefl,gt_iff_lt]
 have key:∀(l:List Value) (k:Nat) (A:Array Value),k+l.length=A.size->(l.zipIdx k).foldl (fun cs (x:Value×Nat)=>cs.setIfInBounds x.2 x.1) A=(A.toList.take k++l).toArray:=by
  intro l
  induction l with
  |nil=>
   intro k A hk
   simp only[Bb,Nat.add_zero]at hk
   subst hk
   rw[<-Array.length_toList,Gb]
   simp
  |cons v l ih=>
   intro k A hk
   simp only[CD]at hk
   rw[List.zipIdx_cons,Qz,ih (k+1) _ (by simp;omega)]
   congr 1
   simp only[Array.toList_setIfInBounds]
   rw[List.take_set,List.set_eq_take_append_cons_drop,AI (by simp;omega),List.take_take,Nat.min_eq_left (by omega)]
   simp
 have:=key c.toList 0 z (by simp[h])
 rw[<-Array.foldl_toList]
 simpa using this

theorem BD{x:Operand}{t:TypeId}{n:Nat}(ho:o.op=.buildSlice t 1 #[(0,x)])(ht:C.P.underlying t=some (.slice e))(hi:TI C.P e n bytes z)(hn:Nat.ble 1 n&&Nat.ble n 1000=true)(hz:z.cells.size=n)
  (hx:ev E x=some v) (hc:v.cells=cs.toArray) (hl:cs.length=n):
  LN C E I H o (fun v I' H'=> ∃b,v=.slice (some ⟨b,0,none⟩) 1 1/\I=I'/\H'=row b e cs::H):=by
 refine UF (x:=fun p=>match p with| .pointer a=>.slice a 1 1|_=>p) (by rw[ho];rfl) fun a w hs _=>?_
 have hn:1<=n/\n<=1000:=by simpa using hn
 have hf:Instr.fill (fun i=>some (i * n,n)) ((Array.range (1 * n)).map (z.cells[· % z.cells.size]!)) [(0,v)]=some cs.toArray:=by
  have h1:=APs (z:=(Array.range (1 * n)).map (z.cells[· % z.cells.size]!)) (c:=cs.toArray) (by simp[hl])
  have h2:cs.toArray.size=n:=by simpa using hl
  rw[h2]at h1
  rw[<-h1]
  simp only[Instr.fill,hc]
  rfl
 simp only[execOp,ho,Instr.buildSlice]
 simp[run_underlying ht,hi.sizeOf,hi.zero,show ¬(16777216<n)from by omega,show ¬n=0 from by omega,hs.ev hx]
 simp only[Nat.one_mul]at hf
 rw[hf]
 simp[KQ]

theorem Pv{b:Nat}{T:TypeId}(h1:v.oneCell'=true)(hw:w.heap[b]? =some (.cells cs.toArray T (0,0)))(Eg:off<cs.length):
  (store ⟨b,off,none⟩ v).run P w=.ok () (w.setCell ⟨b,off,none⟩ v):=by
 have LD:w.cell? ⟨b,off,none⟩=some cs[off]:=by
  unfold World.cell?
  simp[hw,Eg]
 have hfz:w.frozen? ⟨b,off,none⟩=false:=by
  unfold World.frozen?
  simp[hw]
 rw[run_store P w _ v .plain h1]
 simp[LD,hfz]
theorem IT{b:Nat}{T:TypeId}(hw:w.heap[b]? =some (.cells cs.toArray T (0,0))):
  (w.setCell ⟨b,off,none⟩ v).heap[b]? =some (.cells (cs.set off v).toArray T (0,0)):=by
 simp[World.setCell,Array.getElem?_modify,hw]
theorem AXf{w0:World}{F:List HA}{b:Nat}{T:TypeId}(v:Value)(h:St w0 I (row b T cs::F) w):St w0 I (row b T (cs.set off v)::F) (w.setCell ⟨b,off,none⟩ v):=by
 have hb:w.heap[b]? =some (.cells cs.toArray T (0,0)):=h.sat _ (CQ)
 refine h.turn O O O (by simp) (fun k _ hk=>Below.heap_setCell _ _ _ _ (fun e=>hk (by rw[e];rfl))) ?_ (.inl O)
 exact IT hb

theorem AVT{x:Operand}{t T:TypeId}{b:Nat}{F:List HA}(ho:o.op=.store t p x)(hi:TI C.P t 1 bytes z)
  (hp:ev E p=some (.pointer (some ⟨b,off,none⟩))) (hx:ev E x=some v) (h1:JS v) [hpk:Hs b T cs F H] (Eg:Nat.blt off cs.length=true):
  LN C E I H o (fun _ I' H'=>I=I'/\H'=row b T (cs.set off v)::F):=by
 intro a w hs hw K Q hk
 have hw':=hw.perm hpk.pick
 have hb:w.heap[b]? =some (.cells cs.toArray T (0,0)):=hw'.sat _ (CQ)
 refine JW (by rw[ho];rfl) ?_ (hk undef I _ _ ⟨O,O⟩ (AXf v hw'))
 simp only[execOp,ho,hs.ev hp,hs.ev hx,Instr.storeAt,Instr.sureAddr,storeVar,h1.1]
 simp[hi.sizeOf,storeCells,Addr.add_zero',Pv h1.2 hb (by simpa using Eg)]

theorem Kf{P:Program}{T:TypeId}{b off:Nat}:∀(us:List Value) (i:Nat) (cs:List Value) (w:World),(∀u∈us,u.oneCell'=true)->off+i+us.length<=cs.length->w.heap[b]? =some (.cells cs.toArray T (0,0))→
  ∃w',(storeCells ⟨b,off,none⟩ us i).run P w=.ok () w'/\w'.heap[b]? =some (.cells (cs.take (off+i)++us++cs.drop (off+i+us.length)).toArray T (0,0))/\w'.os=w.os/\w'.tape=w.tape/\w'.output=w.output/\w'.heap.size=w.heap.size/\(∀k,k≠b->w'.heap[k]? =w.heap[k]?)
 | [],i,cs,w,_,_,hw=>⟨w,by simp[storeCells],by simpa using hw,O,O,O,O,fun _ _=>rfl⟩
 |u::us,i,cs,w,h1,hl,hw=>by
  simp only[CD]at hl
  have hs:=Pv (P:=P) (off:=off+i) (h1 u (CQ)) hw (by omega)
  obtain⟨w',r1,r2,r3,r4,r5,r6,r7⟩:=Kf (P:=P) (T:=T) (b:=b) (off:=off) us (i+1) (cs.set (off+i) u) (w.setCell ⟨b,off+i,none⟩ u) (fun x hx=>h1 x (List.mem_cons_of_mem _ hx)) (by rw[Il];omega) (IT hw)
  refine⟨w',?_,?_,r3,r4,r5,by rw[r6];simp,fun k hk=>(r7 k hk).trans (Below.heap_setCell _ _ _ _ hk)⟩
  ·unfold storeCells
   rw[Sem.run_bind,Addr.add_lit,hs]
   simpa using r1
  rw[r2]
  congr 3
  rw[show off+(i+1)=off+i+1 by omega,List.take_set,List.take_succ_eq_append_getElem (by omega),List.set_append_right _ _ (by simp;omega)]
  simp only[BL,CD]
  rw[show off+i-min (off+i) cs.length=0 by omega]
  simp only[DS,Ka,NA,PK]
  rw[List.drop_set_of_lt (by omega)]
  congr 4
  omega

theorem K6{x:Operand}{t T:TypeId}{b n:Nat}{F:List HA}(ho:o.op=.store t p x)(hi:TI C.P t n bytes z)
  (hp:ev E p=some (.pointer (some ⟨b,off,none⟩))) (hx:ev E x=some (.agg us.toArray)) (hn:us.length=n) (h1:∀u∈us,u.oneCell'=true) [hpk:Hs b T cs F H] (Eg:Nat.ble (off+n) cs.length=true):
  LN C E I H o (fun _ I' H'=>I=I'/\H'=row b T (cs.take off++us++cs.drop (off+n))::F):=by
 intro a w hs hw K Q hk
 have hw':=hw.perm hpk.pick
 have hb:w.heap[b]? =some (.cells cs.toArray T (0,0)):=hw'.sat _ (CQ)
 obtain⟨w',r1,r2,r3,r4,r5,r6,r7⟩:=Kf (P:=C.P) (off:=off) us 0 cs w h1 (by simp at Eg;omega) hb
 simp only[Nat.add_zero,hn]at r2
 refine JW (w':=w') (by rw[ho];rfl) ?_ (hk undef I _ _ ⟨O,O⟩ (hw'.turn r3 r4 r5 (by omega) (fun k _ hk=>r7 k (fun e=>hk (by rw[e];rfl))) r2 (.inl O)))
 simp only[execOp,ho,hs.ev hp,hs.ev hx,Instr.storeAt,Instr.sureAddr,storeVar,Value.cells]
 subst hn
 simp[hi.sizeOf,r1]

theorem Nl{x:Operand}{t T:TypeId}{b n:Nat}{F:List HA}(ho:o.op=.store t p x)(hi:TI C.P t n bytes z)
  (hp:ev E p=some (.pointer (some ⟨b,0,none⟩))) (hx:ev E x=some (.agg us.toArray)) (hn:us.length=n) (h1:∀u∈us,u.oneCell'=true) [hpk:Hs b T cs F H] (Eg:cs.length=n):
  LN C E I H o (fun _ I' H'=>I=I'/\H'=row b T us::F):=by
 have:=K6 (C:=C) (E:=E) (I:=I) (H:=H) (off:=0) ho hi hp hx hn h1 (by simp[Eg])
 intro a w hs hw K Q hk
 refine this a w hs hw K Q fun v I' H' w' hp' hw'=>hk v I' H' w' ⟨hp'.1,?_⟩ hw'
 rw[hp'.2]
 simp[E4 (Nat.le_of_eq Eg)]

theorem L4{T:TypeId}{n:Nat}:IV v T sz n xs (Ao w)↔w.ownsRow 0 T sz v n xs:=by
 constructor
 ·rintro⟨h1,h2|⟨g,cap,cur,h2,h3,h4⟩⟩
  ·exact⟨h1,.inl h2⟩
  exact⟨h1,.inr ⟨g,cap,cur,h2,Aw _,h3,h4⟩⟩
 rintro⟨h1,h2|⟨g,cap,cur,h2,_,h3,h4⟩⟩
 ·exact⟨h1,.inl h2⟩
 exact⟨h1,.inr ⟨g,cap,cur,h2,h3,h4⟩⟩

theorem V6{x y:Operand}{t e':TypeId}{n m c b:Nat}{news:List Value}{F:List HA}(ho:o.op=.call {callee:=.builtin .append,args:=#[x,y],argTypes:=#[t,t]})
  (ht:C.P.underlying t=some (.slice e)) (hi:TI C.P e sz bytes z) (hz:z.cells.size=sz) (MG:Nat.blt 0 sz=true)
  (hx:ev E x=some v) (hy:ev E y=some (.slice (some ⟨b,off,none⟩) m c)) [hpk:Dx v e' sz n xs F H] (hee:e=e')
  (hr:Rds C.w0 I H b off news) (hl:news.length=m * sz) (h1:∀u∈news,u.oneCell'=true) (MN:n+m<=maxLen) (hby:(n+m) * bytes<=140737488355328):
  LN C E I H o (fun v' I' H'=>I=I'/\H'=Ww v' e' sz (n+m) (xs++news)::F):=by
 subst hee
 intro a w hs hw K Q hk
 have hw':=hw.perm hpk.pick
 have hv:IV v e sz n xs (Ao w):=hw'.sat _ (CQ)
 obtain⟨i,M6,Ym,EG,N2⟩:=hi
 obtain⟨v',w',GY,ho',hg,_,hob⟩:=run_append_own_at (P:=C.P) w 0 t o.type e i z sz bytes ht M6 N2 Ym EG hz (by simpa using MG) v n xs (L4.1 hv) ⟨b,off,none⟩ m c news hl
  (fun j u hj=>by rw[Addr.add_lit];exact hr j u hj w hw) h1 MN hby (Aw _)
 refine D8 (v:=v') (w':=w') (by rw[ho];rfl) ?_ (hk v' I _ w' ⟨O,O⟩ (hw'.turn (x:=Ww v e sz n xs) hg.os hg.tape hg.output hg.size (fun k hk Dk=>hg.block k hk Dk) (L4.2 ho') ?_))
 ·simp only[execOp,ho,resolve]
  simp[hs.ev hx,hs.ev hy,invoke,builtin,GY]
 rcases hob with e|e
 ·exact .inl e
 exact .inr ⟨_,e,A5 _⟩

theorem KB{w0:World}{T:TypeId}{n:Nat}{F:List HA}(h:St w0 I (Ww v T sz n xss.flatten::F) w)(hn:xss.length=n)(hu:∀cs∈xss,cs.length=sz):
  ∃J,Le I J/\St w0 J F w/\Sl J sz v xss:=by
 have hv:IV v T sz n xss.flatten (Ao w):=h.sat _ (CQ)
 have Ajd:=h.dis _ (CQ)
 obtain⟨hl,hs⟩:=hv
 rcases hs with ⟨rfl,rfl⟩|⟨g,cap,cur,rfl,hg,An,A6,BJ,Bj⟩
 ·have:xss=[]:=List.eq_nil_of_length_eq_zero hn
  subst this
  exact⟨I,Le.refl _,h.tail,E3 (fun _ h=>by cases h)⟩
 have hIg:I g=none:=Ajd g O
 let J:AQ:=fun b=>if b=g then some (.cells cur T (0,0))else I b
 have CH:Le I J:=fun b o hb=>by
  show(if b=g then _ else I b)=_
  split
  ·rename_i e;subst e;rw[hIg]at hb;cases hb
  exact hb
 refine⟨J,CH,?_,⟨some ⟨g,0,none⟩,cap,by rw[hn],by omega,(fun _ a ha=>by cases ha;rfl),(fun _ h=>by cases h)⟩,?_⟩
 ·refine{h.tail with imm:=fun b o hb=>?_,dis:=fun y hy b hb=>?_}
  ·by_cases e:b=g
   ·subst e
    have:o=.cells cur T (0,0):=by
     have:(if b=b then some (Obj.cells cur T (0,0))else I b)=some o:=hb
     simpa using this.symm
    subst this
    exact hg
   exact h.imm b o (by have:(if b=g then some (Obj.cells cur T (0,0))else I b)=some o:=hb;rwa [AB e]at this)
  show(if b=g then _ else I b)=none
  by_cases e:b=g
  ·subst e
   exfalso
   have NI:=h.sep
   unfold T3 at NI
   rw[List.filterMap_cons]at NI
   exact(List.nodup_cons.1 NI).1 (List.mem_filterMap.2 ⟨y,hy,hb⟩)
  rw[AB e]
  exact h.tail.dis y hy b hb
 intro i j cs u hi hj
 refine⟨cur,T,(0,0),by show(if g=g then _ else _)=_;rw[AI O],?_⟩
 show cur[0+i * sz+j]? =some u
 have NM:∀(l:List (List Value)) (i:Nat) (cs:List Value),(∀c∈l,c.length=sz)->l[i]? =some cs->cs[j]? =some u->l.flatten[i * sz+j]? =some u:=by
  intro l
  induction l with
  |nil=>intro i cs _ hi;cases hi
  |cons c l ih=>
   intro i cs hu hi hj
   have hc:=hu c (CQ)
   cases i with
   |zero=>
    simp only[List.getElem?_cons_zero,Xq]at hi
    subst hi
    have Eg:=(List.getElem?_eq_some_iff.1 hj).1
    simp only[List.flatten_cons,Nat.zero_mul,Nat.zero_add]
    rw[List.getElem?_append_left Eg]
    exact hj
   |succ i=>
    simp only[List.getElem?_cons_succ]at hi
    simp only[List.flatten_cons]
    rw[Nat.add_mul,Nat.one_mul,List.getElem?_append_right (by omega)]
    rw[show i * sz+sz+j-c.length=i * sz+j by omega]
    exact ih i cs (fun x hx=>hu x (List.mem_cons_of_mem _ hx)) hi hj
 have h2:=NM xss i cs hu hi hj
 rw[<-Bj,List.getElem?_take]at h2
 split at h2
 ·simpa using h2
 cases h2
end ops

def AAj(Q:Exit->Act->World->Prop):Prop:=∀c a w d v,Q (.panic c) (a.put (some d) v) w->Q (.panic c) a w

section
variable {C:Cx} {ops:Array Oper} {X Z:List Nat} {Q:Exit->Act->World->Prop} {S0:World->Prop}

def wa(C:Cx)(ops:Array Oper)(X Z:List Nat)(S0:World->Prop)(Q:Exit->Act->World->Prop):Nat->Array Bool->Act->World->Prop
 |0,listed,a,w=>Region.ready .any ops listed=[]/\∀w2,Below w.heap.size w w2->Q .normal a w2
 |fuel+1,listed,a,w=>∀w2,Below w.heap.size w w2→
  (Region.ready .any ops listed=[]->Q .normal a w2)∧
  ∀i∈Region.ready .any ops listed,wpOpIn (WF C.r) 0 C.P ops Q i (fun a' w'=>(i ∉ X->Below w2.heap.size w2 w')/\(i ∉ Z->S0 w2->S0 w')/\wa C ops X Z S0 Q fuel (listed.setIfInBounds i true) a' w') a w2

theorem DX{a b c:World}(h:Below a.heap.size a b)(k:Below b.heap.size b c):Below a.heap.size a c:=h.trans (k.mono h.size)

theorem Lw:∀(fuel:Nat) (listed:Array Bool) (a:Act) (w w':World),Below w.heap.size w w'->wa C ops X Z S0 Q fuel listed a w->wa C ops X Z S0 Q fuel listed a w'
 |0,_,_,_,_,hb,h=>⟨h.1,fun w2 h2=>h.2 w2 (DX hb h2)⟩
 |_+1,_,_,_,_,hb,h=>fun w2 h2=>h w2 (DX hb h2)

theorem AGQ:∀(fuel:Nat) (listed:Array Bool) (a:Act) (w:World),wa C ops X Z S0 Q fuel listed a w->wpAnyIn (WF C.r) 0 C.P .any ops Q fuel listed a w
 |0,_,_,w,h=>⟨h.1,h.2 w (Below.refl _ _)⟩
 |fuel+1,_,_,w,h=>⟨(h w (Below.refl _ _)).1,fun i hi=>wpOpIn_mono (fun a' w' h'=>AGQ fuel _ a' w' h'.2.2) ((h w (Below.refl _ _)).2 i hi)⟩

def Hg(ops:Array Oper):Bool:=ops.all fun o=>match o.op with| .defer _=>false| .select .. =>false|_=>true
theorem Fm(h:Hg ops=true){j:Nat}{o:Oper}(ho:ops[j]? =some o):(∀c,o.op≠.defer c)/\(∀cs b,o.op≠.select cs b):=by
 have:=Array.all_eq_true_iff_forall_mem.1 h o (Array.mem_of_getElem? ho)
 constructor
 ·intro c heq;simp[heq]at this
 intro cs b heq;simp[heq]at this

def Yd(C:Cx)(ops:Array Oper)(o:Oper)(v:Value)(a:Act)(w:World):Prop:=
 (Region.wanted o (yielded ops a.tmps)=true/\∀w2,Below w.heap.size w w2->qAt C o a.eval w2 v)\/(Region.wanted o (yielded ops a.tmps)=false/\v=undef)

theorem ATi{o:Oper}{dst:Option Tmp}{u:Value}(hs:∀cs b,o.op≠.select cs b)(h:∀d,dst=some d->d ∉ o.looksAt ops):
  qAt C o (a.put dst u).eval w v↔qAt C o a.eval w v:=by
 unfold qAt
 rw[execOp_put (ops:=ops) o hs a dst u h]

theorem U7{j:Nat}(hj:ops[j]? =some oj)(hap:oi.apart ops oj=true)(hpj:(∀c,oj.op≠.defer c)/\(∀cs b,oj.op≠.select cs b))
  (hQ:AAj Q) {K:Act->World->Prop} {a:Act} {w:World} (h:wpOpIn (WF C.r) 0 C.P ops Q j K (a.put oi.dst v) w):
  wpOpIn (WF C.r) 0 C.P ops Q j (fun a' w'=>K (a'.put oi.dst v) w'/\∃u,a'.tmps=(a.put oj.dst u).tmps) a w:=by
 obtain⟨h1,h2,h3⟩:=Oper.apart_spec hap
 unfold wpOpIn at *
 simp only[hj]at *
 rw[wanted_put oj a oi.dst v h1]at h
 have ADW:∀u,(a.put oi.dst v).put oj.dst u=(a.put oj.dst u).put oi.dst v:=fun u=>Act.put_comm a v u h2
 have hQ':∀c w',Q (.panic c) (a.put oi.dst v) w'->Q (.panic c) a w':=fun c w' hq=>by
  cases hd:oi.dst with
  |none=>rw[hd]at hq;exact hq
  |some d=>rw[hd]at hq;exact hQ c a w' d v hq
 split
 ·rename_i hw
  simp only[hw,if_true]at h
  unfold Oper.wpIn at *
  refine⟨fun _ _=>trivial,?_⟩
  have h:=h.2
  rw[Oper.semAt_eq _ _ _ hpj.1]at h ⊢
  rw[execOp_put oj hpj.2 a oi.dst v h1]at h
  cases hr:(execOp a.eval oj).run C.P w with
  |halt x w'=>
   rw[hr]at h
   cases x<;>simp only[Oper.uponIn]at h ⊢ <;>first |exact hQ' _ _ h|exact h
  |ok x w'=>
   rw[hr]at h
   cases x<;>simp only[Oper.uponIn]at h ⊢ <;>
    first
     |exact⟨by rw[<-ADW];exact h,_,O⟩
     |exact⟨h.1,CallsIn.mono h.2 (fun e w'' he=>by cases e<;>first |exact⟨by rw[<-ADW];exact he,_,rfl⟩|exact hQ' _ _ he|exact he)⟩
     |exact⟨h.1,RowsIn.mono h.2 (fun _ _ he=>⟨by rw[<-ADW];exact he,_,O⟩)⟩
     |exact⟨h.1,RoundIn.mono h.2 (fun e w'' he=>by cases e<;>first |exact⟨by rw[<-ADW];exact he,_,rfl⟩|exact hQ' _ _ he|exact he)⟩
     |exact⟨by rw[<-Act.put_comm _ v undef h2,<-Act.put_defers];exact h,undef,by cases oj.dst<;>rfl⟩
     |exact h.elim
 rename_i hw
 simp only[hw]at h
 exact⟨fun _ _=>trivial,by rw[<-ADW];exact h.2,_,O⟩

theorem My{b:Act}(h:a.tmps=b.tmps):a.eval=b.eval:=by
 funext x
 cases x<;>simp[Act.eval,h]

theorem Yd.next{o:Oper}{u:Value}{a':Act}(hs:∀cs b,o.op≠.select cs b)(hy:Yd C ops o v a w)(ha:a'.tmps=(a.put oj.dst u).tmps)(hap:o.apart ops oj=true)
  (hw:∀w2,Below w'.heap.size w' w2->Region.wanted o (yielded ops a.tmps)=true->qAt C o a.eval w2 v):Yd C ops o v a' w':=by
 obtain⟨_,_,h3⟩:=Oper.apart_spec hap
 have e1:Region.wanted o (yielded ops a'.tmps)=Region.wanted o (yielded ops a.tmps):=by rw[ha];exact wanted_put o a oj.dst u h3
 have e2:a'.eval=(a.put oj.dst u).eval:=My ha
 rcases hy with ⟨h1,_⟩|⟨h1,h2⟩
 ·exact .inl ⟨by rw[e1];exact h1,fun w2 hb=>by rw[e2];exact(ATi hs h3).2 (hw w2 hb h1)⟩
 exact .inr ⟨by rw[e1];exact h1,h2⟩

theorem Yd.below{o:Oper}(hy:Yd C ops o v a w)(hb:Below w.heap.size w w'):Yd C ops o v a w':=by
 rcases hy with ⟨h1,h2⟩|h
 ·exact .inl ⟨h1,fun w2 h=>h2 w2 (DX hb h)⟩
 exact .inr h

theorem Yd.wpOp{i:Nat}{o:Oper}(hi:ops[i]? =some o)(hy:Yd C ops o v a w){K:Act->World->Prop}(h:∀w',Below w.heap.size w w'->K (a.put o.dst v) w'):
  wpOpIn (WF C.r) 0 C.P ops Q i K a w:=by
 unfold wpOpIn
 simp only[hi]
 rcases hy with ⟨h1,h2⟩|⟨h1,rfl⟩
 ·simp only[h1,if_true]
  exact(h2 w (Below.refl _ _)).wpIn h
 simp only[h1,RZ,O9]
 exact⟨fun _ _=>trivial,h w (Below.refl _ _)⟩

def Lb(ops:Array Oper)(listed:Array Bool):Prop:=∀(j:Nat) (oj:Oper),ops[j]? =some oj->listed.getD j false=true->∀e∈oj.after,Region.binds .any e=true->listed.getD e.on false=true
theorem Lb.set{listed:Array Bool}{i:Nat}(h:Lb ops listed)(hi:i∈Region.ready .any ops listed):Lb ops (listed.setIfInBounds i true):=by
 obtain⟨_,oi,hoi,Dt⟩:=mem_ready.1 hi
 intro j oj hj hl e he hb
 by_cases hij:i=j
 ·subst hij
  have:oj=oi:=O3 (hj.symm.trans hoi)
  subst this
  exact getD_set_true (Dt e he hb)
 rw[getD_set_ne false hij]at hl
 exact getD_set_true (h j oj hj hl e he hb)

def Ys(ops:Array Oper):Nat->Nat->Nat->Bool
 |0,_,_=>false
 |f+1,j,i=>match ops[j]? with
  |none=>false
  |some oj=>oj.after.any (fun e=>Region.binds .any e&&e.on==i)||oj.after.any (fun e=>Region.binds .any e&&Ys ops f e.on i)
theorem SN{i:Nat}{listed:Array Bool}(hc:Lb ops listed)(hi:listed.getD i false=false):∀(f j:Nat),Ys ops f j i=true->j ∉ Region.ready .any ops listed/\listed.getD j false=false
 |0,_,h=>by cases h
 |f+1,j,h=>by
  unfold Ys at h
  split at h
  ·cases h
  rename_i oj hj
  have key:∃e∈oj.after,Region.binds .any e=true/\listed.getD e.on false=false:=by
   rw[C4]at h
   rcases h with h|h
   ·obtain⟨e,he,hb⟩:=Array.any_eq_true'.1 h
    simp only[Ay,beq_iff_eq]at hb
    exact⟨e,he,hb.1,by rw[hb.2];exact hi⟩
   obtain⟨e,he,hb⟩:=Array.any_eq_true'.1 h
   simp only[Ay]at hb
   exact⟨e,he,hb.1,(SN hc hi f e.on hb.2).2⟩
  obtain⟨e,he,hb,hl⟩:=key
  refine⟨fun hr=>?_,?_⟩
  ·obtain⟨_,o',ho',Dt⟩:=mem_ready.1 hr
   have:o'=oj:=O3 (ho'.symm.trans hj)
   subst this
   have:=Dt e he hb
   rw[hl]at this
   cases this
  cases W7:listed.getD j false with
  |false=>rfl
  |true=>
   have:=hc j oj hj W7 e he hb
   rw[hl]at this
   cases this

theorem LX{listed:Array Bool}{i:Nat}(h:listed.getD i true=false):listed.getD i false=false:=by
 rcases Nat.lt_or_ge i listed.size with h'|h'
 ·simp[h']at h ⊢;exact h
 simp[Array.getElem?_eq_none h']at h
theorem ABX(EU:Hg ops=true)(hQ:AAj Q){i:Nat}(hi:ops[i]? =some oi)
  (hX:∀j∈X,∃f,Ys ops f j i=true) (hS:∀w w',S0 w->Below w.heap.size w w'->S0 w'):
  ∀(fuel:Nat) (listed:Array Bool) (a:Act) (w:World),Lb ops listed→
   (∀j oj,ops[j]? =some oj->j≠i->listed.getD j true=false->(∀e∈oj.after,Region.binds .any e=true->e.on≠i)->oi.apart ops oj=true)→
   i∈Region.ready .any ops listed->Yd C ops oi v a w→
   wa C ops X Z S0 Q fuel (listed.setIfInBounds i true) (a.put oi.dst v) w->wa C ops X Z S0 Q (fuel+1) listed a w:=by
 intro fuel
 induction fuel with
 |zero=>
  intro listed a w FW _ hr hy H w2 hb
  refine⟨fun h=>(by rw[h]at hr;cases hr),fun j hj=>?_⟩
  by_cases TE:j=i
  ·subst TE
   exact(hy.below hb).wpOp hi fun w' hb'=>⟨fun _=>hb',fun _ h0=>hS _ _ h0 hb',Lw _ _ _ _ _ (DX hb hb') H⟩
  have:=ready_mono hj TE
  rw[H.1]at this
  cases this
 |succ fuel ih=>
  intro listed a w FW Tb hr hy H w2 hb
  refine⟨fun h=>(by rw[h]at hr;cases hr),fun j hj=>?_⟩
  by_cases TE:j=i
  ·subst TE
   exact(hy.below hb).wpOp hi fun w' hb'=>⟨fun _=>hb',fun _ h0=>hS _ _ h0 hb',Lw _ _ _ _ _ (DX hb hb') H⟩
  have h1:=(H w2 hb).2 j (ready_mono hj TE)
  obtain⟨ABU,oj,hoj,Dt⟩:=mem_ready.1 hj
  have AQJ:=(mem_ready.1 hr).1
  have V0:listed.getD i false=false:=LX AQJ
  have AMa:∀e∈oj.after,Region.binds .any e=true->e.on≠i:=fun e he hb heq=>by
   have h1:=Dt e he hb
   rw[heq,V0]at h1
   cases h1
  have hap:=Tb j oj hoj TE ABU AMa
  have h2:=U7 hoj hap (Fm EU hoj) hQ h1
  have Vz:∀k ok,ops[k]? =some ok->k≠i->(listed.setIfInBounds j true).getD k true=false→
    (∀e∈ok.after,Region.binds .any e=true->e.on≠i)->oi.apart ops ok=true:=fun k ok hk hki Tz Cz=>by
   refine Tb k ok hk hki ?_ Cz
   by_cases hjk:j=k
   ·subst hjk;exact ABU
   rw[getD_set_ne true hjk]at Tz;exact Tz
  refine wpOpIn_mono (fun a' w' h3=>?_) h2
  obtain⟨⟨Rn,PJ,Td⟩,u,hu⟩:=h3
  refine⟨Rn,PJ,ih (listed.setIfInBounds j true) a' w' (FW.set hj) Vz (ready_mono hr (Ne.symm TE)) ?_ ?_⟩
  ·refine hy.next (Fm EU hi).2 hu hap fun w3 hb3 hwt=>?_
   have hjX:j ∉ X:=fun hx=>by
    obtain⟨f,hf⟩:=hX j hx
    exact(SN FW V0 f j hf).1 hj
   rcases hy with ⟨_,hq⟩|⟨hq,_⟩
   ·exact hq w3 (DX hb (DX (Rn hjX) hb3))
   rw[hq]at hwt;cases hwt
  rw[Array.setIfInBounds_comm _ _ TE]
  exact Td
theorem AFM(EU:Hg ops=true)(hQ:AAj Q){i:Nat}(hi:ops[i]? =some oi)
  {ρ:Operand->Value} (Dt:∀w,S0 w->qAt C oi ρ w v) (hZ:∀j∈Z,∃f,Ys ops f j i=true) (hS:∀w w',S0 w->Below w.heap.size w w'->S0 w'):
  ∀(fuel:Nat) (listed:Array Bool) (a:Act) (w:World),Lb ops listed→
   (∀j oj,ops[j]? =some oj->j≠i->listed.getD j true=false->(∀e∈oj.after,Region.binds .any e=true->e.on≠i)->oi.apart ops oj=true)→
   i∈Region.ready .any ops listed->S0 w->Region.wanted oi (yielded ops a.tmps)=true->a.eval=ρ\/execOp a.eval oi=execOp ρ oi→
   wa C ops X Z S0 Q fuel (listed.setIfInBounds i true) (a.put oi.dst v) w->wa C ops X Z S0 Q (fuel+1) listed a w:=by
 intro fuel
 induction fuel with
 |zero=>
  intro listed a w FW _ hr hs hwt hρ H w2 hb
  have hy:Yd C ops oi v a w:=.inl ⟨hwt,fun w2 hb=>by have:=Dt w2 (hS _ _ hs hb);unfold qAt at this ⊢;rcases hρ with e|e<;>rw[e]<;>exact this⟩
  refine⟨fun h=>(by rw[h]at hr;cases hr),fun j hj=>?_⟩
  by_cases TE:j=i
  ·subst TE
   exact(hy.below hb).wpOp hi fun w' hb'=>⟨fun _=>hb',fun _ h0=>hS _ _ h0 hb',Lw _ _ _ _ _ (DX hb hb') H⟩
  have:=ready_mono hj TE
  rw[H.1]at this
  cases this
 |succ fuel ih=>
  intro listed a w FW Tb hr hs hwt hρ H w2 hb
  have hy:Yd C ops oi v a w:=.inl ⟨hwt,fun w2 hb=>by have:=Dt w2 (hS _ _ hs hb);unfold qAt at this ⊢;rcases hρ with e|e<;>rw[e]<;>exact this⟩
  refine⟨fun h=>(by rw[h]at hr;cases hr),fun j hj=>?_⟩
  by_cases TE:j=i
  ·subst TE
   exact(hy.below hb).wpOp hi fun w' hb'=>⟨fun _=>hb',fun _ h0=>hS _ _ h0 hb',Lw _ _ _ _ _ (DX hb hb') H⟩
  have h1:=(H w2 hb).2 j (ready_mono hj TE)
  obtain⟨ABU,oj,hoj,Dt⟩:=mem_ready.1 hj
  have AQJ:=(mem_ready.1 hr).1
  have V0:listed.getD i false=false:=LX AQJ
  have AMa:∀e∈oj.after,Region.binds .any e=true->e.on≠i:=fun e he hb heq=>by
   have h1:=Dt e he hb
   rw[heq,V0]at h1
   cases h1
  have hap:=Tb j oj hoj TE ABU AMa
  have h2:=U7 hoj hap (Fm EU hoj) hQ h1
  have Vz:∀k ok,ops[k]? =some ok->k≠i->(listed.setIfInBounds j true).getD k true=false→
    (∀e∈ok.after,Region.binds .any e=true->e.on≠i)->oi.apart ops ok=true:=fun k ok hk hki Tz Cz=>by
   refine Tb k ok hk hki ?_ Cz
   by_cases hjk:j=k
   ·subst hjk;exact ABU
   rw[getD_set_ne true hjk]at Tz;exact Tz
  refine wpOpIn_mono (fun a' w' h3=>?_) h2
  obtain⟨⟨Rn,PJ,Td⟩,u,hu⟩:=h3
  obtain⟨_,_,h3⟩:=Oper.apart_spec hap
  have hjZ:j ∉ Z:=fun hx=>by
   obtain⟨f,hf⟩:=hZ j hx
   exact(SN FW V0 f j hf).1 hj
  refine⟨Rn,PJ,ih (listed.setIfInBounds j true) a' w' (FW.set hj) Vz (ready_mono hr (Ne.symm TE)) (PJ hjZ (hS _ _ hs hb)) (by rw[hu,wanted_put oi a oj.dst u h3];exact hwt) ?_ ?_⟩
  ·refine .inr ?_
   rw[My hu,execOp_put (ops:=ops) oi (Fm EU hi).2 a oj.dst u h3]
   rcases hρ with e|e
   ·rw[e]
   exact e
  rw[Array.setIfInBounds_comm _ _ TE]
  exact Td
end

def R2(C:Cx)(I0:AQ)(R0:List HA)(w:World):Prop:= ∃I',Le I0 I'/\St C.w0 I' R0 w
theorem R2.below{C:Cx}{I0:AQ}{R0:List HA}(h:R2 C I0 R0 w)(hb:Below w.heap.size w w'):R2 C I0 R0 w':=by
 obtain⟨I',h1,h2⟩:=h
 exact⟨I',h1,h2.garb hb⟩

def R(C:Cx)(ops:Array Oper)(X Z:List Nat)(I0:AQ)(R0:List HA)(fuel:Nat)(listed:Array Bool)(E:Cq)(I:AQ)(H:List HA)(D:List Deferred)(Q:Exit->Act->World->Prop):Prop:=
 Hg ops=true->AAj Q->∀a w,Jv E C.n a.tmps->a.defers=D->St C.w0 I H w->wa C ops X Z (R2 C I0 R0) Q fuel listed a w

def AHu(ops:Array Oper)(listed:Array Bool):Bool:=(List.range ops.size).all fun j=>match ops[j]? with
 |none=>true
 |some oj=> !listed.getD j false||oj.after.all fun e=> !Region.binds .any e||listed.getD e.on false
theorem Mo{ops:Array Oper}{listed:Array Bool}(h:AHu ops listed=true):Lb ops listed:=by
 intro j oj hj hl e he hb
 have h1:=List.all_eq_true.1 h j (List.mem_range.2 (Array.getElem?_eq_some_iff.1 hj).1)
 simp only[hj,hl,Bool.not_true,Bool.false_or]at h1
 have h2:=Array.all_eq_true_iff_forall_mem.1 h1 e he
 simpa[hb]using h2

def L8(ops:Array Oper)(X:List Nat)(i:Nat):Bool:=X.all fun j=>Ys ops ops.size j i
def okQ(ops:Array Oper)(listed:Array Bool)(i:Nat):Bool:=AHu ops listed&&(Region.ready .any ops listed).contains i&&Region.free .any ops listed i
def okX(ops:Array Oper)(X:List Nat)(listed:Array Bool)(i:Nat):Bool:=(Region.ready .any ops listed).all (Nat.beq · i)&&X.contains i

section
variable {C:Cx} {ops:Array Oper} {X Z:List Nat} {I0 I:AQ} {R0 H:List HA} {fuel:Nat} {listed:Array Bool} {E:Cq} {D:List Deferred} {Q:Exit->Act->World->Prop} {o:Oper}

theorem Bo(X Z:List Nat)(R0:List HA)(hm:C.P.follows .mixedOrders=true)(EU:Hg l.toArray=true)(hQ:AAj Q)
  (h:R C l.toArray X Z I R0 l.length (Array.replicate l.length false) E I H D Q):T C (.region id l.toArray true) E I H D Q:=by
 intro a w hs hd hw
 have hb:Below w.heap.size w {w with drawn:=w.drawn+1}:=(Below.refl _ w).drew
 refine wpIn_region_any hm ?_
 have:=AGQ _ _ _ _ (h EU hQ a {w with drawn:=w.drawn+1} hs hd (hw.garb hb))
 simpa using this

theorem AeT(hr:(Region.ready .any ops listed).isEmpty=true)(k:N C .normal E I H D Q):R C ops X Z I0 R0 0 listed E I H D Q:=
 fun _ _ a w hs hd hw=>⟨by simpa using hr,fun w2 hb=>k a w2 hs hd (hw.garb hb)⟩

theorem AjR(i:Nat)(DD:(okQ ops listed i&&L8 ops X i)=true)(hi:ops[i]? =some o)(CH:Le I0 I)
  (hg:o.guard=none) (hd:o.dst=some d) (hn:Nat.blt d C.n=true) (hq:BI C E I H o v)
  (k:R C ops X Z I0 R0 fuel (listed.setIfInBounds i true) ((d,v)::E) I H D Q):R C ops X Z I0 R0 (fuel+1) listed E I H D Q:=by
 intro EU hQ a w hs MO hw
 simp only[okQ,Ay]at DD
 refine ABX EU hQ hi (v:=v) (fun j hj=>⟨_,List.all_eq_true.1 DD.2 j hj⟩) (fun _ _=>R2.below) fuel listed a w (Mo DD.1.1.1) (Region.free_spec hi DD.1.2) (by simpa using DD.1.1.2) (.inl ⟨by simp[Region.wanted,hg],fun w2 hb=>hq a w2 hs (hw.garb hb)⟩) ?_
 rw[hd]
 exact k EU hQ _ _ (hs.put (by simpa using hn) v) (by simpa[Act.put]using MO) hw

theorem Abb(i:Nat)(DD:(okQ ops listed i&&L8 ops Z i)=true)(hi:ops[i]? =some o)(CH:Le I0 I)[Mq:Fs H R0]
  (hg:o.guard=none) (hd:o.dst=some d) (hn:Nat.blt d C.n=true) (hq:∀I',Le I0 I'->BI C E I' R0 o v)
  (k:R C ops X Z I0 R0 fuel (listed.setIfInBounds i true) ((d,v)::E) I H D Q):R C ops X Z I0 R0 (fuel+1) listed E I H D Q:=by
 intro EU hQ a w hs MO hw
 simp only[okQ,Ay]at DD
 have Dt:∀w',R2 C I0 R0 w'->qAt C o a.eval w' v:=fun w' ⟨I',h1,h2⟩=>hq I' h1 a w' hs h2
 have key:=AFM (C:=C) (ops:=ops) (X:=X) (Z:=Z) (Q:=Q) (S0:=R2 C I0 R0) EU hQ hi (v:=v) (ρ:=a.eval) Dt (fun j hj=>⟨_,List.all_eq_true.1 DD.2 j hj⟩) (fun _ _=>R2.below) fuel listed a w (Mo DD.1.1.1) (Region.free_spec hi DD.1.2) (by simpa using DD.1.1.2) ⟨I,CH,hw.sub Mq.sub⟩ (by simp[Region.wanted,hg]) (.inl O)
 refine key ?_
 rw[hd]
 exact k EU hQ _ _ (hs.put (by simpa using hn) v) (by simpa[Act.put]using MO) hw

theorem XW{i j:Nat}(h:okX ops X listed i=true)(hj:j∈Region.ready .any ops listed):j=i:=by
 simp only[okX,Ay]at h
 exact Nat.eq_of_beq_eq_true (List.all_eq_true.1 h.1 j hj)

theorem r_e(i:Nat){Post:Value->AQ->List HA->Prop}(DD:okX ops X listed i=true)(Dk:(Region.ready .any ops listed).isEmpty=false)(hi:ops[i]? =some o)(CH:Le I0 I)
  (hg:o.guard=none) (hd:o.dst=some d) (hn:Nat.blt d C.n=true) (he:LN C E I H o Post)
  (k:∀v I' H',Post v I' H'->Le I I'/\(Z.contains i=true\/Pw H' R0)/\R C ops X Z I0 R0 fuel (listed.setIfInBounds i true) ((d,v)::E) I' H' D Q):R C ops X Z I0 R0 (fuel+1) listed E I H D Q:=by
 intro EU hQ a w hs MO hw w2 hb
 refine⟨fun h=>(by rw[h]at Dk;cases Dk),fun j hj=>?_⟩
 obtain rfl:=XW DD hj
 unfold wpOpIn
 simp only[hi]
 rw[AI (by simp[Region.wanted,hg])]
 refine he a w2 hs (hw.garb hb) _ _ fun v I' H' w' hp hw'=>?_
 obtain⟨hII,Mq,hk⟩:=k v I' H' hp
 simp only[okX,Ay]at DD
 refine⟨fun hx=>Ac (by simpa using DD.2) hx,fun hz _=>?_,?_⟩
 ·rcases Mq with hc|Mq
  ·exact Ac (by simpa using hc) hz
  exact⟨I',CH.trans hII,hw'.sub Mq⟩
 rw[hd]
 exact hk EU hQ _ _ (hs.put (by simpa using hn) v) (by simpa[Act.put]using MO) hw'
theorem FP(i:Nat){Post:Value->AQ->List HA->Prop}(DD:okX ops X listed i=true)(Dk:(Region.ready .any ops listed).isEmpty=false)(hi:ops[i]? =some o)(CH:Le I0 I)
  (hg:o.guard=none) (hd:o.dst=none) (he:LN C E I H o Post)
  (k:∀v I' H',Post v I' H'->Le I I'/\(Z.contains i=true\/Pw H' R0)/\R C ops X Z I0 R0 fuel (listed.setIfInBounds i true) E I' H' D Q):R C ops X Z I0 R0 (fuel+1) listed E I H D Q:=by
 intro EU hQ a w hs MO hw w2 hb
 refine⟨fun h=>(by rw[h]at Dk;cases Dk),fun j hj=>?_⟩
 obtain rfl:=XW DD hj
 unfold wpOpIn
 simp only[hi]
 rw[AI (by simp[Region.wanted,hg])]
 refine he a w2 hs (hw.garb hb) _ _ fun v I' H' w' hp hw'=>?_
 obtain⟨hII,Mq,hk⟩:=k v I' H' hp
 simp only[okX,Ay]at DD
 refine⟨fun hx=>Ac (by simpa using DD.2) hx,fun hz _=>?_,?_⟩
 ·rcases Mq with hc|Mq
  ·exact Ac (by simpa using hc) hz
  exact⟨I',CH.trans hII,hw'.sub Mq⟩
 rw[hd]
 exact hk EU hQ _ _ hs MO hw'
def RX(C:Cx)(ops:Array Oper)(X Z:List Nat)(I0:AQ)(R0:List HA)(fuel:Nat)(listed:Array Bool)(E:Cq)(I:AQ)(H:List HA)(D:List Deferred)(Q:Exit->Act->World->Prop)(m:Nat):Prop:=
 Hg ops=true->AAj Q->∀a w,Jv E C.n a.tmps->a.defers=D->St C.w0 I H w→
  wpOpIn (WF C.r) 0 C.P ops Q m (fun a' w'=>(m ∉ X->Below w.heap.size w w')/\(m ∉ Z->R2 C I0 R0 w->R2 C I0 R0 w')/\wa C ops X Z (R2 C I0 R0) Q fuel (listed.setIfInBounds m true) a' w') a w
theorem Oq(i:Nat){Post:Value->AQ->List HA->Prop}(hX:X.contains i=true)(hi:ops[i]? =some o)(CH:Le I0 I)
  (hg:o.guard=none) (hd:o.dst=some d) (hn:Nat.blt d C.n=true) (he:LN C E I H o Post)
  (k:∀v I' H',Post v I' H'->Le I I'/\(Z.contains i=true\/Pw H' R0)/\R C ops X Z I0 R0 fuel (listed.setIfInBounds i true) ((d,v)::E) I' H' D Q):RX C ops X Z I0 R0 fuel listed E I H D Q i:=by
 intro EU hQ a w hs MO hw
 unfold wpOpIn
 simp only[hi]
 rw[AI (by simp[Region.wanted,hg])]
 refine he a w hs hw _ _ fun v I' H' w' hp hw'=>?_
 obtain⟨hII,Mq,hk⟩:=k v I' H' hp
 refine⟨fun hx=>Ac (by simpa using hX) hx,fun hz _=>?_,?_⟩
 ·rcases Mq with hc|Mq
  ·exact Ac (by simpa using hc) hz
  exact⟨I',CH.trans hII,hw'.sub Mq⟩
 rw[hd]
 exact hk EU hQ _ _ (hs.put (by simpa using hn) v) (by simpa[Act.put]using MO) hw'
theorem Gp(i j:Nat)(DD:(Region.ready .any ops listed).all (fun m=>Nat.beq m i||Nat.beq m j)=true)(Dk:(Region.ready .any ops listed).isEmpty=false)
  (hi:RX C ops X Z I0 R0 fuel listed E I H D Q i) (hj:RX C ops X Z I0 R0 fuel listed E I H D Q j):R C ops X Z I0 R0 (fuel+1) listed E I H D Q:=by
 intro EU hQ a w hs MO hw w2 hb
 refine⟨fun h=>(by rw[h]at Dk;cases Dk),fun m hm=>?_⟩
 have:=List.all_eq_true.1 DD m hm
 rw[C4]at this
 rcases this with h|h
 ·obtain rfl:=Nat.eq_of_beq_eq_true h
  exact hi EU hQ a w2 hs MO (hw.garb hb)
 obtain rfl:=Nat.eq_of_beq_eq_true h
 exact hj EU hQ a w2 hs MO (hw.garb hb)
end

def qs(C:Cx)(ops:Array Oper)(I:AQ)(H:List HA)(K:Act->Prop):List Oper->Act->Prop
 | [],a=>K a
 |o::rest,a=>(Region.wanted o (yielded ops a.tmps)=true/\∃v,(∀w,St C.w0 I H w->qAt C o a.eval w v)/\qs C ops I H K rest (a.put o.dst v))∨
   (Region.wanted o (yielded ops a.tmps)=false/\qs C ops I H K rest (a.put o.dst undef))

section
variable {C:Cx} {ops:Array Oper} {I:AQ} {H:List HA} {E:Cq} {D:List Deferred} {Q:Exit->Act->World->Prop} {K K':Act->Prop}

theorem Jy(h:∀a,K a->K' a):∀(l:List Oper) (a:Act),qs C ops I H K l a->qs C ops I H K' l a
 | [],a,hq=>h a hq
 |_::rest,_,hq=>by
  rcases hq with ⟨h1,v,h2,h3⟩|⟨h1,h3⟩
  ·exact .inl ⟨h1,v,h2,Jy h rest _ h3⟩
  exact .inr ⟨h1,Jy h rest _ h3⟩
theorem SC:∀(l1 l2:List Oper) (a:Act),qs C ops I H (qs C ops I H K l2) l1 a->qs C ops I H K (l1++l2) a
 | [],_,_,h=>h
 |_::rest,l2,_,hq=>by
  rcases hq with ⟨h1,v,h2,h3⟩|⟨h1,h3⟩
  ·exact .inl ⟨h1,v,h2,SC rest l2 _ h3⟩
  exact .inr ⟨h1,SC rest l2 _ h3⟩

theorem UJ:∀(l rest:List Oper) (a:Act) (w:World),qs C ops I H (fun a'=>∀w',Below w.heap.size w w'->wpListIn (WF C.r) 0 C.P ops Q rest a' w') l a->St C.w0 I H w->wpListIn (WF C.r) 0 C.P ops Q (l++rest) a w
 | [],_,_,w,h,_=>h w (Below.refl _ _)
 |o::l,rest,a,w,h,hw=>by
  unfold qs at h
  show wpListIn (WF C.r) 0 C.P ops Q (o::(l++rest)) a w
  refine wpListIn_step fun K hK=>?_
  rcases h with ⟨h1,v,h2,h3⟩|⟨h1,h3⟩
  ·rw[AI h1]
   refine(h2 w hw).wpIn fun w' hb=>hK _ _ (UJ l rest _ w' (Jy (fun a' h w2 Wi=>h w2 (DX hb Wi)) l _ h3) (hw.garb hb))
  rw[AB (by simp[h1])]
  exact⟨fun _ _=>trivial,hK _ _ (UJ l rest _ w h3 hw)⟩

theorem put_defers(a:Act)(dst:Option Tmp)(v:Value):(a.put dst v).defers=a.defers:=by cases dst<;>rfl
theorem AEY(a:Act)(dst:Option Tmp)(v:Value):(a.put dst v).tmps.size=a.tmps.size:=by cases dst<;>simp[Act.put]
def KO(l:List Oper):List Nat:=l.filterMap (·.dst)
theorem QK:∀(l:List Oper) (a:Act),qs C ops I H K l a->qs C ops I H (fun a'=>K a'/\a'.defers=a.defers/\a'.tmps.size=a.tmps.size/\∀t,t ∉ KO l->a'.tmps[t]? =a.tmps[t]?) l a
 | [],_,h=>⟨h,O,O,fun _ _=>rfl⟩
 |o::l,a,hq=>by
  have key:∀v,qs C ops I H K l (a.put o.dst v)->qs C ops I H (fun a'=>K a'/\a'.defers=a.defers/\a'.tmps.size=a.tmps.size/\∀t,t ∉ KO (o::l)->a'.tmps[t]? =a.tmps[t]?) l (a.put o.dst v):=fun v h=>by
   refine Jy (fun a' h'=>?_) l _ (QK l _ h)
   obtain⟨h1,h2,h3,h4⟩:=h'
   refine⟨h1,by rw[h2,put_defers],by rw[h3,AEY],fun t ht=>?_⟩
   unfold KO at ht
   rw[List.filterMap_cons]at ht
   cases hd:o.dst with
   |none=>
    rw[hd]at ht h4
    exact h4 t ht
   |some d=>
    rw[hd]at ht h4
    rw[h4 t (fun h=>ht (List.mem_cons_of_mem _ h))]
    have Dk:d≠t:=fun e=>ht (by subst e;exact CQ)
    simp[Act.put,Array.getElem?_setIfInBounds_ne Dk]
  rcases hq with ⟨h1,v,h2,h3⟩|⟨h1,h3⟩
  ·exact .inl ⟨h1,v,h2,key v h3⟩
  exact .inr ⟨h1,key undef h3⟩

theorem AVt(EU:Hg ops=true)(hQ:AAj Q):∀(l:List Oper) (k:Nat) (listed:Array Bool) (a:Act) (w:World),(∀j,l[j]? =ops[k+j]?)->Region.lexFrom .any ops l.length k listed=true->Lb ops listed->St C.w0 I H w→
  qs C ops I H (fun a'=>a'.defers=a.defers->∀w',St C.w0 I H w'->Q .normal a' w') l a->wa C ops [] [] (St C.w0 I H) Q l.length listed a w
 | [],_,listed,a,w,_,hB,_,hw,h=>⟨by simpa[Region.lexFrom]using hB,fun w2 hb=>h O w2 (hw.garb hb)⟩
 |o::l,k,listed,a,w,hl,hB,hc,hw,h=>by
  have h0:ops[k]? =some o:=by simpa using(hl 0).symm
  simp only[CD,Region.lexFrom,Ay]at hB
  obtain⟨⟨hr,hf⟩,hB'⟩:=hB
  have hr':k∈Region.ready .any ops listed:=by simpa using hr
  have step:∀v,Yd C ops o v a w->qs C ops I H (fun a'=>a'.defers=a.defers->∀w',St C.w0 I H w'->Q .normal a' w') l (a.put o.dst v)->wa C ops [] [] (St C.w0 I H) Q (l.length+1) listed a w:=fun v hy hq=>
   ABX EU hQ h0 (fun j hj=>by cases hj) (fun _ _ h hb=>h.garb hb) l.length listed a w hc (Region.free_spec h0 hf) hr' hy
    (AVt EU hQ l (k+1) _ _ w (fun j=>by have:=hl (j+1);simpa[Nat.add_assoc,Nat.add_comm 1 j]using this) hB' (hc.set hr') hw (Jy (fun a' h' e=>h' (e.trans (put_defers _ _ _))) l _ hq))
  rcases h with ⟨h1,v,h2,h3⟩|⟨h1,h3⟩
  ·exact step v (.inl ⟨h1,fun w2 hb=>h2 w2 (hw.garb hb)⟩) h3
  exact step undef (.inr ⟨h1,O⟩) h3

def QS(C:Cx)(ops:Array Oper)(l:List Oper)(E:Cq)(I:AQ)(H:List HA)(K:Act->Prop):Prop:=∀a,Jv E C.n a.tmps->qs C ops I H K l a

theorem AEd(ops:Array Oper)(m:Nat):Lb ops (Array.replicate m false):=by
 intro j oj _ hl
 exfalso
 rcases Nat.lt_or_ge j m with h|h
 ·simp[h]at hl
 simp[h]at hl

def AJv(C:Cx)(I:AQ)(H:List HA)(D:List Deferred)(Q:Exit->Act->World->Prop)(a':Act):Prop:=a'.defers=D->∀w',St C.w0 I H w'->Q .normal a' w'
theorem FU(hs:QS C l.toArray l E I H (AJv C I H D Q)):T C (.region id l.toArray false) E I H D Q:=by
 intro a w Jh hd hw
 have h1:=QK l a (hs a Jh)
 have h2:=UJ (Q:=Q) l [] a w (Jy (fun a' h' w' hb=>h'.1 (h'.2.1.trans hd) w' (hw.garb hb)) l a h1) hw
 rw[Nj]at h2
 exact wpIn_region_lit h2
theorem Bd(hm:C.P.follows .mixedOrders=true)(hB:(Hg l.toArray&&Region.lexB .any l.toArray)=true)(hQ:AAj Q)
  (hs:QS C l.toArray l E I H (AJv C I H D Q)):T C (.region id l.toArray true) E I H D Q:=by
 intro a w Jh hd hw
 have hb:Below w.heap.size w {w with drawn:=w.drawn+1}:=(Below.refl _ w).drew
 rw[Ay]at hB
 obtain⟨EU,hB⟩:=hB
 simp only[Region.lexB,Ay]at hB
 refine wpIn_region_any hm ?_
 have h3:qs C l.toArray I H (fun a'=>a'.defers=a.defers->∀w',St C.w0 I H w'->Q .normal a' w') l a:=by
  refine Jy (fun a' h'=>?_) l a (hs a Jh)
  intro hd' w' hw'
  exact h' (hd'.trans hd) w' hw'
 have h2:=AVt (w:={w with drawn:=w.drawn+1}) EU hQ l 0 (Array.replicate l.length false) a (by simp) (by simpa using hB.2) (AEd _ _) (hw.garb hb) h3
 have:=AGQ _ _ _ _ h2
 simpa using this

theorem KY(h:N C .normal E I H D Q):QS C ops [] E I H (AJv C I H D Q):=fun a hs hd w' hw'=>h a w' hs hd hw'
theorem AbN{y:Nat}(h:get E y=some v):QS C ops [] E I H (fun a'=>a'.tmps[y]? =some v):=fun _ hs=>hs.2 y v h
theorem s_q{o:Oper}(hg:o.guard=none)(hd:o.dst=some d)(hn:Nat.blt d C.n=true)(hq:BI C E I H o v)
  (k:QS C ops rest ((d,v)::E) I H K):QS C ops (o::rest) E I H K:=fun a hs=>
 .inl ⟨by simp[Region.wanted,hg],v,fun w hw=>hq a w hs hw,by rw[hd];exact k _ (hs.put (by simpa using hn) v)⟩
theorem Mk{j:Nat}{b:Bool}(hs:Jv E C.n a.tmps)(hj:ops[j]? =some oj)(QL:oj.dst=some dj)(hb:get E dj=some (.bool b)):yielded ops a.tmps j=some b:=by
 unfold yielded
 simp[hj,QL,hs.2 dj _ hb]
theorem s_g{o:Oper}{j:Nat}{b:Bool}(hg:o.guard=some (j,b))(hj:ops[j]? =some oj)(QL:oj.dst=some dj)(hb:get E dj=some (.bool b))(hd:o.dst=some d)(hn:Nat.blt d C.n=true)(hq:BI C E I H o v)
  (k:QS C ops rest ((d,v)::E) I H K):QS C ops (o::rest) E I H K:=fun a hs=>
 .inl ⟨by simp[Region.wanted,hg,Mk hs hj QL hb],v,fun w hw=>hq a w hs hw,by rw[hd];exact k _ (hs.put (by simpa using hn) v)⟩
def Ia(l:List Nat):Cq->Bool
 | []=>true
 | (k,_)::r=> !l.contains k&&Ia l r
theorem Tn{l:List Nat}:∀{E:Cq} {k:Nat} {v:Value},Ia l E=true->get E k=some v->k ∉ l
 | (j,u)::r,k,v,h,hg=>by
  unfold Ia at h
  rw[Ay]at h
  unfold get at hg
  by_cases e:j=k
  ·subst e
   simpa using h.1
  rw[show Nat.beq j k=false from by cases hb:Nat.beq j k with|false=>rfl|true=>exact Ac (Nat.eq_of_beq_eq_true hb) e]at hg
  exact Tn h.2 hg

end
end Go.Tri
