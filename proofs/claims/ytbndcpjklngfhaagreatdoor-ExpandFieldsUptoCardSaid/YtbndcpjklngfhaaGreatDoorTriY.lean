/-
 Quotients, signs turned, bits.
-/
import Derived.Test.YtbndcpjklngfhaaGreatDoorTriB5
import Derived.Stop.IfaceNil
import Derived.Sort.Grow
import Derived.WalkSmall
import Derived.ScopeJumps
import Derived.Lib.OthersKept
import Derived.Lib.AppendStr
import Derived.RecoverIn
import Derived.RangeFuncLeaves
namespace Go.Tri
open Go.RowKit
variable {sz bytes off fo i id:Nat} {u z:Value} {xs vs cs us:List Value} {rs:List ResultVar} {w w0:World} {P:Program} {α γ:Type} {e':TypeId} {g:Operand} {args:Array Operand} {ts:Array TypeId} {rest:List Oper} {name:String} {want:Bool}
theorem G7{p:UInt8->Prop}(h:∀n:Fin 256,p (UInt8.ofNat n.val))(c:UInt8):p c:=by
 have:=h ⟨c.toNat,c.toNat_lt⟩
 simpa using this
section
variable {C:Cx} {E:Cq} {I:AQ} {H:List HA} {o:Oper} {x y:Operand} {t t':TypeId} {k:IntKind} {m n:Int}
theorem AJT(ho:o.op=.binOp .quo t x y t')(hx:ev E x=some (.int k m))(hy:ev E y=some (.int k n))(h:n≠0):BI C E I H o (.int k (k.wrap (m.tdiv n))):=
 B9 ho hx hy fun w=>by simp[go_sem,Op.intDiv,h]
theorem AIS(ho:o.op=.binOp .quo t x y t')(hx:ev E x=some (.int .i64 m))(hy:ev E y=some (.int .i64 n))(h:n≠0)(hr: -9223372036854775808<=m.tdiv n/\m.tdiv n<=9223372036854775807):BI C E I H o (.int .i64 (m.tdiv n)):=by
 have:=AJT (C:=C) (I:=I) (H:=H) ho hx hy h
 rwa [IntWalk.i64_in _ hr]at this
theorem ATG(ho:o.op=.binOp .mul t x y t')(hx:ev E x=some (.int .i64 m))(hy:ev E y=some (.int .i64 n))(h: -9223372036854775808<=m * n/\m * n<=9223372036854775807):BI C E I H o (.int .i64 (m * n)):=by
 have:=ADX (C:=C) (I:=I) (H:=H) ho hx hy
 rwa [IntWalk.i64_in _ h]at this
theorem Vu(ho:o.op=.unOp .neg t x)(hx:ev E x=some (.int k m)):BI C E I H o (.int k (k.wrap (-m))):=
 Bw (by rw[ho];rfl) fun a w hs _=>by simp[execOp,ho,hs.ev hx,Op.unary,Op.intArith]
theorem AIg(ho:o.op=.unOp .neg t x)(hx:ev E x=some (.int .i64 m))(h: -9223372036854775808≤ -m∧ -m<=9223372036854775807):BI C E I H o (.int .i64 (-m)):=by
 have:=Vu (C:=C) (I:=I) (H:=H) ho hx
 rwa [IntWalk.i64_in _ h]at this
theorem UH{c d:UInt8}(ho:o.op=.binOp .or t x y t')(hx:ev E x=some (u8 c))(hy:ev E y=some (u8 d)):BI C E I H o (u8 (c|||d)):=
 B9 ho hx hy fun w=>by
  have h:∀e:UInt8,IntKind.u8.wrap (e.toNat:Int)=(e.toNat:Int):=G7 (by decide+kernel)
  simp[u8,go_sem,Op.intBits,eqGuard]
  exact h (c|||d)
theorem AHR(n':Nat):IntKind.u8.wrap (n':Int)=((n' % 256:Nat):Int):=by
 simp[IntKind.wrap,IntKind.signed,IntKind.bits]
theorem AKD(n':Nat){d:TypeDesc}(ho:o.op=.convert t t' x)(hs:C.P.underlying t=some d)(hd:C.P.underlying t'=some (.int .u8))(hx:ev E x=some (.int k m))(hr:m=(n':Int)):BI C E I H o (u8 (UInt8.ofNat n')):=by
 have e:IntKind.u8.wrap m=((UInt8.ofNat n').toNat:Int):=by
  rw[hr,UInt8.toNat_ofNat',AHR]
 exact G1 ho hs hd hx e
theorem AMx{c:UInt8}(b:Nat)(ho:o.op=.binOp .sub t x y t')(hx:ev E x=some (u8 c))(hy:ev E y=some (.int .u8 (b:Int)))(h:b<=c.toNat):BI C E I H o (.int .u8 ((c.toNat-b:Nat):Int)):=by
 have e:IntKind.u8.wrap ((c.toNat:Int)-(b:Int))=((c.toNat-b:Nat):Int):=by
  have hc:=c.toNat_lt
  have:=AHR (c.toNat-b)
  rw[Nat.mod_eq_of_lt (by omega)]at this
  rw[<-this];congr 1;omega
 have:=TU (C:=C) (I:=I) (H:=H) ho hx hy
 rw[e]at this
 exact this
end
def AWq(e:Value)(b:Bool):Prop:=(b=false/\e=.nilIface)\/(b=true/\∃u p,e=.iface u p)
section
variable {C:Cx} {E:Cq} {I:AQ} {H:List HA} {o:Oper} {x:Operand} {t t':TypeId} {e:Value} {b:Bool}
theorem AEu(ho:o.op=.binOp .eql t x (.const .nilIface) t')(ht:C.P.isIface t=true)(hx:ev E x=some e)(hb:AWq e b):BI C E I H o (.bool (!b)):=
 B9 ho hx O fun w=>by
  rcases hb with ⟨rfl,rfl⟩|⟨rfl,u,p,rfl⟩
  ·simp[eqGuard,run_eql_nil_nil_at w t ht]
  simp[eqGuard,run_eql_iface_nil w t ht]
theorem AIM{y:Operand}{tt:TypeId}{k k':IntKind}{m n:Int}(ho:o.op=.call {callee:=.builtin .min,args:=#[x,y],argTypes:=#[t,tt]})(hx:ev E x=some (.int k m))(hy:ev E y=some (.int k' n)):BI C E I H o (.int k (min m n)):=
 LQ ho (vs:=[.int k m,.int k' n]) (by simp[evs,hx,hy]) fun cs w=>by
  have h:=Go.run_min_int2 (P:=C.P) w #[t,tt] o.type k k' m n
  have e:(if n<m then n else m)=min m n:=by rw[Int.min_def];split<;>split<;>omega
  rw[e]at h
  simp[builtin,h]
end
theorem AEz(w:World)(os:Array Obj):Below w.heap.size w (Go.Sort.grow w os):=
 ⟨O,O,O,by simp[Go.Sort.grow],fun k hk=>by
  show(w.heap++os)[k]? =_
  rw[Array.getElem?_append,AI hk]⟩
theorem ACh(w:World)(n:Nat)(os:Array Obj):Below w.heap.size w (Go.Sort.grow (w.drewN n) os):=
 (below_drewN (Below.refl _ w) n).trans (AEz (w.drewN n) os)
section
variable {C:Cx} {E:Cq} {I:AQ} {H:List HA} {D:List Deferred} {Q:Exit->Act->World->Prop}
theorem ATB{l:Nat}(h:N C .normal E I H D Q):T C (.label l) E I H D Q:=fun a w hs hd hw=>wpIn_label (h a w hs hd hw)
theorem AUp{c:Code}(hr:C.r=none)(h:T C c E I H D (Exit.noGoto Q)):T C (.scope c) E I H D Q:=by
 intro a w hs hd hw
 have:=h a w hs hd hw
 rw[hr,ASi,wpIn_wide]at *
 exact wp_scope_straight this
theorem HF(h:N C .ret E I H D Q):N C .ret E I H D (Exit.noGoto Q):=h
end
theorem AMb{C:Cx}{E:Cq}{I:AQ}{H:List HA}{o:Oper}{p x:Operand}{t T:TypeId}{k n:Nat}{v:Value}{F:List HA}(ho:o.op=.store t p x)(hi:TI C.P t 1 bytes z)
  (hp:ev E p=some (.pointer (some ⟨(Eb v).block,(Eb v).off+k,none⟩))) (hx:ev E x=some u) (h1:JS u) [hpk:Dx v T sz n xs F H] (Eg:k<xs.length):
  LN C E I H o (fun _ I' H'=>I=I'/\H'=Ww v T sz n (xs.set k u)::F):=by
 intro a w hs hw K Q hk
 have hw':=hw.perm hpk.pick
 obtain⟨hl,hv⟩:IV v T sz n xs (Ao w):=hw'.sat _ (CQ)
 rcases hv with ⟨rfl,rfl⟩|⟨g,cap,cur,rfl,hg,hn,hc,MG,QO⟩
 ·rw[Nat.zero_mul]at hl;omega
 have hb:w.heap[g]? =some (.cells cur T (0,0)):=hg
 have CH:n * sz<=cap * sz:=TO _ hn
 have Sy:cur=cur.toList.toArray:=by simp
 have Rn:k<cur.toList.length:=by
  have:cur.toList.length=cur.size:=by simp
  omega
 rw[Sy]at hb
 have ATr:=IT (off:=k) (v:=u) hb
 refine JW (by rw[ho];rfl) ?_ (hk undef I _ _ ⟨O,O⟩ (hw'.turn (w':=w.setCell ⟨g,k,none⟩ u) O O O (by simp) (fun j _ hj=>Below.heap_setCell _ _ _ _ (fun e=>hj (by rw[e];rfl))) ?_ (.inl O)))
 ·simp only[execOp,ho,hs.ev hp,hs.ev hx,Instr.storeAt,Instr.sureAddr,storeVar,h1.1]
  simp[Eb,hi.sizeOf,storeCells,Addr.add_zero',Pv h1.2 hb Rn]
 refine⟨by rw[Il];exact hl,.inr ⟨g,cap,(cur.toList.set k u).toArray,O,ATr,hn,hc,by simpa using MG,?_⟩⟩
 rw[<-QO]
 simp only[List.take_set]
theorem AEB{α:Type}{f:α->List Value}{sz:Nat}(hu:∀c,(f c).length=sz):∀{l:List α} {i j:Nat} {d e:α} {u:Value},i<l.length->j<sz->(f (AG l i d)).set j u=f e->((l.map f).flatten).set (i * sz+j) u=((l.set i e).map f).flatten
 | [],_,_,_,_,_,h,_,_=>by simp at h
 |c::l,0,j,d,e,u,h,hj,he=>by
  have he':(f c).set j u=f e:=he
  rw[EN,List.flatten_cons,List.set_append_left _ _ (by rw[hu];omega),DS,EN,List.flatten_cons,Nat.zero_mul,Nat.zero_add,he']
 |c::l,i+1,j,d,e,u,h,hj,he=>by
  rw[EN,List.flatten_cons,List.set_append_right _ _ (by rw[hu,Nat.add_mul];omega),Iw,EN,List.flatten_cons]
  congr 1
  rw[hu,show(i+1) * sz+j-sz=i * sz+j by rw[Nat.add_mul];omega]
  exact AEB hu (d:=d) (by simpa using h) hj he
def RV(C:Cx)(E:Cq)(F:List HA)(I:AQ)(rv:ResultVar)(v:Value):Prop:=∀(τ:Array Value) (w:World),Jv E C.n τ->St C.w0 I F w->(ADK τ rv).run C.P w=.ok v w
def Zb(C:Cx)(E:Cq)(I:AQ)(F:List HA):List ResultVar->List Value->Prop
 | [],[]=>True
 |r::rs,v::vs=>RV C E F I r v/\Zb C E I F rs vs
 |_,_=>False
section
variable {C:Cx} {E:Cq} {I:AQ} {H F:List HA} {R:Ending->World->Prop} {fn:Func}
theorem Cc:Zb C E I F [] []:=trivial
theorem Du{t:Nat}{v:Value}(h:get E t=some v)(k:Zb C E I F rs vs):Zb C E I F (.tmp t::rs) (v::vs):=⟨fun τ w hs _=>by simp[ADK,hs.2 t v h],k⟩
theorem Cb{a b n:Nat}{t T:TypeId}{fs:Array Field}(h:get E a=some (.pointer (some ⟨b,off,none⟩)))(ht:C.P.underlying t=some (.struct fs))(hi:TI C.P t n bytes z)
  [hm:E2 b T cs F] (hu:(cs.drop off).take n=us) (hn:us.length=n) (k:Zb C E I F rs vs):Zb C E I F (.cell a t::rs) (.agg us.toArray::vs):=⟨fun τ w hs hw=>by
   have h6:=hs.2 a _ h
   have hr:Rds C.w0 I F b off us:=AAL hm.mem hu
   have h2:=O5 (P:=C.P) (w:=w) (b:=b) (k:=off) (us:=us) (fun j u hj=>hr j u hj w hw)
   subst hn
   simp[ADK,h6,asAddr,loadVar,NS ht,hi.sizeOf,h2],k⟩
theorem ABw{τ:Array Value}{w:World}(hs:Jv E C.n τ)(hw:St C.w0 I F w):∀{rs:List ResultVar} {vs:List Value},Zb C E I F rs vs->(rs.mapM (ADK τ)).run C.P w=.ok vs w
 | [],[],_=>by simp
 |r::rs,v::vs,h=>by
  have ih:=ABw hs hw h.2
  have h1:=h.1 τ w hs hw
  simp only[List.mapM_cons,Sem.run_bind,h1,PM,ih]
  simp
 | [],_::_,h=>h.elim
 |_::_,[],h=>h.elim
theorem Qh{τ:Array Value}(hr:fn.results=rs.toArray)(hs:Jv E C.n τ)(hw:St C.w0 I F w)(h:Zb C E I F rs vs):(results fn τ).run C.P w=.ok (XM vs) w:=by
 rw[U0,hr,List.mapM_toArray,Sem.run_bind,Sem.run_map]
 rw[ABw hs hw h]
 simp only[PM]
 match vs with
 | []=>simp[XM]
 | [v]=>simp[XM]
 |_::_::_=>simp[XM]
theorem B6{e:Exit}(he:e=.ret\/e=.normal)(hr:fn.results=rs.toArray)(h:Zb C E I H rs vs)(k:∀w,St C.w0 I H w->R (.returned (XM vs)) w):N C e E I H [] (bodyPost C.P fn R):=by
 intro a w hs hd hw
 rcases he with rfl|rfl
 ·exact⟨hd,_,Qh hr hs hw h,k w hw⟩
 exact⟨hd,_,Qh hr hs hw h,k w hw⟩
end
class AFB(b:Nat)(s:outParam (List UInt8))(pos:outParam Nat)(F:outParam (List HA))(H:List HA):Prop where
 pick:H.Perm (Fg b (.stringIter ⟨s.toArray⟩ pos)::F)
instance AWF{b pos:Nat}{s:List UInt8}{F:List HA}:AFB b s pos F (Fg b (.stringIter ⟨s.toArray⟩ pos)::F):=⟨MI⟩
instance(priority:=low) pickIt_tail {b pos:Nat} {s:List UInt8} {y:HA} {F H:List HA} [h:AFB b s pos F H]:AFB b s pos (y::F) (y::H):=⟨MJ h.pick⟩
section
variable {C:Cx} {E:Cq} {I:AQ} {H F:List HA} {o:Oper} {x:Operand} {t t':TypeId} {s:List UInt8}
end
theorem Zl(w:World)(t u ty e:TypeId)(i:TypeInfo)(ht:P.underlying t=some (.slice e))(hu:P.underlying u=some .string)(hi:P.info? e=some i)(hz:i.zero=some (.int .u8 0))(Lh:i.size=1)(hby:i.bytes=1)
  (v:Value) (n:Nat) (xs:List Value) (hv:IV v e 1 n xs (Ao w)) (s:ByteArray) (MN:n+s.size<=maxLen) (hb:n+s.size<=140737488355328):
  ∃v' w',(Builtin.append_ #[t,u] ty #[v,.string s]).run P w=.ok v' w'/\IV v' e 1 (n+s.size) (xs++Lib.strCells s) (Ao w')/\w.grownBy w' v.ownBlock/\(v'.ownBlock=v.ownBlock\/v'.ownBlock=some w.heap.size):=by
 obtain⟨v',w',GY,ho,hg,AOf⟩:=Lib.run_append_own_string (P:=P) w 0 t u ty e i ht hu hi hz Lh hby v n xs (L4.1 hv) s MN hb (Aw _)
 refine⟨v',w',GY,L4.2 ho,hg,?_⟩
 have hxl:xs.length=n:=by rw[hv.1,Nat.mul_one]
 have hm:maxLen<=9223372036854775807:=by decide
 rcases hv.2 with ⟨rfl,rfl⟩|⟨g,cap,cur,rfl,hgg,hn,hc,MG,QO⟩
 ·by_cases h0:s.size=0
  ·left;rw[AOf.2 ⟨O,h0⟩]
  right
  have:=run_append_nil_string (P:=P) w t u ty e i (.int .u8 0) ht hu hi hz s (by omega) (by omega) (by rw[hby];omega)
  rw[this]at GY
  injection GY with h1 h2
  rw[<-h1];rfl
 by_cases AdN:n+s.size<=cap
 ·left
  have:=Lib.run_append_room_string (P:=P) w t u ty e i ht hu hi Lh g n cap cur hgg s AdN (by omega)
  rw[this]at GY
  injection GY with h1 h2
  rw[<-h1];rfl
 right
 have:=Lib.run_append_grow_string (P:=P) w t u ty e i (.int .u8 0) ht hu hi hz ⟨g,0,none⟩ n cap xs (by rw[Lh];omega) ((L4.1 hv).cells (g:=g) O) s (by omega) (by omega) (by rw[hby];exact growslice_fits (by omega) (by omega))
 rw[this]at GY
 injection GY with h1 h2
 rw[<-h1];rfl
theorem AAE(s:List UInt8):Lib.strCells ⟨s.toArray⟩=(s.map Km).flatten:=by
 rw[QB]
 unfold Lib.strCells
 simp[u8]
theorem LH{C:Cx}{E:Cq}{I:AQ}{H:List HA}{o:Oper}{x:Operand}{t T:TypeId}{d:TypeDesc}{n j:Nat}{v:Value}(ho:o.op=.load t x)(ht:C.P.underlying t=some d)(hd:Nw d=true)
  (hx:ev E x=some (.pointer (some ⟨(Eb v).block,(Eb v).off+j * sz+fo,none⟩))) [hm:H3 v T sz n xs H] (hu:xs[j * sz+fo]? =some u):BI C E I H o u:=M0 (j:=j * sz+fo) ho ht hd (by rw[<-Nat.add_assoc];exact hx) hu
theorem Z5{f:α->List Value}(hu:∀c,(f c).length=sz){l:List α}{d:α}(h:i<l.length)(hf:(f (AG l i d))[fo]? =some u):((l.map f).flatten)[i * sz+fo]? =some u:=
 OQ hu (cs:=f (AG l i d)) (by rw[List.getElem?_map,LC h,CT h];rfl) hf
theorem ACU{f:α->List Value}{l:List α}{C:Cx}{E:Cq}{I:AQ}{H:List HA}{o:Oper}{p x:Operand}{t T:TypeId}{j:Nat}{v:Value}{F:List HA}(d e1:α)(ho:o.op=.store t p x)(hi:TI C.P t 1 bytes z)
  (hp:ev E p=some (.pointer (some ⟨(Eb v).block,(Eb v).off+j * sz+fo,none⟩))) (hx:ev E x=some u) (h1:JS u) [hpk:Dx v T sz l.length (l.map f).flatten F H] (hu:∀c,(f c).length=sz) (hj:j<l.length) (Wk:Nat.blt fo sz=true)
  (he:(f (AG l j d)).set fo u=f e1):LN C E I H o (fun _ I' H'=>I=I'/\H'=Ap T sz f v (l.set j e1)::F):=by
 have Wk:fo<sz:=by simpa using Wk
 have Dg:((l.map f).flatten).length=l.length * sz:=by
  rw[List.length_flatten,List.map_map]
  have:(List.length ∘ f)=fun _=>sz:=by funext c;exact hu c
  rw[this,List.map_const',List.sum_replicate_nat]
 have h2:j * sz+fo<l.length * sz:=by
  have:=TO sz (show j+1<=l.length from hj)
  rw[Nat.add_mul,Nat.one_mul]at this
  omega
 have:=AMb (C:=C) (E:=E) (I:=I) (H:=H) (o:=o) (p:=p) (x:=x) (k:=j * sz+fo) (v:=v) ho hi (by rw[<-Nat.add_assoc];exact hp) hx h1 (hpk:=hpk) (by rw[Dg];exact h2)
 rw[AEB hu (d:=d) hj Wk he]at this
 have hl:(l.set j e1).length=l.length:=Il
 show LN C E I H o (fun _ I' H'=>I=I'/\H'=Ww v T sz (l.set j e1).length _::F)
 rw[hl]
 exact this
theorem AGc{A us:List α}{k N:Nat}(h:k+us.length<=N)(hA:N<=A.length):(A.take k++us++A.drop (k+us.length)).take N=(A.take N).take k++us++(A.take N).drop (k+us.length):=by
 rw[List.take_append,List.take_append,Bh,BL,List.take_take,List.drop_take]
 rw[show min k A.length=k by omega,show min N k=k by omega,List.take_take,show min k N=k by omega]
 rw[LG (show us.length<=N-k by omega),show N-(k+us.length)=N-(k+us.length)from O]
theorem ALB{C:Cx}{E:Cq}{I:AQ}{H:List HA}{o:Oper}{p x:Operand}{t T:TypeId}{k m n:Nat}{v:Value}{F:List HA}(ho:o.op=.store t p x)(hi:TI C.P t m bytes z)
  (hp:ev E p=some (.pointer (some ⟨(Eb v).block,(Eb v).off+k,none⟩))) (hx:ev E x=some (.agg us.toArray)) (hm:us.length=m) (h1:∀u∈us,u.oneCell'=true) [hpk:Dx v T sz n xs F H] (Eg:k+m<=xs.length) (ANA:0<m):
  LN C E I H o (fun _ I' H'=>I=I'/\H'=Ww v T sz n (xs.take k++us++xs.drop (k+m))::F):=by
 intro a w hs hw K Q hk
 have hw':=hw.perm hpk.pick
 obtain⟨hl,hv⟩:IV v T sz n xs (Ao w):=hw'.sat _ (CQ)
 rcases hv with ⟨rfl,rfl⟩|⟨g,cap,cur,rfl,hg,hn,hc,MG,QO⟩
 ·rw[Nat.zero_mul]at hl;omega
 have hb:w.heap[g]? =some (.cells cur T (0,0)):=hg
 have CH:n * sz<=cap * sz:=TO _ hn
 have Sy:cur=cur.toList.toArray:=by simp
 have FW:cur.toList.length=cur.size:=by simp
 rw[Sy]at hb
 obtain⟨w',r1,r2,r3,r4,r5,r6,r7⟩:=Kf (P:=C.P) (off:=k) us 0 cur.toList w h1 (by omega) hb
 simp only[Nat.add_zero,hm]at r2
 refine JW (w':=w') (by rw[ho];rfl) ?_ (hk undef I _ _ ⟨O,O⟩ (hw'.turn r3 r4 r5 (by omega) (fun j _ hj=>r7 j (fun e=>hj (by rw[e];rfl))) ?_ (.inl O)))
 ·simp only[execOp,ho,hs.ev hp,hs.ev hx,Instr.storeAt,Instr.sureAddr,storeVar,Value.cells]
  subst hm
  simp[Eb,hi.sizeOf,r1]
 subst hm
 refine⟨?_,.inr ⟨g,cap,_,O,r2,hn,hc,?_,?_⟩⟩
 ·simp only[Bh,BL,BA];omega
 ·simp only[List.size_toArray,Bh,BL,BA];omega
 rw[<-QO]
 exact AGc (by omega) (by omega)
theorem ABT{α:Type}{f:α->List Value}{sz:Nat}(hu:∀c,(f c).length=sz):∀{l:List α} {i:Nat} {e:α},i<l.length->((l.map f).flatten).take (i * sz)++f e++((l.map f).flatten).drop (i * sz+sz)=((l.set i e).map f).flatten
 | [],_,_,h=>by simp at h
 |c::l,0,e,h=>by
  rw[EN,List.flatten_cons,Nat.zero_mul,Qo,Nat.zero_add,PK,DS,EN,List.flatten_cons,List.drop_append,E4 (by rw[hu];omega),hu,Nat.sub_self];rfl
 |c::l,i+1,e,h=>by
  rw[EN,List.flatten_cons,Iw,EN,List.flatten_cons]
  rw[List.take_append,List.drop_append,LG (by rw[hu,Nat.add_mul];omega),E4 (by rw[hu,Nat.add_mul];omega),hu,PK]
  rw[show(i+1) * sz-sz=i * sz by rw[Nat.add_mul];omega,show(i+1) * sz+sz-sz=i * sz+sz by rw[Nat.add_mul];omega]
  rw[Ka,Ka,<-Ka (List.take _ _),ABT hu (by simpa using h)]
theorem Df{f:α->List Value}{l:List α}{C:Cx}{E:Cq}{I:AQ}{H:List HA}{o:Oper}{p x:Operand}{t T:TypeId}{j:Nat}{v:Value}{F:List HA}(e1:α)(ho:o.op=.store t p x)(hi:TI C.P t sz bytes z)
  (hp:ev E p=some (.pointer (some ⟨(Eb v).block,(Eb v).off+j * sz,none⟩))) (hx:ev E x=some (.agg (f e1).toArray)) (h1:∀u∈f e1,u.oneCell'=true) [hpk:Dx v T sz l.length (l.map f).flatten F H] (hu:∀c,(f c).length=sz) (hj:j<l.length) (ANA:0<sz):
  LN C E I H o (fun _ I' H'=>I=I'/\H'=Ap T sz f v (l.set j e1)::F):=by
 have Dg:((l.map f).flatten).length=l.length * sz:=by
  rw[List.length_flatten,List.map_map]
  have:(List.length ∘ f)=fun _=>sz:=by funext c;exact hu c
  rw[this,List.map_const',List.sum_replicate_nat]
 have h2:j * sz+sz<=l.length * sz:=by
  have:=TO sz (show j+1<=l.length from hj)
  rw[Nat.add_mul,Nat.one_mul]at this
  exact this
 have:=ALB (C:=C) (E:=E) (I:=I) (H:=H) (o:=o) (p:=p) (x:=x) (k:=j * sz) (v:=v) (us:=f e1) ho hi hp hx (hu e1) h1 (hpk:=hpk) (by rw[Dg];exact h2) ANA
 rw[ABT hu hj]at this
 have hl:(l.set j e1).length=l.length:=Il
 show LN C E I H o (fun _ I' H'=>I=I'/\H'=Ww v T sz (l.set j e1).length _::F)
 rw[hl]
 exact this
theorem FX(l:List α)(a b:α):(l++[a]).set l.length b=l++[b]:=by
 rw[List.set_append_right _ _ (A5 _),Nat.sub_self];rfl
theorem ZK{I:AQ}{H:List HA}{v:Value}{T:TypeId}{n:Nat}(hw:St w0 I H w)[hm:H3 v T sz n xs H]:∃A c,v=.slice A n c/\(0<n->∀a,A=some a->a.spot=none)/\(0<n->A≠none):=by
 obtain⟨_,hh⟩:=hw.sat _ hm.mem
 rcases hh with ⟨rfl,rfl⟩|⟨g,cap,cur,rfl,_⟩
 ·exact⟨none,0,O,fun h=>Ac h (Nat.lt_irrefl _),fun h=>Ac h (Nat.lt_irrefl _)⟩
 exact⟨_,cap,O,fun _ a h=>by cases h;rfl,fun _ h=>by cases h⟩
theorem Tj{C:Cx}{c:Code}{E:Cq}{I:AQ}{H:List HA}{D:List Deferred}{Q:Exit->Act->World->Prop}{T:TypeId}{n:Nat}(v:Value)[hm:H3 v T sz n xs H]
  (k:(∃A c,v=.slice A n c/\(0<n->∀a,A=some a->a.spot=none)/\(0<n->A≠none))->Tri.T C c E I H D Q):Tri.T C c E I H D Q:=fun a w hs hd hw=>k (ZK hw) a w hs hd hw
section
variable {C:Cx} {ops:Array Oper} {X Z:List Nat} {Q:Exit->Act->World->Prop} {S0:World->Prop}
theorem ZZ(EU:Hg ops=true)(hQ:AAj Q){oi:Oper}{v:Value}(hi:ops[i]? =some oi)
  {ρ:Operand->Value} (Dt:∀w,qAt C oi ρ w v) (hS:∀w w',S0 w->Below w.heap.size w w'->S0 w'):
  ∀(fuel:Nat) (listed:Array Bool) (a:Act) (w:World),Lb ops listed→
   (∀j oj,ops[j]? =some oj->j≠i->listed.getD j true=false->(∀e∈oj.after,Region.binds .any e=true->e.on≠i)->oi.apart ops oj=true)→
   i∈Region.ready .any ops listed->Region.wanted oi (yielded ops a.tmps)=true->a.eval=ρ\/execOp a.eval oi=execOp ρ oi→
   wa C ops X Z S0 Q fuel (listed.setIfInBounds i true) (a.put oi.dst v) w->wa C ops X Z S0 Q (fuel+1) listed a w:=by
 intro fuel
 induction fuel with
 |zero=>
  intro listed a w FW _ hr hwt hρ H w2 hb
  have hy:Yd C ops oi v a w:=.inl ⟨hwt,fun w2 hb=>by have:=Dt w2;unfold qAt at this ⊢;rcases hρ with e|e<;>rw[e]<;>exact this⟩
  refine⟨fun h=>(by rw[h]at hr;cases hr),fun j hj=>?_⟩
  by_cases TE:j=i
  ·subst TE
   exact(hy.below hb).wpOp hi fun w' hb'=>⟨fun _=>hb',fun _ h0=>hS _ _ h0 hb',Lw _ _ _ _ _ (DX hb hb') H⟩
  have:=ready_mono hj TE
  rw[H.1]at this
  cases this
 |succ fuel ih=>
  intro listed a w FW Tb hr hwt hρ H w2 hb
  have hy:Yd C ops oi v a w:=.inl ⟨hwt,fun w2 hb=>by have:=Dt w2;unfold qAt at this ⊢;rcases hρ with e|e<;>rw[e]<;>exact this⟩
  refine⟨fun h=>(by rw[h]at hr;cases hr),fun j hj=>?_⟩
  by_cases TE:j=i
  ·subst TE
   exact(hy.below hb).wpOp hi fun w' hb'=>⟨fun _=>hb',fun _ h0=>hS _ _ h0 hb',Lw _ _ _ _ _ (DX hb hb') H⟩
  have h1:=(H w2 hb).2 j (ready_mono hj TE)
  obtain⟨ABU,oj,hoj,Dt⟩:=mem_ready.1 hj
  have AQJ:=(mem_ready.1 hr).1
  have V0:listed.getD i false=false:=LX AQJ
  have AMa:∀e∈oj.after,Region.binds .any e=true->e.on≠i:=fun e he hb heq=>by
   have h1:=Dt e he hb
   rw[heq,V0]at h1
   cases h1
  have hap:=Tb j oj hoj TE ABU AMa
  have h2:=U7 hoj hap (Fm EU hoj) hQ h1
  have Vz:∀k ok,ops[k]? =some ok->k≠i->(listed.setIfInBounds j true).getD k true=false→
    (∀e∈ok.after,Region.binds .any e=true->e.on≠i)->oi.apart ops ok=true:=fun k ok hk hki Tz Cz=>by
   refine Tb k ok hk hki ?_ Cz
   by_cases hjk:j=k
   ·subst hjk;exact ABU
   rw[getD_set_ne true hjk]at Tz;exact Tz
  refine wpOpIn_mono (fun a' w' h3=>?_) h2
  obtain⟨⟨Rn,PJ,Td⟩,u,hu⟩:=h3
  obtain⟨_,_,h3⟩:=Oper.apart_spec hap
  refine⟨Rn,PJ,ih (listed.setIfInBounds j true) a' w' (FW.set hj) Vz (ready_mono hr (Ne.symm TE)) (by rw[hu,wanted_put oi a oj.dst u h3];exact hwt) ?_ ?_⟩
  ·refine .inr ?_
   rw[My hu,execOp_put (ops:=ops) oi (Fm EU hi).2 a oj.dst u h3]
   rcases hρ with e|e
   ·rw[e]
   exact e
  rw[Array.setIfInBounds_comm _ _ TE]
  exact Td
end
section
variable {C:Cx} {ops:Array Oper} {X Z:List Nat} {I0 I:AQ} {R0 H:List HA} {fuel:Nat} {listed:Array Bool} {E:Cq} {D:List Deferred} {Q:Exit->Act->World->Prop} {o:Oper}
theorem AdQ(i:Nat){v:Value}{d:Nat}(DD:okQ ops listed i=true)(hi:ops[i]? =some o)
  (hg:o.guard=none) (hd:o.dst=some d) (hn:Nat.blt d C.n=true) (hq:∀w1:World,BI {C with w0:=w1} E (fun _=>none) [] o v)
  (k:R C ops X Z I0 R0 fuel (listed.setIfInBounds i true) ((d,v)::E) I H D Q):R C ops X Z I0 R0 (fuel+1) listed E I H D Q:=by
 intro EU hQ a w hs MO hw
 simp only[okQ,Ay]at DD
 have Dt:∀w',qAt C o a.eval w' v:=fun w'=>hq w' a w' hs (St.start w' _ (fun _ _ h=>(by cases h)))
 have key:=ZZ (C:=C) (ops:=ops) (X:=X) (Z:=Z) (Q:=Q) (S0:=R2 C I0 R0) EU hQ hi (v:=v) (ρ:=a.eval) Dt (fun _ _=>R2.below) fuel listed a w (Mo DD.1.1) (Region.free_spec hi DD.2) (by simpa using DD.1.2) (by simp[Region.wanted,hg]) (.inl O)
 refine key ?_
 rw[hd]
 exact k EU hQ _ _ (hs.put (by simpa using hn) v) (by simpa[Act.put]using MO) hw
theorem Tx(i:Nat){Post:Value->AQ->List HA->Prop}(hX:X.contains i=true)(hi:ops[i]? =some o)(CH:Le I0 I)
  (hg:o.guard=none) (hd:o.dst=none) (he:LN C E I H o Post)
  (k:∀v I' H',Post v I' H'->Le I I'/\(Z.contains i=true\/Pw H' R0)/\R C ops X Z I0 R0 fuel (listed.setIfInBounds i true) E I' H' D Q):RX C ops X Z I0 R0 fuel listed E I H D Q i:=by
 intro EU hQ a w hs MO hw
 unfold wpOpIn
 simp only[hi]
 rw[AI (by simp[Region.wanted,hg])]
 refine he a w hs hw _ _ fun v I' H' w' hp hw'=>?_
 obtain⟨hII,Mq,hk⟩:=k v I' H' hp
 refine⟨fun hx=>Ac (by simpa using hX) hx,fun hz _=>?_,?_⟩
 ·rcases Mq with hc|Mq
  ·exact Ac (by simpa using hc) hz
  exact⟨I',CH.trans hII,hw'.sub Mq⟩
 rw[hd]
 exact hk EU hQ _ _ hs MO hw'
theorem VG{x y:Operand}{t t':TypeId}{p:Option Addr}(ho:o.op=.binOp .neq t x y t')(ht:C.P.underlying t=some (.pointer (C.P.pointee t)))(hx:ev E x=some (.pointer p))(hy:ev E y=some (.pointer none)):BI C E I H o (.bool (!p.isNone)):=
 B9 ho hx hy fun w=>run_neq_pointer_nil w t p ht
theorem Fd{T:TypeId}{n:Nat}(v:Value)[hm:H3 v T sz n xs H]
  (k:(∃A c,v=.slice A n c/\(0<n->∀a,A=some a->a.spot=none)/\(0<n->A≠none))->JS v->R C ops X Z I0 R0 fuel listed E I H D Q):R C ops X Z I0 R0 fuel listed E I H D Q:=
 fun EU hQ a w hs MO hw=>k (ZK hw) (UE hw) EU hQ a w hs MO hw
end
theorem Gf{v:Value}{n:Nat}(h:∃A c,v=.slice A n c/\(0<n->∀a,A=some a->a.spot=none)/\(0<n->A≠none)):∃A c,v=.slice A n c:=by
 obtain⟨A,c,h,_⟩:=h
 exact⟨A,c,h⟩
theorem XE(w:World)(t u ty e:TypeId)(i:TypeInfo)(ht:P.underlying t=some (.slice e))(hu:P.underlying u=some .string)(hi:P.info? e=some i)(hz:i.zero=some (.int .u8 0))(Lh:i.size=1)(hby:i.bytes=1)
  (v:Value) (n:Nat) (xs:List Value) (hv:IV v e 1 n xs (Ao w)) (s:ByteArray) (MN:n+s.size<=maxLen) (hb:n+s.size<=140737488355328) {v':Value} {w':World}
  (GY:(Builtin.append_ #[t,u] ty #[v,.string s]).run P w=.ok v' w') (hn:v=.slice none 0 0) (h0:s.size=0):v'=.slice none 0 0:=by
 obtain⟨v2,w2,AWz,_,_,AOf⟩:=Lib.run_append_own_string (P:=P) w 0 t u ty e i ht hu hi hz Lh hby v n xs (L4.1 hv) s MN hb (Aw _)
 rw[GY]at AWz
 injection AWz with h1 _
 rw[h1]
 exact AOf.2 ⟨hn,h0⟩
theorem Zc{C:Cx}{E:Cq}{I:AQ}{H:List HA}{o:Oper}{x y:Operand}{t u e:TypeId}{v:Value}{l s:List UInt8}{F:List HA}(ho:o.op=.call {callee:=.builtin .append,args:=#[x,y],argTypes:=#[t,u]})
  (ht:C.P.underlying t=some (.slice e)) (hu:C.P.underlying u=some .string) (hi:TI C.P e 1 1 (.int .u8 0))
  (hx:ev E x=some v) (hy:ev E y=some (Au s)) [hpk:Dx v e' 1 l.length (l.map Km).flatten F H] (hee:e=e')
  (MN:l.length+s.length<=maxLen) (hby:l.length+s.length<=140737488355328):
  LN C E I H o (fun v' I' H'=>I=I'/\H'=Ap e' 1 Km v' (l++s)::F/\(L7 v l->L7 v' (l++s))):=by
 subst hee
 intro a w hs hw K Q hk
 have hw':=hw.perm hpk.pick
 have hv:IV v e 1 l.length (l.map Km).flatten (Ao w):=hw'.sat _ (CQ)
 have MG:=Ee s
 obtain⟨i,M6,Ym,EG,N2⟩:=hi
 obtain⟨v',w',GY,ho',hg,hob⟩:=Zl (P:=C.P) w t u o.type e i ht hu M6 N2 Ym EG v _ _ hv ⟨s.toArray⟩ (by omega) (by omega)
 have hbo:L7 v l->L7 v' (l++s):=fun hb=>by
  by_cases hl:l++s=[]
  ·obtain⟨h1,h2⟩:=List.append_eq_nil_iff.1 hl
   left
   exact XE (P:=C.P) w t u o.type e i ht hu M6 N2 Ym EG v _ _ hv ⟨s.toArray⟩ (by omega) (by omega) GY (hb.resolve_right (fun h=>h h1)) (by rw[MG,h2];rfl)
  exact .inr hl
 rw[MG,AAE,<-List.flatten_append,<-Gm,<-Bh]at ho'
 refine D8 (v:=v') (w':=w') (by rw[ho];rfl) ?_ (hk v' I _ w' ⟨O,O,hbo⟩ (hw'.turn hg.os hg.tape hg.output hg.size (fun k hk Dk=>hg.block k hk Dk) ho' ?_))
 ·simp only[execOp,ho,resolve]
  simp[hs.ev hx,hs.ev hy,Au,invoke,builtin,GY]
 rcases hob with e|e
 ·exact .inl e
 exact .inr ⟨_,e,A5 _⟩
section
variable {C:Cx} {E:Cq} {I:AQ} {H:List HA} {D:List Deferred} {Q:Exit->Act->World->Prop} {o:Oper}
theorem G6{f:α->List Value}{l ls:List α}{x y:Operand}{t e:TypeId}{v vy:Value}{F:List HA}(ho:o.op=.call {callee:=.builtin .append,args:=#[x,y],argTypes:=#[t,t]})
  (ht:C.P.underlying t=some (.slice e)) (hi:TI C.P e sz bytes z) (hz:z.cells.size=sz) (MG:Nat.blt 0 sz=true)
  (hx:ev E x=some v) (hy:ev E y=some vy) (C3:Sl I sz vy (ls.map f)) [hpk:Dx v e' sz l.length (l.map f).flatten F H] (hee:e=e')
  (hu:∀c,(f c).length=sz) (h1:∀c∈ls,∀u∈f c,u.oneCell'=true) (MN:l.length+ls.length<=maxLen) (hby:(l.length+ls.length) * bytes<=140737488355328):
  LN C E I H o (fun v' I' H'=>I=I'/\H'=Ap e' sz f v' (l++ls)::F):=by
 by_cases hn:ls=[]
 ·subst hn
  subst hee
  intro a w hs hw K Q hk
  have hw':=hw.perm hpk.pick
  obtain⟨⟨A,c,rfl,hc,_⟩,_⟩:=C3
  obtain⟨i,M6,Ym,EG,N2⟩:=hi
  obtain⟨hl,hv⟩:IV v e sz l.length (l.map f).flatten (Ao w):=hw'.sat _ (CQ)
  have CH:∃base cap,v=.slice base l.length cap/\l.length<=cap:=by
   rcases hv with ⟨rfl,h0⟩|⟨g,cap,cur,rfl,_,CH,_⟩
   ·exact⟨none,0,by rw[h0],by omega⟩
   exact⟨_,_,O,CH⟩
  obtain⟨base,cap,rfl,CH⟩:=CH
  have AhH:∀w,Lib.bytesWorld w e ⟨#[]⟩=Lib.bytesWorld w e ⟨#[]⟩:=fun _=>rfl
  have GY:(Builtin.append_ #[t,t] o.type #[.slice base l.length cap,.slice A 0 c]).run C.P w=.ok (.slice base l.length cap) w:=by
   refine run_append_nothing (P:=C.P) w t t o.type e i ht M6 base l.length cap CH (.slice A 0 c) ⟨.inl ⟨e,ht⟩,fun w'=>rfl,?_,?_,by simp,fun _ h=>by cases h⟩<;>cases A<;>simp[Builtin.firstCells,loadCells,loadCellsFrom]
  refine D8 (v:=.slice base l.length cap) (w':=w) (by rw[ho];rfl) ?_ (hk _ I _ w ⟨O,by rw[Ap,Nj]⟩ hw')
  simp only[execOp,ho,resolve]
  simp only[WI,Bb]at hy
  simp[hs.ev hx,hs.ev hy,invoke,builtin,GY]
 have hmn:ls.map f≠[]:=by simpa using hn
 obtain⟨⟨A,c,rfl,hc,UT,Dk⟩,LD⟩:=id C3
 cases A with
 |none=>exact Ac O (Dk hmn)
 |some ad=>
  have ABR:=UT hmn ad O
  obtain⟨b,off,sp⟩:=ad
  cases ABR
  have Dg:∀m:List α,(m.map f).flatten.length=m.length * sz:=fun m=>by
   induction m with
   |nil=>simp
   |cons d m ih=>simp only[EN,List.flatten_cons,Bh,ih,hu,CD,Nat.add_mul,Nat.one_mul];omega
  have key:∀(m:List α) (j:Nat) (u:Value),(m.map f).flatten[j]? =some u->∃i k cs,(m.map f)[i]? =some cs/\cs[k]? =some u/\j=i * sz+k:=by
   intro m
   induction m with
   |nil=>intro j u h;cases h
   |cons d m ih=>
    intro j u h
    simp only[EN,List.flatten_cons]at h
    rcases Nat.lt_or_ge j (f d).length with Eg|Ua
    ·rw[List.getElem?_append_left Eg]at h
     exact⟨0,j,f d,O,h,by omega⟩
    rw[List.getElem?_append_right Ua]at h
    obtain⟨i,k,cs,h1,h2,h3⟩:=ih _ _ h
    refine⟨i+1,k,cs,by simpa using h1,h2,?_⟩
    rw[hu]at h3 Ua
    rw[Nat.add_mul,Nat.one_mul]
    omega
  have hy':ev E y=some (.slice (some ⟨b,off,none⟩) ls.length c):=by rw[hy,Af]
  have:=V6 (C:=C) (E:=E) (I:=I) (H:=H) (news:=(ls.map f).flatten) ho ht hi hz MG hx hy' hee (AHV fun j u hj=>by
   obtain⟨i,k,cs,h1,h2,rfl⟩:=key ls j u hj
   have:=LD i k cs u h1 h2
   rw[<-Nat.add_assoc]
   exact this) (Dg ls) (fun u hu'=>by
    obtain⟨cs,h2,h3⟩:=List.mem_flatten.1 hu'
    obtain⟨c',hc',rfl⟩:=FL.1 h2
    exact h1 c' hc' u h3) MN hby
  simpa[Ap]using this
end
section
variable {C:Cx} {E:Cq} {I:AQ} {H:List HA} {o:Oper}
end
section
variable {C:Cx} {E:Cq} {I:AQ} {H:List HA} {o:Oper} {x y:Operand} {t t':TypeId}
theorem wrap_i64{n:Nat}(h:n<9223372036854775808):IntKind.i64.wrap (n:Int)=(n:Int):=by
 simp[IntKind.wrap,IntKind.signed,IntKind.bits];omega
end
def HR(I:AQ)(b:Nat)(cs:List Value):Prop:=∀k u,cs[k]? =some u->DA I b k u
theorem HR.mono{I J:AQ}{b:Nat}(h:HR I b cs)(CH:Le I J):HR J b cs:=fun k u hu=>(h k u hu).mono CH
theorem D7{I:AQ}{H:List HA}{b:Nat}{T:TypeId}(hw:St w0 I H w)[hm:E2 b T cs H]:HR (Ao w) b cs:=fun k u hk=>
 ⟨cs.toArray,T,(0,0),hw.sat _ hm.mem,by simpa using hk⟩
section
variable {C:Cx} {E:Cq} {I:AQ} {H:List HA} {D:List Deferred} {Q:Exit->Act->World->Prop}
theorem CU{ops:Array Oper}{l:List Oper}{T:TypeId}{F:List HA}(b:Nat)[hp:Hs b T cs F H](k:∀J,Le I J->HR J b cs->L C ops l E J F D Q):L C ops l E I H D Q:=by
 intro a w hs hd hw
 obtain⟨J,h1,h2,h3⟩:=RU (hw.perm hp.pick)
 exact k J h1 h3 a w hs hd h2
end
def Gg(b:Nat):Value:=.pointer (some ⟨b,0,none⟩)
theorem UR{I:AQ}{b c:Nat}(h:HR I b vs)(hc:vs.length<=c):Sl I 1 (.slice (some ⟨b,0,none⟩) vs.length c) (vs.map fun v=>[v]):=by
 refine⟨⟨some ⟨b,0,none⟩,c,by rw[Af],by rw[Af];exact hc,fun _ a ha=>by cases ha;rfl,fun _ h=>by cases h⟩,?_⟩
 intro i j cs u hi hj
 rw[List.getElem?_map]at hi
 cases hv:vs[i]? with
 |none=>rw[hv]at hi;cases hi
 |some v=>
  rw[hv]at hi
  cases hi
  match j,hj with
  |0,hj=>
   have hj':v=u:=O3 hj
   subst hj'
   have:=h i v hv
   show DA I b (0+i * 1+0) v
   rw[show 0+i * 1+0=i by omega]
   exact this
  |j+1,hj=>simp at hj
theorem H7{I:AQ}{v:Value}(h:Sl I 1 v (vs.map fun x=>[x])){H:List HA}(hu:vs[i]? =some u):Rd w0 I H (Eb v).block ((Eb v).off+i * 1) u:=by
 have:=h.rd (w0:=w0) (H:=H) (i:=i) (j:=0) (cs:=[u]) (u:=u) (by rw[List.getElem?_map,hu];rfl) O
 exact this
theorem ADD{C:Cx}{E:Cq}{I:AQ}{H:List HA}{o:Oper}{f:FuncId}{v:Value}{bs ca:Array Value}
  (ho:o.op=.call {callee:=.value g,args:=args,argTypes:=ts}) (hg:ev E g=some (.func (.func f) bs ca)) (hbs:bs=#[]) (hca:ca=cs.toArray) (he:evs E args.toList=some vs)
  {fn:Func} (OG:C.P.funcs[f]? =some fn) (Hb:(fn.name== "runtime.NumGoroutine")=false) (Wr:fn.body.isNone=false)
  (hc:∀w,St C.w0 I H w->B2 C.P f (vs++cs) w v):BI C E I H o v:=by
 intro a w hs hw
 subst hbs hca
 have h1:args.map a.eval=vs.toArray:=by
  rw[<-hs.evs he];cases args;simp
 have GY:(execOp a.eval o).run C.P w=.ok (.enter f (vs++cs).toArray) w:=by
  simp only[execOp,ho,resolve,h1,hs.ev hg]
  simp[Deferred.ofValue,invoke,MY OG Hb Wr]
 refine⟨by rw[ho];rfl,?_⟩
 rw[GY]
 exact⟨O,hc w hw⟩
section
variable {C:Cx} {E:Cq} {I:AQ} {H:List HA} {D:List Deferred} {Q:Exit->Act->World->Prop} {o:Oper}
def APy:TypeDesc->Bool
 | .interface _=>false
 |_=>true
theorem Tf{x:Operand}{t:TypeId}{d:TypeDesc}{v:Value}(ho:o.op=.makeInterface t x)(ht:C.P.underlying t=some d)(hd:APy d=true)(hx:ev E x=some v):BI C E I H o (.iface t v):=
 Bw (by rw[ho];rfl) fun a w hs _=>by
  have hu:(Go.underlying t).run C.P w=.ok d w:=run_underlying ht w
  simp only[execOp,ho,hs.ev hx,Instr.makeInterface,Sem.run_bind,hu,PM]
  cases d<;>first |rfl|cases hd
theorem OW{e:Exit}{f:α->List Value}{l:List α}{T:TypeId}{F:List HA}(v:Value)[hp:Dx v T sz l.length (l.map f).flatten F H](hu:∀c,(f c).length=sz)
  (k:∀J,Le I J->Sl J sz v (l.map f)->N C e E J F D Q):N C e E I H D Q:=by
 intro a w hs hd hw
 obtain⟨J,h1,h2,h3⟩:=KB (hw.perm hp.pick) (by simp) (fun cs H8=>by obtain⟨c,_,rfl⟩:=FL.1 H8;exact hu c)
 exact k J h1 h3 a w hs hd h2
end
section
variable {C:Cx} {ops:Array Oper} {X Z:List Nat} {I0 I:AQ} {R0 H:List HA} {fuel:Nat} {listed:Array Bool} {E:Cq} {D:List Deferred} {Q:Exit->Act->World->Prop} {o:Oper}
end
section
variable {C:Cx} {E:Cq} {I:AQ} {H:List HA} {o:Oper}
end
section
variable {C:Cx} {E:Cq} {I:AQ} {H:List HA} {R:Ending->World->Prop} {fn:Func}
end
def AAm(P:Program)(l:Nat){γ:Type}(Cd Cx:Nat->γ->Prop)(G:γ->List HA)(II:γ->AQ)(Hd:Nat->AQ->List Value->Prop):Prop:=
 ∀(i:Nat) (vs:List Value) (g:γ) (J:AQ),Hd i J vs->Cd i g->Le (II g) J->∀(w0:World) (F:List HA) (w:World),St w0 J (F++G g) w→
  ∃fn tmps assign body,(Instr.yield l vs.toArray).run P w=.ok (.round l fn tmps assign body) w∧
   RoundIn (WF none) 0 P l fn tmps assign body w (fun e w'=>
    (e=.returned (.bool true)/\∃g',Cd (i+1) g'/\Le J (II g')/\St w0 (II g') (F++G g') w')∨
    (e=.returned (.bool false)/\∃g',Cx (i+1) g'/\Le J (II g')/\St w0 (II g') (F++G g') w'))
def YT(P:Program)(gf:FuncId)(lb:List Value)(n:Nat)(Hd:Nat->AQ->List Value->Prop)(Pre:AQ->Prop):Prop:=
 ∀(γ:Type) (Cd Cx:Nat->γ->Prop) (G:γ->List HA) (II:γ->AQ) (l:Nat),AAm P l Cd Cx G II Hd->∀(w0:World) (g:γ) (F:List HA) (w:World),Cd 0 g->Pre (II g)->St w0 (II g) (F++G g) w→
  Calls P gf (.func (.yield l) #[] #[]::lb).toArray w (fun e w'=> ∃v,e=.returned v/\∃g' J,(Cd n g'\/ ∃i,i<=n/\Cx i g')/\Le (II g) (II g')/\Le (II g') J/\St w0 J (F++G g') w')
section iter
variable {C:Cx} {E:Cq} {I:AQ} {H:List HA} {D:List Deferred} {Q:Exit->Act->World->Prop} {o:Oper}
theorem ADg{ops:Array Oper}{d l:Nat}{Cd Cx:Nat->γ->Prop}{G:γ->List HA}{II:γ->AQ}{Hd:Nat->AQ->List Value->Prop}{y:Operand}{F:List HA}{M:List HA->List HA}(g:γ)
  (hwt:∀a:Act,Jv E C.n a.tmps->Region.wanted o (yielded ops a.tmps)=true) (hd:o.dst=some d) (hn:Nat.blt d C.n=true)
  (ho:o.op=.call {callee:=.value y,args:=args,argTypes:=ts}) (hy:ev E y=some (.func (.yield l) #[] #[])) (he:evs E args.toList=some vs)
  (hY:AAm C.P l Cd Cx G II Hd) (hi:Hd i I vs) (hc:Cd i g) (hI:Le (II g) I) [ht:Tl (G g) F M H]
  (kt:∀g',Cd (i+1) g'->Le I (II g')->L C ops rest ((d,.bool true)::E) (II g') (M (G g')) D Q)
  (kf:∀g',Cx (i+1) g'->Le I (II g')->L C ops rest ((d,.bool false)::E) (II g') (M (G g')) D Q):L C ops (o::rest) E I H D Q:=by
 intro a w hs MO hw
 rw[ht.eq]at hw
 obtain⟨fn,tmps,assign,body,GY,MP⟩:=hY i vs g I hi hc hI C.w0 F w hw
 refine wpListIn_step fun K hK=>?_
 rw[AI (hwt a hs)]
 have h1:args.map a.eval=vs.toArray:=by
  rw[<-hs.evs he];cases args;simp
 refine⟨fun _ _=>trivial,?_⟩
 rw[Oper.semAt_eq _ _ _ (fun c hc=>by rw[ho]at hc;cases hc)]
 have hx:(execOp a.eval o).run C.P w=.ok (.round l fn tmps assign body) w:=by
  simp only[execOp,ho,resolve,h1,hs.ev hy]
  simp[Deferred.ofValue,invoke,GY]
 rw[hx]
 refine⟨fun h=>by simp at h,?_⟩
 have hr:RoundIn (WF C.r) 0 C.P l fn tmps assign body w _:=MP
 refine hr.mono fun e w' he=>?_
 rcases he with ⟨rfl,g',h1,h2,h3⟩|⟨rfl,g',h1,h2,h3⟩
 ·refine hK _ _ ?_
  rw[hd]
  exact kt g' h1 h2 _ _ (hs.put (by simpa using hn) _) (by simpa[Act.put]using MO) (ht.app (G g') ▸ h3)
 refine hK _ _ ?_
 rw[hd]
 exact kf g' h1 h2 _ _ (hs.put (by simpa using hn) _) (by simpa[Act.put]using MO) (ht.app (G g') ▸ h3)

theorem AOD{ps:List Nat}{assign body:Code}{gf:FuncId}{fng:Func}{lb:List Value}{nx:Nat}{Hd:Nat->AQ->List Value->Prop}{Pre:AQ->Prop}(hit:YT C.P gf lb nx Hd Pre)(hr:C.r=none)
  (hg:ev E g=some (.func (.func gf) #[] lb.toArray)) (OG:C.P.funcs[gf]? =some fng) (Hb:(fng.name== "runtime.NumGoroutine")=false) (Wr:fng.body.isNone=false)
  (Inv:Nat->γ->Prop) (Ex:Code->γ->Prop) (F0:List HA) (Hc:γ->List HA->List HA) (hHc:∀gg T,Hc gg T=Hc gg []++T) (IIc:γ->AQ) (E0:Cq) (hE0:Rh E E0) (g0:γ) (h0:Inv 0 g0) (Uz:Pre (IIc g0)) (P2:Le I (IIc g0))
  (hh:∀w,St C.w0 I H w->St C.w0 (IIc g0) (Hc g0 F0) w) (P0:ps.all (Nat.blt · C.n)=true) (hvs:∀i J vs,Hd i J vs->vs.length=ps.length)
  (round:∀(bl:Nat) (ready busy done:Loop) (dfr:HA) (i:Nat) (vs:List Value) (gg:γ) (J:AQ) (w0':World) (F:List HA),Hd i J vs->Inv i gg->Le (IIc gg) J->ready.state=.ready->busy={ready with state:=.busy}→
   T ⟨C.P,some bl,C.n,w0'⟩ assign (RC ps vs E0) J (Hc gg (Fg bl (.loop ready)::dfr::F)) []
    (Exit.then (AOr ⟨C.P,some bl,C.n,w0'⟩ bl body (roundPost C.P bl fun e w'=>
     (e=.returned (.bool true)/\∃g',Inv (i+1) g'/\Le J (IIc g')/\St w0' (IIc g') (Hc g' (Fg bl (.loop {ready with state:=.ready,pending:=none})::dfr::F)) w')∨
     (e=.returned (.bool false)/\∃c g',Ex c g'/\Le J (IIc g')/\St w0' (IIc g') (Hc g' (Fg bl (.loop {ready with state:=.done,pending:=some c})::dfr::F)) w'))) (fun _ _ _=>False)))
  (kdone:∀bd gg J,Inv nx gg->Le I (IIc gg)->Le (IIc gg) J->N C .normal E J (Hc gg (Fg bd (.deferred (some []))::F0)) ({target:=.collected bd,args:=#[]}::D) Q)
  (kstop:∀bd c gg J,Ex c gg->Le I (IIc gg)->Le (IIc gg) J->T C c E J (Hc gg (Fg bd (.deferred (some []))::F0)) ({target:=.collected bd,args:=#[]}::D) Q):
  T C (.rangeFunc g ps.toArray assign body) E I H D Q:=by
 intro a w hs hd hw
 refine wpIn_rangeFunc ?_
 intro fn Aju
 rw[AER,hr]
 obtain⟨W1,hW1⟩:∃W1,(w.alloc (.deferred (some []))).alloc (.loop (O4 fn a.tmps ps.toArray assign body w.heap.size .ready none))=W1:=⟨_,rfl⟩
 have Lg:St C.w0 (IIc g0) (Hc g0 []++(Fg (w.heap.size+1) (.loop (O4 fn a.tmps ps.toArray assign body w.heap.size .ready none))::Fg w.heap.size (.deferred (some []))::F0)) W1:=by
  have h1:=((hh w hw).new (.deferred (some []))).new (.loop (O4 fn a.tmps ps.toArray assign body w.heap.size .ready none))
  rw[World.size_alloc,hW1,hHc g0 F0]at h1
  refine h1.perm ?_
  refine(List.perm_append_comm (l₁:=[Fg (w.heap.size+1) (.loop (O4 fn a.tmps ps.toArray assign body w.heap.size .ready none)),Fg w.heap.size (.deferred (some []))]) (l₂:=Hc g0 []++F0)).trans ?_
  rw[Ka]
  exact List.Perm.append_left _ List.perm_append_comm
 refine⟨w.heap.size+1,[{target:=.collected w.heap.size,args:=#[]}],W1,{target:=.fn (.func gf) lb.toArray,args:=#[.func (.yield (w.heap.size+1)) #[] #[]]},W1,gf,
  (.func (.yield (w.heap.size+1)) #[] #[]::lb).toArray,W1,?_,?_,fun _ _=>trivial,?_,fun h=>by simp at h,?_⟩
 ·rw[<-hW1];exact run_enterLoop_outer _ _ _ _ _
 ·simp only[resolve,hs.ev hg]
  simp[Deferred.ofValue,Act.eval]
 ·simp[invoke,MY OG Hb Wr]

 let recS:LoopState->Option Code->Loop:=O4 fn a.tmps ps.toArray assign body w.heap.size
 let Cd:Nat->γ×Loop->Prop:=fun i p=>Inv i p.1/\p.2=recS .ready none
 let Cx:Nat->γ×Loop->Prop:=fun _ p=> ∃c,Ex c p.1/\p.2=recS .done (some c)
 let G:γ×Loop->List HA:=fun p=>Hc p.1 []++(Fg (w.heap.size+1) (.loop p.2)::Fg w.heap.size (.deferred (some []))::F0)
 let II:γ×Loop->AQ:=fun p=>IIc p.1
 have Vb:∀(F:List HA) (p:γ×Loop),(F++G p).Perm (Hc p.1 (Fg (w.heap.size+1) (.loop p.2)::Fg w.heap.size (.deferred (some []))::(F0++F))):=fun F p=>by
  rw[hHc p.1 (_::_)]
  refine(List.perm_append_comm (l₁:=F)).trans ?_
  show((Hc p.1 []++(Fg (w.heap.size+1) (.loop p.2)::Fg w.heap.size (.deferred (some []))::F0))++F).Perm _
  rw[Ka]
  exact List.Perm.refl _
 have hY:AAm C.P (w.heap.size+1) Cd Cx G II Hd:=by
  intro i vs p J hi hc hJ w0' F w2 JM
  obtain⟨gg,rec⟩:=p
  obtain⟨Ek,JG⟩:=hc
  simp only at Ek JG
  subst JG
  have hw3:=JM.perm (Vb F (gg,recS .ready none))
  have hl:w2.heap[w.heap.size+1]? =some (.loop (recS .ready none)):=hw3.sat (Fg (w.heap.size+1) (.loop (recS .ready none))) (by rw[hHc];exact List.mem_append_right _ (CQ))
  have Dg:vs.toArray.size=(recS .ready none).params.size:=by
   show vs.toArray.size=ps.toArray.size
   simpa using hvs _ _ _ hi
  refine⟨_,_,_,_,run_yield hl Dg,?_⟩
  refine roundIn_of_wpIn (F:=WF none) trivial ?_
  have Jh:Jv (RC ps vs E0) C.n (((recS .ready none).params.zip vs.toArray).foldl (fun t (x:Nat×Value)=>t.setIfInBounds x.1 x.2) (recS .ready none).tmps):=by
   have:=WY ps vs E0 a.tmps (hs.sub hE0) P0
   show Jv _ _ ((ps.toArray.zip vs.toArray).foldl _ a.tmps)
   rw[<-Array.foldl_toList]
   simpa using this
  have MP:=round (w.heap.size+1) (recS .ready none) (recS .busy none) (recS .done none) (Fg w.heap.size (.deferred (some []))) i vs gg J w0' (F0++F) hi Ek hJ O O
   ⟨_,[]⟩ w2 Jh O hw3
  refine wpIn_mono MP ?_
  rintro e a3 w3 hq
  cases e with
  |normal=>
   obtain⟨w4,Oi,Wi⟩:=hq
   refine⟨w4,Oi,wpIn_mono Wi ?_⟩
   have conv:∀e w',((e=Ending.returned (.bool true)/\∃g',Inv (i+1) g'/\Le J (IIc g')/\St w0' (IIc g') (Hc g' (Fg (w.heap.size+1) (.loop {recS .ready none with state:=.ready,pending:=none})::Fg w.heap.size (.deferred (some []))::(F0++F))) w')∨
    (e=.returned (.bool false)/\∃c g',Ex c g'/\Le J (IIc g')/\St w0' (IIc g') (Hc g' (Fg (w.heap.size+1) (.loop {recS .ready none with state:=.done,pending:=some c})::Fg w.heap.size (.deferred (some []))::(F0++F))) w'))→
    ((e=.returned (.bool true)/\∃g',Cd (i+1) g'/\Le J (II g')/\St w0' (II g') (F++G g') w')∨
    (e=.returned (.bool false)/\∃g',Cx (i+1) g'/\Le J (II g')/\St w0' (II g') (F++G g') w')):=by
    intro e w' h
    rcases h with ⟨rfl,g',h1,h2,h3⟩|⟨rfl,c,g',h1,h2,h3⟩
    ·exact .inl ⟨O,(g',recS .ready none),⟨h1,O⟩,h2,h3.perm (Vb F (g',recS .ready none)).symm⟩
    exact .inr ⟨O,(g',recS .done (some c)),⟨c,h1,O⟩,h2,h3.perm (Vb F (g',recS .done (some c))).symm⟩
   rintro e a5 w5 hp
   cases e<;>simp only[roundPost]at hp ⊢ <;>first | (obtain⟨v,w6,h1,h2⟩:=hp;exact⟨v,w6,h1,conv _ _ h2⟩)|exact hp
  |exit id=>exact hq
  |goto t=>exact hq
  |ret=>exact hq
  |panic c=>exact hq
  |outgrown=>exact hq
 have APq:=hit (γ×Loop) Cd Cx G II (w.heap.size+1) hY C.w0 (g0,recS .ready none) [] W1 ⟨h0,O⟩ Uz Lg
 have AGE:CallsIn (WF none) 0 C.P gf (.func (.yield (w.heap.size+1)) #[] #[]::lb).toArray W1 _:=callsIn_wide.2 APq
 have AHK:CallsIn (WF C.r) 0 C.P gf (.func (.yield (w.heap.size+1)) #[] #[]::lb).toArray W1 _:=AGE
 refine AHK.mono ?_
 rintro e w' ⟨v,rfl,⟨gg,rec⟩,J,Yi,CH,hJ,hw'⟩
 have hw'':St C.w0 J (Fg (w.heap.size+1) (.loop rec)::Fg w.heap.size (.deferred (some []))::(F0++Hc gg [])) w':=by
  refine hw'.perm ?_
  exact List.perm_append_comm (l₁:=Hc gg [])
 have hl:w'.heap[w.heap.size+1]? =some (.loop rec):=hw''.sat _ (CQ)
 have ADx:∀y,St C.w0 J (Hc gg (Fg w.heap.size (.deferred (some []))::F0)) (w'.putObj (w.heap.size+1) y):=fun y=>by
  have:=(Pb (y:=y) hw'').tail
  refine this.perm ?_
  rw[hHc gg (_::_)]
  exact List.perm_append_comm (l₁:=Fg w.heap.size (.deferred (some []))::F0)
 rcases Yi with ⟨Ek,JG⟩|⟨i,_,c,XF,JG⟩
 ·simp only at Ek JG
  subst JG
  refine⟨none,_,run_endLoop hl (show LoopState.ready≠LoopState.busy by decide),?_⟩
  exact kdone w.heap.size gg J Ek (P2.trans CH) hJ {a with defers:=[{target:=.collected w.heap.size,args:=#[]}]++a.defers} _ hs (by rw[<-hd];rfl) (ADx _)
 simp only at XF JG
 subst JG
 refine⟨some c,_,run_endLoop hl (show LoopState.done≠LoopState.busy by decide),?_⟩
 have hk:=kstop w.heap.size c gg J XF (P2.trans CH) hJ {a with defers:=[{target:=.collected w.heap.size,args:=#[]}]++a.defers}
 simp only[hr]at hk
 exact hk _ hs (by rw[<-hd];rfl) (ADx _)
end iter
section
variable {C:Cx} {E:Cq} {I:AQ} {H:List HA} {o:Oper} {x y:Operand} {t t':TypeId}
theorem AMU{v:Value}(hq:BI C E I H o v):LN C E I H o (fun v' I' H'=>v'=v/\I=I'/\H'=H):=
 fun a w hs hw K Q hk=>(hq a w hs hw).wpIn fun w' g=>hk _ _ _ _ ⟨O,O,O⟩ (hw.garb g)
end
section
variable {C:Cx} {E:Cq} {I:AQ} {H:List HA} {o:Oper}
def LU(P:Program)(t:TypeId)(name:String)(f:FuncId):Prop:=∀(p:Option Addr) (w:World),(method (P.types.size+Made.depth) t (.pointer p) name).run P w=.ok (f,.pointer p) w
theorem Uu{r:Operand}{t:TypeId}{p:Option Addr}{f:FuncId}{fn:Func}{a:Act}
  (ho:o.op=.call {callee:=.invoke r name,args:=args,argTypes:=ts}) (hr:a.eval r=.iface t (.pointer p)) (h1:args.map a.eval=vs.toArray) (hm:LU C.P t name f)
  (OG:C.P.funcs[f]? =some fn) (Hb:(fn.name== "runtime.NumGoroutine")=false) (Wr:fn.body.isNone=false):(execOp a.eval o).run C.P w=.ok (.enter f (.pointer p::vs).toArray) w:=by
 simp only[execOp,ho,resolve,h1,hr]
 have h2:=hm p w
 rw[show Made.depth=100 from O]at h2
 simp[invoke,callMethod,go_sem,h2,MY OG Hb Wr]
theorem OY{r:Operand}{t:TypeId}{p:Option Addr}{f:FuncId}{v:Value}{fn:Func}
  (ho:o.op=.call {callee:=.invoke r name,args:=args,argTypes:=ts}) (hr:ev E r=some (.iface t (.pointer p))) (he:evs E args.toList=some vs) (hm:LU C.P t name f)
  (OG:C.P.funcs[f]? =some fn) (Hb:(fn.name== "runtime.NumGoroutine")=false) (Wr:fn.body.isNone=false)
  (hc:∀w,St C.w0 I H w->B2 C.P f (.pointer p::vs) w v):BI C E I H o v:=by
 intro a w hs hw
 have h1:args.map a.eval=vs.toArray:=by
  rw[<-hs.evs he];cases args;simp
 refine⟨by rw[ho];rfl,?_⟩
 rw[Uu ho (hs.ev hr) h1 hm OG Hb Wr]
 exact⟨O,hc w hw⟩
theorem K9{r:Operand}{t:TypeId}{p:Option Addr}{f:FuncId}{fn:Func}{Post:Value->AQ->List HA->Prop}
  (ho:o.op=.call {callee:=.invoke r name,args:=args,argTypes:=ts}) (hr:ev E r=some (.iface t (.pointer p))) (he:evs E args.toList=some vs) (hm:LU C.P t name f)
  (OG:C.P.funcs[f]? =some fn) (Hb:(fn.name== "runtime.NumGoroutine")=false) (Wr:fn.body.isNone=false)
  (hc:∀w,St C.w0 I H w->Calls C.P f (.pointer p::vs).toArray w (fun e w'=> ∃v,e=.returned v/\∃I' H',Post v I' H'/\St w I' H' w')):LN C E I H o Post:=by
 intro a w hs hw K Q hk
 have h1:args.map a.eval=vs.toArray:=by
  rw[<-hs.evs he];cases args;simp
 exact JU (by rw[ho];rfl) (Uu ho (hs.ev hr) h1 hm OG Hb Wr) (hc w hw) fun v w'' ⟨I',H',hp,hw'⟩=>hk v I' H' w'' hp (St.rebase hw hw')
end
section
variable {C:Cx} {E:Cq} {I:AQ} {H:List HA} {D:List Deferred} {Q:Exit->Act->World->Prop}
theorem AOd{ops:Array Oper}{l:List Oper}{T:TypeId}{n:Nat}(v:Value)[hm:H3 v T sz n xs H]
  (k:(∃A c,v=.slice A n c/\(0<n->∀a,A=some a->a.spot=none)/\(0<n->A≠none))->JS v->L C ops l E I H D Q):L C ops l E I H D Q:=
 fun a w hs hd hw=>k (ZK hw) (UE hw) a w hs hd hw
end
section
variable {C:Cx} {ops:Array Oper} {X Z:List Nat} {I0:AQ} {R0:List HA} {fuel:Nat} {listed:Array Bool} {E:Cq} {I:AQ} {H:List HA} {D:List Deferred} {Q:Exit->Act->World->Prop}
theorem ASj(i j n:Nat)(DD:(Region.ready .any ops listed).all (fun m=>Nat.beq m i||Nat.beq m j||Nat.beq m n)=true)(Dk:(Region.ready .any ops listed).isEmpty=false)
  (hi:RX C ops X Z I0 R0 fuel listed E I H D Q i) (hj:RX C ops X Z I0 R0 fuel listed E I H D Q j) (hn:RX C ops X Z I0 R0 fuel listed E I H D Q n):R C ops X Z I0 R0 (fuel+1) listed E I H D Q:=by
 intro EU hQ a w hs MO hw w2 hb
 refine⟨fun h=>(by rw[h]at Dk;cases Dk),fun m hm=>?_⟩
 have:=List.all_eq_true.1 DD m hm
 rw[C4,C4]at this
 rcases this with (h|h)|h
 ·obtain rfl:=Nat.eq_of_beq_eq_true h
  exact hi EU hQ a w2 hs MO (hw.garb hb)
 ·obtain rfl:=Nat.eq_of_beq_eq_true h
  exact hj EU hQ a w2 hs MO (hw.garb hb)
 obtain rfl:=Nat.eq_of_beq_eq_true h
 exact hn EU hQ a w2 hs MO (hw.garb hb)
end
theorem Yw{H:List HA}{I:AQ}{F:List HA}(a b c d e:HA)[h:K3 [a,b,c,d,e] F H](hw:St w0 I H w):St w0 I (a::b::c::d::e::F) w:=hw.perm h.perm
def AWm(P:Program)(t:TypeId)(name:String)(f:FuncId):Bool:=match P.info? t with
 |some i=>match i.methods.find? (fun m=>m.name==name)with
  |some m=>m.path.isEmpty&&(match m.func with|some (g,b)=>Nat.beq g f&&b|none=>false)
  |none=>false
 |none=>false
theorem OH{t e:TypeId}{f:FuncId}(h:AWm P t name f=true)(hu:P.underlying t=some (.pointer e)):LU P t name f:=fun p w=>by
 unfold AWm at h
 split at h
 ·rename_i i hi
  split at h
  ·rename_i m hm
   rw[Ay]at h
   obtain⟨h1,h2⟩:=h
   have h1:m.path=#[]:=by simpa using h1
   split at h2
   ·rename_i g b hf
    rw[Ay]at h2
    obtain⟨h2,rfl⟩:=h2
    obtain rfl:=Nat.eq_of_beq_eq_true h2
    have ht:(typeInfo t).run P w=.ok i w:=by simp[typeInfo,hi,go_sem]
    rw[show P.types.size+Made.depth=(P.types.size+99)+1 from O]
    unfold method
    simp[ht,hm,h1,hf,follow,receiverAt,run_underlying hu,Place.get]
   cases h2
  cases h
 cases h
theorem Kd{f:α->List Value}{J:AQ}{b n:Nat}(l:List α)(h:∀k u,cs[k]? =some u->DA J b k u)(H8:cs=(l.map f).flatten)(hn:l.length=n)(hu:∀c,(f c).length=sz):
  Sl J sz (.slice (some ⟨b,0,none⟩) n n) (l.map f):=by
 subst H8 hn
 refine⟨⟨some ⟨b,0,none⟩,l.length,by rw[Af],by rw[Af];exact A5 _,(fun _ a ha=>by cases ha;rfl),(fun _ h=>by cases h)⟩,fun i j c u hi hj=>?_⟩
 show DA J b (0+i * sz+j) u
 refine h _ _ ?_
 rw[Nat.zero_add]
 have hc:c.length=sz:=by
  obtain⟨a,_,rfl⟩:=FL.1 (List.mem_of_getElem? hi)
  exact hu a
 have key:∀(l:List (List Value)) (i:Nat),(∀c∈l,c.length=sz)->l[i]? =some c->l.flatten[i * sz+j]? =some u:=by
  intro l
  induction l with
  |nil=>intro i _ hi;cases hi
  |cons d l ih=>
   intro i hl hi
   have hd:=hl d CQ
   cases i with
   |zero=>
    simp only[List.getElem?_cons_zero,Xq]at hi
    subst hi
    rw[List.flatten_cons,Nat.zero_mul,Nat.zero_add,List.getElem?_append_left (List.getElem?_eq_some_iff.1 hj).1]
    exact hj
   |succ i=>
    rw[List.getElem?_cons_succ]at hi
    rw[List.flatten_cons,Nat.add_mul,Nat.one_mul,List.getElem?_append_right (by omega),show i * sz+sz+j-d.length=i * sz+j by omega]
    exact ih i (fun x hx=>hl x (List.mem_cons_of_mem _ hx)) hi
 exact key (l.map f) i (fun c hc=>by obtain⟨a,_,rfl⟩:=FL.1 hc;exact hu a) hi
section
variable {C:Cx} {E:Cq} {I:AQ} {H:List HA} {o:Oper} {x y:Operand} {t t':TypeId} {s s':List UInt8}
theorem Rz(ho:o.op=.binOp .lss t x y t')(hx:ev E x=some (Au s))(hy:ev E y=some (Au s')):BI C E I H o (.bool (Op.bytesLess s s')):=
 B9 ho hx hy fun w=>by
  simp[eqGuard,Au,binOp,Op.stringOp,ByteArray.toList_eq]
end
theorem ARr{C:Cx}{E:Cq}{I:AQ}{H:List HA}{o:Oper}{l:Nat}{Cd Cx:Nat->γ->Prop}{G:γ->List HA}{II:γ->AQ}{xs:List (List Value)}{y:Operand}{F:List HA}{M:List HA->List HA}(g:γ)
  (ho:o.op=.call {callee:=.value y,args:=args,argTypes:=ts}) (hy:ev E y=some (.func (.yield l) #[] #[])) (he:evs E args.toList=some vs)
  (hY:Ze C.P l Cd Cx G II xs) (hi:xs[i]? =some vs) (hc:Cd i g) (hI:I=II g) [ht:Tl (G g) F M H]:
  LN C E I H o (fun v I' H'=> ∃(g':γ) (b:Bool),v=.bool b/\(b=true->Cd (i+1) g')/\(b=false->Cx (i+1) g')/\Le I I'/\I'=II g'/\H'=M (G g')):=by
 intro a w hs hw K Q hk
 subst hI
 rw[ht.eq]at hw
 obtain⟨fn,tmps,assign,body,GY,MP⟩:=hY i vs g hi hc C.w0 F w hw
 have h1:args.map a.eval=vs.toArray:=by
  rw[<-hs.evs he];cases args;simp
 refine⟨fun _ _=>trivial,?_⟩
 rw[Oper.semAt_eq _ _ _ (fun c hc=>by rw[ho]at hc;cases hc)]
 have hx:(execOp a.eval o).run C.P w=.ok (.round l fn tmps assign body) w:=by
  simp only[execOp,ho,resolve,h1,hs.ev hy]
  simp[Deferred.ofValue,invoke,GY]
 rw[hx]
 refine⟨fun h=>by simp at h,?_⟩
 have hr:RoundIn (WF C.r) 0 C.P l fn tmps assign body w _:=MP
 refine hr.mono fun e w' he=>?_
 rcases he with ⟨rfl,g',h1,h2,h3⟩|⟨rfl,g',h1,h2,h3⟩
 ·exact hk _ _ _ w' ⟨g',true,O,fun _=>h1,fun h=>(by cases h),h2,rfl,rfl⟩ (ht.app (G g') ▸ h3)
 exact hk _ _ _ w' ⟨g',false,O,fun h=>(by cases h),fun _=>h1,h2,rfl,rfl⟩ (ht.app (G g') ▸ h3)
theorem FV{f:α->List Value}{l:List α}{I:AQ}{T:TypeId}{v:Value}{F:List HA}(h:St w0 I (Ap T sz f v l::F) w)(hu:∀c,(f c).length=sz):∃J,Le I J/\St w0 J F w/\Sl J sz v (l.map f):=
 KB h (by simp) (fun cs H8=>by obtain⟨c,_,rfl⟩:=FL.1 H8;exact hu c)
class FO(P:Program) where
 pl:Nat->List (Nat×Nat)
 ok:∀t,pl t=[]\/ ∃fs:Array Field,P.underlying t=some (.struct fs)/\Rs P fs.toList (pl t)
def AbY(m n:Int):BinOp->Option Value
 | .lss=>some (.bool (decide (m<n)))
 | .leq=>some (.bool (decide (m<=n)))
 | .gtr=>some (.bool (decide (n<m)))
 | .geq=>some (.bool (decide (n<=m)))
 | .eql=>some (.bool (decide (m=n)))
 | .neq=>some (.bool (decide (m≠n)))
 |_=>none
def VI{α:Type}:List α->Nat->Option α
 | [],_=>none
 |a::_,0=>some a
 |_::l,k+1=>VI l k
theorem RS{α:Type}:∀(l:List α) (k:Nat),VI l k=l[k]?
 | [],_=>by simp[VI]
 |a::_,0=>by simp[VI]
 |_::l,k+1=>by simp[VI,RS l k]
def AYw(P:Program)[FO P](t k:Nat):Option Nat:=match VI (FO.pl P t) k with
 |some (n,s)=>bif Nat.ble 1 s then some n else none
 |none=>none
theorem YE{P:Program}:∀{fs:List Field} {pl:List (Nat×Nat)} {k n s:Nat},Rs P fs pl->VI pl k=some (n,s)->∃(f:Field) (bytes:Nat) (z:Value),VI fs k=some f/\TI P f.type s bytes z/\f.offset=n
 | [],[],_,_,_,_,h=>by cases h
 |f::fs,(o,s)::pl,0,_,_,⟨h1,⟨b,z,h2⟩,_⟩,h=>by cases h;exact⟨f,b,z,rfl,h2,h1⟩
 |f::fs,(o,s)::pl,k+1,_,_,⟨_,_,h3⟩,h=>by
  have h4:=YE (k:=k) h3 h
  exact h4
theorem AUZ[FO P]{t k n:Nat}(h:AYw P t k=some n):∃(fs:Array Field) (f:Field) (m bytes:Nat) (z:Value),P.underlying t=some (.struct fs)/\fs[k]? =some f/\TI P f.type m bytes z/\Nat.ble 1 m=true/\f.offset=n:=by
 unfold AYw at h
 split at h
 ·rename_i n' s hl
  cases hs:Nat.ble 1 s with
  |false=>rw[hs]at h;cases h
  |true=>
   rw[hs]at h
   cases h
   rcases FO.ok (P:=P) t with h0|⟨fs,h1,h2⟩
   ·rw[h0]at hl;cases hl
   obtain⟨f,b,z,h3,h4,h5⟩:=YE h2 hl
   exact⟨fs,f,s,b,z,h1,by rw[RS]at h3;simpa using h3,h4,hs,h5⟩
 cases h
def AQC:IntKind->BinOp->Bool
 | .u8,.eql=>true
 | .u8,.neq=>true
 |_,_=>false
def AJR(P:Program)[FO P](E:Cq):Op->Option Value
 | .move x=>ev E x
 | .assign x=>ev E x
 | .nilCheck x=>match ev E x with
  |some (.pointer (some a))=>some (.pointer (some a))
  |some (.iface t v)=>some (.iface t v)
  |_=>none
 | .extract x k=>match ev E x with
  |some (.tuple vs)=>VI vs.toList k
  |_=>none
 | .unOp .not _ x=>match ev E x with
  |some (.bool b)=>some (.bool (!b))
  |_=>none
 | .fieldAddr t x k=>match ev E x with
  |some (.pointer (some ⟨b,off,none⟩))=>match AYw P t k with
   |some n=>some (.pointer (some ⟨b,off+n,none⟩))
   |none=>none
  |_=>none
 | .binOp op _ x y _=>match ev E x with
  |some (.int k m)=>match ev E y with
   |some (.int k' n)=>match decEq k k' with
    |isTrue _=>bif AQC k op then none else AbY m n op
    |isFalse _=>none
   |_=>none
  |_=>none
 |_=>none
section
variable {C:Cx} {E:Cq} {I:AQ} {H:List HA} {o:Oper}
theorem Wd[FO C.P]{v:Value}(h:AJR C.P E o.op=some v):BI C E I H o v:=by
 unfold AJR at h
 split at h
 ·rename_i x ho;exact AGM ho h
 ·rename_i x ho;exact AEM ho h
 ·rename_i x ho
  split at h
  ·rename_i a ha;cases h;exact AGt ho ha
  ·rename_i t v ha;cases h;exact Bw (by rw[ho];rfl) fun ac w hs _=>by simp[execOp,ho,hs.ev ha]
  cases h
 ·rename_i x k ho
  split at h
  ·rename_i vs hv;rw[RS]at h;exact AJs ho hv (by simpa using h)
  cases h
 ·rename_i t x ho
  split at h
  ·rename_i b hb;cases h;exact ADE ho hb
  cases h
 ·rename_i t x k ho
  split at h
  ·rename_i b off hx
   split at h
   ·rename_i n hn
    cases h
    obtain⟨fs,f,m,bytes,z,h1,h2,h3,h4,rfl⟩:=AUZ hn
    exact ACL ho h1 h2 O h3 h4 hx
   cases h
  cases h
 ·rename_i op t x y t' ho
  split at h
  ·rename_i k m hx
   split at h
   ·rename_i k' n hy
    split at h
    case h_2=>cases h
    rename_i hk _
    subst hk
    cases hbe:AQC k op with
    |true=>rw[hbe]at h;cases h
    |false=>
    rw[hbe]at h
    simp only[cond_false]at h
    cases op<;>first | (cases h;done)|skip
    all_goals simp only[AbY]at h
    all_goals first | (cases h;done)|skip
    all_goals injection h with h
    all_goals subst h
    ·exact AOs ho hx hy
    ·exact AWg ho hx hy
    ·exact Ack ho hx hy
    ·exact Abp ho hx hy
    ·exact Acv ho hx hy
    exact Adb ho hx hy
   cases h
  cases h
 cases h
def QI(n:Nat)(o:Oper):Option Nat:=match o.guard,o.dst with
 |none,some d=>bif Nat.blt d n then some d else none
 |_,_=>none
theorem K0{n d:Nat}(h:QI n o=some d):o.guard=none/\o.dst=some d/\Nat.blt d n=true:=by
 unfold QI at h
 split at h
 ·rename_i d' hg hd
  cases hb:Nat.blt d' n with
  |false=>rw[hb]at h;cases h
  |true=>rw[hb]at h;cases h;exact⟨hg,hd,hb⟩
 cases h
def ALE(P:Program)[FO P](n:Nat)(E:Cq)(o:Oper):Option (Nat×Value):=match QI n o with
 |some d=>match AJR P E o.op with
  |some v=>some (d,v)
  |none=>none
 |none=>none
theorem RG[FO C.P]{d:Nat}{v:Value}(h:ALE C.P C.n E o=some (d,v)):o.guard=none/\o.dst=some d/\Nat.blt d C.n=true/\BI C E I H o v:=by
 unfold ALE at h
 split at h
 ·rename_i d' hd
  split at h
  ·rename_i v' hv
   cases h
   obtain⟨h1,h2,h3⟩:=K0 hd
   exact⟨h1,h2,h3,Wd hv⟩
  cases h
 cases h
def ANz(P:Program)[FO P](n:Nat):Nat->Cq->List Oper->Option (Cq×List Oper)
 |0,E,l=>some (E,l)
 |_+1,_,[]=>none
 |k+1,E,o::l=>match ALE P n E o with
  |some (d,v)=>ANz P n k ((d,v)::E) l
  |none=>none
def AOQ(P:Program)[FO P](n:Nat):Cq->List Oper->Option Cq
 |E,[]=>some E
 |E,o::l=>match ALE P n E o with
  |some (d,v)=>AOQ P n ((d,v)::E) l
  |none=>none
variable {D:List Deferred} {Q:Exit->Act->World->Prop} {ops:Array Oper} {K:Act->Prop}
theorem Tq[FO C.P](k:Nat){E':Cq}{l l':List Oper}(h:ANz C.P C.n k E l=some (E',l'))(hk:L C ops l' E' I H D Q):L C ops l E I H D Q:=by
 induction k generalizing E l with
 |zero=>cases h;exact hk
 |succ k ih=>
  cases l with
  |nil=>cases h
  |cons o l=>
   unfold ANz at h
   split at h
   ·rename_i d v hr
    obtain⟨h1,h2,h3,h4⟩:=RG hr
    exact l_q h1 h2 h3 h4 (ih h)
   cases h
theorem K5[FO C.P](k:Nat){E':Cq}{l l':List Oper}(h:ANz C.P C.n k E l=some (E',l'))(hk:QS C ops l' E' I H K):QS C ops l E I H K:=by
 induction k generalizing E l with
 |zero=>cases h;exact hk
 |succ k ih=>
  cases l with
  |nil=>cases h
  |cons o l=>
   unfold ANz at h
   split at h
   ·rename_i d v hr
    obtain⟨h1,h2,h3,h4⟩:=RG hr
    exact s_q h1 h2 h3 h4 (ih h)
   cases h
theorem AU[FO C.P]{E':Cq}{l:List Oper}(h:AOQ C.P C.n E l=some E')(hk:N C .normal E' I H D Q):L C ops l E I H D Q:=by
 induction l generalizing E with
 |nil=>cases h;exact C7 hk
 |cons o l ih=>
  unfold AOQ at h
  split at h
  ·rename_i d v hr
   obtain⟨h1,h2,h3,h4⟩:=RG hr
   exact l_q h1 h2 h3 h4 (ih h)
  cases h
def ASa(ops:Array Oper)(n:Nat)(E:Cq)(o:Oper):Option Nat:=match o.guard,o.dst with
 |some (j,b),some d=>match VI ops.toList j with
  |some oj=>match oj.dst with
   |some dj=>match get E dj with
    |some (.bool b')=>bif b==b'&&Nat.blt d n then some d else none
    |_=>none
   |none=>none
  |none=>none
 |_,_=>none
theorem AIo{d:Nat}(h:ASa ops C.n E o=some d):∃j b oj dj,o.guard=some (j,b)/\ops[j]? =some oj/\oj.dst=some dj/\get E dj=some (.bool b)/\o.dst=some d/\Nat.blt d C.n=true:=by
 unfold ASa at h
 split at h
 ·rename_i j b d' hg hd
  split at h
  ·rename_i oj hj
   split at h
   ·rename_i dj QL
    split at h
    ·rename_i b' hb
     cases hc:(b==b'&&Nat.blt d' C.n)with
     |false=>rw[hc]at h;cases h
     |true=>
      rw[hc]at h
      cases h
      rw[Ay,beq_iff_eq]at hc
      obtain⟨rfl,hn⟩:=hc
      rw[RS]at hj
      exact⟨j,b,oj,dj,hg,by simpa using hj,QL,hb,hd,hn⟩
    cases h
   cases h
  cases h
 cases h
theorem sg{d:Nat}{v:Value}(h:ASa ops C.n E o=some d)(hq:BI C E I H o v)(k:QS C ops rest ((d,v)::E) I H K):QS C ops (o::rest) E I H K:=by
 obtain⟨j,b,oj,dj,h1,h2,h3,h4,h5,h6⟩:=AIo h
 exact s_g h1 h2 h3 h4 h5 h6 hq k
theorem sq{d:Nat}{v:Value}(h:QI C.n o=some d)(hq:BI C E I H o v)(k:QS C ops rest ((d,v)::E) I H K):QS C ops (o::rest) E I H K:=by
 obtain⟨h1,h2,h3⟩:=K0 h
 exact s_q h1 h2 h3 hq k
theorem le{d:Nat}{Post:Value->AQ->List HA->Prop}(h:QI C.n o=some d)(he:LN C E I H o Post)(k:∀v I' H',Post v I' H'->L C ops rest ((d,v)::E) I' H' D Q):L C ops (o::rest) E I H D Q:=by
 obtain⟨h1,h2,h3⟩:=K0 h
 exact l_e h1 h2 h3 he k
theorem tr{l:List Oper}{y:Code}(h:L C l.toArray l E I H D (Exit.then (y.wpIn (WF C.r) 0 C.P Q) Q)):T C (.seq (.region id l.toArray false) y) E I H D Q:=AF (AC h)
theorem ln{y:Code}(h:T C y E I H D Q):L C ops [] E I H D (Exit.then (y.wpIn (WF C.r) 0 C.P Q) Q):=C7 (AS h)
theorem lnt{x y:Code}(h:T C x E I H D (Exit.then (y.wpIn (WF C.r) 0 C.P Q) Q)):L C ops [] E I H D (Exit.then ((Code.seq x y).wpIn (WF C.r) 0 C.P Q) Q):=C7 (AS (AF h))
theorem AK[FO C.P]{l:List Oper}{y:Code}{E':Cq}(h:AOQ C.P C.n E l=some E')(hk:T C y E' I H D Q):T C (.seq (.region id l.toArray false) y) E I H D Q:=AF (AC (AU h (AS hk)))
theorem AH[FO C.P]{l:List Oper}{y:Code}{E':Cq}(h:AOQ C.P C.n E l=some E')(hk:T C y E' I H D Q):L C ops l E I H D (Exit.then (y.wpIn (WF C.r) 0 C.P Q) Q):=AU h (AS hk)
theorem AV{y:Code}(h:T C y E I H D Q):T C .skip E I H D (Exit.then (y.wpIn (WF C.r) 0 C.P Q) Q):=AY (AS h)
class AKa(Q:Exit->Act->World->Prop)(Q':outParam (Exit->Act->World->Prop)):Prop where
 ok:∀a w,Q' .ret a w->Q .ret a w
instance(priority:=low) peel0 {Q:Exit->Act->World->Prop}:AKa Q Q:=⟨fun _ _ h=>h⟩
instance Ala{K:Act->World->Prop}{Q Q':Exit->Act->World->Prop}[h:AKa Q Q']:AKa (Exit.then K Q) Q':=⟨fun a w k=>h.ok a w k⟩
instance Ako{id:Nat}{Q Q':Exit->Act->World->Prop}[h:AKa Q Q']:AKa (Exit.inBlock id Q) Q':=⟨fun a w k=>h.ok a w k⟩
theorem Ak{Q':Exit->Act->World->Prop}[h:AKa Q Q'](k:N C .ret E I H D Q'):T C .ret E I H D Q:=AX fun a w hs hd hw=>h.ok a w (k a w hs hd hw)
def N6(E:Cq):List Nat->Option Cq
 | []=>some []
 |k::ks=>match get E k with
  |some v=>match N6 E ks with
   |some E'=>some ((k,v)::E')
   |none=>none
  |none=>none
theorem OV{E':Cq}:∀(ks:List Nat),N6 E ks=some E'->∀{E'':Cq},E'=E''->Rh E E''
 | [],h,_,e=>by cases h;subst e;exact Bk
 |k::ks,h,_,e=>by
  unfold N6 at h
  split at h
  ·rename_i v hv
   split at h
   ·rename_i E1 h1
    cases h;subst e
    exact FY hv (OV ks h1 O)
   cases h
  cases h
theorem BS{E':Cq}(h:N6 E (E'.map (·.1))=some E'):Rh E E':=OV _ h rfl
theorem XN{l:List Oper}{y z:Code}(h:L C l.toArray l E I H D (Exit.then (y.wpIn (WF C.r) 0 C.P (Exit.then (z.wpIn (WF C.r) 0 C.P Q) Q)) (Exit.then (z.wpIn (WF C.r) 0 C.P Q) Q))):L C ops [] E I H D (Exit.then ((Code.seq (.seq (.region id l.toArray false) y) z).wpIn (WF C.r) 0 C.P Q) Q):=C7 (AS (AF (tr h)))
theorem DL{l:List Oper}{y:Code}(h:L C l.toArray l E I H D (Exit.then (y.wpIn (WF C.r) 0 C.P Q) Q)):L C ops [] E I H D (Exit.then ((Code.seq (.region id l.toArray false) y).wpIn (WF C.r) 0 C.P Q) Q):=C7 (AS (tr h))
theorem Dp{y:Code}(h:T C y E I H D Q):QS C ops [] E I H (AJv C I H D (Exit.then (y.wpIn (WF C.r) 0 C.P Q) Q)):=KY (AS h)
theorem tq{l:List Oper}{y:Code}(hs:QS C l.toArray l E I H (AJv C I H D (Exit.then (y.wpIn (WF C.r) 0 C.P Q) Q))):T C (.seq (.region id l.toArray false) y) E I H D Q:=AF (FU hs)
class LT(P:Program)(t:Nat):Prop where
 ok:∃d,P.underlying t=some d/\Nw d=true
class Im(P:Program)(f:Nat):Prop where
 ok:∃fn,P.funcs[f]? =some fn/\(fn.name== "runtime.NumGoroutine")=false/\fn.body.isNone=false
class Amg(P:Program)(t:Nat):Prop where
 ok:P.underlying t=some .string
theorem Az{x:Operand}{t T:TypeId}{b:Nat}(ho:o.op=.load t x)(hx:ev E x=some (.pointer (some ⟨b,off,none⟩)))[hl:LT C.P t][hm:E2 b T cs H](hu:cs[off]? =some u):BI C E I H o u:=by
 obtain⟨d,h1,h2⟩:=hl.ok
 exact AHI ho h1 h2 hx hu
theorem Ai{x:Operand}{t:TypeId}{b:Nat}(ho:o.op=.load t x)(hx:ev E x=some (.pointer (some ⟨b,off,none⟩)))[hl:LT C.P t](hr:Rd C.w0 I H b off u):BI C E I H o u:=by
 obtain⟨d,h1,h2⟩:=hl.ok
 exact AGg ho h1 h2 hx hr
theorem qc{f:FuncId}{v:Value}
  (ho:o.op=.call {callee:=.value g,args:=args,argTypes:=ts}) (hg:ev E g=some (.func (.func f) #[] #[])) (he:evs E args.toList=some vs) [hf:Im C.P f]
  (hc:∀w,St C.w0 I H w->B2 C.P f vs w v):BI C E I H o v:=by
 obtain⟨fn,h1,h2,h3⟩:=hf.ok
 exact AGm ho hg he h1 h2 h3 hc
theorem ec{f:FuncId}{Post:Value->AQ->List HA->Prop}
  (ho:o.op=.call {callee:=.value g,args:=args,argTypes:=ts}) (hg:ev E g=some (.func (.func f) #[] #[])) (he:evs E args.toList=some vs) [hf:Im C.P f]
  (hc:∀w,St C.w0 I H w->Calls C.P f vs.toArray w (fun e w'=> ∃v,e=.returned v/\∃I' H',Post v I' H'/\St w I' H' w')):LN C E I H o Post:=by
 obtain⟨fn,h1,h2,h3⟩:=hf.ok
 exact AOY ho hg he h1 h2 h3 hc
def rok(ops:Array Oper):Array Bool->List Nat->Bool
 |_,[]=>true
 |li,i::is=>okQ ops li i&&rok ops (li.setIfInBounds i true) is
def AYK:Array Bool->List Nat->Array Bool
 |li,[]=>li
 |li,i::is=>AYK (li.setIfInBounds i true) is
def ASV(P:Program)[FO P](n:Nat)(l:List Oper):Cq->List Nat->Option Cq
 |E,[]=>some E
 |E,i::is=>match VI l i with
  |some o=>match ALE P n E o with
   |some (d,v)=>ASV P n l ((d,v)::E) is
   |none=>none
  |none=>none
theorem ANV[FO P]{n:Nat}{d:Nat}{v:Value}(h:ALE P n E o=some (d,v))(r:Option Nat)(w1:World):BI ⟨P,r,n,w1⟩ E (fun _=>none) [] o v:=(RG (C:=⟨P,r,n,w1⟩) h).2.2.2
theorem AcF{X Z:List Nat}{I0:AQ}{R0:List HA}[FO C.P](is:List Nat){fuel f:Nat}{listed:Array Bool}{E':Cq}(DD:rok ops listed is=true)(h:ASV C.P C.n ops.toList E is=some E')(hf:Nat.sub fuel is.length=f)(NM:Nat.ble is.length fuel=true)
  (k:R C ops X Z I0 R0 f (AYK listed is) E' I H D Q):R C ops X Z I0 R0 fuel listed E I H D Q:=by
 induction is generalizing E listed fuel f with
 |nil=>cases h;cases hf;exact k
 |cons i is ih=>
  have NM:is.length+1<=fuel:=by simpa using NM
  obtain⟨fuel,rfl⟩:∃m,fuel=m+1:=⟨fuel-1,by omega⟩
  simp only[rok,Ay]at DD
  unfold ASV at h
  split at h
  ·rename_i o hi
   split at h
   ·rename_i d v hr
    obtain⟨h1,h2,h3,_⟩:=RG (I:=I) (H:=H) hr
    rw[RS]at hi
    have hf2:fuel+1-(is.length+1)=f:=hf
    exact AdQ i DD.1 (by simpa using hi) h1 h2 h3 (fun w1=>ANV hr C.r w1) (ih DD.2 h (show fuel-is.length=f by omega) (by simpa using(show is.length<=fuel by omega)) k)
   cases h
  cases h
def AXF(ops:Array Oper)(X:List Nat)(listed:Array Bool)(i:Nat):Bool:=okX ops X listed i&& !(Region.ready .any ops listed).isEmpty
theorem re{X Z:List Nat}{I0:AQ}{R0:List HA}{fuel:Nat}{listed:Array Bool}(i:Nat){d:Nat}{Post:Value->AQ->List HA->Prop}(DD:AXF ops X listed i=true)(hi:ops[i]? =some o)(CH:Le I0 I)
  (hd:QI C.n o=some d) (he:LN C E I H o Post)
  (k:∀v I' H',Post v I' H'->Le I I'/\(Z.contains i=true\/Pw H' R0)/\R C ops X Z I0 R0 fuel (listed.setIfInBounds i true) ((d,v)::E) I' H' D Q):R C ops X Z I0 R0 (fuel+1) listed E I H D Q:=by
 obtain⟨h1,h2,h3⟩:=K0 hd
 rw[AXF,Ay,FJ]at DD
 exact r_e i DD.1 DD.2 hi CH h1 h2 h3 he k
theorem rq1{X Z:List Nat}{I0:AQ}{R0:List HA}{fuel:Nat}{listed:Array Bool}(i:Nat){v:Value}{d:Nat}(DD:(okQ ops listed i&&L8 ops X i)=true)(hi:ops[i]? =some o)
  (hd:QI C.n o=some d) (hq:BI C E I0 H o v)
  (k:R C ops X Z I0 R0 fuel (listed.setIfInBounds i true) ((d,v)::E) I0 H D Q):R C ops X Z I0 R0 (fuel+1) listed E I0 H D Q:=by
 obtain⟨h1,h2,h3⟩:=K0 hd
 exact AjR i DD hi (Le.refl _) h1 h2 h3 hq k
theorem rq0{X Z:List Nat}{I0:AQ}{R0:List HA}{fuel:Nat}{listed:Array Bool}(i:Nat){v:Value}{d:Nat}(DD:(okQ ops listed i&&L8 ops Z i)=true)(hi:ops[i]? =some o)(CH:Le I0 I)[Mq:Fs H R0]
  (hd:QI C.n o=some d) (hq:∀I',Le I0 I'->BI C E I' R0 o v)
  (k:R C ops X Z I0 R0 fuel (listed.setIfInBounds i true) ((d,v)::E) I H D Q):R C ops X Z I0 R0 (fuel+1) listed E I H D Q:=by
 obtain⟨h1,h2,h3⟩:=K0 hd
 exact Abb i DD hi CH h1 h2 h3 hq k
theorem rqf{X Z:List Nat}{I0:AQ}{R0:List HA}{fuel:Nat}{listed:Array Bool}(i:Nat){v:Value}{d:Nat}(DD:okQ ops listed i=true)(hi:ops[i]? =some o)
  (hd:QI C.n o=some d) (hq:∀w1:World,BI {C with w0:=w1} E (fun _=>none) [] o v)
  (k:R C ops X Z I0 R0 fuel (listed.setIfInBounds i true) ((d,v)::E) I H D Q):R C ops X Z I0 R0 (fuel+1) listed E I H D Q:=by
 obtain⟨h1,h2,h3⟩:=K0 hd
 exact AdQ i DD hi h1 h2 h3 hq k
end
section
variable {C:Cx} {E E':Cq} {I:AQ} {H F:List HA} {D:List Deferred} {Q:Exit->Act->World->Prop} {K:Act->Prop} {ops:Array Oper} {l r:List Oper} {o:Oper} {d:Nat} {v:Value}
def gEq:Option (Nat×Bool)->Option (Nat×Bool)->Bool
 |none,none=>true
 |some (j,b),some (i,c)=>Nat.beq j i&&(b==c)
 |_,_=>false
def VF(ops:Array Oper)(n:Nat)(E:Cq)(o:Oper):Option Nat:=match o.guard with
 |none=>QI n o
 |some _=>ASa ops n E o
theorem AAq(h:VF ops C.n E o=some d):(∀a:Act,Jv E C.n a.tmps->Region.wanted o (yielded ops a.tmps)=true)/\o.dst=some d/\Nat.blt d C.n=true:=by
 unfold VF at h
 split at h
 ·obtain⟨h1,h2,h3⟩:=K0 h
  exact⟨Fi h1,h2,h3⟩
 obtain⟨j,b,oj,dj,h1,h2,h3,h4,h5,h6⟩:=AIo h
 exact⟨GO h1 h2 h3 h4,h5,h6⟩
def VD(P:Program)[FO P](ops:Array Oper)(n:Nat)(g:Option (Nat×Bool)):Cq->List Oper->Cq×List Oper
 |E,[]=>(E,[])
 |E,o::l=>bif gEq o.guard g then(match VF ops n E o with
   |some d=>match AJR P E o.op with
    |some v=>VD P ops n g ((d,v)::E) l
    |none=>(E,o::l)
   |none=>(E,o::l))else(E,o::l)
def gHd:List Oper->Option (Nat×Bool)
 | []=>none
 |o::_=>o.guard
theorem s_w{v:Value}(h:VF ops C.n E o=some d)(hq:BI C E I H o v)(k:QS C ops r ((d,v)::E) I H K):QS C ops (o::r) E I H K:=by
 unfold VF at h
 split at h
 ·exact sq h hq k
 exact sg h hq k
theorem l_w{v:Value}(h:VF ops C.n E o=some d)(hq:BI C E I H o v)(k:L C ops r ((d,v)::E) I H D Q):L C ops (o::r) E I H D Q:=by
 obtain⟨h1,h2,h3⟩:=AAq h
 exact Z7 h1 h2 h3 hq k
theorem AgS{Post:Value->AQ->List HA->Prop}(h:VF ops C.n E o=some d)(he:LN C E I H o Post)(k:∀v I' H',Post v I' H'->L C ops r ((d,v)::E) I' H' D Q):L C ops (o::r) E I H D Q:=by
 obtain⟨h1,h2,h3⟩:=AAq h
 exact AhI h1 h2 h3 he k
theorem AFd[FO C.P]{g:Option (Nat×Bool)}:∀(l:List Oper) (E:Cq),VD C.P ops C.n g E l=(E',r)->L C ops r E' I H D Q->L C ops l E I H D Q
 | [],_,h,k=>by cases h;exact k
 |o::l,E,h,k=>by
  unfold VD at h
  cases hg:gEq o.guard g with
  |false=>rw[hg]at h;cases h;exact k
  |true=>
   rw[hg]at h
   simp only[cond_true]at h
   split at h
   ·rename_i d hd
    split at h
    ·rename_i v hv
     exact l_w hd (Wd hv) (AFd l _ h k)
    cases h;exact k
   cases h;exact k
theorem SS[FO C.P]{g:Option (Nat×Bool)}:∀(l:List Oper) (E:Cq),VD C.P ops C.n g E l=(E',r)->QS C ops r E' I H K->QS C ops l E I H K
 | [],_,h,k=>by cases h;exact k
 |o::l,E,h,k=>by
  unfold VD at h
  cases hg:gEq o.guard g with
  |false=>rw[hg]at h;cases h;exact k
  |true=>
   rw[hg]at h
   simp only[cond_true]at h
   split at h
   ·rename_i d hd
    split at h
    ·rename_i v hv
     exact s_w hd (Wd hv) (SS l _ h k)
    cases h;exact k
   cases h;exact k
def hdS(P:Program)[FO P](ops:Array Oper)(n:Nat)(E:Cq)(l:List Oper):Option (Cq×Nat×Oper×List Oper):=match VD P ops n (gHd l) E l with
 | (E',o::r)=>match VF ops n E' o with
  |some d=>some (E',d,o,r)
  |none=>none
 |_=>none
theorem AVy[FO C.P](h:hdS C.P ops C.n E l=some (E',d,o,r)):VF ops C.n E' o=some d/\(L C ops (o::r) E' I H D Q->L C ops l E I H D Q):=by
 unfold hdS at h
 split at h
 ·rename_i E1 o1 r1 h1
  split at h
  ·rename_i d1 hd
   cases h
   exact⟨hd,AFd l E h1⟩
  cases h
 cases h
theorem Aba[FO C.P](h:hdS C.P ops C.n E l=some (E',d,o,r)):VF ops C.n E' o=some d/\(QS C ops (o::r) E' I H K->QS C ops l E I H K):=by
 unfold hdS at h
 split at h
 ·rename_i E1 o1 r1 h1
  split at h
  ·rename_i d1 hd
   cases h
   exact⟨hd,SS l E h1⟩
  cases h
 cases h
theorem yq[FO C.P](h:hdS C.P ops C.n E l=some (E',d,o,r))(hq:BI C E' I H o v)(k:L C ops r ((d,v)::E') I H D Q):L C ops l E I H D Q:=by
 obtain⟨h1,h2⟩:=AVy h
 exact h2 (l_w h1 hq k)
theorem zq[FO C.P](h:hdS C.P ops C.n E l=some (E',d,o,r))(hq:BI C E' I H o v)(k:QS C ops r ((d,v)::E') I H K):QS C ops l E I H K:=by
 obtain⟨h1,h2⟩:=Aba h
 exact h2 (s_w h1 hq k)
theorem ye[FO C.P]{Post:Value->AQ->List HA->Prop}(h:hdS C.P ops C.n E l=some (E',d,o,r))(he:LN C E' I H o Post)(k:∀v I' H',Post v I' H'->L C ops r ((d,v)::E') I' H' D Q):L C ops l E I H D Q:=by
 obtain⟨h1,h2⟩:=AVy h
 exact h2 (AgS h1 he k)
def hd0(P:Program)[FO P](ops:Array Oper)(n:Nat)(E:Cq)(l:List Oper):Option (Cq×Oper×List Oper):=match VD P ops n (gHd l) E l with
 | (E',o::r)=>match o.guard,o.dst with
  |none,none=>some (E',o,r)
  |_,_=>none
 |_=>none
theorem y0[FO C.P]{Post:Value->AQ->List HA->Prop}(h:hd0 C.P ops C.n E l=some (E',o,r))(he:LN C E' I H o Post)(k:∀v I' H',Post v I' H'->L C ops r E' I' H' D Q):L C ops l E I H D Q:=by
 unfold hd0 at h
 split at h
 ·rename_i E1 o1 r1 h1
  split at h
  ·rename_i hg hd
   cases h
   exact AFd l E h1 (Agp hg hd he k)
  cases h
 cases h
def ldO(E:Cq)(o:Oper):Option (Nat×Nat×Nat):=match o.op with
 | .load t x=>match ev E x with
  |some (.pointer (some ⟨b,off,none⟩))=>some (t,b,off)
  |_=>none
 |_=>none
theorem AYe{t b:Nat}(h:ldO E o=some (t,b,off)):∃x,o.op=.load t x/\ev E x=some (.pointer (some ⟨b,off,none⟩)):=by
 unfold ldO at h
 split at h
 ·rename_i t' x ho
  split at h
  ·rename_i b' off' hx;cases h;exact⟨x,ho,hx⟩
  cases h
 cases h
def ldS(P:Program)[FO P](ops:Array Oper)(n:Nat)(E:Cq)(l:List Oper):Option (Cq×Nat×Nat×Nat×Nat×List Oper):=match hdS P ops n E l with
 |some (E',d,o,r)=>match ldO E' o with
  |some (t,b,off)=>some (E',d,t,b,off,r)
  |none=>none
 |none=>none
theorem AON[FO C.P]{t b:Nat}(h:ldS C.P ops C.n E l=some (E',d,t,b,off,r)):∃o x,hdS C.P ops C.n E l=some (E',d,o,r)/\o.op=.load t x/\ev E' x=some (.pointer (some ⟨b,off,none⟩)):=by
 unfold ldS at h
 split at h
 ·rename_i E1 d1 o1 r1 h1
  split at h
  ·rename_i t' b' off' h2
   cases h
   obtain⟨x,h3,h4⟩:=AYe h2
   exact⟨o1,x,h1,h3,h4⟩
  cases h
 cases h
theorem DE[FO C.P]{t b:Nat}{T:TypeId}(h:ldS C.P ops C.n E l=some (E',d,t,b,off,r))[LT C.P t][hm:E2 b T cs H](k:L C ops r ((d,u)::E') I H D Q)(hu:cs[off]? =some u:=by rfl):L C ops l E I H D Q:=by
 obtain⟨o,x,h1,h2,h3⟩:=AON h
 exact yq h1 (Az h2 h3 hu) k
theorem EA[FO C.P]{t b:Nat}{T:TypeId}(h:ldS C.P ops C.n E l=some (E',d,t,b,off,r))[LT C.P t][hm:E2 b T cs H](k:QS C ops r ((d,u)::E') I H K)(hu:cs[off]? =some u:=by rfl):QS C ops l E I H K:=by
 obtain⟨o,x,h1,h2,h3⟩:=AON h
 exact zq h1 (Az h2 h3 hu) k
def fnB(P:Program)(f:FuncId):Bool:=match P.funcs[f]? with
 |some fn=> !(fn.name== "runtime.NumGoroutine")&& !fn.body.isNone
 |none=>false
theorem AFc{f:FuncId}(h:fnB P f=true):Im P f:=by
 unfold fnB at h
 split at h
 ·rename_i fn hf
  rw[Ay,FJ,FJ]at h
  exact⟨fn,hf,h.1,h.2⟩
 cases h
def clO(E:Cq)(o:Oper):Option (FuncId×List Value):=match o.op with
 | .call c=>match c.callee with
  | .value g=>match ev E g with
   |some (.func (.func f) ⟨[]⟩ ⟨[]⟩)=>match evs E c.args.toList with
    |some vs=>some (f,vs)
    |none=>none
   |_=>none
  |_=>none
 |_=>none
theorem AXL{f:FuncId}(h:clO E o=some (f,vs)):∃g args ts,o.op=.call {callee:=.value g,args:=args,argTypes:=ts}/\ev E g=some (.func (.func f) #[] #[])/\evs E args.toList=some vs:=by
 unfold clO at h
 split at h
 ·rename_i c ho
  obtain⟨cal,args,ts⟩:=c
  simp only at h
  split at h
  ·rename_i g hc
   split at h
   ·rename_i f' hg
    split at h
    ·rename_i vs' hv;cases h;exact⟨_,args,ts,ho,hg,hv⟩
    cases h
   cases h
  cases h
 cases h
def clS(P:Program)[FO P](ops:Array Oper)(n:Nat)(E:Cq)(l:List Oper):Option (Cq×Nat×FuncId×List Value×List Oper):=match hdS P ops n E l with
 |some (E',d,o,r)=>match clO E' o with
  |some (f,vs)=>some (E',d,f,vs,r)
  |none=>none
 |none=>none
theorem AFg[FO C.P]{f:FuncId}(h:clS C.P ops C.n E l=some (E',d,f,vs,r)):∃o g args ts,hdS C.P ops C.n E l=some (E',d,o,r)/\o.op=.call {callee:=.value g,args:=args,argTypes:=ts}/\ev E' g=some (.func (.func f) #[] #[])/\evs E' args.toList=some vs:=by
 unfold clS at h
 split at h
 ·rename_i E1 d1 o1 r1 h1
  split at h
  ·rename_i f' vs' h2
   cases h
   obtain⟨g,args,ts,h3,h4,h5⟩:=AXL h2
   exact⟨o1,g,args,ts,h1,h3,h4,h5⟩
  cases h
 cases h
theorem yc[FO C.P]{f:FuncId}{Post:Value->AQ->List HA->Prop}(h:clS C.P ops C.n E l=some (E',d,f,vs,r))
  (hc:∀w,St C.w0 I H w->Calls C.P f vs.toArray w (fun e w'=> ∃v,e=.returned v/\∃I' H',Post v I' H'/\St w I' H' w')) (k:∀v I' H',Post v I' H'->L C ops r ((d,v)::E') I' H' D Q) (hf:fnB C.P f=true:=by kernel_rfl):L C ops l E I H D Q:=by
 obtain⟨o,g,args,ts,h1,h2,h3,h4⟩:=AFg h
 have:=AFc hf
 exact ye h1 (ec h2 h3 h4 hc) k
theorem yp[FO C.P]{f:FuncId}(h:clS C.P ops C.n E l=some (E',d,f,vs,r))(hc:∀w,St C.w0 I H w->B2 C.P f vs w v)(k:L C ops r ((d,v)::E') I H D Q)(hf:fnB C.P f=true:=by kernel_rfl):L C ops l E I H D Q:=by
 obtain⟨o,g,args,ts,h1,h2,h3,h4⟩:=AFg h
 have:=AFc hf
 exact yq h1 (qc h2 h3 h4 hc) k
theorem zp[FO C.P]{f:FuncId}(h:clS C.P ops C.n E l=some (E',d,f,vs,r))(hc:∀w,St C.w0 I H w->B2 C.P f vs w v)(k:QS C ops r ((d,v)::E') I H K)(hf:fnB C.P f=true:=by kernel_rfl):QS C ops l E I H K:=by
 obtain⟨o,g,args,ts,h1,h2,h3,h4⟩:=AFg h
 have:=AFc hf
 exact zq h1 (qc h2 h3 h4 hc) k
class TC(P:Program)(t:Nat)(n bytes:outParam Nat)(z:outParam Value):Prop where
 ok:TI P t n bytes z
class SlT(P:Program)(t:Nat)(e:outParam Nat):Prop where
 ok:P.underlying t=some (.slice e)
def alS(P:Program)[FO P](ops:Array Oper)(n:Nat)(E:Cq)(l:List Oper):Option (Cq×Nat×Nat×List Oper):=match hdS P ops n E l with
 |some (E',d,o,r)=>match o.op with
  | .alloc t=>some (E',d,t,r)
  |_=>none
 |none=>none
theorem AaL[FO C.P]{t:Nat}(h:alS C.P ops C.n E l=some (E',d,t,r)):∃o,hdS C.P ops C.n E l=some (E',d,o,r)/\o.op=.alloc t:=by
 unfold alS at h
 split at h
 ·rename_i E1 d1 o1 r1 h1
  split at h
  ·rename_i t' ho;cases h;exact⟨o1,h1,ho⟩
  cases h
 cases h
theorem HO[FO C.P]{t m:Nat}(cs:List Value)(h:alS C.P ops C.n E l=some (E',d,t,r))[hi:TC C.P t m bytes z](k:∀b,L C ops r ((d,.pointer (some ⟨b,0,none⟩))::E') I (row b t cs::H) D Q)(hc:z.cells=cs.toArray:=by rfl):L C ops l E I H D Q:=by
 obtain⟨o,h1,h2⟩:=AaL h
 exact ye h1 (Zu h2 hi.ok hc) (by rintro _ _ _ ⟨b,rfl,rfl,rfl⟩;exact k b)
def bxS(P:Program)[FO P](ops:Array Oper)(n:Nat)(E:Cq)(l:List Oper):Option (Cq×Nat×Nat×Value×List Oper):=match hdS P ops n E l with
 |some (E',d,o,r)=>match o.op with
  | .box t x=>match ev E' x with
   |some v=>some (E',d,t,v,r)
   |none=>none
  |_=>none
 |none=>none
theorem JC[FO C.P]{t:Nat}(cs:List Value)(h:bxS C.P ops C.n E l=some (E',d,t,v,r))(k:∀b,L C ops r ((d,.pointer (some ⟨b,0,none⟩))::E') I (row b t cs::H) D Q)(hc:v.cells=cs.toArray:=by rfl):L C ops l E I H D Q:=by
 unfold bxS at h
 split at h
 ·rename_i E1 d1 o1 r1 h1
  split at h
  ·rename_i t' x ho
   split at h
   ·rename_i v' hv
    cases h
    exact ye h1 (I1 ho hv hc) (by rintro _ _ _ ⟨b,rfl,rfl,rfl⟩;exact k b)
   cases h
  cases h
 cases h
def stO(E:Cq)(o:Oper):Option (Nat×Nat×Nat×Value):=match o.op with
 | .store t p x=>match ev E p with
  |some (.pointer (some ⟨b,off,none⟩))=>match ev E x with
   |some v=>some (t,b,off,v)
   |none=>none
  |_=>none
 |_=>none
def stW(P:Program)[FO P](ops:Array Oper)(n:Nat)(E:Cq)(l:List Oper):Option (Cq×Nat×Nat×Nat×Value×List Oper):=match hd0 P ops n E l with
 |some (E',o,r)=>match stO E' o with
  |some (t,b,off,v)=>some (E',t,b,off,v,r)
  |none=>none
 |none=>none
theorem AOB[FO C.P]{t b:Nat}(h:stW C.P ops C.n E l=some (E',t,b,off,v,r)):∃o p x,hd0 C.P ops C.n E l=some (E',o,r)/\o.op=.store t p x/\ev E' p=some (.pointer (some ⟨b,off,none⟩))/\ev E' x=some v:=by
 unfold stW at h
 split at h
 ·rename_i E1 o1 r1 h1
  split at h
  ·rename_i t' b' off' v' h2
   cases h
   unfold stO at h2
   split at h2
   ·rename_i t2 p x ho
    split at h2
    ·rename_i b2 off2 hp
     split at h2
     ·rename_i v2 hv;cases h2;exact⟨o1,p,x,h1,ho,hp,hv⟩
     cases h2
    cases h2
   cases h2
  cases h
 cases h
theorem El[FO C.P]{t b n:Nat}{T:TypeId}(us:List Value)(h:stW C.P ops C.n E l=some (E',t,b,0,.agg us.toArray,r))[hi:TC C.P t n bytes z][Hs b T cs F H]
  (k:L C ops r E' I (row b T us::F) D Q) (h1:∀u∈us,u.oneCell'=true) (hn:us.length=n:=by rfl) (hl:cs.length=n:=by rfl):L C ops l E I H D Q:=by
 obtain⟨o,p,x,h2,h3,h4,h5⟩:=AOB h
 exact y0 h2 (Nl h3 hi.ok h4 h5 hn h1 hl) (by rintro _ _ _ ⟨rfl,rfl⟩;exact k)
theorem Eu[FO C.P]{t b:Nat}{T:TypeId}(cs':List Value)(h:stW C.P ops C.n E l=some (E',t,b,off,v,r))[hi:TC C.P t 1 bytes z][Hs b T cs F H]
  (k:L C ops r E' I (row b T cs'::F) D Q) (h1:JS v:=by exact⟨O,O⟩) (Eg:Nat.blt off cs.length=true:=by rfl) (H8:cs.set off v=cs':=by rfl):L C ops l E I H D Q:=by
 obtain⟨o,p,x,h2,h3,h4,h5⟩:=AOB h
 exact y0 h2 (Bz h3 hi.ok h4 h5 h1 Eg H8) (by rintro _ _ _ ⟨rfl,rfl⟩;exact k)
def bdS(P:Program)[FO P](ops:Array Oper)(n:Nat)(E:Cq)(l:List Oper):Option (Cq×Nat×Nat×List (Nat×Value)×List Oper):=match hdS P ops n E l with
 |some (E',d,o,r)=>match o.op with
  | .build t parts=>match evP E' parts.toList with
   |some vs=>match FO.pl P t with
    | []=>none
    |_::_=>some (E',d,t,vs,r)
   |none=>none
  |_=>none
 |none=>none
theorem AQi[FO C.P]{t:Nat}{vs:List (Nat×Value)}(h:bdS C.P ops C.n E l=some (E',d,t,vs,r)):∃o parts fs,hdS C.P ops C.n E l=some (E',d,o,r)/\o.op=.build t parts/\evP E' parts.toList=some vs/\C.P.underlying t=some (.struct fs)/\Rs C.P fs.toList (FO.pl C.P t):=by
 unfold bdS at h
 split at h
 ·rename_i E1 d1 o1 r1 h1
  split at h
  ·rename_i t' parts ho
   split at h
   ·rename_i vs' hv
    split at h
    ·cases h
    rename_i p ps hp
    cases h
    rcases FO.ok (P:=C.P) t with h0|⟨fs,h2,h3⟩
    ·rw[h0]at hp;cases hp
    exact⟨o1,parts,fs,h1,ho,hv,h2,h3⟩
   cases h
  cases h
 cases h
theorem Em[FO C.P]{t m:Nat}{vs:List (Nat×Value)}(cs:List Value)(h:bdS C.P ops C.n E l=some (E',d,t,vs,r))[hi:TC C.P t m bytes z]
  (k:L C ops r ((d,.agg cs.toArray)::E') I H D Q) (hf:Instr.fill (fun i=>(FO.pl C.P t)[i]?) z.cells vs=some cs.toArray:=by rfl):L C ops l E I H D Q:=by
 obtain⟨o,parts,fs,h1,h2,h3,h4,h5⟩:=AQi h
 exact yq h1 (C0 h2 h4 hi.ok h5 h3 hf) k
theorem zbd[FO C.P]{t m:Nat}{vs:List (Nat×Value)}(cs:List Value)(h:bdS C.P ops C.n E l=some (E',d,t,vs,r))[hi:TC C.P t m bytes z]
  (k:QS C ops r ((d,.agg cs.toArray)::E') I H K) (hf:Instr.fill (fun i=>(FO.pl C.P t)[i]?) z.cells vs=some cs.toArray:=by rfl):QS C ops l E I H K:=by
 obtain⟨o,parts,fs,h1,h2,h3,h4,h5⟩:=AQi h
 exact zq h1 (C0 h2 h4 hi.ok h5 h3 hf) k
def b1S(P:Program)[FO P](ops:Array Oper)(n:Nat)(E:Cq)(l:List Oper):Option (Cq×Nat×Nat×Value×List Oper):=match hdS P ops n E l with
 |some (E',d,o,r)=>match o.op with
  | .buildSlice t 1 ⟨[(0,x)]⟩=>match ev E' x with
   |some v=>some (E',d,t,v,r)
   |none=>none
  |_=>none
 |none=>none
theorem AZB[FO C.P]{t:Nat}(h:b1S C.P ops C.n E l=some (E',d,t,v,r)):∃o x,hdS C.P ops C.n E l=some (E',d,o,r)/\o.op=.buildSlice t 1 #[(0,x)]/\ev E' x=some v:=by
 unfold b1S at h
 split at h
 ·rename_i E1 d1 o1 r1 h1
  split at h
  ·rename_i t' x ho
   split at h
   ·rename_i v' hv;cases h;exact⟨o1,x,h1,ho,hv⟩
   cases h
  cases h
 cases h
theorem NF[FO C.P]{t e n:Nat}(cs:List Value)(h:b1S C.P ops C.n E l=some (E',d,t,v,r))[hs:SlT C.P t e][hi:TC C.P e n bytes z]
  (k:∀b,L C ops r ((d,.slice (some ⟨b,0,none⟩) 1 1)::E') I (row b e cs::H) D Q) (hc:v.cells=cs.toArray:=by rfl) (hn:(Nat.ble 1 n&&Nat.ble n 1000)=true:=by rfl) (hz:z.cells.size=n:=by rfl) (hl:cs.length=n:=by rfl):L C ops l E I H D Q:=by
 obtain⟨o,x,h1,h2,h3⟩:=AZB h
 exact ye h1 (BD h2 hs.ok hi.ok (by simpa using hn) hz h3 hc hl) (by rintro _ _ _ ⟨b,rfl,rfl,rfl⟩;exact k b)
theorem ybv[FO C.P](f:α->List Value)(c:α){t e n:Nat}(h:b1S C.P ops C.n E l=some (E',d,t,v,r))[hs:SlT C.P t e][hi:TC C.P e n bytes z]
  (k:∀b,L C ops r ((d,.slice (some ⟨b,0,none⟩) 1 1)::E') I (Ap e n f (.slice (some ⟨b,0,none⟩) 1 1) [c]::H) D Q) (hc:v.cells=(f c).toArray:=by rfl) (hn:(Nat.ble 1 n&&Nat.ble n 1000)=true:=by rfl) (hz:z.cells.size=n:=by rfl) (hl:(f c).length=n:=by rfl):L C ops l E I H D Q:=by
 refine NF (f c) h (fun b=>?_) hc hn hz hl
 refine FB (k b) (fun w hw=>?_)
 have:=H5 (sz:=n) (n:=1) hw (by rw[hl,Nat.one_mul]) (by decide)
 simpa[Ap]using this
def shS(ops:Array Oper)(n:Nat)(want:Bool)(k:Nat)(E:Cq)(l:List Oper):Option (Nat×Nat×Nat×Bool×List Oper×List Oper):=match l.drop k,gHd l with
 |p::r,some (j,_)=>match ops[j]? with
  |some oj=>match oj.dst with
   |some dj=>match get E dj with
    |some (.bool b)=>match VF ops n E p with
     |some d=>match p.op with
      | .pick (.tmp dj') (.tmp y) (.const (.bool false))=>bif want&&Nat.beq dj dj'&&LV ops j true (l.take k) []&&Ia (KO (l.take k)) E&& !(KO (l.take k)).contains dj then some (dj,d,y,b,l.take k,r)else none
      | .pick (.tmp dj') (.const (.bool true)) (.tmp y)=>bif !want&&Nat.beq dj dj'&&LV ops j false (l.take k) []&&Ia (KO (l.take k)) E&& !(KO (l.take k)).contains dj then some (dj,d,y,b,l.take k,r)else none
      |_=>none
     |none=>none
    |_=>none
   |none=>none
  |none=>none
 |_,_=>none
theorem AOj{b:Bool}{k dj y:Nat}{G:List Oper}(h:shS ops C.n want k E l=some (dj,d,y,b,G,r)){c:Bool}
  (hy:b=want->QS C ops G ((dj,.bool want)::E) I H (fun a'=>a'.tmps[y]? =some (.bool c))) (kk:QS C ops r ((d,.bool (if want then b&&c else b||c))::E) I H K):QS C ops l E I H K:=by
 unfold shS at h
 split at h
 case h_2=>cases h
 rename_i p r1 j b0 hs hg
 split at h
 case h_2=>cases h
 rename_i oj hj
 split at h
 case h_2=>cases h
 rename_i dj1 QL
 split at h
 case h_2=>cases h
 rename_i b1 hb
 split at h
 case h_2=>cases h
 rename_i d1 hd
 obtain⟨h1,h2,h3⟩:=AAq hd
 split at h
 ·rename_i dj2 y1 hp
  cases hc:(want&&Nat.beq dj1 dj2&&LV ops j true (l.take k) []&&Ia (KO (l.take k)) E&& !(KO (l.take k)).contains dj1)with
  |false=>rw[hc]at h;cases h
  |true=>
   rw[hc]at h
   cases h
   simp only[Ay]at hc
   obtain⟨⟨⟨⟨rfl,h4⟩,h5⟩,h6⟩,h7⟩:=hc
   obtain rfl:=Nat.eq_of_beq_eq_true h4
   exact Ra k j dj d y true b c hs h5 hj QL hb (by rw[h6,h7];rfl) hy h1 h2 h3 (.inl ⟨O,hp⟩) kk
 ·rename_i dj2 y1 hp
  cases hc:(!want&&Nat.beq dj1 dj2&&LV ops j false (l.take k) []&&Ia (KO (l.take k)) E&& !(KO (l.take k)).contains dj1)with
  |false=>rw[hc]at h;cases h
  |true=>
   rw[hc]at h
   cases h
   simp only[Ay,FJ]at hc
   obtain⟨⟨⟨⟨rfl,h4⟩,h5⟩,h6⟩,h7⟩:=hc
   obtain rfl:=Nat.eq_of_beq_eq_true h4
   exact Ra k j dj d y false b c hs h5 hj QL hb (by rw[h6,h7];rfl) hy h1 h2 h3 (.inr ⟨O,hp⟩) kk
 cases h
variable {b c:Bool} {dj y:Nat} {G l':List Oper}
theorem zA0(k:Nat)(h:shS ops C.n true k E l=some (dj,d,y,b,G,r))(hy:b=true->QS C ops G ((dj,.bool true)::E) I H (fun a'=>a'.tmps[y]? =some (.bool c)))(kk:QS C ops r ((d,.bool (b&&c))::E) I H K):QS C ops l E I H K:=AOj h hy kk
theorem zO0(k:Nat)(h:shS ops C.n false k E l=some (dj,d,y,b,G,r))(hy:b=false->QS C ops G ((dj,.bool false)::E) I H (fun a'=>a'.tmps[y]? =some (.bool c)))(kk:QS C ops r ((d,.bool (b||c))::E) I H K):QS C ops l E I H K:=AOj h hy kk
def shW(P:Program)[FO P](ops:Array Oper)(n:Nat)(want:Bool)(k:Nat)(E:Cq)(l:List Oper):Option (Cq×Nat×Nat×Nat×Bool×List Oper×List Oper):=match VD P ops n (gHd l) E l with
 | (E',l')=>match shS ops n want k E' l' with
  |some (dj,d,y,b,G,r)=>some (E',dj,d,y,b,G,r)
  |none=>none
theorem AQk[FO C.P]{k:Nat}(h:shW C.P ops C.n want k E l=some (E',dj,d,y,b,G,r)):∃l',VD C.P ops C.n (gHd l) E l=(E',l')/\shS ops C.n want k E' l'=some (dj,d,y,b,G,r):=by
 unfold shW at h
 split at h
 rename_i E1 l1 h1
 split at h
 ·rename_i h2;cases h;exact⟨l1,h1,h2⟩
 cases h
theorem zA[FO C.P](k:Nat)(h:shW C.P ops C.n true k E l=some (E',dj,d,y,b,G,r))(hy:b=true->QS C ops G ((dj,.bool true)::E') I H (fun a'=>a'.tmps[y]? =some (.bool c)))(kk:QS C ops r ((d,.bool (b&&c))::E') I H K):QS C ops l E I H K:=by
 obtain⟨l',h1,h2⟩:=AQk h
 exact SS l E h1 (zA0 k h2 hy kk)
theorem zO[FO C.P](k:Nat)(h:shW C.P ops C.n false k E l=some (E',dj,d,y,b,G,r))(hy:b=false->QS C ops G ((dj,.bool false)::E') I H (fun a'=>a'.tmps[y]? =some (.bool c)))(kk:QS C ops r ((d,.bool (b||c))::E') I H K):QS C ops l E I H K:=by
 obtain⟨l',h1,h2⟩:=AQk h
 exact SS l E h1 (zO0 k h2 hy kk)
def zvS(P:Program)[FO P](ops:Array Oper)(n:Nat)(E:Cq)(l:List Oper)(y:Nat):Option Value:=match VD P ops n (gHd l) E l with
 | (E',[])=>get E' y
 |_=>none
theorem zv[FO C.P](h:zvS C.P ops C.n E l y=some v):QS C ops l E I H (fun a'=>a'.tmps[y]? =some v):=by
 unfold zvS at h
 split at h
 ·rename_i E1 h1;exact SS l E h1 (AbN h)
 cases h
theorem De[FO C.P]{y:Code}(h:VD C.P ops C.n (gHd l) E l=(E',[]))(k:T C y E' I H D Q):QS C ops l E I H (AJv C I H D (Exit.then (y.wpIn (WF C.r) 0 C.P Q) Q)):=SS l E h (Dp k)
def apS(P:Program)[FO P](ops:Array Oper)(n:Nat)(E:Cq)(l:List Oper):Option (Cq×Nat×Nat×Nat×Value×Nat×Nat×List Oper):=match hdS P ops n E l with
 |some (E',d,o,r)=>match o.op with
  | .call ⟨.builtin .append,⟨[x,y]⟩,⟨[t,t']⟩⟩=>match ev E' x,ev E' y with
   |some v,some (.slice (some ⟨b,0,none⟩) 1 k)=>some (E',d,t,t',v,b,k,r)
   |_,_=>none
  |_=>none
 |none=>none
theorem V4[FO C.P]{f:α->List Value}{xs:List α}{t e e2:TypeId}{k b:Nat}(c:α)(h:apS C.P ops C.n E l=some (E',d,t,t,v,b,k,r))[hs:SlT C.P t e][hi:TC C.P e sz bytes z]
  [hpk:Dx v e' sz xs.length (xs.map f).flatten F H] [hm:E2 b e2 cs H] (kk:∀v',L C ops r ((d,v')::E') I (Ap e' sz f v' (xs++[c])::F) D Q) (h1:∀u∈f c,u.oneCell'=true) (MN:xs.length+1<=maxLen) (hby:(xs.length+1) * bytes<=140737488355328)
  (hz:z.cells.size=sz:=by rfl) (MG:Nat.blt 0 sz=true:=by rfl) (hee:e=e':=by rfl) (hc:cs=f c:=by rfl) (hl:(f c).length=sz:=by rfl):L C ops l E I H D Q:=by
 unfold apS at h
 split at h
 ·rename_i E1 d1 o1 r1 h2
  split at h
  ·rename_i x y t1 t2 ho
   split at h
   ·rename_i v1 b1 k1 hx hy
    cases h
    exact ye h2 (B8 c ho hs.ok hi.ok hz MG hx hy hee hc hl h1 MN hby) (by rintro v' _ _ ⟨rfl,rfl⟩;exact kk v')
   cases h
  cases h
 cases h
end
section
variable {C:Cx} {E E0:Cq} {I:AQ} {H:List HA} {D:List Deferred} {Q:Exit->Act->World->Prop} {ι:Type}
theorem CB{Cd:ι->Prop}{EV:ι->Cq}{II:ι->AQ}{HI:ι->List HA}(j:ι)(hc:Cd j)(he:N6 E ((EV j).map (·.1))=some (EV j):=by rfl)(Wf:N6 E (E0.map (·.1))=some E0:=by rfl)
  (hh:∀w,St C.w0 I H w->St C.w0 (II j) (HI j) w:=by exact fun _ h=>by(try dsimp only);exact AD h):N C .normal E I H D (Exit.then (Cut C Cd EV E0 II HI D) Q):=Dd j hc (BS he) (BS Wf) hh
theorem DJ{Cd:ι->Prop}{μ:ι->Nat}{EV:ι->Cq}{II:ι->AQ}{HI:ι->List HA}{i:ι}(j:ι)(hc:Cd j)(hm:μ j<μ i)(he:N6 E ((EV j).map (·.1))=some (EV j):=by rfl)(Wf:N6 E (E0.map (·.1))=some E0:=by rfl)
  (hh:∀w,St C.w0 I H w->St C.w0 (II j) (HI j) w:=by exact fun _ h=>by(try dsimp only);exact AD h):N C .normal E I H D (Exit.then (YZ C Cd μ (fun i=>EV i++E0) II HI D i) Q):=Fl j hc hm (BS he) (BS Wf) hh
theorem EZ{x y:Code}(ks:List Nat)(Cd:ι->Prop)(EV:ι->Cq)(II:ι->AQ)(HI:ι->List HA)(Wf:N6 E ks=some E0)
  (hx:T C x E I H D (Exit.then (Cut C Cd EV E0 II HI D) Q)) (hy:∀i,Cd i->T C y (EV i++E0) (II i) (HI i) D Q):T C (.seq x y) E I H D Q:=Aae Cd EV E0 II HI (OV ks Wf O) hx hy
theorem EB{c:Code}(ks:List Nat)(Cd:ι->Prop)(μ:ι->Nat)(EV:ι->Cq)(II:ι->AQ)(HI:ι->List HA)(i0:ι)(Wf:N6 E ks=some E0)(hc:Cd i0)
  (round:∀i,Cd i->T C c (EV i++E0) (II i) (HI i) D (Exit.then (YZ C Cd μ (fun i=>EV i++E0) II HI D i) Q)) (he:N6 E ((EV i0).map (·.1))=some (EV i0):=by rfl)
  (hh:∀w,St C.w0 I H w->St C.w0 (II i0) (HI i0) w:=by exact fun _ h=>AD h):T C (.loop c) E I H D Q:=AAB Cd μ EV E0 II HI i0 hc (BS he) (OV ks Wf O) hh round
theorem xe{ops:Array Oper}{o:Oper}{X Z:List Nat}{I0:AQ}{R0:List HA}{fuel:Nat}{listed:Array Bool}(i:Nat){d:Nat}{Post:Value->AQ->List HA->Prop}(hi:ops[i]? =some o)(hd:QI C.n o=some d)(he:LN C E I0 H o Post)
  (k:∀v I' H',Post v I' H'->Le I0 I'/\(Z.contains i=true\/Pw H' R0)/\R C ops X Z I0 R0 fuel (listed.setIfInBounds i true) ((d,v)::E) I' H' D Q) (DD:AXF ops X listed i=true:=by kernel_rfl):R C ops X Z I0 R0 (fuel+1) listed E I0 H D Q:=re i DD hi (Le.refl _) hd he k
theorem xq{ops:Array Oper}{o:Oper}{X Z:List Nat}{I0:AQ}{R0:List HA}{fuel:Nat}{listed:Array Bool}(i:Nat){v:Value}{d:Nat}(hi:ops[i]? =some o)(hd:QI C.n o=some d)(hq:BI C E I0 H o v)
  (k:R C ops X Z I0 R0 fuel (listed.setIfInBounds i true) ((d,v)::E) I0 H D Q) (DD:(okQ ops listed i&&L8 ops X i)=true:=by kernel_rfl):R C ops X Z I0 R0 (fuel+1) listed E I0 H D Q:=rq1 i DD hi hd hq k
theorem x0{ops:Array Oper}{o:Oper}{X Z:List Nat}{I0:AQ}{R0:List HA}{fuel:Nat}{listed:Array Bool}(i:Nat){v:Value}{d:Nat}(hi:ops[i]? =some o)(CH:Le I0 I)[Mq:Fs H R0](hd:QI C.n o=some d)(hq:∀I',Le I0 I'->BI C E I' R0 o v)
  (k:R C ops X Z I0 R0 fuel (listed.setIfInBounds i true) ((d,v)::E) I H D Q) (DD:(okQ ops listed i&&L8 ops Z i)=true:=by kernel_rfl):R C ops X Z I0 R0 (fuel+1) listed E I H D Q:=rq0 i DD hi CH hd hq k
theorem xf{ops:Array Oper}{o:Oper}{X Z:List Nat}{I0:AQ}{R0:List HA}{fuel:Nat}{listed:Array Bool}(i:Nat){v:Value}{d:Nat}(hi:ops[i]? =some o)(hd:QI C.n o=some d)(hq:∀w1:World,BI {C with w0:=w1} E (fun _=>none) [] o v)
  (k:R C ops X Z I0 R0 fuel (listed.setIfInBounds i true) ((d,v)::E) I H D Q) (DD:okQ ops listed i=true:=by kernel_rfl):R C ops X Z I0 R0 (fuel+1) listed E I H D Q:=rqf i DD hi hd hq k
theorem xr{ops:Array Oper}{X Z:List Nat}{I0:AQ}{R0:List HA}[FO C.P](is:List Nat){fuel f:Nat}{listed:Array Bool}{E':Cq}(h:ASV C.P C.n ops.toList E is=some E')(hf:Nat.sub fuel is.length=f)
  (k:R C ops X Z I0 R0 f (AYK listed is) E' I H D Q) (DD:rok ops listed is=true:=by kernel_rfl) (NM:Nat.ble is.length fuel=true:=by rfl):R C ops X Z I0 R0 fuel listed E I H D Q:=AcF is DD h hf NM k
theorem CX{ops:Array Oper}{X Z:List Nat}{I0:AQ}{R0:List HA}{listed:Array Bool}(k:N C .normal E I H D Q)(h:(Region.ready .any ops listed).isEmpty=true:=by kernel_rfl):R C ops X Z I0 R0 0 listed E I H D Q:=AeT h k
theorem xk{R0 H':List HA}{Z:List Nat}{p:Prop}[h:Fs H' R0](k:p):Le I I/\(Z.contains i=true\/Pw H' R0)/\p:=⟨Le.refl _,.inr h.sub,k⟩
end
end Go.Tri
