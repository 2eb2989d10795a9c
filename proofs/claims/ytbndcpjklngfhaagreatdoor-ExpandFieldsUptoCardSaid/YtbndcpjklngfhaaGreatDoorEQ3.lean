/-
 A scene as an argument.
-/
import Derived.Test.YtbndcpjklngfhaaGreatDoorEE8
import Derived.Test.YtbndcpjklngfhaaGreatDoorFH3
namespace Go.Tri
open Go.Proofs.Tryz
open Go.ChangeShapes Go.WideShapes Go.ChangeAt Go.RowKit Go.Proofs Go.Proofs.YtbndcpjklngfhaaGreatDoor
set_option maxRecDepth 100000
variable {H:Type} {W:World} {vl:Value} {ps:List MemPlace} {base:Nat}
def vrD{H:Type}(v:Vr):DataW H:=.agg [.lit (.string v.name),.lit (.string v.value),.lit (.bool v.e),.lit (.bool v.r),.lit (.bool v.u)]
def Ws(l:List Vr):Nat:=(l.map fun v=>v.name.length+v.value.length).sum
theorem R6(v:Vr)(l:List Vr):Ws (v::l)=v.name.length+v.value.length+Ws l:=rfl
theorem ADh{H:Type}{D:Nat->DataW H}{f:Nat->Vr}:∀L:List Nat,(∀i∈L,D i=vrD (f i))->Ws (L.map f)+(L.map f).length<=Rows.uptoBulkAll (L.map D)
 | [],_=>by simp[Ws,Rows.uptoBulkAll]
 |i::L,h=>by
  have ih:=ADh L (fun j hj=>h j (List.mem_cons_of_mem _ hj))
  simp only[EN,Rows.uptoBulkAll,R6,CD];rw[h i (CQ)];simp only[vrD,Rows.uptoBulk,Rows.uptoBulkAll]
  omega
theorem AMC{enc:TypeId×Value->H}{d:DataW H}(SM:Value.okWide prog W .any base 22 vl)
  (h:DataW.Trod enc prog W 0 (fun _=>true) true 22 vl d ps):∃l:List Vr,Sl (Ao W) 5 vl (l.map DP)/\Ws l+l.length<=Rows.uptoBulk d:=by
 obtain⟨a0,len0,cap0,rfl⟩:=okWide_slice underlying22 SM;obtain⟨fuel,hf⟩:=h;rcases Qg underlying22 underlying46 (by kernel_rfl) (by kernel_rfl) hf with ⟨H8,hx⟩|⟨a,len,cap,m,D,Pl,H8,hb,hl,hm,hmm,hx,hi⟩
 ·simp[Value.cells]at H8
  obtain⟨rfl,rfl,rfl⟩:=H8;exact⟨[],E3 (fun _ h=>by cases h),by simp[Ws]⟩
 simp[Value.cells]at H8
 obtain⟨rfl,rfl,rfl⟩:=H8;simp only[if_true]at hmm;subst hmm
 have key:∀i,∃p:Vr,i<m->D i=vrD p/\∀j u,(DP p)[j]? =some u->W.cell? (a.add (i * 5+j))=some u:=by
  intro i
  by_cases him:i<m
  ·obtain⟨ys,n,hD,_,Dg,hf⟩:=hi i him;obtain⟨v0,y0,Ab,Zw,ht0⟩:=hf 0 _ rfl;obtain⟨v1,y1,An,hy1,ht1⟩:=hf 1 _ rfl;obtain⟨v2,y2,A6,hy2,ht2⟩:=hf 2 _ rfl;obtain⟨v3,y3,BJ,hy3,ht3⟩:=hf 3 _ rfl;obtain⟨v4,y4,Bj,hy4,ht4⟩:=hf 4 _ rfl;obtain⟨s0,OL,hx0,_⟩:=DataW.trod_string underlying9 ht0;obtain⟨s1,Lh,Lc,_⟩:=DataW.trod_string underlying9 ht1;obtain⟨b2,Wi,TF⟩:=DataW.trod_bool underlying4 ht2;obtain⟨b3,hb3,hx3⟩:=DataW.trod_bool underlying4 ht3;obtain⟨b4,hb4,hx4⟩:=DataW.trod_bool underlying4 ht4
   cases OL;cases Lh;cases Wi;cases hb3;cases hb4
   subst hx0 Lc TF hx3 hx4;refine⟨⟨s0.data.toList,s1.data.toList,b2,b3,b4⟩,fun _=>⟨?_,?_⟩⟩
   ·match ys,Dg with
    | [z0,z1,z2,z3,z4],_=>
     cases Zw;cases hy1;cases hy2;cases hy3;cases hy4
     rw[hD];rfl
   intro j u hu
   match j,hu with
   |0,hu=>cases hu;rw[P7];exact Ab
   |1,hu=>cases hu;rw[P7];exact An
   |2,hu=>cases hu;exact A6
   |3,hu=>cases hu;exact BJ
   |4,hu=>cases hu;exact Bj
   |j+5,hu=>simp[DP]at hu
  exact⟨Ez,fun h=>Ac h him⟩
 obtain⟨f,hf2⟩:=Classical.axiomOfChoice key;refine⟨(List.range len0).map f,TY f DP 5 hl (fun _=>by simp[DP]) (fun i hi=>(hf2 i hi).2),?_⟩
 cases hx
 have:=ADh (H:=H) (D:=D) (f:=f) (List.range len0) (fun i hi=>(hf2 i (by have:=List.mem_range.1 hi;omega)).1)
 simp only[Rows.uptoBulk]
 omega
theorem ZH{H:Type}:∀ss:List ByteArray,Qx (ss.map fun s=>s.data.toList)+(ss.map fun s=>s.data.toList).length<=Rows.uptoBulkAll (strs ss:List (DataW H))
 | []=>by simp[Qx,strs,Rows.uptoBulkAll]
 |s::ss=>by
  have ih:=ZH (H:=H) ss
  show Qx (s.data.toList::ss.map fun s=>s.data.toList)+_<=Rows.uptoBulkAll (DataW.lit (.string s.data.toList)::(strs ss:List (DataW H)))
  rw[XU];simp only[Rows.uptoBulkAll,Rows.uptoBulk,EN,CD]
  omega
theorem R4{enc:TypeId×Value->H}{d:DataW H}(SM:Value.okWide prog W .any base 23 vl)
  (h:DataW.Trod enc prog W 0 (fun _=>true) true 23 vl d ps):∃l:List (List UInt8),Sl (Ao W) 1 vl (l.map P5)/\Qx l+l.length<=Rows.uptoBulk d:=by
 obtain⟨a0,len0,cap0,rfl⟩:=okWide_slice underlying23 SM;obtain⟨fuel,hf⟩:=h;rcases open_strings underlying23 underlying9 (by kernel_rfl) hf with ⟨H8,hx⟩|⟨a,len,cap,ss,H8,hb,hl,hm,Dg,hx,LD,_⟩
 ·simp[Value.cells]at H8
  obtain⟨rfl,rfl,rfl⟩:=H8;exact⟨[],E3 (fun _ h=>by cases h),by simp[Qx]⟩
 simp[Value.cells]at H8
 obtain⟨rfl,rfl,rfl⟩:=H8;simp only[if_true]at Dg
 have key:∀i,∃c:List UInt8,i<cap0->(ss.map fun s=>s.data.toList)[i]? =some c/\∀j u,(P5 c)[j]? =some u->W.cell? (a.add (i * 1+j))=some u:=by
  intro i
  by_cases him:i<cap0
  ·have EG:i<ss.length:=by omega
   refine⟨ss[i].data.toList,fun _=>⟨by simp[EG],fun j u hu=>?_⟩⟩
   match j,hu with
   |0,hu=>
    cases hu
    rw[P7]
    have:=LD i EG
    simpa[EG]using this
   |j+1,hu=>simp[P5]at hu
  exact⟨[],fun h=>Ac h him⟩
 obtain⟨f,hf2⟩:=Classical.axiomOfChoice key
 have hl2:(ss.take len0).map (fun s=>s.data.toList)=(List.range len0).map f:=by
  apply List.ext_getElem?
  intro i;rw[List.getElem?_map,List.getElem?_map,List.getElem?_take]
  by_cases hi:i<len0
  ·rw[AI hi,List.getElem?_range hi]
   have:=(hf2 i (by omega)).1
   rw[List.getElem?_map]at this
   rw[this];rfl
  rw[AB hi,List.getElem?_eq_none (by simpa using hi)];rfl
 refine⟨(List.range len0).map f,TY f P5 1 hl (fun _=>by simp[P5]) (fun i hi=>(hf2 i hi).2),?_⟩;rw[<-hl2]
 cases hx
 have:=ZH (H:=H) (ss.take len0)
 simp only[Rows.uptoBulk]
 omega
theorem AGi{enc:TypeId×Value->H}{v:Value}{d:DataW H}(SM:Value.okWide prog W .any base 25 v)
  (h:DataW.Trod enc prog W 0 (fun _=>true) true 25 v d ps):∃(vv av ov pv:Value) (vars:List Vr) (al outs pl:List (List UInt8)),v=.agg #[vv,av,ov,pv]/\Sl (Ao W) 5 vv (vars.map DP)/\Sl (Ao W) 1 av (al.map P5)/\Sl (Ao W) 1 ov (outs.map P5)/\Sl (Ao W) 1 pv (pl.map P5)∧
   (Ws vars+vars.length)+(Qx al+al.length)+(Qx outs+outs.length)+(Qx pl+pl.length)<=Rows.uptoBulk d:=by
 unfold Value.okWide at SM;rw[underlying25]at SM;obtain⟨cs,rfl,MG,ts,hts,_,IE⟩:=SM
 have AgV:prog.cellTypes prog.depth 25=some [22,23,23,23]:=by kernel_rfl
 rw[AgV]at hts
 cases hts
 obtain⟨fuel,hf⟩:=h;obtain⟨xs,n,_,hx,hl,Dg,AUE⟩:=DataW.trod_struct underlying25 hf
 have hc:prog.cellsOf 25=4:=by kernel_rfl
 have hcv:prog.cellsOf 22=1:=by kernel_rfl
 have H8:prog.cellsOf 23=1:=by kernel_rfl
 rw[hc]at MG;obtain⟨cs⟩:=cs
 match cs,MG,xs,Dg with
 | [a,b,c,e],_,[x0,x1,x2,x3],_=>
  have w0:Value.okWide prog W .any base 22 a:=by
   obtain⟨u,hu,hw⟩:=IE 0 a rfl
   cases hu
   unfold Value.okWide;rw[underlying22];exact hw
  have w1:Value.okWide prog W .any base 23 b:=by
   obtain⟨u,hu,hw⟩:=IE 1 b rfl
   cases hu
   unfold Value.okWide;rw[underlying23];exact hw
  have w2:Value.okWide prog W .any base 23 c:=by
   obtain⟨u,hu,hw⟩:=IE 2 c rfl
   cases hu
   unfold Value.okWide;rw[underlying23];exact hw
  have w3:Value.okWide prog W .any base 23 e:=by
   obtain⟨u,hu,hw⟩:=IE 3 e rfl
   cases hu
   unfold Value.okWide;rw[underlying23];exact hw
  have f0:DataW.trod enc prog W 0 (fun _=>true) true n 22 ((([a,b,c,e]:List Value).drop 0).take (prog.cellsOf 22))=some x0:=AUE 0 _ O
  rw[hcv]at f0
  have f1:DataW.trod enc prog W 0 (fun _=>true) true n 23 ((([a,b,c,e]:List Value).drop 1).take (prog.cellsOf 23))=some x1:=AUE 1 _ O
  rw[H8]at f1
  have f2:DataW.trod enc prog W 0 (fun _=>true) true n 23 ((([a,b,c,e]:List Value).drop 2).take (prog.cellsOf 23))=some x2:=AUE 2 _ O
  rw[H8]at f2
  have f3:DataW.trod enc prog W 0 (fun _=>true) true n 23 ((([a,b,c,e]:List Value).drop 3).take (prog.cellsOf 23))=some x3:=AUE 3 _ O
  rw[H8]at f3;obtain⟨s0,m0,k0,rfl⟩:=okWide_slice underlying22 w0;obtain⟨s1,m1,k1,rfl⟩:=okWide_slice underlying23 w1;obtain⟨s2,m2,k2,rfl⟩:=okWide_slice underlying23 w2;obtain⟨s3,m3,k3,rfl⟩:=okWide_slice underlying23 w3;obtain⟨d0,p0⟩:=x0;obtain⟨d1,p1⟩:=x1;obtain⟨d2,p2⟩:=x2;obtain⟨d3,p3⟩:=x3;obtain⟨vars,hv,NW⟩:=AMC (d:=d0) (ps:=p0) w0 ⟨n,f0⟩;obtain⟨al,ha,Oi⟩:=R4 (d:=d1) (ps:=p1) w1 ⟨n,f1⟩;obtain⟨outs,ho,Wi⟩:=R4 (d:=d2) (ps:=p2) w2 ⟨n,f2⟩;obtain⟨pl,hp,hb3⟩:=R4 (d:=d3) (ps:=p3) w3 ⟨n,f3⟩;refine⟨_,_,_,_,vars,al,outs,pl,rfl,hv,ha,ho,hp,?_⟩;rw[show d=_ from B3 Prod.fst hx];simp only[EN,WI,Rows.uptoBulk,Rows.uptoBulkAll]
  omega
theorem ALF{l:List Vr}{v:Vr}(h:v∈l):v.name.length<=Ws l:=by
 induction l with
 |nil=>cases h
 |cons a l ih=>
  rw[R6];rcases Ci.1 h with rfl|h
  ·omega
  have:=ih h;omega
theorem ANR(l:List Vr):LB l<=Ws l:=by
 induction l with
 |nil=>exact A5 _
 |cons a l ih=>
  rw[R6]
  show a.value.length+LB l<=_
  omega
theorem AEa(l:List (List UInt8)):Lib.lens l=Qx l:=rfl
theorem AKG{vars:List Vr}{al outs:List (List UInt8)}{s:List UInt8}{n:Nat}(h:(Ws vars+vars.length)+(Qx al+al.length)+(Qx outs+outs.length)<=n):LZ vars al outs s<=n+s.length:=by
 have h1:=ANR vars
 unfold LZ Sq;rw[AEa,AEa]
 omega
end Go.Tri
