/-
 Slices of structs and texts as arguments: what they read as.
-/
import Derived.Test.YtbndcpjklngfhaaGreatDoorPGen
import Derived.WalkKit
import Derived.ProofKit
import Derived.OpenShut
import Derived.JoinedCond
import Derived.Below
import Derived.Deep.Slices
import Derived.Deep.Fields
import Derived.ChangeSame
import Derived.SliceStrings
import Derived.ShutString
import Derived.ChangeOld
namespace Go.Tri
open Go.ChangeShapes Go.WideShapes Go.Deep
variable {a:Addr} {v:Value} {α:Type} {W:World} {len0 m:Nat}
section
variable {H:Type} {enc:TypeId×Value->H} {P:Program} {w:World} {base:Nat} {spare:Nat->Bool} {AdT:Bool}
theorem Qg{t e:TypeId}{fs:Array Field}{fuel:Nat}{cs:List Value}{x:DataW H×List MemPlace}(ht:P.underlying t=some (.slice e))(he:P.underlying e=some (.struct fs))
  (Ma:oneCellFields P fs=true) (hC:P.cellsOf e=fs.size) (h:DataW.trod enc P w base spare AdT fuel t cs=some x):
  (cs=[.slice none 0 0]/\x=(.nil,[]))∨
  ∃(a:Addr) (len cap m:Nat) (D:Nat->DataW H) (Pl:Nat->List MemPlace),cs=[.slice (some a) len cap]/\base<=a.block/\len<=cap/\cap<=maxLen/\m=(if spare a.block then cap else len)∧
   x=(.slice ((List.range len).map D) ((List.range (m-len)).map fun j=>D (len+j)),MemPlace.row a (m * fs.size)++(List.range m).flatMap Pl)∧
   ∀i,i<m->∃(ys:List (DataW H×List MemPlace)) (n:Nat),D i=.agg (ys.map (·.1))/\Pl i=ys.flatMap (·.2)/\ys.length=fs.size∧
    ∀(j:Nat) (f:Field),fs[j]? =some f->∃(v:Value) (y:DataW H×List MemPlace),w.cell? (a.add (i * fs.size+j))=some v/\ys[j]? =some y/\DataW.trod enc P w base spare AdT n f.type [v]=some y:=by
 rcases open_slice ht h with h0|⟨a,len,cap,m,n,D,Pl,H8,hb,hl,hm,hmm,hx,hi⟩
 ·exact .inl h0
 refine .inr ⟨a,len,cap,m,D,Pl,H8,hb,hl,hm,hmm,by rw[hC]at hx;exact hx,fun i him=>?_⟩
 obtain⟨cs',hc,ht'⟩:=hi i him
 rw[hC]at hc
 obtain⟨ys,n',hn',hy,Dg,hyl,hf⟩:=DataW.trod_struct he ht'
 obtain⟨_,FW,ZB⟩:=World.cells?_some hc
 simp only[Prod.mk.injEq]at hy
 refine⟨ys,n',hy.1,hy.2,hyl,fun j f hj=>?_⟩
 obtain⟨ho,hk⟩:=hone_of Ma j f hj
 have hjl:j<fs.size:=(Array.getElem?_eq_some_iff.1 hj).1
 have LD:=ZB j hjl
 have hv:cs'[j]? =some (cs'[j]'(by omega)):=LC (by omega)
 have h1:=hf j f hj
 rw[ho,hk]at h1
 have Aeo:(cs'.drop j).take 1=[cs'[j]'(by omega)]:=by
  rw[V3 (by omega)]
  rfl
 rw[Aeo]at h1
 have hys:ys[j]? =some (ys[j]'(by omega)):=LC (by omega)
 refine⟨_,_,?_,hys,h1.trans hys⟩
 rw[<-Go.Deep.add_add,LD,hv]
end

open Go.ChangeAt Go.RowKit
theorem U4{w:World}(h:w.cell? a=some v):a.spot=none/\∃cur T fr,w.heap[a.block]? =some (.cells cur T fr)/\cur[a.off]? =some v:=by
 unfold World.cell? at h
 split at h
 ·rename_i c T fr hb
  split at h
  ·cases h
  rename_i hs
  exact⟨by simpa using hs,c,T,fr,hb,h⟩
 cases h
theorem APN{w:World}{k:Nat}(h:w.cell? (a.add k)=some v):DA (Ao w) a.block (a.off+k) v:=by
 obtain⟨_,cur,T,fr,hb,hc⟩:=U4 h
 by_cases hk:k=0
 ·subst hk
  simp only[Addr.add,if_true]at hb hc
  exact⟨cur,T,fr,hb,hc⟩
 simp only[Addr.add,hk,O9]at hb hc
 exact⟨cur,T,fr,hb,hc⟩
theorem P7(s:ByteArray):Au s.data.toList=.string s:=by
 obtain⟨⟨l⟩⟩:=s
 rfl
def Qx(l:List (List UInt8)):Nat:=(l.map List.length).sum
theorem XU(s:List UInt8)(l:List (List UInt8)):Qx (s::l)=s.length+Qx l:=rfl
theorem AQX{l:List (List UInt8)}{s:List UInt8}(h:s∈l):s.length<=Qx l:=by
 induction l with
 |nil=>cases h
 |cons q l ih=>
  rw[XU]
  rcases Ci.1 h with rfl|h
  ·omega
  have:=ih h;omega
theorem AAe(f:Nat->α)(C:α->List Value)(n:Nat)(hl:len0<=m)(hn:∀x,C x≠[])
  (hf2:∀i,i<len0->∀j u,(C (f i))[j]? =some u->W.cell? (a.add (i * n+j))=some u):
  Sl (Ao W) n (.slice (some a) len0 m) (((List.range len0).map f).map C):=by
 have LD:∀i j cs u,(((List.range len0).map f).map C)[i]? =some cs->cs[j]? =some u->i<len0/\W.cell? (a.add (i * n+j))=some u:=by
  intro i j cs u h1 h2
  rw[List.getElem?_map,List.getElem?_map]at h1
  rcases Nat.lt_or_ge i len0 with Eg|Ua
  ·rw[List.getElem?_range Eg]at h1
   cases h1
   exact⟨Eg,hf2 i Eg j u h2⟩
  rw[List.getElem?_eq_none (by simpa using Ua)]at h1
  cases h1
 refine⟨⟨some a,m,by simp,by simpa using hl,fun Dk b hb=>?_,fun _ h=>by cases h⟩,fun i j cs u h1 h2=>?_⟩
 ·cases hb
  have h0:0<len0:=by
   rcases Nat.eq_zero_or_pos len0 with h|h
   ·subst h;exact Ac rfl Dk
   exact h
  obtain⟨u,us,hu⟩:∃u us,C (f 0)=u::us:=by
   cases hc:C (f 0)with
   |nil=>exact Ac hc (hn _)
   |cons u us=>exact⟨u,us,O⟩
  have:=(LD 0 0 (C (f 0)) u (by rw[List.getElem?_map,List.getElem?_map,List.getElem?_range h0];rfl) (by rw[hu];rfl)).2
  exact(U4 (by simpa[Addr.add]using this)).1
 have:=APN (LD i j cs u h1 h2).2
 rw[<-Nat.add_assoc]at this
 exact this
theorem TY(f:Nat->α)(C:α->List Value)(n:Nat)(hl:len0<=m)(hn:∀x,C x≠[])
  (hf2:∀i,i<m->∀j u,(C (f i))[j]? =some u->W.cell? (a.add (i * n+j))=some u):
  Sl (Ao W) n (.slice (some a) len0 m) (((List.range len0).map f).map C):=AAe f C n hl hn fun i hi=>hf2 i (by omega)
end Go.Tri
