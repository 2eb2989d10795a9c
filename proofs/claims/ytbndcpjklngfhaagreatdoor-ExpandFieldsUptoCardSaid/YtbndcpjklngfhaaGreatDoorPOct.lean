/-
 What layer 1 computes, in plain words: names, quoting, lines, numbers.
-/
import Derived.Test.YtbndcpjklngfhaaGreatDoorPGen
import Derived.Test.YtbndcpjklngfhaaGreatDoorTriY
import Derived.Lib.ParseIntB
import Derived.Lib.ItoaNum
import Derived.Lib.Replace
import Derived.Lib.ReplaceLaws
import Derived.Shelf.GgClosure.StringsIndexFunc
namespace Go.Tri
open Go.RowKit
variable {s:List UInt8} {i:Nat} {c:UInt8}

def CV(c:UInt8):Bool:=(decide ((97:Int)<=(c.toNat:Int))&&decide ((c.toNat:Int)<=122))||(decide ((65:Int)<=(c.toNat:Int))&&decide ((c.toNat:Int)<=90))||decide (c=95)
def BO(c:UInt8):Bool:=decide ((48:Int)<=(c.toNat:Int))&&decide ((c.toNat:Int)<=57)
def XJ(s:List UInt8)(i:Nat):Bool:=CV (AG s i 0)||(!decide ((i:Int)=0)&&BO (AG s i 0))
def CF(s:List UInt8):Bool:=decide (s≠[])&&(List.range s.length).all (XJ s)
theorem AKg(c:UInt8):(decide ((97:Int)<=((c|||32).toNat:Int))&&decide (((c|||32).toNat:Int)<=122)&&decide ((c.toNat:Int)<128)||decide (c=95))=CV c:=by
 revert c;unfold CV;exact G7 (by decide+kernel)
theorem TG(h:i<s.length)(hn:XJ s i=false):CF s=false:=by
 unfold CF
 rw[Bool.and_eq_false_iff]
 right
 rw[List.all_eq_false]
 exact⟨i,by simpa using h,by simp[hn]⟩
theorem YU(h:∀i,i<s.length->XJ s i=true):CF s=decide (s≠[]):=by
 unfold CF
 have:(List.range s.length).all (XJ s)=true:=by
  rw[List.all_eq_true]
  intro i hi
  exact h i (by simpa using hi)
 rw[this,Bool.and_true]
theorem Sc:CF s=true↔s≠[]/\∀i,i<s.length->XJ s i=true:=by
 unfold CF
 rw[Ay,BC,List.all_eq_true]
 constructor
 ·rintro⟨h1,h2⟩;exact⟨h1,fun i hi=>h2 i (by simpa using hi)⟩
 rintro⟨h1,h2⟩;exact⟨h1,fun i hi=>h2 i (by simpa using hi)⟩

theorem index_one(s:List UInt8)(c:UInt8):Lib.index s [c]=Lib.indexByte s c:=Lib.index_one s c
theorem V8(h:Lib.indexByte s c= -1):c ∉ s:=by
 induction s with
 |nil=>simp
 |cons b s ih=>
  have Ua:=Lib.indexByte_ge s c
  rw[Lib.indexByte]at h
  by_cases hb:(b==c)=true
  ·rw[AI hb]at h;cases h
  rw[AB hb]at h
  split at h
  ·rename_i h1
   intro hm
   rcases Ci.1 hm with e|hm
   ·exact hb (by simp[e])
   exact ih (by simpa using h1) hm
  rename_i h1
  have:¬Lib.indexByte s c= -1:=by simpa using h1
  omega
theorem F6(h:Lib.indexByte s c=i):i<s.length/\AG s i 0=c/\c ∉ s.take i:=by
 induction s generalizing i with
 |nil=>
  have h':(-1:Int)=(i:Int):=h
  omega
 |cons b s ih=>
  have Ua:=Lib.indexByte_ge s c
  rw[Lib.indexByte]at h
  by_cases hb:(b==c)=true
  ·rw[AI hb]at h
   have:i=0:=by omega
   subst this
   exact⟨by simp,by simpa[AG]using hb,by simp⟩
  rw[AB hb]at h
  split at h
  ·omega
  rename_i h1
  have hx:¬Lib.indexByte s c= -1:=by simpa using h1
  obtain⟨j,rfl⟩:∃j,i=j+1:=⟨i-1,by omega⟩
  have h2:=ih (i:=j) (by omega)
  refine⟨by simp;exact h2.1,by simpa[AG]using h2.2.1,?_⟩
  rw[List.take_succ_cons]
  intro hm
  rcases Ci.1 hm with e|hm
  ·exact hb (by simp[e])
  exact h2.2.2 hm
end Go.Tri
