/-
 Lists of texts as rows; small words for lists.
-/
import Derived.Test.YtbndcpjklngfhaaGreatDoorTriB5
import Derived.Test.YtbndcpjklngfhaaGreatDoorPSplit
namespace Go.Tri
open Go.RowKit
variable {i:Nat}
def P5(t:List UInt8):List Value:=[Au t]
theorem APS{l:List (List UInt8)}(h:i<l.length):((l.map P5).flatten)[i * 1]? =some (Au (AG l i [])):=by
 have:=OQ (f:=P5) (sz:=1) (fun _=>rfl) (CN l P5 [] h) (j:=0) (u:=Au (AG l i [])) O
 exact this
theorem Aco{w0:World}{I:AQ}{H:List HA}{v:Value}{l:List UInt8}(h:Sl I 1 v (l.map Km))(hi:i<l.length):Rd w0 I H (Eb v).block ((Eb v).off+i * 1) (u8 (AG l i 0)):=h.rd (j:=0) (CN l Km 0 hi) rfl
theorem Yg{α β:Type}(f:β->α->β)(s:β){l:List α}(d:α)(h:i<l.length):(l.take (i+1)).foldl f s=f ((l.take i).foldl f s) (AG l i d):=by
 rw[C6 d h,ADZ];rfl
theorem DB(s:List UInt8)(c:UInt8):decide (0<=Lib.indexByte s c)=Ho s c:=by
 unfold Ho
 induction s with
 |nil=>rfl
 |cons b s ih=>
  have Ua:=Lib.indexByte_ge s c
  rw[List.any_cons,<-ih,Lib.indexByte]
  by_cases h:b=c
  ·simp[h]
  have:(b==c)=false:=by simpa using h
  simp only[this,RZ,O9,Bool.false_or,beq_iff_eq]
  split
  ·rename_i h1;simp[h1]
  rename_i h1
  have h2:0<=Lib.indexByte s c:=by omega
  simp[h2];omega
end Go.Tri
