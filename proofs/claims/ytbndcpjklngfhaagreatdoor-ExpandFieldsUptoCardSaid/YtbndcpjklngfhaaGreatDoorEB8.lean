/-
 A builder of texts.
-/
import Derived.Test.YtbndcpjklngfhaaGreatDoorEB6
import Derived.Test.YtbndcpjklngfhaaGreatDoorTriY
namespace Go.Tri
open Go.Proofs.Tryz
open Go.Proofs Go.RowKit
set_option maxRecDepth 10000
theorem M8(b:Nat)(p:Option Addr)(vb:Value)(I:AQ)(F:List HA)(w0 w:World)(hp:p=none\/p=some ⟨b,0,none⟩)(BZ:St w0 I (row b 121 [.pointer p,vb]::F) w):Calls prog 65 [.pointer (some ⟨b,0,none⟩)].toArray w (ER w fun v I' H'=>I=I'/\H'=row b 121 [.pointer (some ⟨b,0,none⟩),vb]::F):=by
 refine enter func65 O ntmps65 O (BZ.self) (tr (DE O ?_));refine yq O (AHM O (by kernel_rfl) O O) (ln (AA O (fun Ab=>?_) (fun Ab=>?_)))
 ·have PU:p=none:=Option.isNone_iff_eq_none.1 Ab
  subst PU;refine AC (yq rfl (AGr rfl AQu AWv AIT rfl rfl rfl) (yq rfl (Qk rfl rfl rfl func86 (by kernel_rfl) rfl (by kernel_rfl) (show Extern.find _=some Extern.AbiNoEscape.same by kernel_rfl) (fun w=>Lib.run_noEscape w _)) ?_));refine yq rfl (Zi rfl AWv AQu AIT rfl (by kernel_rfl)) (Eu _ rfl ?_ (by exact⟨rfl,rfl⟩) rfl (by rfl));refine C7 (EK rfl (fun w' hw=>?_));exact⟨_,rfl,I,_,⟨rfl,rfl⟩,(show St w I (row b 121 [.pointer (some ⟨b,0,none⟩),vb]::F) w' from hw)⟩
 have PU:p=some ⟨b,0,none⟩:=by rcases hp with rfl|h;cases Ab;exact h
 subst PU;refine tr (DE rfl ?_);refine yq rfl (ABb rfl AQu AIT rfl rfl) (ln (AA rfl (fun An=>?_) (fun An=>?_)))
 ·simp at An
 simp at An
 refine AY (EK O (fun w' hw=>?_));exact⟨_,O,I,_,⟨O,O⟩,(show St w I (row b 121 [.pointer (some ⟨b,0,none⟩),vb]::F) w' from hw)⟩
theorem NB(b:Nat)(p:Option Addr)(vb:Value)(l:List UInt8)(c:UInt8)(I:AQ)(F:List HA)(w0 w:World)(hp:p=none\/p=some ⟨b,0,none⟩)(hl:l.length<=140737488355000)(BZ:St w0 I (row b 121 [.pointer p,vb]::Ap 5 1 Km vb l::F) w):Calls prog 42 [.pointer (some ⟨b,0,none⟩),u8 c].toArray w (ER w fun v I' H'=>v=.nilIface/\I=I'/\∃vb',H'=row b 121 [.pointer (some ⟨b,0,none⟩),vb']::Ap 5 1 Km vb' (l++[c])::F):=by
 refine enter func42 O ntmps42 O (BZ.self) (AK O (tr (yc O (fun w hw=>M8 b p vb _ _ _ w hp (Al (row b 121 [.pointer p,vb]) hw)) ?_)));rintro _ _ _ ⟨rfl,rfl⟩;refine DL (DE rfl ?_);refine NF _ rfl (fun b13=>?_) (by rfl);refine V4 (f:=Km) c rfl (fun v14=>?_) (by exact RD _) (by simp only[maxLen];omega) (by omega);refine Un v14 (fun Ma=>?_);refine Eu _ rfl ?_ (by assumption) rfl (by(simp only[Iw,DS];try rfl));refine DL (AH rfl (AX (AP rfl rfl (fun w' hw=>?_))))
 have JM:St w I (row b 121 [.pointer (some ⟨b,0,none⟩),v14]::Ap 5 1 Km v14 (l++[c])::row b13 5 [u8 c]::F) w':=hw
 exact⟨_,O,I,_,⟨O,O,v14,O⟩,AD JM⟩
theorem Pk(b:Nat)(p:Option Addr)(vb:Value)(l s:List UInt8)(I:AQ)(F:List HA)(w0 w:World)(hp:p=none\/p=some ⟨b,0,none⟩)(hl:l.length+s.length<=140737488355000)(BZ:St w0 I (row b 121 [.pointer p,vb]::Ap 5 1 Km vb l::F) w):Calls prog 136 [.pointer (some ⟨b,0,none⟩),Au s].toArray w (ER w fun v I' H'=>v=.tuple #[.int .i64 (s.length:Int),.nilIface]/\I=I'/\∃vb',H'=row b 121 [.pointer (some ⟨b,0,none⟩),vb']::Ap 5 1 Km vb' (l++s)::F/\(L7 vb l->L7 vb' (l++s))):=by
 refine enter func136 O ntmps136 O (BZ.self) (AK O (tr (yc O (fun w hw=>M8 b p vb _ _ _ w hp (Al (row b 121 [.pointer p,vb]) hw)) ?_)));rintro _ _ _ ⟨rfl,rfl⟩;refine DL (DE rfl ?_);refine ye rfl (Zc rfl O8 BX ti5 rfl rfl rfl (by simp only[maxLen];omega) (by omega)) ?_;rintro v14 _ _ ⟨rfl,rfl,AbM⟩;refine Un v14 (fun Ma=>?_);refine Eu _ rfl ?_ (by assumption) rfl (by(simp only[Iw,DS];try rfl));refine DL (yq rfl (AW rfl BX rfl) (AH rfl (AX (Aj rfl rfl rfl (fun w' hw=>?_)))))
 have JM:St w I (row b 121 [.pointer (some ⟨b,0,none⟩),v14]::Ap 5 1 Km v14 (l++s)::F) w':=hw
 exact⟨_,O,I,_,⟨O,O,v14,O,AbM⟩,JM⟩
theorem JJ(b:Nat)(p:Value)(vb:Value)(l:List UInt8)(I:AQ)(F:List HA)(w0 w:World)(DD:L7 vb l)(hl:l.length<=9223372036854775807)(BZ:St w0 I (row b 121 [p,vb]::Ap 5 1 Km vb l::F) w):Calls prog 43 [.pointer (some ⟨b,0,none⟩)].toArray w (ER w fun v I' H'=>v=Au l/\I=I'/\H'=F):=by
 refine enter func43 O ntmps43 O (BZ.self) (AK O (AF (Bo [10] [] [row b 121 [p,vb]] mo (by kernel_rfl) (fun _ _ _ _ _ h=>h) (xr [0,1,2] O O (xq 3 O O (Az O O (by rfl)) ?_)))));refine xq 4 O O (ABd (ty:=0) O O DD) (xr [5,6,7] O O (xq 8 O O (Az O O (by rfl)) ?_));refine xq 9 O O ((by exact IP O O8 O)) ?_;refine xe 10 O O (Va O AeS (by kernel_rfl) O O O DD (by omega)) ?_;rintro _ _ _ ⟨rfl,rfl,rfl⟩;refine xk (xr [11] rfl rfl (CX (AS (AX (AP rfl rfl (fun w' hw=>?_))))));exact⟨_,rfl,I,_,⟨rfl,rfl,rfl⟩,AD hw⟩
theorem ACq(s:List UInt8)(kind:Int)(I:AQ)(F:List HA)(w0 w:World)(hs:s.length<=1000000000)(hG:Fr I)(BZ:St w0 I F w):Calls prog 34 [Au s,.int .i64 kind].toArray w (ER w fun v I' H'=>Le I I'/\F=H'/\∃vl,∃e1:Nat,v=.tuple #[vl,.int .i64 (e1:Int)]/\On (Di s kind) I' vl e1):=by
 refine enter func34 O ntmps34 O (BZ.self) (AK O (AF (AJ (tr (yq O (AW O BX O) (AH O (AA O (fun Ab=>?_) (fun Ab=>?_))))))))
 ·simp at Ab
  have hpp:Di s kind=.bad 50:=by rw[Di,AI (by omega)]
  refine AK O (Ak (Aj O O O (fun w' hw=>?_)));exact⟨_,O,I,_,⟨Le.refl _,O,As,50,O,(by rw[hpp];exact⟨O,by decide,O⟩)⟩,hw⟩
 simp at Ab
 have hs6:¬65536<s.length:=by omega
 refine tq ?_
 refine zO 2 O (fun h16=>by
   simp at h16
   exact zv O
  ) ?_
 refine De O (AA O (fun An=>?_) (fun An=>?_))
 ·have h1:kind<0\/2<kind:=by simpa using An
  have hpp:Di s kind=.bad 73:=by rw[Di,AB hs6,AI h1]
  refine AK O (Ak (Aj O O O (fun w' hw=>?_)));exact⟨_,O,I,_,⟨Le.refl _,O,As,73,O,(by rw[hpp];exact⟨O,by decide,O⟩)⟩,hw⟩
 have h1:¬(kind<0\/2<kind):=by
  have h:=An
  rw[Bool.or_eq_false_iff,CA,CA]at h
  exact fun h2=>h2.elim h.1 h.2
 obtain⟨kind,rfl⟩:∃k:Nat,kind=(k:Int):=⟨kind.toNat,by omega⟩
 have PJ:kind<=2:=by omega
 have hpp:Di s (kind:Int)=wP 24 kind s:=by rw[Di,AB hs6,AB h1];try rfl
 refine AY (AL (AS (tr (yc O (fun w hw=>XZ 24 s kind 0 _ _ _ w O (by omega) PJ (by omega) hG hw) ?_))));rintro _ J19 _ ⟨AXw,rfl,vl,e1,rfl,ET⟩;refine AH rfl (AX (Aj rfl rfl rfl (fun w' hw=>?_)));exact⟨_,rfl,J19,_,⟨AXw,rfl,vl,e1,rfl,(by rw[hpp];exact ET)⟩,hw⟩
end Go.Tri
