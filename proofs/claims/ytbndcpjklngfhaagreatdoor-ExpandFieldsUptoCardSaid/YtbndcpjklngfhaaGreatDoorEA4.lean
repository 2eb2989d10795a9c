/-
 Where what begins ends.
-/
import Derived.Test.YtbndcpjklngfhaaGreatDoorEA3
import Derived.Test.YtbndcpjklngfhaaGreatDoorPLex12
namespace Go.Tri
open Go.Proofs.Tryz
open Go.Proofs Go.RowKit
set_option maxRecDepth 10000
variable {c:UInt8} {b:Bool}
theorem ACF(h:(decide (c=39)&& !b)=true):c=39/\(!b)=true:=by
 rw[Ay,BC]at h;exact h
theorem YM(h:(decide (c=39)&& !b)=false):¬(c=39/\(!b)=true):=fun⟨h1,h2⟩=>by
 rw[h1,h2]at h;cases h
theorem VO(s:List UInt8)(i d:Int)(q:Bool)(w:World)(hs:s.length<=2305843009213693952):B2 prog 129 [Au s,.int .i64 i,.int .i64 d,.bool q] w (.tuple #[.int .i64 ((Ql s i d q).1:Int),.int .i64 ((Ql s i d q).2.1:Int),.int .i64 ((Ql s i d q).2.2:Int)]):=by
 refine enter func129 O ntmps129 O (St.start w (Ao w) (Le.refl _)) (AK O (AF (tq ?_)))
 refine zO 4 O (fun h20=>by
   simp at h20
   refine zq O (AW O BX O) ?_;exact zv O
  ) ?_
 refine zO 2 O (fun h24=>by
   simp at h24
   exact zv O
  ) ?_
 refine zO 2 O (fun h28=>by
   simp at h28
   exact zv O
  ) ?_
 refine Dp (AA O (fun Ab=>?_) (fun Ab=>?_))
 ·have ABP:=APY (q:=q) Ab
  refine AK O (Ak (Cu O O O O (fun w' hw=>?_)));refine⟨?_,hw.below⟩
  rw[ABP];try rfl
 obtain⟨i,d,rfl,rfl,hi,hd,KM⟩:=ARt Ab
 replace KM:=KM q
 refine AV (tr (Em (MH s i 0 0) O (JC _ O fun b32=>?_)));refine AH O (AK O (AF (AJ (tq (zp O ((fun w hw=>D9 b32 s [39] i 0 0 w (by omega) (B5 hw))) ?_)))))
 refine zA 2 O (fun h39=>by
   exact zv O
  ) ?_
 refine De O (AA O (fun An=>?_) (fun An=>?_))
 ·have h1:=ACF (by rw[<-Jw hi];exact An)
  have hR:=AEL (d:=d) h1.1 (show q=false by simpa using h1.2)
  refine AC (yc O (fun w hw=>Rf b32 s i _ _ _ w hs hi (Al (row b32 263 (MH s i 0 0)) hw)) ?_);rintro _ _ _ ⟨rfl,ok41,i41,a41,e41,rfl,AfU,Aln,rfl⟩;refine AU rfl (AL (AS (AF (AK rfl (AA rfl (fun A6=>?_) (fun A6=>?_))))))
  ·obtain⟨a,g1,g2⟩:=AfU.f (by simpa using A6);refine AF (Bd mo (by kernel_rfl) (fun _ _ _ _ _ h=>h) (EA rfl ?_));refine EA rfl ?_;refine De rfl (Ak (Cu rfl rfl rfl rfl (fun w' hw=>?_)));refine⟨?_,hw.below⟩
   rw[KM,hR,g1,g2];try rfl
  obtain⟨k,g1,g2,g3,g4⟩:=AfU.t (by simpa using A6);refine AV (tr (DE rfl ?_));refine AH rfl (AX (Cu rfl rfl rfl rfl (fun w' hw=>?_)));refine⟨?_,hw.below⟩
  rw[KM,hR,g1,g2];try rfl
 have h1:¬(AG s i 0=39/\q=false):=fun h=>YM (c:=AG s i 0) (b:=q) (by rw[<-Jw hi];exact An) ⟨h.1,by rw[h.2];try rfl⟩
 refine tr (yp O ((fun w hw=>D9 b32 s [34] i 0 0 w (by omega) (B5 hw))) ?_);refine AH O (AA O (fun BJ=>?_) (fun BJ=>?_))
 ·have h3:AG s i 0=34:=BM (by rw[<-Jw hi];exact BJ)
  have hR:=ACr (d:=d) (q:=q) h3
  refine AC (yq O (AM O O O (by omega)) ?_);refine yc O (fun w hw=>(Ud (24-d)).1 b32 s i (d+1) _ _ _ w (by omega) (by omega) hs hi (Al (row b32 263 (MH s i 0 0)) hw)) ?_;rintro _ _ _ ⟨rfl,ok48,i48,a48,e48,rfl,Afd,AnV,rfl⟩;refine AU rfl (AL (AS (AF (AK rfl (AA rfl (fun Bj=>?_) (fun Bj=>?_))))))
  ·obtain⟨a,g1,g2⟩:=Afd.f (by simpa using Bj);refine AF (Bd mo (by kernel_rfl) (fun _ _ _ _ _ h=>h) (EA rfl ?_));refine EA rfl ?_;refine De rfl (Ak (Cu rfl rfl rfl rfl (fun w' hw=>?_)));refine⟨?_,hw.below⟩
   rw[KM,hR,g1,g2];try rfl
  obtain⟨k,g1,g2,g3,g4⟩:=Afd.t (by simpa using Bj);refine AV (tr (DE rfl ?_));refine AH rfl (AX (Cu rfl rfl rfl rfl (fun w' hw=>?_)));refine⟨?_,hw.below⟩
  rw[KM,hR,g1,g2];try rfl
 have h3:AG s i 0≠34:=BW (by rw[<-Jw hi];exact BJ)
 refine tq (zp O ((fun w hw=>D9 b32 s [36,40] i 0 0 w (by omega) (B5 hw))) ?_)
 refine zO 2 O (fun h55=>by
   refine zp O ((fun w hw=>D9 b32 s [36,123] i 0 0 w (by omega) (B5 hw))) ?_;exact zv O
  ) ?_
 refine De O (AA O (fun B4=>?_) (fun B4=>?_))
 ·have hb:Dr s i=true:=B4
  have hR:=AEV (d:=d) h3 h1 hb
  refine AC (yq O (AM O O O (by omega)) ?_);refine yc O (fun w hw=>(Ud (24-d)).2 b32 s i (d+1) q _ _ _ w (by omega) (by omega) hs (QR hb).1 (Al (row b32 263 (MH s i 0 0)) hw)) ?_;rintro _ _ _ ⟨rfl,ok60,i60,a60,e60,rfl,Aci,Anc,rfl⟩;refine AU rfl (AL (AS (AF (AK rfl (AA rfl (fun CP=>?_) (fun CP=>?_))))))
  ·obtain⟨a,g1,g2⟩:=Aci.f (by simpa using CP);refine AF (Bd mo (by kernel_rfl) (fun _ _ _ _ _ h=>h) (EA rfl ?_));refine EA rfl ?_;refine De rfl (Ak (Cu rfl rfl rfl rfl (fun w' hw=>?_)));refine⟨?_,hw.below⟩
   rw[KM,hR,g1,g2];try rfl
  obtain⟨k,g1,g2,g3,g4⟩:=Aci.t (by simpa using CP);refine AV (tr (DE rfl ?_));refine AH rfl (AX (Cu rfl rfl rfl rfl (fun w' hw=>?_)));refine⟨?_,hw.below⟩
  rw[KM,hR,g1,g2];try rfl
 have hb:Dr s i=false:=B4
 have hR:=YG (d:=d) h3 h1 hb
 refine AK O (Ak (Cu O O O O (fun w' hw=>?_)));refine⟨?_,hw.below⟩
 rw[KM,hR];try rfl
end Go.Tri
