/-
 DERIVED: THE SHELF's CONTRACTS AT THIS DUMP, IN PLAIN WORDS (tools/lay-plain.mjs out of 'TryzShelf.lean', which tools/lay-shelf.mjs wrote): THE SAME DECLARATIONS UNDER THE SAME NAMES: 'import', 'namespace', 'open', 'def', 'theorem' AND NOTHING ELSE: no command of the shelf's: FOR A HAND-IN. Each laying: the table of numbers ('.._ren') and one theorem, a field a fact of the dump's own or the kernel's comparison; each contract: ONE APPLICATION.
-/
import Derived.Shelf.Strings.Builder1
import Derived.Shelf.Strings.Builder2
import Derived.Shelf.Strings.OnBuilder
import Derived.Shelf.Strings.Trim
import Derived.Shelf.Small.Utf8
import Derived.Shelf.Small.Strs
import Derived.Shelf.Strings.BuilderF
import Derived.Shelf.Strings.BuilderK
import Derived.Shelf.Strings.Builder2Cap
import Derived.Shelf.Strconv.Itoa0
import Derived.Shelf.Strconv.Itoa1
import Derived.Shelf.LaysM
import Derived.Shelf.Strconv.Itoa2
import Derived.Shelf.Strconv.Itoa3
import Derived.Shelf.Strconv.Itoa4
import Derived.Shelf.Strconv.ParseIntEmpty
import Derived.Shelf.Strconv.Clone
import Derived.Shelf.Strconv.SyntaxError
import Derived.Shelf.LaysC
import Derived.Shelf.Strconv.ToError
import Derived.Shelf.Strconv.Lower
import Derived.Shelf.Strconv.ParseUint10
import Derived.Shelf.Strconv.ParseUint10Empty
import Derived.Shelf.Strconv.ParseUint10Any
import Derived.Shelf.Strconv.ParseInt10
import Derived.Shelf.Strconv.RangeError
import Derived.Shelf.Strconv.ToErrorRange
import Derived.Shelf.Strconv.ParseUintEmpty
import Derived.Shelf.Strconv.ParseUint10b64
import Derived.Shelf.Strconv.ParseUint10b32
import Derived.Shelf.Strconv.ParseUint10b16
import Derived.Shelf.Strconv.ParseUint10b8
import Derived.Shelf.Strconv.ParseUint10At
import Derived.Shelf.Strconv.ParseInt10At64
import Derived.Shelf.Strconv.ParseInt10At32
import Derived.Shelf.Strconv.ParseInt10At16
import Derived.Shelf.Strconv.ParseInt10At8
import Derived.Shelf.Strconv.ParseInt10All
import Derived.Shelf.Strconv.ParseIntPublic10
import Derived.Shelf.Strconv.ErrVarParseInt
import Derived.Shelf.Strings.Search1
import Derived.Shelf.Strings.Search2
import Derived.Shelf.Strings.Search3
import Derived.Shelf.Strings.Cut
import Derived.Shelf.Strings.Shaped
import Derived.Shelf.Strings.Prefix
import Derived.Shelf.Unicode.Decode
import Derived.Shelf.Strings.Runes
import Derived.Shelf.Strings.IndexAny
import Derived.Shelf.Strings.AsciiSet
import Derived.Shelf.Strings.IndexAnyAll
import Derived.Shelf.Unicode.DecodeSlow
import Derived.Shelf.Unicode.DecodeAny
import Derived.Shelf.Unicode.DecodeLast
import Derived.Shelf.Strings.BuilderCap
import Derived.Shelf.Slices.Equal
import Derived.Shelf.Slices.Empties2
import Derived.Test.YthjgbalcngkjjaaGreatDoorProg
namespace Go.Proofs
open Go.Shelf
def Tryz.lays156_ren : Go.Shelf.Ren := ⟨fun | 156 => 37 | 165 => 53 | 166 => 42 | 169 => 11 | 240 => 60 | 241 => 70 | 276 => 74 | 277 => 93 | n => n, fun | 31 => 22 | 9 => 9 | 3 => 3 | 4 => 4 | 0 => 0 | 20 => 20 | 72 => 42 | 76 => 86 | 70 => 39 | 37 => 40 | 75 => 85 | 127 => 64 | 164 => 119 | 5 => 5 | 80 => 47 | n => n, fun | n => n⟩
theorem Tryz.lays156 : Go.Proofs.Lays.n156 Tryz.prog Tryz.lays156_ren := {
 mixed := by kernel_rfl
 f156 := Tryz.func37.trans (congrArg some (by kernel_rfl))
 f165 := Tryz.func53.trans (congrArg some (by kernel_rfl))
 f166 := Tryz.func42.trans (congrArg some (by kernel_rfl))
 f169 := Tryz.func11.trans (congrArg some (by kernel_rfl))
 f240 := Tryz.func60.trans (congrArg some (by kernel_rfl))
 f241 := Tryz.func70.trans (congrArg some (by kernel_rfl))
 f276 := Tryz.func74.trans (congrArg some (by kernel_rfl))
 f277 := Tryz.func93.trans (congrArg some (by kernel_rfl))
 t0 := Tryz.underlying0
 a0 := Tryz.isAgg0
 z0 := Tryz.sizeOf0
 v0 := Tryz.zeroValue0
 t3 := Tryz.underlying3
 a3 := Tryz.isAgg3
 z3 := Tryz.sizeOf3
 v3 := Tryz.zeroValue3
 t4 := Tryz.underlying4
 a4 := Tryz.isAgg4
 z4 := Tryz.sizeOf4
 v4 := Tryz.zeroValue4
 t9 := Tryz.underlying9
 a9 := Tryz.isAgg9
 z9 := Tryz.sizeOf9
 v9 := Tryz.zeroValue9
 t20 := Tryz.underlying20
 a20 := Tryz.isAgg20
 z20 := Tryz.sizeOf20
 v20 := Tryz.zeroValue20
 t31 := Tryz.underlying22
 a31 := Tryz.isAgg22
 z31 := Tryz.sizeOf22
 v31 := Tryz.zeroValue22
 t37 := Tryz.underlying40
 a37 := Tryz.isAgg40
 z37 := Tryz.sizeOf40
 v37 := Tryz.zeroValue40
 t70 := Tryz.underlying39
 a70 := Tryz.isAgg39
 z70 := Tryz.sizeOf39
 v70 := Tryz.zeroValue39
 t72 := Tryz.underlying42
 a72 := Tryz.isAgg42
 z72 := Tryz.sizeOf42
 v72 := Tryz.zeroValue42
 t75 := Tryz.underlying85
 a75 := Tryz.isAgg85
 z75 := Tryz.sizeOf85
 v75 := Tryz.zeroValue85
 t76 := Tryz.underlying86
 a76 := Tryz.isAgg86
 z76 := Tryz.sizeOf86
 v76 := Tryz.zeroValue86
 t127 := Tryz.underlying64
 a127 := Tryz.isAgg64
 z127 := Tryz.sizeOf64
 v127 := Tryz.zeroValue64
 t164 := Tryz.underlying119
 a164 := Tryz.isAgg119
 z164 := Tryz.sizeOf119
 v164 := Tryz.zeroValue119 }
theorem Tryz.Builder_Extra_156 : Builder.Extra Tryz.prog Tryz.lays156_ren := {
 sizeBuilder := by kernel_rfl
 liesBuilder := by kernel_rfl
 t5 := Tryz.underlying5
 a5 := Tryz.isAgg5
 z5 := Tryz.sizeOf5
 v5 := Tryz.zeroValue5
 infoByte := by kernel_rfl
 cellsByte := by kernel_rfl
 sizeByte := by kernel_rfl
 neB5 := by decide }
open Go.RowKit in
theorem Tryz.strings_Join_none (a : Option Addr) (c : Nat) (sep : ByteArray) (w : World) :
  Calls Tryz.prog 37 #[.slice a 0 c, .string sep] w fun e w' => e = .returned (.string ⟨#[]⟩) ∧ w' = w := Any.strings_Join_none Tryz.lays156 Tryz.Builder_Extra_156 a c sep w
open Go.RowKit in
theorem Tryz.strings_Join (bk o c : Nat) (xs : List ByteArray) (sep : ByteArray) (w : World) (T6 : ∀ (j : Nat) x, xs[j]? = some x → w.cell? ⟨bk, o + j, none⟩ = some (.string x)) (hbk : bk < w.heap.size) (hN : xs.length ≤ 140737488355328) (AGP : xs.length ≤ c) (BH : (Lib.join (xs.map (·.data.toList)) sep.data.toList).length ≤ 140737488355328) :
  Calls Tryz.prog 37 #[.slice (some ⟨bk, o, none⟩) xs.length c, .string sep] w fun e w' => e = .returned (.string ⟨(Lib.join (xs.map (·.data.toList)) sep.data.toList).toArray⟩) ∧ Below w.heap.size w w' := Any.strings_Join Tryz.lays156 Tryz.Builder_Extra_156 bk o c xs sep w T6 hbk hN AGP BH
def Tryz.lays161_ren : Go.Shelf.Ren := ⟨fun | 161 => 90 | 231 => 114 | 227 => 115 | 233 => 116 | 235 => 117 | 228 => 139 | 197 => 141 | 151 => 142 | 260 => 167 | 152 => 137 | 137 => 84 | 119 => 163 | 224 => 164 | 225 => 165 | 217 => 107 | 266 => 130 | n => n, fun | 9 => 9 | 4 => 4 | 3 => 3 | 5 => 5 | 117 => 138 | 116 => 137 | 0 => 0 | 124 => 141 | 105 => 154 | 21 => 21 | 119 => 172 | 46 => 163 | 139 => 175 | 138 => 174 | n => n, fun | 3 => 2 | 4 => 3 | n => n⟩
theorem Tryz.lays161 : Go.Proofs.Lays.n161 Tryz.prog Tryz.lays161_ren := {
 mixed := by kernel_rfl
 f119 := Tryz.func163.trans (congrArg some (by kernel_rfl))
 f137 := Tryz.func84.trans (congrArg some (by kernel_rfl))
 f151 := Tryz.func142.trans (congrArg some (by kernel_rfl))
 f152 := Tryz.func137.trans (congrArg some (by kernel_rfl))
 f161 := Tryz.func90.trans (congrArg some (by kernel_rfl))
 f197 := Tryz.func141.trans (congrArg some (by kernel_rfl))
 f217 := Tryz.func107.trans (congrArg some (by kernel_rfl))
 f224 := Tryz.func164.trans (congrArg some (by kernel_rfl))
 f225 := Tryz.func165.trans (congrArg some (by kernel_rfl))
 f227 := Tryz.func115.trans (congrArg some (by kernel_rfl))
 f228 := Tryz.func139.trans (congrArg some (by kernel_rfl))
 f231 := Tryz.func114.trans (congrArg some (by kernel_rfl))
 f233 := Tryz.func116.trans (congrArg some (by kernel_rfl))
 f235 := Tryz.func117.trans (congrArg some (by kernel_rfl))
 f260 := Tryz.func167.trans (congrArg some (by kernel_rfl))
 f266 := Tryz.func130.trans (congrArg some (by kernel_rfl))
 t0 := Tryz.underlying0
 a0 := Tryz.isAgg0
 z0 := Tryz.sizeOf0
 v0 := Tryz.zeroValue0
 t3 := Tryz.underlying3
 a3 := Tryz.isAgg3
 z3 := Tryz.sizeOf3
 v3 := Tryz.zeroValue3
 t4 := Tryz.underlying4
 a4 := Tryz.isAgg4
 z4 := Tryz.sizeOf4
 v4 := Tryz.zeroValue4
 t5 := Tryz.underlying5
 a5 := Tryz.isAgg5
 z5 := Tryz.sizeOf5
 v5 := Tryz.zeroValue5
 t9 := Tryz.underlying9
 a9 := Tryz.isAgg9
 z9 := Tryz.sizeOf9
 v9 := Tryz.zeroValue9
 t21 := Tryz.underlying21
 a21 := Tryz.isAgg21
 z21 := Tryz.sizeOf21
 v21 := Tryz.zeroValue21
 t46 := Tryz.underlying163
 a46 := Tryz.isAgg163
 z46 := Tryz.sizeOf163
 v46 := Tryz.zeroValue163
 t105 := Tryz.underlying154
 a105 := Tryz.isAgg154
 z105 := Tryz.sizeOf154
 v105 := Tryz.zeroValue154
 t116 := Tryz.underlying137
 a116 := Tryz.isAgg137
 z116 := Tryz.sizeOf137
 t117 := Tryz.underlying138
 a117 := Tryz.isAgg138
 z117 := Tryz.sizeOf138
 v117 := Tryz.zeroValue138
 t119 := Tryz.underlying172
 a119 := Tryz.isAgg172
 z119 := Tryz.sizeOf172
 t124 := Tryz.underlying141
 a124 := Tryz.isAgg141
 z124 := Tryz.sizeOf141
 v124 := Tryz.zeroValue141
 t138 := Tryz.underlying174
 a138 := Tryz.isAgg174
 z138 := Tryz.sizeOf174
 v138 := Tryz.zeroValue174
 t139 := Tryz.underlying175
 a139 := Tryz.isAgg175
 z139 := Tryz.sizeOf175
 v139 := Tryz.zeroValue175
 g3 := by kernel_rfl
 g4 := by kernel_rfl }
open Go.RowKit in
theorem Tryz.strings_TrimLeft_one (s : ByteArray) (c : UInt8) (hc : c.toNat < 128) (w : World) :
  Calls Tryz.prog 90 #[.string s, .string ⟨#[c]⟩] w fun e w' => e = .returned (.string ⟨(Lib.trimLeftB s.data.toList c).toArray⟩) ∧ w' = w := Any.strings_TrimLeft_one Tryz.lays161 s c hc w
def Tryz.lays160_ren : Go.Shelf.Ren := ⟨fun | 160 => 111 | 232 => 134 | 231 => 114 | 227 => 115 | 234 => 135 | 233 => 116 | 236 => 136 | 235 => 117 | 228 => 139 | 271 => 162 | 151 => 142 | 197 => 141 | 120 => 176 | 152 => 137 | 260 => 167 | 137 => 84 | 119 => 163 | 224 => 164 | 225 => 165 | 217 => 107 | 266 => 130 | n => n, fun | 9 => 9 | 4 => 4 | 3 => 3 | 5 => 5 | 117 => 138 | 116 => 137 | 0 => 0 | 124 => 141 | 21 => 21 | 105 => 154 | 46 => 163 | 119 => 172 | 139 => 175 | 138 => 174 | n => n, fun | 3 => 2 | 4 => 3 | n => n⟩
theorem Tryz.lays160 : Go.Proofs.Lays.n160 Tryz.prog Tryz.lays160_ren := {
 mixed := by kernel_rfl
 f119 := Tryz.func163.trans (congrArg some (by kernel_rfl))
 f120 := Tryz.func176.trans (congrArg some (by kernel_rfl))
 f137 := Tryz.func84.trans (congrArg some (by kernel_rfl))
 f151 := Tryz.func142.trans (congrArg some (by kernel_rfl))
 f152 := Tryz.func137.trans (congrArg some (by kernel_rfl))
 f160 := Tryz.func111.trans (congrArg some (by kernel_rfl))
 f197 := Tryz.func141.trans (congrArg some (by kernel_rfl))
 f217 := Tryz.func107.trans (congrArg some (by kernel_rfl))
 f224 := Tryz.func164.trans (congrArg some (by kernel_rfl))
 f225 := Tryz.func165.trans (congrArg some (by kernel_rfl))
 f227 := Tryz.func115.trans (congrArg some (by kernel_rfl))
 f228 := Tryz.func139.trans (congrArg some (by kernel_rfl))
 f231 := Tryz.func114.trans (congrArg some (by kernel_rfl))
 f232 := Tryz.func134.trans (congrArg some (by kernel_rfl))
 f233 := Tryz.func116.trans (congrArg some (by kernel_rfl))
 f234 := Tryz.func135.trans (congrArg some (by kernel_rfl))
 f235 := Tryz.func117.trans (congrArg some (by kernel_rfl))
 f236 := Tryz.func136.trans (congrArg some (by kernel_rfl))
 f260 := Tryz.func167.trans (congrArg some (by kernel_rfl))
 f266 := Tryz.func130.trans (congrArg some (by kernel_rfl))
 f271 := Tryz.func162.trans (congrArg some (by kernel_rfl))
 t0 := Tryz.underlying0
 a0 := Tryz.isAgg0
 z0 := Tryz.sizeOf0
 v0 := Tryz.zeroValue0
 t3 := Tryz.underlying3
 a3 := Tryz.isAgg3
 z3 := Tryz.sizeOf3
 v3 := Tryz.zeroValue3
 t4 := Tryz.underlying4
 a4 := Tryz.isAgg4
 z4 := Tryz.sizeOf4
 v4 := Tryz.zeroValue4
 t5 := Tryz.underlying5
 a5 := Tryz.isAgg5
 z5 := Tryz.sizeOf5
 v5 := Tryz.zeroValue5
 t9 := Tryz.underlying9
 a9 := Tryz.isAgg9
 z9 := Tryz.sizeOf9
 v9 := Tryz.zeroValue9
 t21 := Tryz.underlying21
 a21 := Tryz.isAgg21
 z21 := Tryz.sizeOf21
 v21 := Tryz.zeroValue21
 t46 := Tryz.underlying163
 a46 := Tryz.isAgg163
 z46 := Tryz.sizeOf163
 v46 := Tryz.zeroValue163
 t105 := Tryz.underlying154
 a105 := Tryz.isAgg154
 z105 := Tryz.sizeOf154
 v105 := Tryz.zeroValue154
 t116 := Tryz.underlying137
 a116 := Tryz.isAgg137
 z116 := Tryz.sizeOf137
 t117 := Tryz.underlying138
 a117 := Tryz.isAgg138
 z117 := Tryz.sizeOf138
 v117 := Tryz.zeroValue138
 t119 := Tryz.underlying172
 a119 := Tryz.isAgg172
 z119 := Tryz.sizeOf172
 t124 := Tryz.underlying141
 a124 := Tryz.isAgg141
 z124 := Tryz.sizeOf141
 v124 := Tryz.zeroValue141
 t138 := Tryz.underlying174
 a138 := Tryz.isAgg174
 z138 := Tryz.sizeOf174
 v138 := Tryz.zeroValue174
 t139 := Tryz.underlying175
 a139 := Tryz.isAgg175
 z139 := Tryz.sizeOf175
 v139 := Tryz.zeroValue175
 g3 := by kernel_rfl
 g4 := by kernel_rfl }
def Tryz.laysM173_ren : Go.Shelf.Ren := ⟨fun | 173 => 71 | 246 => 94 | 283 => 121 | 284 => 122 | 285 => 123 | 286 => 124 | 129 => 156 | 317 => 155 | 318 => 157 | 319 => 158 | 320 => 159 | 337 => 174 | 338 => 175 | n => n, fun | 2 => 2 | 3 => 3 | 9 => 9 | 4 => 4 | 171 => 143 | 0 => 0 | 53 => 144 | 37 => 40 | 5 => 5 | 173 => 147 | 212 => 160 | 51 => 161 | 20 => 20 | 213 => 162 | 46 => 163 | 232 => 178 | 233 => 179 | n => n, fun | 17 => 1 | 18 => 4 | 19 => 5 | n => n⟩
theorem Tryz.laysM173 : Go.Proofs.LaysM.n173 Tryz.prog Tryz.laysM173_ren := {
 mixed := by kernel_rfl
 f129 := Tryz.func156.trans (congrArg some (by kernel_rfl))
 f173 := Tryz.func71.trans (congrArg some (by kernel_rfl))
 f246 := Tryz.func94.trans (congrArg some (by kernel_rfl))
 f283 := Tryz.func121.trans (congrArg some (by kernel_rfl))
 f284 := Tryz.func122.trans (congrArg some (by kernel_rfl))
 f285 := Tryz.func123.trans (congrArg some (by kernel_rfl))
 f286 := Tryz.func124.trans (congrArg some (by kernel_rfl))
 f317 := Tryz.func155.trans (congrArg some (by kernel_rfl))
 f318 := Tryz.func157.trans (congrArg some (by kernel_rfl))
 f319 := Tryz.func158.trans (congrArg some (by kernel_rfl))
 f320 := Tryz.func159.trans (congrArg some (by kernel_rfl))
 f337 := Tryz.func174.trans (congrArg some (by kernel_rfl))
 f338 := Tryz.func175.trans (congrArg some (by kernel_rfl))
 t0 := Tryz.underlying0
 a0 := Tryz.isAgg0
 z0 := Tryz.sizeOf0
 v0 := Tryz.zeroValue0
 t2 := Tryz.underlying2
 a2 := Tryz.isAgg2
 z2 := Tryz.sizeOf2
 v2 := Tryz.zeroValue2
 t3 := Tryz.underlying3
 a3 := Tryz.isAgg3
 z3 := Tryz.sizeOf3
 v3 := Tryz.zeroValue3
 t4 := Tryz.underlying4
 a4 := Tryz.isAgg4
 z4 := Tryz.sizeOf4
 v4 := Tryz.zeroValue4
 t5 := Tryz.underlying5
 a5 := Tryz.isAgg5
 z5 := Tryz.sizeOf5
 v5 := Tryz.zeroValue5
 t9 := Tryz.underlying9
 a9 := Tryz.isAgg9
 z9 := Tryz.sizeOf9
 v9 := Tryz.zeroValue9
 t20 := Tryz.underlying20
 a20 := Tryz.isAgg20
 z20 := Tryz.sizeOf20
 v20 := Tryz.zeroValue20
 t37 := Tryz.underlying40
 a37 := Tryz.isAgg40
 z37 := Tryz.sizeOf40
 v37 := Tryz.zeroValue40
 t46 := Tryz.underlying163
 a46 := Tryz.isAgg163
 z46 := Tryz.sizeOf163
 v46 := Tryz.zeroValue163
 t51 := Tryz.underlying161
 a51 := Tryz.isAgg161
 z51 := Tryz.sizeOf161
 v51 := Tryz.zeroValue161
 t53 := Tryz.underlying144
 a53 := Tryz.isAgg144
 z53 := Tryz.sizeOf144
 v53 := Tryz.zeroValue144
 t171 := Tryz.underlying143
 a171 := Tryz.isAgg143
 z171 := Tryz.sizeOf143
 v171 := Tryz.zeroValue143
 t173 := Tryz.underlying147
 a173 := Tryz.isAgg147
 z173 := Tryz.sizeOf147
 v173 := Tryz.zeroValue147
 t212 := Tryz.underlying160
 a212 := Tryz.isAgg160
 z212 := Tryz.sizeOf160
 v212 := Tryz.zeroValue160
 t213 := Tryz.underlying162
 a213 := Tryz.isAgg162
 z213 := Tryz.sizeOf162
 t232 := Tryz.underlying178
 a232 := Tryz.isAgg178
 z232 := Tryz.sizeOf178
 v232 := Tryz.zeroValue178
 t233 := Tryz.underlying179
 a233 := Tryz.isAgg179
 z233 := Tryz.sizeOf179
 v233 := Tryz.zeroValue179
 g17 := by kernel_rfl
 g18 := by kernel_rfl
 g19 := by kernel_rfl
 i0 := by kernel_rfl
 i2 := by kernel_rfl
 i3 := by kernel_rfl
 i4 := by kernel_rfl
 i5 := by kernel_rfl
 i9 := by kernel_rfl
 i20 := by kernel_rfl
 i37 := by kernel_rfl
 i46 := by kernel_rfl
 i51 := by kernel_rfl
 i53 := by kernel_rfl
 i171 := by kernel_rfl
 i173 := by kernel_rfl
 i212 := by kernel_rfl
 i232 := by kernel_rfl
 i233 := by kernel_rfl
 m17 := by kernel_rfl
 m18 := by kernel_rfl
 m19 := by kernel_rfl }
open Go.RowKit Go.Sort Go.Lib in
theorem Tryz.strconv_FormatInt_10 (n : Int) (h0 : -9223372036854775808 ≤ n) (h1 : n ≤ 9223372036854775807) (w : World) (ANR : Lib.TabIs Tryz.prog w "internal/strconv.uint64pow10" .u64 Lib.pow10Tab) :
  Calls Tryz.prog 71 #[.int .i64 n, .int .i64 10] w fun e w' => e = .returned (.string ⟨(Lib.itoa n).toArray⟩) ∧ ∃ k os, w' = grow (w.drewN k) os := Any.strconv_FormatInt_10 Tryz.laysM173 n h0 h1 w ANR
def Tryz.laysC174_ren : Go.Shelf.Ren := ⟨fun | 174 => 178 | 247 => 179 | 245 => 180 | 287 => 181 | 279 => 182 | 280 => 183 | 281 => 184 | 282 => 185 | 321 => 186 | 322 => 187 | 316 => 188 | 171 => 190 | 205 => 189 | 243 => 191 | 246 => 94 | 283 => 121 | 284 => 122 | 285 => 123 | 286 => 124 | 129 => 156 | 317 => 155 | 318 => 157 | 319 => 158 | 320 => 159 | 337 => 174 | 338 => 175 | n => n, fun | 9 => 9 | 3 => 3 | 2 => 2 | 75 => 85 | 85 => 176 | 4 => 4 | 167 => 181 | 5 => 5 | 53 => 144 | 175 => 182 | 46 => 163 | 168 => 184 | 37 => 40 | 0 => 0 | 210 => 189 | 21 => 21 | 127 => 64 | 145 => 193 | 143 => 191 | 171 => 143 | 173 => 147 | 212 => 160 | 51 => 161 | 20 => 20 | 213 => 162 | 232 => 178 | 233 => 179 | 80 => 47 | n => n, fun | 15 => 6 | 16 => 7 | 17 => 1 | 18 => 4 | 19 => 5 | n => n⟩
theorem Tryz.laysC174 : Go.Proofs.LaysC.n174 Tryz.prog Tryz.laysC174_ren := {
 mixed := by kernel_rfl
 f129 := Tryz.func156.trans (congrArg some (by kernel_rfl))
 f171 := Tryz.func190.trans (congrArg some (by kernel_rfl))
 f174 := Tryz.func178.trans (congrArg some (by kernel_rfl))
 f205 := Tryz.func189.trans (congrArg some (by kernel_rfl))
 f243 := Tryz.func191.trans (congrArg some (by kernel_rfl))
 f245 := Tryz.func180.trans (congrArg some (by kernel_rfl))
 f246 := Tryz.func94.trans (congrArg some (by kernel_rfl))
 f247 := Tryz.func179.trans (congrArg some (by kernel_rfl))
 f279 := Tryz.func182.trans (congrArg some (by kernel_rfl))
 f280 := Tryz.func183.trans (congrArg some (by kernel_rfl))
 f281 := Tryz.func184.trans (congrArg some (by kernel_rfl))
 f282 := Tryz.func185.trans (congrArg some (by kernel_rfl))
 f283 := Tryz.func121.trans (congrArg some (by kernel_rfl))
 f284 := Tryz.func122.trans (congrArg some (by kernel_rfl))
 f285 := Tryz.func123.trans (congrArg some (by kernel_rfl))
 f286 := Tryz.func124.trans (congrArg some (by kernel_rfl))
 f287 := Tryz.func181.trans (congrArg some (by kernel_rfl))
 f316 := Tryz.func188.trans (congrArg some (by kernel_rfl))
 f317 := Tryz.func155.trans (congrArg some (by kernel_rfl))
 f318 := Tryz.func157.trans (congrArg some (by kernel_rfl))
 f319 := Tryz.func158.trans (congrArg some (by kernel_rfl))
 f320 := Tryz.func159.trans (congrArg some (by kernel_rfl))
 f321 := Tryz.func186.trans (congrArg some (by kernel_rfl))
 f322 := Tryz.func187.trans (congrArg some (by kernel_rfl))
 f337 := Tryz.func174.trans (congrArg some (by kernel_rfl))
 f338 := Tryz.func175.trans (congrArg some (by kernel_rfl))
 t0 := Tryz.underlying0
 a0 := Tryz.isAgg0
 z0 := Tryz.sizeOf0
 v0 := Tryz.zeroValue0
 t2 := Tryz.underlying2
 a2 := Tryz.isAgg2
 z2 := Tryz.sizeOf2
 v2 := Tryz.zeroValue2
 t3 := Tryz.underlying3
 a3 := Tryz.isAgg3
 z3 := Tryz.sizeOf3
 v3 := Tryz.zeroValue3
 t4 := Tryz.underlying4
 a4 := Tryz.isAgg4
 z4 := Tryz.sizeOf4
 v4 := Tryz.zeroValue4
 t5 := Tryz.underlying5
 a5 := Tryz.isAgg5
 z5 := Tryz.sizeOf5
 v5 := Tryz.zeroValue5
 t9 := Tryz.underlying9
 a9 := Tryz.isAgg9
 z9 := Tryz.sizeOf9
 v9 := Tryz.zeroValue9
 t20 := Tryz.underlying20
 a20 := Tryz.isAgg20
 z20 := Tryz.sizeOf20
 v20 := Tryz.zeroValue20
 t21 := Tryz.underlying21
 a21 := Tryz.isAgg21
 z21 := Tryz.sizeOf21
 v21 := Tryz.zeroValue21
 t37 := Tryz.underlying40
 a37 := Tryz.isAgg40
 z37 := Tryz.sizeOf40
 v37 := Tryz.zeroValue40
 t46 := Tryz.underlying163
 a46 := Tryz.isAgg163
 z46 := Tryz.sizeOf163
 v46 := Tryz.zeroValue163
 t51 := Tryz.underlying161
 a51 := Tryz.isAgg161
 z51 := Tryz.sizeOf161
 v51 := Tryz.zeroValue161
 t53 := Tryz.underlying144
 a53 := Tryz.isAgg144
 z53 := Tryz.sizeOf144
 v53 := Tryz.zeroValue144
 t75 := Tryz.underlying85
 a75 := Tryz.isAgg85
 z75 := Tryz.sizeOf85
 v75 := Tryz.zeroValue85
 t85 := Tryz.underlying176
 a85 := Tryz.isAgg176
 z85 := Tryz.sizeOf176
 v85 := Tryz.zeroValue176
 t127 := Tryz.underlying64
 a127 := Tryz.isAgg64
 z127 := Tryz.sizeOf64
 v127 := Tryz.zeroValue64
 t143 := Tryz.underlying191
 a143 := Tryz.isAgg191
 z143 := Tryz.sizeOf191
 v143 := Tryz.zeroValue191
 t145 := Tryz.underlying193
 a145 := Tryz.isAgg193
 z145 := Tryz.sizeOf193
 v145 := Tryz.zeroValue193
 t167 := Tryz.underlying181
 a167 := Tryz.isAgg181
 z167 := Tryz.sizeOf181
 v167 := Tryz.zeroValue181
 t168 := Tryz.underlying184
 a168 := Tryz.isAgg184
 z168 := Tryz.sizeOf184
 v168 := Tryz.zeroValue184
 t171 := Tryz.underlying143
 a171 := Tryz.isAgg143
 z171 := Tryz.sizeOf143
 v171 := Tryz.zeroValue143
 t173 := Tryz.underlying147
 a173 := Tryz.isAgg147
 z173 := Tryz.sizeOf147
 v173 := Tryz.zeroValue147
 t175 := Tryz.underlying182
 a175 := Tryz.isAgg182
 z175 := Tryz.sizeOf182
 v175 := Tryz.zeroValue182
 t210 := Tryz.underlying189
 a210 := Tryz.isAgg189
 z210 := Tryz.sizeOf189
 v210 := Tryz.zeroValue189
 t212 := Tryz.underlying160
 a212 := Tryz.isAgg160
 z212 := Tryz.sizeOf160
 v212 := Tryz.zeroValue160
 t213 := Tryz.underlying162
 a213 := Tryz.isAgg162
 z213 := Tryz.sizeOf162
 t232 := Tryz.underlying178
 a232 := Tryz.isAgg178
 z232 := Tryz.sizeOf178
 v232 := Tryz.zeroValue178
 t233 := Tryz.underlying179
 a233 := Tryz.isAgg179
 z233 := Tryz.sizeOf179
 v233 := Tryz.zeroValue179
 g15 := by kernel_rfl
 g16 := by kernel_rfl
 g17 := by kernel_rfl
 g18 := by kernel_rfl
 g19 := by kernel_rfl
 t80 := Tryz.underlying47
 a80 := Tryz.isAgg47
 z80 := Tryz.sizeOf47
 v80 := Tryz.zeroValue47
 i0 := by kernel_rfl
 i2 := by kernel_rfl
 i3 := by kernel_rfl
 i4 := by kernel_rfl
 i5 := by kernel_rfl
 i9 := by kernel_rfl
 i20 := by kernel_rfl
 i21 := by kernel_rfl
 i37 := by kernel_rfl
 i46 := by kernel_rfl
 i51 := by kernel_rfl
 i53 := by kernel_rfl
 i75 := by kernel_rfl
 i80 := by kernel_rfl
 i85 := by kernel_rfl
 i127 := by kernel_rfl
 i143 := by kernel_rfl
 i145 := by kernel_rfl
 i167 := by kernel_rfl
 i168 := by kernel_rfl
 i171 := by kernel_rfl
 i173 := by kernel_rfl
 i175 := by kernel_rfl
 i210 := by kernel_rfl
 i212 := by kernel_rfl
 i232 := by kernel_rfl
 i233 := by kernel_rfl
 m15 := by kernel_rfl
 m16 := by kernel_rfl
 m17 := by kernel_rfl
 m18 := by kernel_rfl
 m19 := by kernel_rfl
 c0 := by kernel_rfl
 c2 := by kernel_rfl
 c3 := by kernel_rfl
 c4 := by kernel_rfl
 c5 := by kernel_rfl
 c9 := by kernel_rfl
 c20 := by kernel_rfl
 c21 := by kernel_rfl
 c37 := by kernel_rfl
 c46 := by kernel_rfl
 c51 := by kernel_rfl
 c53 := by kernel_rfl
 c75 := by kernel_rfl
 c80 := by kernel_rfl
 c85 := by kernel_rfl
 c127 := by kernel_rfl
 c143 := by kernel_rfl
 c145 := by kernel_rfl
 c167 := by kernel_rfl
 c168 := by kernel_rfl
 c171 := by kernel_rfl
 c173 := by kernel_rfl
 c175 := by kernel_rfl
 c210 := by kernel_rfl
 c212 := by kernel_rfl
 c213 := by kernel_rfl
 c232 := by kernel_rfl
 c233 := by kernel_rfl }
open Go.RowKit in
theorem Tryz.strconv_ParseInt_10_at64_ok (s : ByteArray) (ALl : s.size ≤ 9223372036854775806) (v : Int) (h : Lib.parseIntB 64 s.data.toList = .ok v) (w : World) :
  Calls Tryz.prog 178 #[.string s, .int .i64 10, .int .i64 64] w fun e w' => e = .returned (.tuple #[.int .i64 v, .nilIface]) ∧ (w' = w ∨ ∃ t, w' = Lib.bytesWorld w 5 t) := Any.strconv_ParseInt_10_at64_ok Tryz.laysC174 s ALl v h w
open Go.RowKit in
theorem Tryz.strconv_ParseInt_10_at64_syntax (s : ByteArray) (N7 : s.size ≤ 281474976710656) (h : Lib.parseIntB 64 s.data.toList = Lib.parseIntB 64 []) (ev : Value) (w : World) (hv : w.cell? ⟨6, 0, none⟩ = some ev) (hev : ev = .nilIface ∨ ∃ te pe, ev = .iface te pe) :
  Calls Tryz.prog 178 #[.string s, .int .i64 10, .int .i64 64] w fun e w' => ∃ N, e = .returned (.tuple #[.int .i64 (0), .iface 184 (.pointer (some ⟨N, 0, none⟩))]) ∧ w.heap.size ≤ N ∧ w'.heap[N]? = some (.cells #[.string ⟨#[80, 97, 114, 115, 101, 73, 110, 116]⟩, .string s, ev] 189 (0, 0)) ∧ Below w.heap.size w w' := Any.strconv_ParseInt_10_at64_syntax Tryz.laysC174 s N7 h ev w hv hev
open Go.RowKit in
theorem Tryz.strconv_ParseInt_10_at64_range (s : ByteArray) (N7 : s.size ≤ 281474976710656) (h : Lib.parseIntB 64 s.data.toList = .range) (ev : Value) (w : World) (hv : w.cell? ⟨7, 0, none⟩ = some ev) (hev : ev = .nilIface ∨ ∃ te pe, ev = .iface te pe) :
  Calls Tryz.prog 178 #[.string s, .int .i64 10, .int .i64 64] w fun e w' => ∃ N, e = .returned (.tuple #[.int .i64 (Lib.intSat 64 s.data.toList), .iface 184 (.pointer (some ⟨N, 0, none⟩))]) ∧ w.heap.size ≤ N ∧ w'.heap[N]? = some (.cells #[.string ⟨#[80, 97, 114, 115, 101, 73, 110, 116]⟩, .string s, ev] 189 (0, 0)) ∧ Below w.heap.size w w' := Any.strconv_ParseInt_10_at64_range Tryz.laysC174 s N7 h ev w hv hev
def Tryz.lays144_ren : Go.Shelf.Ren := ⟨fun | 144 => 108 | 143 => 131 | 219 => 140 | 217 => 107 | 225 => 165 | 224 => 164 | 267 => 166 | 266 => 130 | 314 => 177 | n => n, fun | 9 => 9 | 4 => 4 | 3 => 3 | 5 => 5 | 46 => 163 | 146 => 170 | 51 => 161 | n => n, fun | 1 => 0 | n => n⟩
theorem Tryz.lays144 : Go.Proofs.Lays.n144 Tryz.prog Tryz.lays144_ren := {
 mixed := by kernel_rfl
 f143 := Tryz.func131.trans (congrArg some (by kernel_rfl))
 f144 := Tryz.func108.trans (congrArg some (by kernel_rfl))
 f217 := Tryz.func107.trans (congrArg some (by kernel_rfl))
 f219 := Tryz.func140.trans (congrArg some (by kernel_rfl))
 f224 := Tryz.func164.trans (congrArg some (by kernel_rfl))
 f225 := Tryz.func165.trans (congrArg some (by kernel_rfl))
 f266 := Tryz.func130.trans (congrArg some (by kernel_rfl))
 f267 := Tryz.func166.trans (congrArg some (by kernel_rfl))
 f314 := Tryz.func177.trans (congrArg some (by kernel_rfl))
 t3 := Tryz.underlying3
 a3 := Tryz.isAgg3
 z3 := Tryz.sizeOf3
 v3 := Tryz.zeroValue3
 t4 := Tryz.underlying4
 a4 := Tryz.isAgg4
 z4 := Tryz.sizeOf4
 v4 := Tryz.zeroValue4
 t5 := Tryz.underlying5
 a5 := Tryz.isAgg5
 z5 := Tryz.sizeOf5
 v5 := Tryz.zeroValue5
 t9 := Tryz.underlying9
 a9 := Tryz.isAgg9
 z9 := Tryz.sizeOf9
 v9 := Tryz.zeroValue9
 t46 := Tryz.underlying163
 a46 := Tryz.isAgg163
 z46 := Tryz.sizeOf163
 v46 := Tryz.zeroValue163
 t51 := Tryz.underlying161
 a51 := Tryz.isAgg161
 z51 := Tryz.sizeOf161
 v51 := Tryz.zeroValue161
 t146 := Tryz.underlying170
 a146 := Tryz.isAgg170
 z146 := Tryz.sizeOf170
 v146 := Tryz.zeroValue170
 g1 := by kernel_rfl }
open Go.RowKit Go.Lib in
theorem Tryz.strings_Contains_one (s : ByteArray) (c : UInt8) (w : World) :
  Calls Tryz.prog 108 #[.string s, .string ⟨#[c]⟩] w fun e w' => e = .returned (.bool (decide (0 ≤ Lib.indexByte s.data.toList c))) ∧ w' = w := Any.strings_Contains_one Tryz.lays144 s c w
open Go.RowKit Go.Lib in
theorem Tryz.strings_Contains (s sub : ByteArray) (m : Int) (w : World) (hs : s.size < 4294967281) (hm : w.cell? ⟨0, 0, none⟩ = some (.int .i64 m)) :
  Calls Tryz.prog 108 #[.string s, .string sub] w fun e w' => e = .returned (.bool (Lib.contains s.data.toList sub.data.toList)) ∧ w' = w := Any.strings_Contains Tryz.lays144 s sub m w hs hm
def Tryz.lays145_ren : Go.Shelf.Ren := ⟨fun | 145 => 89 | 220 => 113 | 219 => 140 | 217 => 107 | 225 => 165 | 224 => 164 | 267 => 166 | 266 => 130 | 314 => 177 | n => n, fun | 9 => 9 | 4 => 4 | 59 => 126 | 3 => 3 | 5 => 5 | 46 => 163 | 146 => 170 | 51 => 161 | n => n, fun | 1 => 0 | n => n⟩
theorem Tryz.lays145 : Go.Proofs.Lays.n145 Tryz.prog Tryz.lays145_ren := {
 mixed := by kernel_rfl
 f145 := Tryz.func89.trans (congrArg some (by kernel_rfl))
 f217 := Tryz.func107.trans (congrArg some (by kernel_rfl))
 f219 := Tryz.func140.trans (congrArg some (by kernel_rfl))
 f220 := Tryz.func113.trans (congrArg some (by kernel_rfl))
 f224 := Tryz.func164.trans (congrArg some (by kernel_rfl))
 f225 := Tryz.func165.trans (congrArg some (by kernel_rfl))
 f266 := Tryz.func130.trans (congrArg some (by kernel_rfl))
 f267 := Tryz.func166.trans (congrArg some (by kernel_rfl))
 f314 := Tryz.func177.trans (congrArg some (by kernel_rfl))
 t3 := Tryz.underlying3
 a3 := Tryz.isAgg3
 z3 := Tryz.sizeOf3
 v3 := Tryz.zeroValue3
 t4 := Tryz.underlying4
 a4 := Tryz.isAgg4
 z4 := Tryz.sizeOf4
 v4 := Tryz.zeroValue4
 t5 := Tryz.underlying5
 a5 := Tryz.isAgg5
 z5 := Tryz.sizeOf5
 v5 := Tryz.zeroValue5
 t9 := Tryz.underlying9
 a9 := Tryz.isAgg9
 z9 := Tryz.sizeOf9
 v9 := Tryz.zeroValue9
 t46 := Tryz.underlying163
 a46 := Tryz.isAgg163
 z46 := Tryz.sizeOf163
 v46 := Tryz.zeroValue163
 t51 := Tryz.underlying161
 a51 := Tryz.isAgg161
 z51 := Tryz.sizeOf161
 v51 := Tryz.zeroValue161
 t59 := Tryz.underlying126
 a59 := Tryz.isAgg126
 z59 := Tryz.sizeOf126
 v59 := Tryz.zeroValue126
 t146 := Tryz.underlying170
 a146 := Tryz.isAgg170
 z146 := Tryz.sizeOf170
 v146 := Tryz.zeroValue170
 g1 := by kernel_rfl }
open Go.RowKit Go.Lib in
theorem Tryz.strings_Cut (s sep : ByteArray) (m : Int) (w : World) (hs : s.size < 4294967281) (hm : w.cell? ⟨0, 0, none⟩ = some (.int .i64 m)) :
  Calls Tryz.prog 89 #[.string s, .string sep] w fun e w' => e = .returned (.tuple #[.string ⟨(Lib.cut s.data.toList sep.data.toList).1.toArray⟩, .string ⟨(Lib.cut s.data.toList sep.data.toList).2.1.toArray⟩, .bool (Lib.cut s.data.toList sep.data.toList).2.2]) ∧ ∃ n, w' = w.drewN n := Any.strings_Cut Tryz.lays145 s sep m w hs hm
def Tryz.laysM144_ren : Go.Shelf.Ren := ⟨fun | 144 => 108 | 143 => 131 | 219 => 140 | 217 => 107 | 225 => 165 | 224 => 164 | 267 => 166 | 266 => 130 | 314 => 177 | n => n, fun | 9 => 9 | 4 => 4 | 3 => 3 | 5 => 5 | 46 => 163 | 146 => 170 | 51 => 161 | n => n, fun | 1 => 0 | n => n⟩
theorem Tryz.laysM144 : Go.Proofs.LaysM.n144 Tryz.prog Tryz.laysM144_ren := {
 mixed := by kernel_rfl
 f143 := Tryz.func131.trans (congrArg some (by kernel_rfl))
 f144 := Tryz.func108.trans (congrArg some (by kernel_rfl))
 f217 := Tryz.func107.trans (congrArg some (by kernel_rfl))
 f219 := Tryz.func140.trans (congrArg some (by kernel_rfl))
 f224 := Tryz.func164.trans (congrArg some (by kernel_rfl))
 f225 := Tryz.func165.trans (congrArg some (by kernel_rfl))
 f266 := Tryz.func130.trans (congrArg some (by kernel_rfl))
 f267 := Tryz.func166.trans (congrArg some (by kernel_rfl))
 f314 := Tryz.func177.trans (congrArg some (by kernel_rfl))
 t3 := Tryz.underlying3
 a3 := Tryz.isAgg3
 z3 := Tryz.sizeOf3
 v3 := Tryz.zeroValue3
 t4 := Tryz.underlying4
 a4 := Tryz.isAgg4
 z4 := Tryz.sizeOf4
 v4 := Tryz.zeroValue4
 t5 := Tryz.underlying5
 a5 := Tryz.isAgg5
 z5 := Tryz.sizeOf5
 v5 := Tryz.zeroValue5
 t9 := Tryz.underlying9
 a9 := Tryz.isAgg9
 z9 := Tryz.sizeOf9
 v9 := Tryz.zeroValue9
 t46 := Tryz.underlying163
 a46 := Tryz.isAgg163
 z46 := Tryz.sizeOf163
 v46 := Tryz.zeroValue163
 t51 := Tryz.underlying161
 a51 := Tryz.isAgg161
 z51 := Tryz.sizeOf161
 v51 := Tryz.zeroValue161
 t146 := Tryz.underlying170
 a146 := Tryz.isAgg170
 z146 := Tryz.sizeOf170
 v146 := Tryz.zeroValue170
 g1 := by kernel_rfl
 i3 := by kernel_rfl
 i4 := by kernel_rfl
 i5 := by kernel_rfl
 i9 := by kernel_rfl
 i46 := by kernel_rfl
 i51 := by kernel_rfl
 i146 := by kernel_rfl
 m1 := by kernel_rfl
 s1_3 := fun w h => Go.Proofs.cell_of_shapedOpen_int (zero := #[.int .i64 0]) (t := 3) h (of_decide_eq_true (by kernel_rfl)) (by kernel_rfl) rfl (by kernel_rfl) (by kernel_rfl) Tryz.underlying3 }
def Tryz.lays102_ren : Go.Shelf.Ren := ⟨fun | 102 => 73 | 209 => 96 | 207 => 125 | n => n, fun | 9 => 9 | 4 => 4 | 3 => 3 | n => n, fun | n => n⟩
theorem Tryz.lays102 : Go.Proofs.Lays.n102 Tryz.prog Tryz.lays102_ren := {
 mixed := by kernel_rfl
 f102 := Tryz.func73.trans (congrArg some (by kernel_rfl))
 f207 := Tryz.func125.trans (congrArg some (by kernel_rfl))
 f209 := Tryz.func96.trans (congrArg some (by kernel_rfl))
 t3 := Tryz.underlying3
 a3 := Tryz.isAgg3
 z3 := Tryz.sizeOf3
 v3 := Tryz.zeroValue3
 t4 := Tryz.underlying4
 a4 := Tryz.isAgg4
 z4 := Tryz.sizeOf4
 v4 := Tryz.zeroValue4
 t9 := Tryz.underlying9
 a9 := Tryz.isAgg9
 z9 := Tryz.sizeOf9
 v9 := Tryz.zeroValue9 }
open Go.RowKit Go.Lib in
theorem Tryz.strings_TrimSuffix (s p : ByteArray) (w : World) (hs : s.size ≤ 9223372036854775807) :
  Calls Tryz.prog 73 #[.string s, .string p] w fun e w' => e = .returned (.string ⟨(Lib.trimSuffix s.data.toList p.data.toList).toArray⟩) ∧ w' = w := Any.strings_TrimSuffix Tryz.lays102 s p w hs
def Tryz.lays153_ren : Go.Shelf.Ren := ⟨fun | 153 => 112 | 152 => 137 | 226 => 138 | 227 => 115 | 228 => 139 | 137 => 84 | 119 => 163 | 224 => 164 | 225 => 165 | 217 => 107 | 266 => 130 | n => n, fun | 9 => 9 | 3 => 3 | 4 => 4 | 5 => 5 | 21 => 21 | 117 => 138 | 116 => 137 | 0 => 0 | 46 => 163 | 124 => 141 | n => n, fun | n => n⟩
theorem Tryz.lays153 : Go.Proofs.Lays.n153 Tryz.prog Tryz.lays153_ren := {
 mixed := by kernel_rfl
 f119 := Tryz.func163.trans (congrArg some (by kernel_rfl))
 f137 := Tryz.func84.trans (congrArg some (by kernel_rfl))
 f152 := Tryz.func137.trans (congrArg some (by kernel_rfl))
 f153 := Tryz.func112.trans (congrArg some (by kernel_rfl))
 f217 := Tryz.func107.trans (congrArg some (by kernel_rfl))
 f224 := Tryz.func164.trans (congrArg some (by kernel_rfl))
 f225 := Tryz.func165.trans (congrArg some (by kernel_rfl))
 f226 := Tryz.func138.trans (congrArg some (by kernel_rfl))
 f227 := Tryz.func115.trans (congrArg some (by kernel_rfl))
 f228 := Tryz.func139.trans (congrArg some (by kernel_rfl))
 f266 := Tryz.func130.trans (congrArg some (by kernel_rfl))
 t0 := Tryz.underlying0
 a0 := Tryz.isAgg0
 z0 := Tryz.sizeOf0
 v0 := Tryz.zeroValue0
 t3 := Tryz.underlying3
 a3 := Tryz.isAgg3
 z3 := Tryz.sizeOf3
 v3 := Tryz.zeroValue3
 t4 := Tryz.underlying4
 a4 := Tryz.isAgg4
 z4 := Tryz.sizeOf4
 v4 := Tryz.zeroValue4
 t5 := Tryz.underlying5
 a5 := Tryz.isAgg5
 z5 := Tryz.sizeOf5
 v5 := Tryz.zeroValue5
 t9 := Tryz.underlying9
 a9 := Tryz.isAgg9
 z9 := Tryz.sizeOf9
 v9 := Tryz.zeroValue9
 t21 := Tryz.underlying21
 a21 := Tryz.isAgg21
 z21 := Tryz.sizeOf21
 v21 := Tryz.zeroValue21
 t46 := Tryz.underlying163
 a46 := Tryz.isAgg163
 z46 := Tryz.sizeOf163
 v46 := Tryz.zeroValue163
 t116 := Tryz.underlying137
 a116 := Tryz.isAgg137
 z116 := Tryz.sizeOf137
 t117 := Tryz.underlying138
 a117 := Tryz.isAgg138
 z117 := Tryz.sizeOf138
 v117 := Tryz.zeroValue138
 t124 := Tryz.underlying141
 a124 := Tryz.isAgg141
 z124 := Tryz.sizeOf141
 v124 := Tryz.zeroValue141 }
open Go.RowKit Go.Lib in
theorem Tryz.strings_IndexAny_long (AHU : ∀ w, (zeroValue 137).run Tryz.prog w = .ok (.agg (Array.replicate 256 (.bool false))) w) (s chars : ByteArray) (w : World) (h2 : 2 ≤ chars.size) (h8 : 8 < s.size) (hs : s.size < 4294967281) (JU : chars.size < 4294967281) (AEo : ∀ (j : Nat) b, chars.data.toList[j]? = some b → b.toNat < 128) :
  Calls Tryz.prog 112 #[.string s, .string chars] w fun e w' => e = .returned (.int .i64 (Lib.indexAny s.data.toList chars.data.toList)) ∧ w' = ((w.alloc (.cells (Lib.setCells chars.data.toList) 137)).alloc (.cells (Lib.setCells chars.data.toList) 137)) := Any.strings_IndexAny_long Tryz.lays153 AHU (by kernel_rfl) s chars w h2 h8 hs JU AEo
end Go.Proofs
