/-
 DERIVED: THE SHELF's CONTRACTS AT THIS DUMP, IN PLAIN WORDS (tools/lay-plain.mjs out of 'TryzShelf.lean', which tools/lay-shelf.mjs wrote): THE SAME DECLARATIONS UNDER THE SAME NAMES: 'import', 'namespace', 'open', 'def', 'theorem' AND NOTHING ELSE: no command of the shelf's: FOR A HAND-IN. Each laying: the table of numbers ('.._ren') and one theorem, a field a fact of the dump's own or the kernel's comparison; each contract: ONE APPLICATION.
-/
import Derived.Shelf.Strings.Builder1
import Derived.Shelf.Strings.Builder2
import Derived.Shelf.Strings.OnBuilder
import Derived.Shelf.Strings.Trim
import Derived.Shelf.Small.Utf8
import Derived.Shelf.Small.Strs
import Derived.Shelf.Strings.BuilderF
import Derived.Shelf.Strings.BuilderK
import Derived.Shelf.Utf8.RuneCount
import Derived.Shelf.Strings.Builder2Cap
import Derived.Shelf.Strconv.Itoa0
import Derived.Shelf.Strconv.Itoa1
import Derived.Shelf.LaysM
import Derived.Shelf.Strconv.Itoa2
import Derived.Shelf.Strconv.Itoa3
import Derived.Shelf.Strconv.Itoa4
import Derived.Shelf.Strings.Search1
import Derived.Shelf.Strings.Search2
import Derived.Shelf.Strings.Search3
import Derived.Shelf.Strings.Count
import Derived.Shelf.Strings.Shaped
import Derived.Shelf.GgClosure.StringsIndexFunc
import Derived.Ground.GgwProg
import Derived.Shelf.GgClosure.StringsIndexFuncTop
import Derived.Shelf.GgClosure.StringsRunes
import Derived.Shelf.Strings.Prefix
import Derived.Shelf.Strings.Split
import Derived.Shelf.Strings.Replace
import Derived.Shelf.Strings.SplitShaped
import Derived.Shelf.Unicode.Decode
import Derived.Shelf.Strings.Runes
import Derived.Shelf.Strings.RuneCount
import Derived.Shelf.Strings.AsciiSet
import Derived.Shelf.Unicode.DecodeSlow
import Derived.Shelf.Unicode.DecodeAny
import Derived.Shelf.Unicode.DecodeLast
import Derived.Shelf.Strings.FuncGrows
import Derived.Shelf.Strings.BuilderCap
import Derived.Test.YtbogmbdfjgnfaaaGreatDoorProg
namespace Go.Proofs
open Go.Shelf
def Tryz.lays156_ren : Go.Shelf.Ren := ⟨fun | 156 => 117 | 165 => 64 | 166 => 43 | 169 => 44 | 240 => 69 | 241 => 87 | 276 => 96 | 277 => 107 | n => n, fun | 31 => 24 | 9 => 9 | 3 => 3 | 4 => 4 | 0 => 0 | 20 => 20 | 72 => 106 | 76 => 114 | 70 => 103 | 37 => 104 | 75 => 112 | 127 => 150 | 164 => 177 | 5 => 5 | 80 => 116 | n => n, fun | n => n⟩
theorem Tryz.lays156 : Go.Proofs.Lays.n156 Tryz.prog Tryz.lays156_ren := {
 mixed := by kernel_rfl
 f156 := Tryz.func117.trans (congrArg some (by kernel_rfl))
 f165 := Tryz.func64.trans (congrArg some (by kernel_rfl))
 f166 := Tryz.func43.trans (congrArg some (by kernel_rfl))
 f169 := Tryz.func44.trans (congrArg some (by kernel_rfl))
 f240 := Tryz.func69.trans (congrArg some (by kernel_rfl))
 f241 := Tryz.func87.trans (congrArg some (by kernel_rfl))
 f276 := Tryz.func96.trans (congrArg some (by kernel_rfl))
 f277 := Tryz.func107.trans (congrArg some (by kernel_rfl))
 t0 := Tryz.underlying0
 a0 := Tryz.isAgg0
 z0 := Tryz.sizeOf0
 v0 := Tryz.zeroValue0
 t3 := Tryz.underlying3
 a3 := Tryz.isAgg3
 z3 := Tryz.sizeOf3
 v3 := Tryz.zeroValue3
 t4 := Tryz.underlying4
 a4 := Tryz.isAgg4
 z4 := Tryz.sizeOf4
 v4 := Tryz.zeroValue4
 t9 := Tryz.underlying9
 a9 := Tryz.isAgg9
 z9 := Tryz.sizeOf9
 v9 := Tryz.zeroValue9
 t20 := Tryz.underlying20
 a20 := Tryz.isAgg20
 z20 := Tryz.sizeOf20
 v20 := Tryz.zeroValue20
 t31 := Tryz.underlying24
 a31 := Tryz.isAgg24
 z31 := Tryz.sizeOf24
 v31 := Tryz.zeroValue24
 t37 := Tryz.underlying104
 a37 := Tryz.isAgg104
 z37 := Tryz.sizeOf104
 v37 := Tryz.zeroValue104
 t70 := Tryz.underlying103
 a70 := Tryz.isAgg103
 z70 := Tryz.sizeOf103
 v70 := Tryz.zeroValue103
 t72 := Tryz.underlying106
 a72 := Tryz.isAgg106
 z72 := Tryz.sizeOf106
 v72 := Tryz.zeroValue106
 t75 := Tryz.underlying112
 a75 := Tryz.isAgg112
 z75 := Tryz.sizeOf112
 v75 := Tryz.zeroValue112
 t76 := Tryz.underlying114
 a76 := Tryz.isAgg114
 z76 := Tryz.sizeOf114
 v76 := Tryz.zeroValue114
 t127 := Tryz.underlying150
 a127 := Tryz.isAgg150
 z127 := Tryz.sizeOf150
 v127 := Tryz.zeroValue150
 t164 := Tryz.underlying177
 a164 := Tryz.isAgg177
 z164 := Tryz.sizeOf177
 v164 := Tryz.zeroValue177 }
theorem Tryz.Builder_Extra_156 : Builder.Extra Tryz.prog Tryz.lays156_ren := {
 sizeBuilder := by kernel_rfl
 liesBuilder := by kernel_rfl
 t5 := Tryz.underlying5
 a5 := Tryz.isAgg5
 z5 := Tryz.sizeOf5
 v5 := Tryz.zeroValue5
 infoByte := by kernel_rfl
 cellsByte := by kernel_rfl
 sizeByte := by kernel_rfl
 neB5 := by decide }
open Go.RowKit in
/-- No element: the empty string; the world is as it was. (Whatever the slice's address and capacity: a nil slice too.) (LAID: no walk: one application.) -/
theorem Tryz.strings_Join_none (a : Option Addr) (c : Nat) (sep : ByteArray) (w : World) :
  Calls Tryz.prog 117 #[.slice a 0 c, .string sep] w fun e w' => e = .returned (.string ⟨#[]⟩) ∧ w' = w := Any.strings_Join_none Tryz.lays156 Tryz.Builder_Extra_156 a c sep w
open Go.RowKit in
/-- strings.Join: "Join concatenates the elements of its first argument to create a single string. The separator string sep is placed between elements in the resulting string.": HOWEVER MANY ELEMENTS. Below the heap's end the world is as it was. (LAID: no walk: one application.) -/
theorem Tryz.strings_Join (bk o c : Nat) (xs : List ByteArray) (sep : ByteArray) (w : World) (hcells : ∀ (j : Nat) x, xs[j]? = some x → w.cell? ⟨bk, o + j, none⟩ = some (.string x)) (hbk : bk < w.heap.size) (hN : xs.length ≤ 140737488355328) (hcap : xs.length ≤ c) (hlen : (Lib.join (xs.map (·.data.toList)) sep.data.toList).length ≤ 140737488355328) :
  Calls Tryz.prog 117 #[.slice (some ⟨bk, o, none⟩) xs.length c, .string sep] w fun e w' => e = .returned (.string ⟨(Lib.join (xs.map (·.data.toList)) sep.data.toList).toArray⟩) ∧ Below w.heap.size w w' := Any.strings_Join Tryz.lays156 Tryz.Builder_Extra_156 bk o c xs sep w hcells hbk hN hcap hlen
def Tryz.lays161_ren : Go.Shelf.Ren := ⟨fun | 161 => 149 | 231 => 168 | 227 => 123 | 233 => 169 | 235 => 170 | 228 => 143 | 197 => 66 | 151 => 19 | 260 => 89 | 152 => 37 | 137 => 56 | 119 => 59 | 224 => 60 | 225 => 61 | 217 => 84 | 266 => 106 | n => n, fun | 9 => 9 | 4 => 4 | 3 => 3 | 5 => 5 | 117 => 209 | 116 => 208 | 0 => 0 | 124 => 212 | 105 => 144 | 21 => 21 | 119 => 188 | 46 => 141 | 139 => 191 | 138 => 190 | n => n, fun | 3 => 2 | 4 => 3 | n => n⟩
theorem Tryz.lays161 : Go.Proofs.Lays.n161 Tryz.prog Tryz.lays161_ren := {
 mixed := by kernel_rfl
 f119 := Tryz.func59.trans (congrArg some (by kernel_rfl))
 f137 := Tryz.func56.trans (congrArg some (by kernel_rfl))
 f151 := Tryz.func19.trans (congrArg some (by kernel_rfl))
 f152 := Tryz.func37.trans (congrArg some (by kernel_rfl))
 f161 := Tryz.func149.trans (congrArg some (by kernel_rfl))
 f197 := Tryz.func66.trans (congrArg some (by kernel_rfl))
 f217 := Tryz.func84.trans (congrArg some (by kernel_rfl))
 f224 := Tryz.func60.trans (congrArg some (by kernel_rfl))
 f225 := Tryz.func61.trans (congrArg some (by kernel_rfl))
 f227 := Tryz.func123.trans (congrArg some (by kernel_rfl))
 f228 := Tryz.func143.trans (congrArg some (by kernel_rfl))
 f231 := Tryz.func168.trans (congrArg some (by kernel_rfl))
 f233 := Tryz.func169.trans (congrArg some (by kernel_rfl))
 f235 := Tryz.func170.trans (congrArg some (by kernel_rfl))
 f260 := Tryz.func89.trans (congrArg some (by kernel_rfl))
 f266 := Tryz.func106.trans (congrArg some (by kernel_rfl))
 t0 := Tryz.underlying0
 a0 := Tryz.isAgg0
 z0 := Tryz.sizeOf0
 v0 := Tryz.zeroValue0
 t3 := Tryz.underlying3
 a3 := Tryz.isAgg3
 z3 := Tryz.sizeOf3
 v3 := Tryz.zeroValue3
 t4 := Tryz.underlying4
 a4 := Tryz.isAgg4
 z4 := Tryz.sizeOf4
 v4 := Tryz.zeroValue4
 t5 := Tryz.underlying5
 a5 := Tryz.isAgg5
 z5 := Tryz.sizeOf5
 v5 := Tryz.zeroValue5
 t9 := Tryz.underlying9
 a9 := Tryz.isAgg9
 z9 := Tryz.sizeOf9
 v9 := Tryz.zeroValue9
 t21 := Tryz.underlying21
 a21 := Tryz.isAgg21
 z21 := Tryz.sizeOf21
 v21 := Tryz.zeroValue21
 t46 := Tryz.underlying141
 a46 := Tryz.isAgg141
 z46 := Tryz.sizeOf141
 v46 := Tryz.zeroValue141
 t105 := Tryz.underlying144
 a105 := Tryz.isAgg144
 z105 := Tryz.sizeOf144
 v105 := Tryz.zeroValue144
 t116 := Tryz.underlying208
 a116 := Tryz.isAgg208
 z116 := Tryz.sizeOf208
 t117 := Tryz.underlying209
 a117 := Tryz.isAgg209
 z117 := Tryz.sizeOf209
 v117 := Tryz.zeroValue209
 t119 := Tryz.underlying188
 a119 := Tryz.isAgg188
 z119 := Tryz.sizeOf188
 t124 := Tryz.underlying212
 a124 := Tryz.isAgg212
 z124 := Tryz.sizeOf212
 v124 := Tryz.zeroValue212
 t138 := Tryz.underlying190
 a138 := Tryz.isAgg190
 z138 := Tryz.sizeOf190
 v138 := Tryz.zeroValue190
 t139 := Tryz.underlying191
 a139 := Tryz.isAgg191
 z139 := Tryz.sizeOf191
 v139 := Tryz.zeroValue191
 g3 := by kernel_rfl
 g4 := by kernel_rfl }
def Tryz.lays162_ren : Go.Shelf.Ren := ⟨fun | 162 => 95 | 232 => 122 | 227 => 123 | 234 => 124 | 236 => 125 | 228 => 143 | 271 => 144 | 151 => 19 | 120 => 164 | 197 => 66 | 152 => 37 | 260 => 89 | 137 => 56 | 119 => 59 | 224 => 60 | 225 => 61 | 217 => 84 | 266 => 106 | n => n, fun | 9 => 9 | 4 => 4 | 3 => 3 | 5 => 5 | 117 => 209 | 116 => 208 | 0 => 0 | 124 => 212 | 21 => 21 | 105 => 144 | 46 => 141 | 119 => 188 | 139 => 191 | 138 => 190 | n => n, fun | 3 => 2 | 4 => 3 | n => n⟩
theorem Tryz.lays162 : Go.Proofs.Lays.n162 Tryz.prog Tryz.lays162_ren := {
 mixed := by kernel_rfl
 f119 := Tryz.func59.trans (congrArg some (by kernel_rfl))
 f120 := Tryz.func164.trans (congrArg some (by kernel_rfl))
 f137 := Tryz.func56.trans (congrArg some (by kernel_rfl))
 f151 := Tryz.func19.trans (congrArg some (by kernel_rfl))
 f152 := Tryz.func37.trans (congrArg some (by kernel_rfl))
 f162 := Tryz.func95.trans (congrArg some (by kernel_rfl))
 f197 := Tryz.func66.trans (congrArg some (by kernel_rfl))
 f217 := Tryz.func84.trans (congrArg some (by kernel_rfl))
 f224 := Tryz.func60.trans (congrArg some (by kernel_rfl))
 f225 := Tryz.func61.trans (congrArg some (by kernel_rfl))
 f227 := Tryz.func123.trans (congrArg some (by kernel_rfl))
 f228 := Tryz.func143.trans (congrArg some (by kernel_rfl))
 f232 := Tryz.func122.trans (congrArg some (by kernel_rfl))
 f234 := Tryz.func124.trans (congrArg some (by kernel_rfl))
 f236 := Tryz.func125.trans (congrArg some (by kernel_rfl))
 f260 := Tryz.func89.trans (congrArg some (by kernel_rfl))
 f266 := Tryz.func106.trans (congrArg some (by kernel_rfl))
 f271 := Tryz.func144.trans (congrArg some (by kernel_rfl))
 t0 := Tryz.underlying0
 a0 := Tryz.isAgg0
 z0 := Tryz.sizeOf0
 v0 := Tryz.zeroValue0
 t3 := Tryz.underlying3
 a3 := Tryz.isAgg3
 z3 := Tryz.sizeOf3
 v3 := Tryz.zeroValue3
 t4 := Tryz.underlying4
 a4 := Tryz.isAgg4
 z4 := Tryz.sizeOf4
 v4 := Tryz.zeroValue4
 t5 := Tryz.underlying5
 a5 := Tryz.isAgg5
 z5 := Tryz.sizeOf5
 v5 := Tryz.zeroValue5
 t9 := Tryz.underlying9
 a9 := Tryz.isAgg9
 z9 := Tryz.sizeOf9
 v9 := Tryz.zeroValue9
 t21 := Tryz.underlying21
 a21 := Tryz.isAgg21
 z21 := Tryz.sizeOf21
 v21 := Tryz.zeroValue21
 t46 := Tryz.underlying141
 a46 := Tryz.isAgg141
 z46 := Tryz.sizeOf141
 v46 := Tryz.zeroValue141
 t105 := Tryz.underlying144
 a105 := Tryz.isAgg144
 z105 := Tryz.sizeOf144
 v105 := Tryz.zeroValue144
 t116 := Tryz.underlying208
 a116 := Tryz.isAgg208
 z116 := Tryz.sizeOf208
 t117 := Tryz.underlying209
 a117 := Tryz.isAgg209
 z117 := Tryz.sizeOf209
 v117 := Tryz.zeroValue209
 t119 := Tryz.underlying188
 a119 := Tryz.isAgg188
 z119 := Tryz.sizeOf188
 t124 := Tryz.underlying212
 a124 := Tryz.isAgg212
 z124 := Tryz.sizeOf212
 v124 := Tryz.zeroValue212
 t138 := Tryz.underlying190
 a138 := Tryz.isAgg190
 z138 := Tryz.sizeOf190
 v138 := Tryz.zeroValue190
 t139 := Tryz.underlying191
 a139 := Tryz.isAgg191
 z139 := Tryz.sizeOf191
 v139 := Tryz.zeroValue191
 g3 := by kernel_rfl
 g4 := by kernel_rfl }
open Go.RowKit in
/-- strings.TrimRight: "TrimRight returns a slice of the string s, with all trailing Unicode code points contained in cutset removed.": AT A cutset OF ONE ASCII BYTE. The world is as it was. (LAID: no walk: one application.) -/
theorem Tryz.strings_TrimRight_one (s : ByteArray) (c : UInt8) (hc : c.toNat < 128) (w : World) (hs : s.size ≤ 9223372036854775807) :
  Calls Tryz.prog 95 #[.string s, .string ⟨#[c]⟩] w fun e w' => e = .returned (.string ⟨(Lib.trimRightB s.data.toList c).toArray⟩) ∧ w' = w := Any.strings_TrimRight_one Tryz.lays162 s c hc w hs
def Tryz.laysM173_ren : Go.Shelf.Ren := ⟨fun | 173 => 30 | 246 => 50 | 283 => 78 | 284 => 79 | 285 => 80 | 286 => 81 | 129 => 102 | 317 => 101 | 318 => 103 | 319 => 104 | 320 => 105 | 337 => 127 | 338 => 128 | n => n, fun | 2 => 2 | 3 => 3 | 9 => 9 | 4 => 4 | 171 => 158 | 0 => 0 | 53 => 159 | 37 => 104 | 5 => 5 | 173 => 162 | 212 => 183 | 51 => 184 | 20 => 20 | 213 => 185 | 46 => 141 | 232 => 236 | 233 => 237 | n => n, fun | 17 => 1 | 18 => 4 | 19 => 5 | n => n⟩
theorem Tryz.laysM173 : Go.Proofs.LaysM.n173 Tryz.prog Tryz.laysM173_ren := {
 mixed := by kernel_rfl
 f129 := Tryz.func102.trans (congrArg some (by kernel_rfl))
 f173 := Tryz.func30.trans (congrArg some (by kernel_rfl))
 f246 := Tryz.func50.trans (congrArg some (by kernel_rfl))
 f283 := Tryz.func78.trans (congrArg some (by kernel_rfl))
 f284 := Tryz.func79.trans (congrArg some (by kernel_rfl))
 f285 := Tryz.func80.trans (congrArg some (by kernel_rfl))
 f286 := Tryz.func81.trans (congrArg some (by kernel_rfl))
 f317 := Tryz.func101.trans (congrArg some (by kernel_rfl))
 f318 := Tryz.func103.trans (congrArg some (by kernel_rfl))
 f319 := Tryz.func104.trans (congrArg some (by kernel_rfl))
 f320 := Tryz.func105.trans (congrArg some (by kernel_rfl))
 f337 := Tryz.func127.trans (congrArg some (by kernel_rfl))
 f338 := Tryz.func128.trans (congrArg some (by kernel_rfl))
 t0 := Tryz.underlying0
 a0 := Tryz.isAgg0
 z0 := Tryz.sizeOf0
 v0 := Tryz.zeroValue0
 t2 := Tryz.underlying2
 a2 := Tryz.isAgg2
 z2 := Tryz.sizeOf2
 v2 := Tryz.zeroValue2
 t3 := Tryz.underlying3
 a3 := Tryz.isAgg3
 z3 := Tryz.sizeOf3
 v3 := Tryz.zeroValue3
 t4 := Tryz.underlying4
 a4 := Tryz.isAgg4
 z4 := Tryz.sizeOf4
 v4 := Tryz.zeroValue4
 t5 := Tryz.underlying5
 a5 := Tryz.isAgg5
 z5 := Tryz.sizeOf5
 v5 := Tryz.zeroValue5
 t9 := Tryz.underlying9
 a9 := Tryz.isAgg9
 z9 := Tryz.sizeOf9
 v9 := Tryz.zeroValue9
 t20 := Tryz.underlying20
 a20 := Tryz.isAgg20
 z20 := Tryz.sizeOf20
 v20 := Tryz.zeroValue20
 t37 := Tryz.underlying104
 a37 := Tryz.isAgg104
 z37 := Tryz.sizeOf104
 v37 := Tryz.zeroValue104
 t46 := Tryz.underlying141
 a46 := Tryz.isAgg141
 z46 := Tryz.sizeOf141
 v46 := Tryz.zeroValue141
 t51 := Tryz.underlying184
 a51 := Tryz.isAgg184
 z51 := Tryz.sizeOf184
 v51 := Tryz.zeroValue184
 t53 := Tryz.underlying159
 a53 := Tryz.isAgg159
 z53 := Tryz.sizeOf159
 v53 := Tryz.zeroValue159
 t171 := Tryz.underlying158
 a171 := Tryz.isAgg158
 z171 := Tryz.sizeOf158
 v171 := Tryz.zeroValue158
 t173 := Tryz.underlying162
 a173 := Tryz.isAgg162
 z173 := Tryz.sizeOf162
 v173 := Tryz.zeroValue162
 t212 := Tryz.underlying183
 a212 := Tryz.isAgg183
 z212 := Tryz.sizeOf183
 v212 := Tryz.zeroValue183
 t213 := Tryz.underlying185
 a213 := Tryz.isAgg185
 z213 := Tryz.sizeOf185
 t232 := Tryz.underlying236
 a232 := Tryz.isAgg236
 z232 := Tryz.sizeOf236
 v232 := Tryz.zeroValue236
 t233 := Tryz.underlying237
 a233 := Tryz.isAgg237
 z233 := Tryz.sizeOf237
 v233 := Tryz.zeroValue237
 g17 := by kernel_rfl
 g18 := by kernel_rfl
 g19 := by kernel_rfl
 i0 := by kernel_rfl
 i2 := by kernel_rfl
 i3 := by kernel_rfl
 i4 := by kernel_rfl
 i5 := by kernel_rfl
 i9 := by kernel_rfl
 i20 := by kernel_rfl
 i37 := by kernel_rfl
 i46 := by kernel_rfl
 i51 := by kernel_rfl
 i53 := by kernel_rfl
 i171 := by kernel_rfl
 i173 := by kernel_rfl
 i212 := by kernel_rfl
 i232 := by kernel_rfl
 i233 := by kernel_rfl
 m17 := by kernel_rfl
 m18 := by kernel_rfl
 m19 := by kernel_rfl }
open Go.RowKit Go.Sort Go.Lib in
/-- strconv.FormatInt: "FormatInt returns the string representation of i in the given base": AT BASE 10: i's decimal numeral, for every int64. (LAID: no walk: one application.) -/
theorem Tryz.strconv_FormatInt_10 (n : Int) (h0 : -9223372036854775808 ≤ n) (h1 : n ≤ 9223372036854775807) (w : World) (htab : Lib.TabIs Tryz.prog w "internal/strconv.uint64pow10" .u64 Lib.pow10Tab) :
  Calls Tryz.prog 30 #[.int .i64 n, .int .i64 10] w fun e w' => e = .returned (.string ⟨(Lib.itoa n).toArray⟩) ∧ ∃ k os, w' = grow (w.drewN k) os := Any.strconv_FormatInt_10 Tryz.laysM173 n h0 h1 w htab
def Tryz.lays144_ren : Go.Shelf.Ren := ⟨fun | 144 => 150 | 143 => 65 | 219 => 88 | 217 => 84 | 225 => 61 | 224 => 60 | 267 => 108 | 266 => 106 | 314 => 129 | n => n, fun | 9 => 9 | 4 => 4 | 3 => 3 | 5 => 5 | 46 => 141 | 146 => 214 | 51 => 184 | n => n, fun | 1 => 0 | n => n⟩
theorem Tryz.lays144 : Go.Proofs.Lays.n144 Tryz.prog Tryz.lays144_ren := {
 mixed := by kernel_rfl
 f143 := Tryz.func65.trans (congrArg some (by kernel_rfl))
 f144 := Tryz.func150.trans (congrArg some (by kernel_rfl))
 f217 := Tryz.func84.trans (congrArg some (by kernel_rfl))
 f219 := Tryz.func88.trans (congrArg some (by kernel_rfl))
 f224 := Tryz.func60.trans (congrArg some (by kernel_rfl))
 f225 := Tryz.func61.trans (congrArg some (by kernel_rfl))
 f266 := Tryz.func106.trans (congrArg some (by kernel_rfl))
 f267 := Tryz.func108.trans (congrArg some (by kernel_rfl))
 f314 := Tryz.func129.trans (congrArg some (by kernel_rfl))
 t3 := Tryz.underlying3
 a3 := Tryz.isAgg3
 z3 := Tryz.sizeOf3
 v3 := Tryz.zeroValue3
 t4 := Tryz.underlying4
 a4 := Tryz.isAgg4
 z4 := Tryz.sizeOf4
 v4 := Tryz.zeroValue4
 t5 := Tryz.underlying5
 a5 := Tryz.isAgg5
 z5 := Tryz.sizeOf5
 v5 := Tryz.zeroValue5
 t9 := Tryz.underlying9
 a9 := Tryz.isAgg9
 z9 := Tryz.sizeOf9
 v9 := Tryz.zeroValue9
 t46 := Tryz.underlying141
 a46 := Tryz.isAgg141
 z46 := Tryz.sizeOf141
 v46 := Tryz.zeroValue141
 t51 := Tryz.underlying184
 a51 := Tryz.isAgg184
 z51 := Tryz.sizeOf184
 v51 := Tryz.zeroValue184
 t146 := Tryz.underlying214
 a146 := Tryz.isAgg214
 z146 := Tryz.sizeOf214
 v146 := Tryz.zeroValue214
 g1 := by kernel_rfl }
open Go.RowKit Go.Lib in
/-- strings.Contains: "Contains reports whether substr is within s.": IT RETURNS 'Lib.contains s substr'; the world is as it was. (LAID: no walk: one application.) -/
theorem Tryz.strings_Contains (s sub : ByteArray) (m : Int) (w : World) (hs : s.size < 4294967281) (hm : w.cell? ⟨0, 0, none⟩ = some (.int .i64 m)) :
  Calls Tryz.prog 150 #[.string s, .string sub] w fun e w' => e = .returned (.bool (Lib.contains s.data.toList sub.data.toList)) ∧ w' = w := Any.strings_Contains Tryz.lays144 s sub m w hs hm
def Tryz.laysM144_ren : Go.Shelf.Ren := ⟨fun | 144 => 150 | 143 => 65 | 219 => 88 | 217 => 84 | 225 => 61 | 224 => 60 | 267 => 108 | 266 => 106 | 314 => 129 | n => n, fun | 9 => 9 | 4 => 4 | 3 => 3 | 5 => 5 | 46 => 141 | 146 => 214 | 51 => 184 | n => n, fun | 1 => 0 | n => n⟩
theorem Tryz.laysM144 : Go.Proofs.LaysM.n144 Tryz.prog Tryz.laysM144_ren := {
 mixed := by kernel_rfl
 f143 := Tryz.func65.trans (congrArg some (by kernel_rfl))
 f144 := Tryz.func150.trans (congrArg some (by kernel_rfl))
 f217 := Tryz.func84.trans (congrArg some (by kernel_rfl))
 f219 := Tryz.func88.trans (congrArg some (by kernel_rfl))
 f224 := Tryz.func60.trans (congrArg some (by kernel_rfl))
 f225 := Tryz.func61.trans (congrArg some (by kernel_rfl))
 f266 := Tryz.func106.trans (congrArg some (by kernel_rfl))
 f267 := Tryz.func108.trans (congrArg some (by kernel_rfl))
 f314 := Tryz.func129.trans (congrArg some (by kernel_rfl))
 t3 := Tryz.underlying3
 a3 := Tryz.isAgg3
 z3 := Tryz.sizeOf3
 v3 := Tryz.zeroValue3
 t4 := Tryz.underlying4
 a4 := Tryz.isAgg4
 z4 := Tryz.sizeOf4
 v4 := Tryz.zeroValue4
 t5 := Tryz.underlying5
 a5 := Tryz.isAgg5
 z5 := Tryz.sizeOf5
 v5 := Tryz.zeroValue5
 t9 := Tryz.underlying9
 a9 := Tryz.isAgg9
 z9 := Tryz.sizeOf9
 v9 := Tryz.zeroValue9
 t46 := Tryz.underlying141
 a46 := Tryz.isAgg141
 z46 := Tryz.sizeOf141
 v46 := Tryz.zeroValue141
 t51 := Tryz.underlying184
 a51 := Tryz.isAgg184
 z51 := Tryz.sizeOf184
 v51 := Tryz.zeroValue184
 t146 := Tryz.underlying214
 a146 := Tryz.isAgg214
 z146 := Tryz.sizeOf214
 v146 := Tryz.zeroValue214
 g1 := by kernel_rfl
 i3 := by kernel_rfl
 i4 := by kernel_rfl
 i5 := by kernel_rfl
 i9 := by kernel_rfl
 i46 := by kernel_rfl
 i51 := by kernel_rfl
 i146 := by kernel_rfl
 m1 := by kernel_rfl
 s1_3 := fun w h => Go.Proofs.cell_of_shapedOpen_int (zero := #[.int .i64 0]) (t := 3) h (of_decide_eq_true (by kernel_rfl)) (by kernel_rfl) rfl (by kernel_rfl) (by kernel_rfl) Tryz.underlying3 }
def Tryz.laysGw17_ren : Go.Shelf.Ren := ⟨fun | 17 => 20 | 15 => 38 | 20 => 62 | n => n, fun | 9 => 9 | 23 => 55 | 4 => 4 | 3 => 3 | 0 => 0 | 21 => 21 | n => n, fun | n => n⟩
theorem Tryz.laysGw17 : Go.Proofs.LaysGw.n17 Tryz.prog Tryz.laysGw17_ren := {
 mixed := by kernel_rfl
 f15 := Tryz.func38.trans (congrArg some (by kernel_rfl))
 f17 := Tryz.func20.trans (congrArg some (by kernel_rfl))
 f20 := Tryz.func62.trans (congrArg some (by kernel_rfl))
 t0 := Tryz.underlying0
 a0 := Tryz.isAgg0
 z0 := Tryz.sizeOf0
 v0 := Tryz.zeroValue0
 i0 := by kernel_rfl
 t3 := Tryz.underlying3
 a3 := Tryz.isAgg3
 z3 := Tryz.sizeOf3
 v3 := Tryz.zeroValue3
 i3 := by kernel_rfl
 t4 := Tryz.underlying4
 a4 := Tryz.isAgg4
 z4 := Tryz.sizeOf4
 v4 := Tryz.zeroValue4
 i4 := by kernel_rfl
 t9 := Tryz.underlying9
 a9 := Tryz.isAgg9
 z9 := Tryz.sizeOf9
 v9 := Tryz.zeroValue9
 i9 := by kernel_rfl
 t21 := Tryz.underlying21
 a21 := Tryz.isAgg21
 z21 := Tryz.sizeOf21
 v21 := Tryz.zeroValue21
 i21 := by kernel_rfl
 t23 := Tryz.underlying55
 a23 := Tryz.isAgg55
 z23 := Tryz.sizeOf55
 v23 := Tryz.zeroValue55
 i23 := by kernel_rfl }
def Tryz.lays101_ren : Go.Shelf.Ren := ⟨fun | 101 => 119 | 208 => 139 | 206 => 130 | n => n, fun | 9 => 9 | 4 => 4 | 3 => 3 | n => n, fun | n => n⟩
theorem Tryz.lays101 : Go.Proofs.Lays.n101 Tryz.prog Tryz.lays101_ren := {
 mixed := by kernel_rfl
 f101 := Tryz.func119.trans (congrArg some (by kernel_rfl))
 f206 := Tryz.func130.trans (congrArg some (by kernel_rfl))
 f208 := Tryz.func139.trans (congrArg some (by kernel_rfl))
 t3 := Tryz.underlying3
 a3 := Tryz.isAgg3
 z3 := Tryz.sizeOf3
 v3 := Tryz.zeroValue3
 t4 := Tryz.underlying4
 a4 := Tryz.isAgg4
 z4 := Tryz.sizeOf4
 v4 := Tryz.zeroValue4
 t9 := Tryz.underlying9
 a9 := Tryz.isAgg9
 z9 := Tryz.sizeOf9
 v9 := Tryz.zeroValue9 }
open Go.RowKit Go.Lib in
/-- strings.TrimPrefix: "TrimPrefix returns s without the provided leading prefix string. If s doesn't start with prefix, s is returned unchanged.": IT RETURNS 'Lib.trimPrefix s prefix'; the world is as it was. (LAID: no walk: one application.) -/
theorem Tryz.strings_TrimPrefix (s p : ByteArray) (w : World) :
  Calls Tryz.prog 119 #[.string s, .string p] w fun e w' => e = .returned (.string ⟨(Lib.trimPrefix s.data.toList p.data.toList).toArray⟩) ∧ w' = w := Any.strings_TrimPrefix Tryz.lays101 s p w
def Tryz.lays155_ren : Go.Shelf.Ren := ⟨fun | 155 => 21 | 154 => 39 | 138 => 63 | 165 => 64 | 143 => 65 | 166 => 43 | 197 => 66 | 169 => 44 | 195 => 85 | 218 => 86 | 240 => 69 | 241 => 87 | 219 => 88 | 260 => 89 | 276 => 96 | 277 => 107 | 217 => 84 | 225 => 61 | 224 => 60 | 267 => 108 | 266 => 106 | 314 => 129 | n => n, fun | 9 => 9 | 3 => 3 | 4 => 4 | 72 => 106 | 0 => 0 | 76 => 114 | 105 => 144 | 21 => 21 | 5 => 5 | 70 => 103 | 20 => 20 | 37 => 104 | 75 => 112 | 127 => 150 | 164 => 177 | 46 => 141 | 119 => 188 | 139 => 191 | 138 => 190 | 146 => 214 | 51 => 184 | 80 => 116 | n => n, fun | 1 => 0 | 3 => 2 | 4 => 3 | n => n⟩
theorem Tryz.lays155 : Go.Proofs.Lays.n155 Tryz.prog Tryz.lays155_ren := {
 mixed := by kernel_rfl
 f138 := Tryz.func63.trans (congrArg some (by kernel_rfl))
 f143 := Tryz.func65.trans (congrArg some (by kernel_rfl))
 f154 := Tryz.func39.trans (congrArg some (by kernel_rfl))
 f155 := Tryz.func21.trans (congrArg some (by kernel_rfl))
 f165 := Tryz.func64.trans (congrArg some (by kernel_rfl))
 f166 := Tryz.func43.trans (congrArg some (by kernel_rfl))
 f169 := Tryz.func44.trans (congrArg some (by kernel_rfl))
 f195 := Tryz.func85.trans (congrArg some (by kernel_rfl))
 f197 := Tryz.func66.trans (congrArg some (by kernel_rfl))
 f217 := Tryz.func84.trans (congrArg some (by kernel_rfl))
 f218 := Tryz.func86.trans (congrArg some (by kernel_rfl))
 f219 := Tryz.func88.trans (congrArg some (by kernel_rfl))
 f224 := Tryz.func60.trans (congrArg some (by kernel_rfl))
 f225 := Tryz.func61.trans (congrArg some (by kernel_rfl))
 f240 := Tryz.func69.trans (congrArg some (by kernel_rfl))
 f241 := Tryz.func87.trans (congrArg some (by kernel_rfl))
 f260 := Tryz.func89.trans (congrArg some (by kernel_rfl))
 f266 := Tryz.func106.trans (congrArg some (by kernel_rfl))
 f267 := Tryz.func108.trans (congrArg some (by kernel_rfl))
 f276 := Tryz.func96.trans (congrArg some (by kernel_rfl))
 f277 := Tryz.func107.trans (congrArg some (by kernel_rfl))
 f314 := Tryz.func129.trans (congrArg some (by kernel_rfl))
 t0 := Tryz.underlying0
 a0 := Tryz.isAgg0
 z0 := Tryz.sizeOf0
 v0 := Tryz.zeroValue0
 t3 := Tryz.underlying3
 a3 := Tryz.isAgg3
 z3 := Tryz.sizeOf3
 v3 := Tryz.zeroValue3
 t4 := Tryz.underlying4
 a4 := Tryz.isAgg4
 z4 := Tryz.sizeOf4
 v4 := Tryz.zeroValue4
 t5 := Tryz.underlying5
 a5 := Tryz.isAgg5
 z5 := Tryz.sizeOf5
 v5 := Tryz.zeroValue5
 t9 := Tryz.underlying9
 a9 := Tryz.isAgg9
 z9 := Tryz.sizeOf9
 v9 := Tryz.zeroValue9
 t20 := Tryz.underlying20
 a20 := Tryz.isAgg20
 z20 := Tryz.sizeOf20
 v20 := Tryz.zeroValue20
 t21 := Tryz.underlying21
 a21 := Tryz.isAgg21
 z21 := Tryz.sizeOf21
 v21 := Tryz.zeroValue21
 t37 := Tryz.underlying104
 a37 := Tryz.isAgg104
 z37 := Tryz.sizeOf104
 v37 := Tryz.zeroValue104
 t46 := Tryz.underlying141
 a46 := Tryz.isAgg141
 z46 := Tryz.sizeOf141
 v46 := Tryz.zeroValue141
 t51 := Tryz.underlying184
 a51 := Tryz.isAgg184
 z51 := Tryz.sizeOf184
 v51 := Tryz.zeroValue184
 t70 := Tryz.underlying103
 a70 := Tryz.isAgg103
 z70 := Tryz.sizeOf103
 v70 := Tryz.zeroValue103
 t72 := Tryz.underlying106
 a72 := Tryz.isAgg106
 z72 := Tryz.sizeOf106
 v72 := Tryz.zeroValue106
 t75 := Tryz.underlying112
 a75 := Tryz.isAgg112
 z75 := Tryz.sizeOf112
 v75 := Tryz.zeroValue112
 t76 := Tryz.underlying114
 a76 := Tryz.isAgg114
 z76 := Tryz.sizeOf114
 v76 := Tryz.zeroValue114
 t105 := Tryz.underlying144
 a105 := Tryz.isAgg144
 z105 := Tryz.sizeOf144
 v105 := Tryz.zeroValue144
 t119 := Tryz.underlying188
 a119 := Tryz.isAgg188
 z119 := Tryz.sizeOf188
 t127 := Tryz.underlying150
 a127 := Tryz.isAgg150
 z127 := Tryz.sizeOf150
 v127 := Tryz.zeroValue150
 t138 := Tryz.underlying190
 a138 := Tryz.isAgg190
 z138 := Tryz.sizeOf190
 v138 := Tryz.zeroValue190
 t139 := Tryz.underlying191
 a139 := Tryz.isAgg191
 z139 := Tryz.sizeOf191
 v139 := Tryz.zeroValue191
 t146 := Tryz.underlying214
 a146 := Tryz.isAgg214
 z146 := Tryz.sizeOf214
 v146 := Tryz.zeroValue214
 t164 := Tryz.underlying177
 a164 := Tryz.isAgg177
 z164 := Tryz.sizeOf177
 v164 := Tryz.zeroValue177
 g1 := by kernel_rfl
 g3 := by kernel_rfl
 g4 := by kernel_rfl }
theorem Tryz.Builder_Extra_155 : Builder.Extra Tryz.prog Tryz.lays155_ren := {
 sizeBuilder := by kernel_rfl
 liesBuilder := by kernel_rfl
 t5 := Tryz.underlying5
 a5 := Tryz.isAgg5
 z5 := Tryz.sizeOf5
 v5 := Tryz.zeroValue5
 infoByte := by kernel_rfl
 cellsByte := by kernel_rfl
 sizeByte := by kernel_rfl
 neB5 := by decide }
open Go.RowKit Go.Lib in
/-- strings.ReplaceAll: "ReplaceAll returns a copy of the string s with all non-overlapping instances of old replaced by new.": AT AN old THAT IS NOT EMPTY: 'Lib.replaceAll s old new'. (LAID: no walk: one application.) -/
theorem Tryz.strings_ReplaceAll (s old new : ByteArray) (m : Int) (w : World) (hs : s.size < 4294967281) (hm : w.cell? ⟨0, 0, none⟩ = some (.int .i64 m)) (h1 : 1 ≤ old.size) (hlen : s.size + Lib.countB s old * new.size ≤ 140737488355328) :
  Calls Tryz.prog 21 #[.string s, .string old, .string new] w fun e w' =>
   e = .returned (.string ⟨(Lib.replaceAll s.data.toList old.data.toList new.data.toList).toArray⟩) ∧ Below w.heap.size w w' := Any.strings_ReplaceAll Tryz.lays155 Tryz.Builder_Extra_155 s old new m w hs hm h1 hlen
def Tryz.lays151_ren : Go.Shelf.Ren := ⟨fun | 151 => 19 | 152 => 37 | 137 => 56 | 119 => 59 | 224 => 60 | 225 => 61 | 217 => 84 | 266 => 106 | n => n, fun | 9 => 9 | 21 => 21 | 4 => 4 | 3 => 3 | 5 => 5 | 0 => 0 | 46 => 141 | n => n, fun | n => n⟩
theorem Tryz.lays151 : Go.Proofs.Lays.n151 Tryz.prog Tryz.lays151_ren := {
 mixed := by kernel_rfl
 f119 := Tryz.func59.trans (congrArg some (by kernel_rfl))
 f137 := Tryz.func56.trans (congrArg some (by kernel_rfl))
 f151 := Tryz.func19.trans (congrArg some (by kernel_rfl))
 f152 := Tryz.func37.trans (congrArg some (by kernel_rfl))
 f217 := Tryz.func84.trans (congrArg some (by kernel_rfl))
 f224 := Tryz.func60.trans (congrArg some (by kernel_rfl))
 f225 := Tryz.func61.trans (congrArg some (by kernel_rfl))
 f266 := Tryz.func106.trans (congrArg some (by kernel_rfl))
 t0 := Tryz.underlying0
 a0 := Tryz.isAgg0
 z0 := Tryz.sizeOf0
 v0 := Tryz.zeroValue0
 t3 := Tryz.underlying3
 a3 := Tryz.isAgg3
 z3 := Tryz.sizeOf3
 v3 := Tryz.zeroValue3
 t4 := Tryz.underlying4
 a4 := Tryz.isAgg4
 z4 := Tryz.sizeOf4
 v4 := Tryz.zeroValue4
 t5 := Tryz.underlying5
 a5 := Tryz.isAgg5
 z5 := Tryz.sizeOf5
 v5 := Tryz.zeroValue5
 t9 := Tryz.underlying9
 a9 := Tryz.isAgg9
 z9 := Tryz.sizeOf9
 v9 := Tryz.zeroValue9
 t21 := Tryz.underlying21
 a21 := Tryz.isAgg21
 z21 := Tryz.sizeOf21
 v21 := Tryz.zeroValue21
 t46 := Tryz.underlying141
 a46 := Tryz.isAgg141
 z46 := Tryz.sizeOf141
 v46 := Tryz.zeroValue141 }
open Go.RowKit Go.Lib in
theorem Tryz.strings_ContainsRune_ascii (s : ByteArray) (r : Int) (w : World) (h0 : 0 ≤ r) (h1 : r < 128) :
  Calls Tryz.prog 19 #[.string s, .int .i32 r] w fun e w' => e = .returned (.bool (decide (0 ≤ Lib.indexByte s.data.toList r.toNat.toUInt8))) ∧ w' = w := Any.strings_ContainsRune_ascii Tryz.lays151 s r w h0 h1
open Go.RowKit Go.Lib in
theorem Tryz.strings_ContainsFunc_grows (g : Nat) (lb : Array Value) (eg : ∀ args w, (callFunc g args).run Tryz.prog w = .ok (.enter g args) w) (p : Nat → Bool) (s : ByteArray) (w : World) (hp : PredGrows Tryz.prog g lb p w) :
  Calls Tryz.prog 20 #[.string s, .func (.func g) #[] lb] w fun e w' => e = .returned (.bool (decide (0 ≤ Lib.idxFunc p true s))) ∧ Below w.heap.size w w' := Any.strings_ContainsFunc_grows Tryz.laysGw17 g lb eg p s w hp
end Go.Proofs
