/-
 DERIVED: THE SHELF's CONTRACTS AT THIS DUMP, IN PLAIN WORDS (tools/lay-plain.mjs out of 'TryzShelf.lean', which tools/lay-shelf.mjs wrote): THE SAME DECLARATIONS UNDER THE SAME NAMES: 'import', 'namespace', 'open', 'def', 'theorem' AND NOTHING ELSE: no command of the shelf's: FOR A HAND-IN. Each laying: the table of numbers ('.._ren') and one theorem, a field a fact of the dump's own or the kernel's comparison; each contract: ONE APPLICATION.
-/
import Derived.Shelf.Strings.Builder1
import Derived.Shelf.Strings.Builder2
import Derived.Shelf.Strings.OnBuilder
import Derived.Shelf.Strings.Trim
import Derived.Shelf.Small.Utf8
import Derived.Shelf.Small.Strs
import Derived.Shelf.Strings.BuilderF
import Derived.Shelf.Strings.BuilderK
import Derived.Shelf.Strings.Builder2Cap
import Derived.Shelf.Strconv.Itoa0
import Derived.Shelf.Strconv.Itoa1
import Derived.Shelf.LaysM
import Derived.Shelf.Strconv.Itoa2
import Derived.Shelf.Strconv.Itoa3
import Derived.Shelf.Strconv.Itoa4
import Derived.Shelf.Strings.Search1
import Derived.Shelf.Strings.Search2
import Derived.Shelf.Strings.Search3
import Derived.Shelf.Strings.Shaped
import Derived.Shelf.Strings.Prefix
import Derived.Shelf.Unicode.Decode
import Derived.Shelf.Strings.Runes
import Derived.Shelf.Strings.AsciiSet
import Derived.Shelf.Unicode.DecodeSlow
import Derived.Shelf.Unicode.DecodeAny
import Derived.Shelf.Unicode.DecodeLast
import Derived.Shelf.Strings.BuilderCap
import Derived.Test.YtmjcakamgeepbaaGreatDoorProg
namespace Go.Proofs
open Go.Shelf
def Tryz.lays156_ren : Go.Shelf.Ren := ⟨fun | 156 => 71 | 165 => 91 | 166 => 36 | 169 => 30 | 240 => 42 | 241 => 110 | 276 => 58 | 277 => 136 | n => n, fun | 31 => 23 | 9 => 9 | 3 => 3 | 4 => 4 | 0 => 0 | 20 => 20 | 72 => 100 | 76 => 116 | 70 => 97 | 37 => 98 | 75 => 102 | 127 => 124 | 164 => 143 | 5 => 5 | 80 => 104 | n => n, fun | n => n⟩
theorem Tryz.lays156 : Go.Proofs.Lays.n156 Tryz.prog Tryz.lays156_ren := {
 mixed := by kernel_rfl
 f156 := Tryz.func71.trans (congrArg some (by kernel_rfl))
 f165 := Tryz.func91.trans (congrArg some (by kernel_rfl))
 f166 := Tryz.func36.trans (congrArg some (by kernel_rfl))
 f169 := Tryz.func30.trans (congrArg some (by kernel_rfl))
 f240 := Tryz.func42.trans (congrArg some (by kernel_rfl))
 f241 := Tryz.func110.trans (congrArg some (by kernel_rfl))
 f276 := Tryz.func58.trans (congrArg some (by kernel_rfl))
 f277 := Tryz.func136.trans (congrArg some (by kernel_rfl))
 t0 := Tryz.underlying0
 a0 := Tryz.isAgg0
 z0 := Tryz.sizeOf0
 v0 := Tryz.zeroValue0
 t3 := Tryz.underlying3
 a3 := Tryz.isAgg3
 z3 := Tryz.sizeOf3
 v3 := Tryz.zeroValue3
 t4 := Tryz.underlying4
 a4 := Tryz.isAgg4
 z4 := Tryz.sizeOf4
 v4 := Tryz.zeroValue4
 t9 := Tryz.underlying9
 a9 := Tryz.isAgg9
 z9 := Tryz.sizeOf9
 v9 := Tryz.zeroValue9
 t20 := Tryz.underlying20
 a20 := Tryz.isAgg20
 z20 := Tryz.sizeOf20
 v20 := Tryz.zeroValue20
 t31 := Tryz.underlying23
 a31 := Tryz.isAgg23
 z31 := Tryz.sizeOf23
 v31 := Tryz.zeroValue23
 t37 := Tryz.underlying98
 a37 := Tryz.isAgg98
 z37 := Tryz.sizeOf98
 v37 := Tryz.zeroValue98
 t70 := Tryz.underlying97
 a70 := Tryz.isAgg97
 z70 := Tryz.sizeOf97
 v70 := Tryz.zeroValue97
 t72 := Tryz.underlying100
 a72 := Tryz.isAgg100
 z72 := Tryz.sizeOf100
 v72 := Tryz.zeroValue100
 t75 := Tryz.underlying102
 a75 := Tryz.isAgg102
 z75 := Tryz.sizeOf102
 v75 := Tryz.zeroValue102
 t76 := Tryz.underlying116
 a76 := Tryz.isAgg116
 z76 := Tryz.sizeOf116
 v76 := Tryz.zeroValue116
 t127 := Tryz.underlying124
 a127 := Tryz.isAgg124
 z127 := Tryz.sizeOf124
 v127 := Tryz.zeroValue124
 t164 := Tryz.underlying143
 a164 := Tryz.isAgg143
 z164 := Tryz.sizeOf143
 v164 := Tryz.zeroValue143 }
theorem Tryz.Builder_Extra_156 : Builder.Extra Tryz.prog Tryz.lays156_ren := {
 sizeBuilder := by kernel_rfl
 liesBuilder := by kernel_rfl
 t5 := Tryz.underlying5
 a5 := Tryz.isAgg5
 z5 := Tryz.sizeOf5
 v5 := Tryz.zeroValue5
 infoByte := by kernel_rfl
 cellsByte := by kernel_rfl
 sizeByte := by kernel_rfl
 neB5 := by decide }
open Go.RowKit in
/-- No element: the empty string; the world is as it was. (Whatever the slice's address and capacity: a nil slice too.) (LAID: no walk: one application.) -/
theorem Tryz.strings_Join_none (a : Option Addr) (c : Nat) (sep : ByteArray) (w : World) :
  Calls Tryz.prog 71 #[.slice a 0 c, .string sep] w fun e w' => e = .returned (.string ⟨#[]⟩) ∧ w' = w := Any.strings_Join_none Tryz.lays156 Tryz.Builder_Extra_156 a c sep w
open Go.RowKit in
/-- strings.Join: "Join concatenates the elements of its first argument to create a single string. The separator string sep is placed between elements in the resulting string.": HOWEVER MANY ELEMENTS. Below the heap's end the world is as it was. (LAID: no walk: one application.) -/
theorem Tryz.strings_Join (bk o c : Nat) (xs : List ByteArray) (sep : ByteArray) (w : World) (hcells : ∀ (j : Nat) x, xs[j]? = some x → w.cell? ⟨bk, o + j, none⟩ = some (.string x)) (hbk : bk < w.heap.size) (hN : xs.length ≤ 140737488355328) (hcap : xs.length ≤ c) (hlen : (Lib.join (xs.map (·.data.toList)) sep.data.toList).length ≤ 140737488355328) :
  Calls Tryz.prog 71 #[.slice (some ⟨bk, o, none⟩) xs.length c, .string sep] w fun e w' => e = .returned (.string ⟨(Lib.join (xs.map (·.data.toList)) sep.data.toList).toArray⟩) ∧ Below w.heap.size w w' := Any.strings_Join Tryz.lays156 Tryz.Builder_Extra_156 bk o c xs sep w hcells hbk hN hcap hlen
def Tryz.lays161_ren : Go.Shelf.Ren := ⟨fun | 161 => 108 | 231 => 132 | 227 => 80 | 233 => 133 | 235 => 134 | 228 => 101 | 197 => 127 | 151 => 103 | 260 => 151 | 152 => 128 | 137 => 28 | 119 => 152 | 224 => 153 | 225 => 154 | 217 => 41 | 266 => 57 | n => n, fun | 9 => 9 | 4 => 4 | 3 => 3 | 5 => 5 | 117 => 171 | 116 => 170 | 0 => 0 | 124 => 174 | 105 => 198 | 21 => 21 | 119 => 267 | 46 => 254 | 139 => 270 | 138 => 269 | n => n, fun | 3 => 2 | 4 => 3 | n => n⟩
theorem Tryz.lays161 : Go.Proofs.Lays.n161 Tryz.prog Tryz.lays161_ren := {
 mixed := by kernel_rfl
 f119 := Tryz.func152.trans (congrArg some (by kernel_rfl))
 f137 := Tryz.func28.trans (congrArg some (by kernel_rfl))
 f151 := Tryz.func103.trans (congrArg some (by kernel_rfl))
 f152 := Tryz.func128.trans (congrArg some (by kernel_rfl))
 f161 := Tryz.func108.trans (congrArg some (by kernel_rfl))
 f197 := Tryz.func127.trans (congrArg some (by kernel_rfl))
 f217 := Tryz.func41.trans (congrArg some (by kernel_rfl))
 f224 := Tryz.func153.trans (congrArg some (by kernel_rfl))
 f225 := Tryz.func154.trans (congrArg some (by kernel_rfl))
 f227 := Tryz.func80.trans (congrArg some (by kernel_rfl))
 f228 := Tryz.func101.trans (congrArg some (by kernel_rfl))
 f231 := Tryz.func132.trans (congrArg some (by kernel_rfl))
 f233 := Tryz.func133.trans (congrArg some (by kernel_rfl))
 f235 := Tryz.func134.trans (congrArg some (by kernel_rfl))
 f260 := Tryz.func151.trans (congrArg some (by kernel_rfl))
 f266 := Tryz.func57.trans (congrArg some (by kernel_rfl))
 t0 := Tryz.underlying0
 a0 := Tryz.isAgg0
 z0 := Tryz.sizeOf0
 v0 := Tryz.zeroValue0
 t3 := Tryz.underlying3
 a3 := Tryz.isAgg3
 z3 := Tryz.sizeOf3
 v3 := Tryz.zeroValue3
 t4 := Tryz.underlying4
 a4 := Tryz.isAgg4
 z4 := Tryz.sizeOf4
 v4 := Tryz.zeroValue4
 t5 := Tryz.underlying5
 a5 := Tryz.isAgg5
 z5 := Tryz.sizeOf5
 v5 := Tryz.zeroValue5
 t9 := Tryz.underlying9
 a9 := Tryz.isAgg9
 z9 := Tryz.sizeOf9
 v9 := Tryz.zeroValue9
 t21 := Tryz.underlying21
 a21 := Tryz.isAgg21
 z21 := Tryz.sizeOf21
 v21 := Tryz.zeroValue21
 t46 := Tryz.underlying254
 a46 := Tryz.isAgg254
 z46 := Tryz.sizeOf254
 v46 := Tryz.zeroValue254
 t105 := Tryz.underlying198
 a105 := Tryz.isAgg198
 z105 := Tryz.sizeOf198
 v105 := Tryz.zeroValue198
 t116 := Tryz.underlying170
 a116 := Tryz.isAgg170
 z116 := Tryz.sizeOf170
 t117 := Tryz.underlying171
 a117 := Tryz.isAgg171
 z117 := Tryz.sizeOf171
 v117 := Tryz.zeroValue171
 t119 := Tryz.underlying267
 a119 := Tryz.isAgg267
 z119 := Tryz.sizeOf267
 t124 := Tryz.underlying174
 a124 := Tryz.isAgg174
 z124 := Tryz.sizeOf174
 v124 := Tryz.zeroValue174
 t138 := Tryz.underlying269
 a138 := Tryz.isAgg269
 z138 := Tryz.sizeOf269
 v138 := Tryz.zeroValue269
 t139 := Tryz.underlying270
 a139 := Tryz.isAgg270
 z139 := Tryz.sizeOf270
 v139 := Tryz.zeroValue270
 g3 := by kernel_rfl
 g4 := by kernel_rfl }
def Tryz.lays162_ren : Go.Shelf.Ren := ⟨fun | 162 => 56 | 232 => 79 | 227 => 80 | 234 => 81 | 236 => 82 | 228 => 101 | 271 => 102 | 151 => 103 | 120 => 126 | 197 => 127 | 152 => 128 | 260 => 151 | 137 => 28 | 119 => 152 | 224 => 153 | 225 => 154 | 217 => 41 | 266 => 57 | n => n, fun | 9 => 9 | 4 => 4 | 3 => 3 | 5 => 5 | 117 => 171 | 116 => 170 | 0 => 0 | 124 => 174 | 21 => 21 | 105 => 198 | 46 => 254 | 119 => 267 | 139 => 270 | 138 => 269 | n => n, fun | 3 => 2 | 4 => 3 | n => n⟩
theorem Tryz.lays162 : Go.Proofs.Lays.n162 Tryz.prog Tryz.lays162_ren := {
 mixed := by kernel_rfl
 f119 := Tryz.func152.trans (congrArg some (by kernel_rfl))
 f120 := Tryz.func126.trans (congrArg some (by kernel_rfl))
 f137 := Tryz.func28.trans (congrArg some (by kernel_rfl))
 f151 := Tryz.func103.trans (congrArg some (by kernel_rfl))
 f152 := Tryz.func128.trans (congrArg some (by kernel_rfl))
 f162 := Tryz.func56.trans (congrArg some (by kernel_rfl))
 f197 := Tryz.func127.trans (congrArg some (by kernel_rfl))
 f217 := Tryz.func41.trans (congrArg some (by kernel_rfl))
 f224 := Tryz.func153.trans (congrArg some (by kernel_rfl))
 f225 := Tryz.func154.trans (congrArg some (by kernel_rfl))
 f227 := Tryz.func80.trans (congrArg some (by kernel_rfl))
 f228 := Tryz.func101.trans (congrArg some (by kernel_rfl))
 f232 := Tryz.func79.trans (congrArg some (by kernel_rfl))
 f234 := Tryz.func81.trans (congrArg some (by kernel_rfl))
 f236 := Tryz.func82.trans (congrArg some (by kernel_rfl))
 f260 := Tryz.func151.trans (congrArg some (by kernel_rfl))
 f266 := Tryz.func57.trans (congrArg some (by kernel_rfl))
 f271 := Tryz.func102.trans (congrArg some (by kernel_rfl))
 t0 := Tryz.underlying0
 a0 := Tryz.isAgg0
 z0 := Tryz.sizeOf0
 v0 := Tryz.zeroValue0
 t3 := Tryz.underlying3
 a3 := Tryz.isAgg3
 z3 := Tryz.sizeOf3
 v3 := Tryz.zeroValue3
 t4 := Tryz.underlying4
 a4 := Tryz.isAgg4
 z4 := Tryz.sizeOf4
 v4 := Tryz.zeroValue4
 t5 := Tryz.underlying5
 a5 := Tryz.isAgg5
 z5 := Tryz.sizeOf5
 v5 := Tryz.zeroValue5
 t9 := Tryz.underlying9
 a9 := Tryz.isAgg9
 z9 := Tryz.sizeOf9
 v9 := Tryz.zeroValue9
 t21 := Tryz.underlying21
 a21 := Tryz.isAgg21
 z21 := Tryz.sizeOf21
 v21 := Tryz.zeroValue21
 t46 := Tryz.underlying254
 a46 := Tryz.isAgg254
 z46 := Tryz.sizeOf254
 v46 := Tryz.zeroValue254
 t105 := Tryz.underlying198
 a105 := Tryz.isAgg198
 z105 := Tryz.sizeOf198
 v105 := Tryz.zeroValue198
 t116 := Tryz.underlying170
 a116 := Tryz.isAgg170
 z116 := Tryz.sizeOf170
 t117 := Tryz.underlying171
 a117 := Tryz.isAgg171
 z117 := Tryz.sizeOf171
 v117 := Tryz.zeroValue171
 t119 := Tryz.underlying267
 a119 := Tryz.isAgg267
 z119 := Tryz.sizeOf267
 t124 := Tryz.underlying174
 a124 := Tryz.isAgg174
 z124 := Tryz.sizeOf174
 v124 := Tryz.zeroValue174
 t138 := Tryz.underlying269
 a138 := Tryz.isAgg269
 z138 := Tryz.sizeOf269
 v138 := Tryz.zeroValue269
 t139 := Tryz.underlying270
 a139 := Tryz.isAgg270
 z139 := Tryz.sizeOf270
 v139 := Tryz.zeroValue270
 g3 := by kernel_rfl
 g4 := by kernel_rfl }
open Go.RowKit in
/-- strings.TrimRight: "TrimRight returns a slice of the string s, with all trailing Unicode code points contained in cutset removed.": AT A cutset OF ONE ASCII BYTE. The world is as it was. (LAID: no walk: one application.) -/
theorem Tryz.strings_TrimRight_one (s : ByteArray) (c : UInt8) (hc : c.toNat < 128) (w : World) (hs : s.size ≤ 9223372036854775807) :
  Calls Tryz.prog 56 #[.string s, .string ⟨#[c]⟩] w fun e w' => e = .returned (.string ⟨(Lib.trimRightB s.data.toList c).toArray⟩) ∧ w' = w := Any.strings_TrimRight_one Tryz.lays162 s c hc w hs
def Tryz.lays160_ren : Go.Shelf.Ren := ⟨fun | 160 => 116 | 232 => 79 | 231 => 132 | 227 => 80 | 234 => 81 | 233 => 133 | 236 => 82 | 235 => 134 | 228 => 101 | 271 => 102 | 151 => 103 | 197 => 127 | 120 => 126 | 152 => 128 | 260 => 151 | 137 => 28 | 119 => 152 | 224 => 153 | 225 => 154 | 217 => 41 | 266 => 57 | n => n, fun | 9 => 9 | 4 => 4 | 3 => 3 | 5 => 5 | 117 => 171 | 116 => 170 | 0 => 0 | 124 => 174 | 21 => 21 | 105 => 198 | 46 => 254 | 119 => 267 | 139 => 270 | 138 => 269 | n => n, fun | 3 => 2 | 4 => 3 | n => n⟩
theorem Tryz.lays160 : Go.Proofs.Lays.n160 Tryz.prog Tryz.lays160_ren := {
 mixed := by kernel_rfl
 f119 := Tryz.func152.trans (congrArg some (by kernel_rfl))
 f120 := Tryz.func126.trans (congrArg some (by kernel_rfl))
 f137 := Tryz.func28.trans (congrArg some (by kernel_rfl))
 f151 := Tryz.func103.trans (congrArg some (by kernel_rfl))
 f152 := Tryz.func128.trans (congrArg some (by kernel_rfl))
 f160 := Tryz.func116.trans (congrArg some (by kernel_rfl))
 f197 := Tryz.func127.trans (congrArg some (by kernel_rfl))
 f217 := Tryz.func41.trans (congrArg some (by kernel_rfl))
 f224 := Tryz.func153.trans (congrArg some (by kernel_rfl))
 f225 := Tryz.func154.trans (congrArg some (by kernel_rfl))
 f227 := Tryz.func80.trans (congrArg some (by kernel_rfl))
 f228 := Tryz.func101.trans (congrArg some (by kernel_rfl))
 f231 := Tryz.func132.trans (congrArg some (by kernel_rfl))
 f232 := Tryz.func79.trans (congrArg some (by kernel_rfl))
 f233 := Tryz.func133.trans (congrArg some (by kernel_rfl))
 f234 := Tryz.func81.trans (congrArg some (by kernel_rfl))
 f235 := Tryz.func134.trans (congrArg some (by kernel_rfl))
 f236 := Tryz.func82.trans (congrArg some (by kernel_rfl))
 f260 := Tryz.func151.trans (congrArg some (by kernel_rfl))
 f266 := Tryz.func57.trans (congrArg some (by kernel_rfl))
 f271 := Tryz.func102.trans (congrArg some (by kernel_rfl))
 t0 := Tryz.underlying0
 a0 := Tryz.isAgg0
 z0 := Tryz.sizeOf0
 v0 := Tryz.zeroValue0
 t3 := Tryz.underlying3
 a3 := Tryz.isAgg3
 z3 := Tryz.sizeOf3
 v3 := Tryz.zeroValue3
 t4 := Tryz.underlying4
 a4 := Tryz.isAgg4
 z4 := Tryz.sizeOf4
 v4 := Tryz.zeroValue4
 t5 := Tryz.underlying5
 a5 := Tryz.isAgg5
 z5 := Tryz.sizeOf5
 v5 := Tryz.zeroValue5
 t9 := Tryz.underlying9
 a9 := Tryz.isAgg9
 z9 := Tryz.sizeOf9
 v9 := Tryz.zeroValue9
 t21 := Tryz.underlying21
 a21 := Tryz.isAgg21
 z21 := Tryz.sizeOf21
 v21 := Tryz.zeroValue21
 t46 := Tryz.underlying254
 a46 := Tryz.isAgg254
 z46 := Tryz.sizeOf254
 v46 := Tryz.zeroValue254
 t105 := Tryz.underlying198
 a105 := Tryz.isAgg198
 z105 := Tryz.sizeOf198
 v105 := Tryz.zeroValue198
 t116 := Tryz.underlying170
 a116 := Tryz.isAgg170
 z116 := Tryz.sizeOf170
 t117 := Tryz.underlying171
 a117 := Tryz.isAgg171
 z117 := Tryz.sizeOf171
 v117 := Tryz.zeroValue171
 t119 := Tryz.underlying267
 a119 := Tryz.isAgg267
 z119 := Tryz.sizeOf267
 t124 := Tryz.underlying174
 a124 := Tryz.isAgg174
 z124 := Tryz.sizeOf174
 v124 := Tryz.zeroValue174
 t138 := Tryz.underlying269
 a138 := Tryz.isAgg269
 z138 := Tryz.sizeOf269
 v138 := Tryz.zeroValue269
 t139 := Tryz.underlying270
 a139 := Tryz.isAgg270
 z139 := Tryz.sizeOf270
 v139 := Tryz.zeroValue270
 g3 := by kernel_rfl
 g4 := by kernel_rfl }
def Tryz.laysM173_ren : Go.Shelf.Ren := ⟨fun | 173 => 92 | 246 => 111 | 283 => 137 | 284 => 138 | 285 => 139 | 286 => 140 | 129 => 157 | 317 => 156 | 318 => 158 | 319 => 159 | 320 => 160 | 337 => 168 | 338 => 169 | n => n, fun | 2 => 2 | 3 => 3 | 9 => 9 | 4 => 4 | 171 => 233 | 0 => 0 | 53 => 234 | 37 => 98 | 5 => 5 | 173 => 237 | 212 => 256 | 51 => 257 | 20 => 20 | 213 => 258 | 46 => 254 | 232 => 275 | 233 => 276 | n => n, fun | 17 => 1 | 18 => 4 | 19 => 5 | n => n⟩
theorem Tryz.laysM173 : Go.Proofs.LaysM.n173 Tryz.prog Tryz.laysM173_ren := {
 mixed := by kernel_rfl
 f129 := Tryz.func157.trans (congrArg some (by kernel_rfl))
 f173 := Tryz.func92.trans (congrArg some (by kernel_rfl))
 f246 := Tryz.func111.trans (congrArg some (by kernel_rfl))
 f283 := Tryz.func137.trans (congrArg some (by kernel_rfl))
 f284 := Tryz.func138.trans (congrArg some (by kernel_rfl))
 f285 := Tryz.func139.trans (congrArg some (by kernel_rfl))
 f286 := Tryz.func140.trans (congrArg some (by kernel_rfl))
 f317 := Tryz.func156.trans (congrArg some (by kernel_rfl))
 f318 := Tryz.func158.trans (congrArg some (by kernel_rfl))
 f319 := Tryz.func159.trans (congrArg some (by kernel_rfl))
 f320 := Tryz.func160.trans (congrArg some (by kernel_rfl))
 f337 := Tryz.func168.trans (congrArg some (by kernel_rfl))
 f338 := Tryz.func169.trans (congrArg some (by kernel_rfl))
 t0 := Tryz.underlying0
 a0 := Tryz.isAgg0
 z0 := Tryz.sizeOf0
 v0 := Tryz.zeroValue0
 t2 := Tryz.underlying2
 a2 := Tryz.isAgg2
 z2 := Tryz.sizeOf2
 v2 := Tryz.zeroValue2
 t3 := Tryz.underlying3
 a3 := Tryz.isAgg3
 z3 := Tryz.sizeOf3
 v3 := Tryz.zeroValue3
 t4 := Tryz.underlying4
 a4 := Tryz.isAgg4
 z4 := Tryz.sizeOf4
 v4 := Tryz.zeroValue4
 t5 := Tryz.underlying5
 a5 := Tryz.isAgg5
 z5 := Tryz.sizeOf5
 v5 := Tryz.zeroValue5
 t9 := Tryz.underlying9
 a9 := Tryz.isAgg9
 z9 := Tryz.sizeOf9
 v9 := Tryz.zeroValue9
 t20 := Tryz.underlying20
 a20 := Tryz.isAgg20
 z20 := Tryz.sizeOf20
 v20 := Tryz.zeroValue20
 t37 := Tryz.underlying98
 a37 := Tryz.isAgg98
 z37 := Tryz.sizeOf98
 v37 := Tryz.zeroValue98
 t46 := Tryz.underlying254
 a46 := Tryz.isAgg254
 z46 := Tryz.sizeOf254
 v46 := Tryz.zeroValue254
 t51 := Tryz.underlying257
 a51 := Tryz.isAgg257
 z51 := Tryz.sizeOf257
 v51 := Tryz.zeroValue257
 t53 := Tryz.underlying234
 a53 := Tryz.isAgg234
 z53 := Tryz.sizeOf234
 v53 := Tryz.zeroValue234
 t171 := Tryz.underlying233
 a171 := Tryz.isAgg233
 z171 := Tryz.sizeOf233
 v171 := Tryz.zeroValue233
 t173 := Tryz.underlying237
 a173 := Tryz.isAgg237
 z173 := Tryz.sizeOf237
 v173 := Tryz.zeroValue237
 t212 := Tryz.underlying256
 a212 := Tryz.isAgg256
 z212 := Tryz.sizeOf256
 v212 := Tryz.zeroValue256
 t213 := Tryz.underlying258
 a213 := Tryz.isAgg258
 z213 := Tryz.sizeOf258
 t232 := Tryz.underlying275
 a232 := Tryz.isAgg275
 z232 := Tryz.sizeOf275
 v232 := Tryz.zeroValue275
 t233 := Tryz.underlying276
 a233 := Tryz.isAgg276
 z233 := Tryz.sizeOf276
 v233 := Tryz.zeroValue276
 g17 := by kernel_rfl
 g18 := by kernel_rfl
 g19 := by kernel_rfl
 i0 := by kernel_rfl
 i2 := by kernel_rfl
 i3 := by kernel_rfl
 i4 := by kernel_rfl
 i5 := by kernel_rfl
 i9 := by kernel_rfl
 i20 := by kernel_rfl
 i37 := by kernel_rfl
 i46 := by kernel_rfl
 i51 := by kernel_rfl
 i53 := by kernel_rfl
 i171 := by kernel_rfl
 i173 := by kernel_rfl
 i212 := by kernel_rfl
 i232 := by kernel_rfl
 i233 := by kernel_rfl
 m17 := by kernel_rfl
 m18 := by kernel_rfl
 m19 := by kernel_rfl }
open Go.RowKit Go.Sort Go.Lib in
/-- strconv.FormatInt: "FormatInt returns the string representation of i in the given base": AT BASE 10: i's decimal numeral, for every int64. (LAID: no walk: one application.) -/
theorem Tryz.strconv_FormatInt_10 (n : Int) (h0 : -9223372036854775808 ≤ n) (h1 : n ≤ 9223372036854775807) (w : World) (htab : Lib.TabIs Tryz.prog w "internal/strconv.uint64pow10" .u64 Lib.pow10Tab) :
  Calls Tryz.prog 92 #[.int .i64 n, .int .i64 10] w fun e w' => e = .returned (.string ⟨(Lib.itoa n).toArray⟩) ∧ ∃ k os, w' = grow (w.drewN k) os := Any.strconv_FormatInt_10 Tryz.laysM173 n h0 h1 w htab
def Tryz.lays144_ren : Go.Shelf.Ren := ⟨fun | 144 => 109 | 143 => 135 | 219 => 155 | 217 => 41 | 225 => 154 | 224 => 153 | 267 => 167 | 266 => 57 | 314 => 174 | n => n, fun | 9 => 9 | 4 => 4 | 3 => 3 | 5 => 5 | 46 => 254 | 146 => 273 | 51 => 257 | n => n, fun | 1 => 0 | n => n⟩
theorem Tryz.lays144 : Go.Proofs.Lays.n144 Tryz.prog Tryz.lays144_ren := {
 mixed := by kernel_rfl
 f143 := Tryz.func135.trans (congrArg some (by kernel_rfl))
 f144 := Tryz.func109.trans (congrArg some (by kernel_rfl))
 f217 := Tryz.func41.trans (congrArg some (by kernel_rfl))
 f219 := Tryz.func155.trans (congrArg some (by kernel_rfl))
 f224 := Tryz.func153.trans (congrArg some (by kernel_rfl))
 f225 := Tryz.func154.trans (congrArg some (by kernel_rfl))
 f266 := Tryz.func57.trans (congrArg some (by kernel_rfl))
 f267 := Tryz.func167.trans (congrArg some (by kernel_rfl))
 f314 := Tryz.func174.trans (congrArg some (by kernel_rfl))
 t3 := Tryz.underlying3
 a3 := Tryz.isAgg3
 z3 := Tryz.sizeOf3
 v3 := Tryz.zeroValue3
 t4 := Tryz.underlying4
 a4 := Tryz.isAgg4
 z4 := Tryz.sizeOf4
 v4 := Tryz.zeroValue4
 t5 := Tryz.underlying5
 a5 := Tryz.isAgg5
 z5 := Tryz.sizeOf5
 v5 := Tryz.zeroValue5
 t9 := Tryz.underlying9
 a9 := Tryz.isAgg9
 z9 := Tryz.sizeOf9
 v9 := Tryz.zeroValue9
 t46 := Tryz.underlying254
 a46 := Tryz.isAgg254
 z46 := Tryz.sizeOf254
 v46 := Tryz.zeroValue254
 t51 := Tryz.underlying257
 a51 := Tryz.isAgg257
 z51 := Tryz.sizeOf257
 v51 := Tryz.zeroValue257
 t146 := Tryz.underlying273
 a146 := Tryz.isAgg273
 z146 := Tryz.sizeOf273
 v146 := Tryz.zeroValue273
 g1 := by kernel_rfl }
open Go.RowKit Go.Lib in
/-- strings.Contains: "Contains reports whether substr is within s.": AT A substr OF ONE BYTE c: IT RETURNS 'decide (0 ≤ Lib.indexByte s c)'; the world is as it was. (LAID: no walk: one application.) -/
theorem Tryz.strings_Contains_one (s : ByteArray) (c : UInt8) (w : World) :
  Calls Tryz.prog 109 #[.string s, .string ⟨#[c]⟩] w fun e w' => e = .returned (.bool (decide (0 ≤ Lib.indexByte s.data.toList c))) ∧ w' = w := Any.strings_Contains_one Tryz.lays144 s c w
open Go.RowKit Go.Lib in
/-- strings.Contains: "Contains reports whether substr is within s.": IT RETURNS 'Lib.contains s substr'; the world is as it was. (LAID: no walk: one application.) -/
theorem Tryz.strings_Contains (s sub : ByteArray) (m : Int) (w : World) (hs : s.size < 4294967281) (hm : w.cell? ⟨0, 0, none⟩ = some (.int .i64 m)) :
  Calls Tryz.prog 109 #[.string s, .string sub] w fun e w' => e = .returned (.bool (Lib.contains s.data.toList sub.data.toList)) ∧ w' = w := Any.strings_Contains Tryz.lays144 s sub m w hs hm
def Tryz.laysM144_ren : Go.Shelf.Ren := ⟨fun | 144 => 109 | 143 => 135 | 219 => 155 | 217 => 41 | 225 => 154 | 224 => 153 | 267 => 167 | 266 => 57 | 314 => 174 | n => n, fun | 9 => 9 | 4 => 4 | 3 => 3 | 5 => 5 | 46 => 254 | 146 => 273 | 51 => 257 | n => n, fun | 1 => 0 | n => n⟩
theorem Tryz.laysM144 : Go.Proofs.LaysM.n144 Tryz.prog Tryz.laysM144_ren := {
 mixed := by kernel_rfl
 f143 := Tryz.func135.trans (congrArg some (by kernel_rfl))
 f144 := Tryz.func109.trans (congrArg some (by kernel_rfl))
 f217 := Tryz.func41.trans (congrArg some (by kernel_rfl))
 f219 := Tryz.func155.trans (congrArg some (by kernel_rfl))
 f224 := Tryz.func153.trans (congrArg some (by kernel_rfl))
 f225 := Tryz.func154.trans (congrArg some (by kernel_rfl))
 f266 := Tryz.func57.trans (congrArg some (by kernel_rfl))
 f267 := Tryz.func167.trans (congrArg some (by kernel_rfl))
 f314 := Tryz.func174.trans (congrArg some (by kernel_rfl))
 t3 := Tryz.underlying3
 a3 := Tryz.isAgg3
 z3 := Tryz.sizeOf3
 v3 := Tryz.zeroValue3
 t4 := Tryz.underlying4
 a4 := Tryz.isAgg4
 z4 := Tryz.sizeOf4
 v4 := Tryz.zeroValue4
 t5 := Tryz.underlying5
 a5 := Tryz.isAgg5
 z5 := Tryz.sizeOf5
 v5 := Tryz.zeroValue5
 t9 := Tryz.underlying9
 a9 := Tryz.isAgg9
 z9 := Tryz.sizeOf9
 v9 := Tryz.zeroValue9
 t46 := Tryz.underlying254
 a46 := Tryz.isAgg254
 z46 := Tryz.sizeOf254
 v46 := Tryz.zeroValue254
 t51 := Tryz.underlying257
 a51 := Tryz.isAgg257
 z51 := Tryz.sizeOf257
 v51 := Tryz.zeroValue257
 t146 := Tryz.underlying273
 a146 := Tryz.isAgg273
 z146 := Tryz.sizeOf273
 v146 := Tryz.zeroValue273
 g1 := by kernel_rfl
 i3 := by kernel_rfl
 i4 := by kernel_rfl
 i5 := by kernel_rfl
 i9 := by kernel_rfl
 i46 := by kernel_rfl
 i51 := by kernel_rfl
 i146 := by kernel_rfl
 m1 := by kernel_rfl
 s1_3 := fun w h => Go.Proofs.cell_of_shapedOpen_int (zero := #[.int .i64 0]) (t := 3) h (of_decide_eq_true (by kernel_rfl)) (by kernel_rfl) rfl (by kernel_rfl) (by kernel_rfl) Tryz.underlying3 }
def Tryz.lays101_ren : Go.Shelf.Ren := ⟨fun | 101 => 76 | 208 => 97 | 206 => 84 | n => n, fun | 9 => 9 | 4 => 4 | 3 => 3 | n => n, fun | n => n⟩
theorem Tryz.lays101 : Go.Proofs.Lays.n101 Tryz.prog Tryz.lays101_ren := {
 mixed := by kernel_rfl
 f101 := Tryz.func76.trans (congrArg some (by kernel_rfl))
 f206 := Tryz.func84.trans (congrArg some (by kernel_rfl))
 f208 := Tryz.func97.trans (congrArg some (by kernel_rfl))
 t3 := Tryz.underlying3
 a3 := Tryz.isAgg3
 z3 := Tryz.sizeOf3
 v3 := Tryz.zeroValue3
 t4 := Tryz.underlying4
 a4 := Tryz.isAgg4
 z4 := Tryz.sizeOf4
 v4 := Tryz.zeroValue4
 t9 := Tryz.underlying9
 a9 := Tryz.isAgg9
 z9 := Tryz.sizeOf9
 v9 := Tryz.zeroValue9 }
open Go.RowKit Go.Lib in
/-- strings.TrimPrefix: "TrimPrefix returns s without the provided leading prefix string. If s doesn't start with prefix, s is returned unchanged.": IT RETURNS 'Lib.trimPrefix s prefix'; the world is as it was. (LAID: no walk: one application.) -/
theorem Tryz.strings_TrimPrefix (s p : ByteArray) (w : World) :
  Calls Tryz.prog 76 #[.string s, .string p] w fun e w' => e = .returned (.string ⟨(Lib.trimPrefix s.data.toList p.data.toList).toArray⟩) ∧ w' = w := Any.strings_TrimPrefix Tryz.lays101 s p w
def Tryz.lays102_ren : Go.Shelf.Ren := ⟨fun | 102 => 150 | 209 => 166 | 207 => 173 | n => n, fun | 9 => 9 | 4 => 4 | 3 => 3 | n => n, fun | n => n⟩
theorem Tryz.lays102 : Go.Proofs.Lays.n102 Tryz.prog Tryz.lays102_ren := {
 mixed := by kernel_rfl
 f102 := Tryz.func150.trans (congrArg some (by kernel_rfl))
 f207 := Tryz.func173.trans (congrArg some (by kernel_rfl))
 f209 := Tryz.func166.trans (congrArg some (by kernel_rfl))
 t3 := Tryz.underlying3
 a3 := Tryz.isAgg3
 z3 := Tryz.sizeOf3
 v3 := Tryz.zeroValue3
 t4 := Tryz.underlying4
 a4 := Tryz.isAgg4
 z4 := Tryz.sizeOf4
 v4 := Tryz.zeroValue4
 t9 := Tryz.underlying9
 a9 := Tryz.isAgg9
 z9 := Tryz.sizeOf9
 v9 := Tryz.zeroValue9 }
open Go.RowKit Go.Lib in
/-- strings.TrimSuffix: "TrimSuffix returns s without the provided trailing suffix string. If s doesn't end with suffix, s is returned unchanged.": IT RETURNS 'Lib.trimSuffix s suffix'; the world is as it was. (LAID: no walk: one application.) -/
theorem Tryz.strings_TrimSuffix (s p : ByteArray) (w : World) (hs : s.size ≤ 9223372036854775807) :
  Calls Tryz.prog 150 #[.string s, .string p] w fun e w' => e = .returned (.string ⟨(Lib.trimSuffix s.data.toList p.data.toList).toArray⟩) ∧ w' = w := Any.strings_TrimSuffix Tryz.lays102 s p w hs
end Go.Proofs
