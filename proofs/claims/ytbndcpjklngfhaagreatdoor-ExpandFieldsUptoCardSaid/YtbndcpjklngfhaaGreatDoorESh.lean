/-
 DERIVED: THE SHELF's CONTRACTS AT THIS DUMP, IN PLAIN WORDS (tools/lay-plain.mjs out of 'TryzShelf.lean', which tools/lay-shelf.mjs wrote): THE SAME DECLARATIONS UNDER THE SAME NAMES: 'import', 'namespace', 'open', 'def', 'theorem' AND NOTHING ELSE: no command of the shelf's: FOR A HAND-IN. Each laying: the table of numbers ('.._ren') and one theorem, a field a fact of the dump's own or the kernel's comparison; each contract: ONE APPLICATION.
-/
import Derived.Shelf.Strings.Builder1
import Derived.Shelf.Strings.Builder2
import Derived.Shelf.Strings.OnBuilder
import Derived.Shelf.Strings.Trim
import Derived.Shelf.Small.Utf8
import Derived.Shelf.Small.Strs
import Derived.Shelf.Strings.BuilderF
import Derived.Shelf.Strings.BuilderK
import Derived.Shelf.Strings.Builder2Cap
import Derived.Shelf.Strconv.Itoa0
import Derived.Shelf.Strconv.Itoa1
import Derived.Shelf.LaysM
import Derived.Shelf.Strconv.Itoa2
import Derived.Shelf.Strconv.Itoa3
import Derived.Shelf.Strconv.Itoa4
import Derived.Shelf.Strings.Search1
import Derived.Shelf.Strings.Search2
import Derived.Shelf.Strings.Search3
import Derived.Shelf.Strings.Shaped
import Derived.Shelf.Strings.Prefix
import Derived.Shelf.Unicode.Decode
import Derived.Shelf.Strings.Runes
import Derived.Shelf.Strings.AsciiSet
import Derived.Shelf.Unicode.DecodeSlow
import Derived.Shelf.Unicode.DecodeAny
import Derived.Shelf.Unicode.DecodeLast
import Derived.Shelf.Strings.BuilderCap
import Derived.Test.YtbndcpjklngfhaaGreatDoorProg
namespace Go.Proofs
open Go.Shelf
def Tryz.lays156_ren:Go.Shelf.Ren:=⟨fun|156=>108|165=>135|166=>136|169=>43|240=>65|241=>160|276=>86|277=>193|n=>n,fun|31=>23|9=>9|3=>3|4=>4|0=>0|20=>20|72=>121|76=>230|70=>118|37=>119|75=>123|127=>151|164=>172|5=>5|80=>125|n=>n,fun|n=>n⟩
theorem Tryz.lays156:Go.Proofs.Lays.n156 Tryz.prog Tryz.lays156_ren:={
 mixed:=by kernel_rfl
 f156:=Tryz.func108.trans (congrArg some (by kernel_rfl))
 f165:=Tryz.func135.trans (congrArg some (by kernel_rfl))
 f166:=Tryz.func136.trans (congrArg some (by kernel_rfl))
 f169:=Tryz.func43.trans (congrArg some (by kernel_rfl))
 f240:=Tryz.func65.trans (congrArg some (by kernel_rfl))
 f241:=Tryz.func160.trans (congrArg some (by kernel_rfl))
 f276:=Tryz.func86.trans (congrArg some (by kernel_rfl))
 f277:=Tryz.func193.trans (congrArg some (by kernel_rfl))
 t0:=Tryz.underlying0
 a0:=Tryz.isAgg0
 z0:=Tryz.sizeOf0
 v0:=Tryz.zeroValue0
 t3:=Tryz.underlying3
 a3:=Tryz.isAgg3
 z3:=Tryz.sizeOf3
 v3:=Tryz.zeroValue3
 t4:=Tryz.underlying4
 a4:=Tryz.isAgg4
 z4:=Tryz.sizeOf4
 v4:=Tryz.zeroValue4
 t9:=Tryz.underlying9
 a9:=Tryz.isAgg9
 z9:=Tryz.sizeOf9
 v9:=Tryz.zeroValue9
 t20:=Tryz.underlying20
 a20:=Tryz.isAgg20
 z20:=Tryz.sizeOf20
 v20:=Tryz.zeroValue20
 t31:=Tryz.underlying23
 a31:=Tryz.isAgg23
 z31:=Tryz.sizeOf23
 v31:=Tryz.zeroValue23
 t37:=Tryz.underlying119
 a37:=Tryz.isAgg119
 z37:=Tryz.sizeOf119
 v37:=Tryz.zeroValue119
 t70:=Tryz.underlying118
 a70:=Tryz.isAgg118
 z70:=Tryz.sizeOf118
 v70:=Tryz.zeroValue118
 t72:=Tryz.underlying121
 a72:=Tryz.isAgg121
 z72:=Tryz.sizeOf121
 v72:=Tryz.zeroValue121
 t75:=Tryz.underlying123
 a75:=Tryz.isAgg123
 z75:=Tryz.sizeOf123
 v75:=Tryz.zeroValue123
 t76:=Tryz.underlying230
 a76:=Tryz.isAgg230
 z76:=Tryz.sizeOf230
 v76:=Tryz.zeroValue230
 t127:=Tryz.underlying151
 a127:=Tryz.isAgg151
 z127:=Tryz.sizeOf151
 v127:=Tryz.zeroValue151
 t164:=Tryz.underlying172
 a164:=Tryz.isAgg172
 z164:=Tryz.sizeOf172
 v164:=Tryz.zeroValue172}
theorem Tryz.Builder_Extra_156:Builder.Extra Tryz.prog Tryz.lays156_ren:={
 sizeBuilder:=by kernel_rfl
 liesBuilder:=by kernel_rfl
 t5:=Tryz.underlying5
 a5:=Tryz.isAgg5
 z5:=Tryz.sizeOf5
 v5:=Tryz.zeroValue5
 infoByte:=by kernel_rfl
 cellsByte:=by kernel_rfl
 sizeByte:=by kernel_rfl
 neB5:=by decide}
open Go.RowKit in
theorem Tryz.strings_Join_none(a:Option Addr)(c:Nat)(sep:ByteArray)(w:World):
  Calls Tryz.prog 108 #[.slice a 0 c,.string sep] w fun e w'=>e=.returned (.string ⟨#[]⟩)/\w'=w:=Any.strings_Join_none Tryz.lays156 Tryz.Builder_Extra_156 a c sep w
open Go.RowKit in
theorem Tryz.strings_Join(bk o c:Nat)(xs:List ByteArray)(sep:ByteArray)(w:World)(AGx:∀(j:Nat) x,xs[j]? =some x->w.cell? ⟨bk,o+j,none⟩=some (.string x))(hbk:bk<w.heap.size)(hN:xs.length<=140737488355328)(AdU:xs.length<=c)(Dg:(Lib.join (xs.map (·.data.toList)) sep.data.toList).length<=140737488355328):
  Calls Tryz.prog 108 #[.slice (some ⟨bk,o,none⟩) xs.length c,.string sep] w fun e w'=>e=.returned (.string ⟨(Lib.join (xs.map (·.data.toList)) sep.data.toList).toArray⟩)/\Below w.heap.size w w':=Any.strings_Join Tryz.lays156 Tryz.Builder_Extra_156 bk o c xs sep w AGx hbk hN AdU Dg
def Tryz.lays161_ren:Go.Shelf.Ren:=⟨fun|161=>158|231=>189|227=>118|233=>190|235=>191|228=>146|197=>177|151=>148|260=>208|152=>178|137=>41|119=>209|224=>210|225=>211|217=>64|266=>85|n=>n,fun|9=>9|4=>4|3=>3|5=>5|117=>212|116=>211|0=>0|124=>215|105=>245|21=>21|119=>331|46=>317|139=>334|138=>333|n=>n,fun|3=>2|4=>3|n=>n⟩
theorem Tryz.lays161:Go.Proofs.Lays.n161 Tryz.prog Tryz.lays161_ren:={
 mixed:=by kernel_rfl
 f119:=Tryz.func209.trans (congrArg some (by kernel_rfl))
 f137:=Tryz.func41.trans (congrArg some (by kernel_rfl))
 f151:=Tryz.func148.trans (congrArg some (by kernel_rfl))
 f152:=Tryz.func178.trans (congrArg some (by kernel_rfl))
 f161:=Tryz.func158.trans (congrArg some (by kernel_rfl))
 f197:=Tryz.func177.trans (congrArg some (by kernel_rfl))
 f217:=Tryz.func64.trans (congrArg some (by kernel_rfl))
 f224:=Tryz.func210.trans (congrArg some (by kernel_rfl))
 f225:=Tryz.func211.trans (congrArg some (by kernel_rfl))
 f227:=Tryz.func118.trans (congrArg some (by kernel_rfl))
 f228:=Tryz.func146.trans (congrArg some (by kernel_rfl))
 f231:=Tryz.func189.trans (congrArg some (by kernel_rfl))
 f233:=Tryz.func190.trans (congrArg some (by kernel_rfl))
 f235:=Tryz.func191.trans (congrArg some (by kernel_rfl))
 f260:=Tryz.func208.trans (congrArg some (by kernel_rfl))
 f266:=Tryz.func85.trans (congrArg some (by kernel_rfl))
 t0:=Tryz.underlying0
 a0:=Tryz.isAgg0
 z0:=Tryz.sizeOf0
 v0:=Tryz.zeroValue0
 t3:=Tryz.underlying3
 a3:=Tryz.isAgg3
 z3:=Tryz.sizeOf3
 v3:=Tryz.zeroValue3
 t4:=Tryz.underlying4
 a4:=Tryz.isAgg4
 z4:=Tryz.sizeOf4
 v4:=Tryz.zeroValue4
 t5:=Tryz.underlying5
 a5:=Tryz.isAgg5
 z5:=Tryz.sizeOf5
 v5:=Tryz.zeroValue5
 t9:=Tryz.underlying9
 a9:=Tryz.isAgg9
 z9:=Tryz.sizeOf9
 v9:=Tryz.zeroValue9
 t21:=Tryz.underlying21
 a21:=Tryz.isAgg21
 z21:=Tryz.sizeOf21
 v21:=Tryz.zeroValue21
 t46:=Tryz.underlying317
 a46:=Tryz.isAgg317
 z46:=Tryz.sizeOf317
 v46:=Tryz.zeroValue317
 t105:=Tryz.underlying245
 a105:=Tryz.isAgg245
 z105:=Tryz.sizeOf245
 v105:=Tryz.zeroValue245
 t116:=Tryz.underlying211
 a116:=Tryz.isAgg211
 z116:=Tryz.sizeOf211
 t117:=Tryz.underlying212
 a117:=Tryz.isAgg212
 z117:=Tryz.sizeOf212
 v117:=Tryz.zeroValue212
 t119:=Tryz.underlying331
 a119:=Tryz.isAgg331
 z119:=Tryz.sizeOf331
 t124:=Tryz.underlying215
 a124:=Tryz.isAgg215
 z124:=Tryz.sizeOf215
 v124:=Tryz.zeroValue215
 t138:=Tryz.underlying333
 a138:=Tryz.isAgg333
 z138:=Tryz.sizeOf333
 v138:=Tryz.zeroValue333
 t139:=Tryz.underlying334
 a139:=Tryz.isAgg334
 z139:=Tryz.sizeOf334
 v139:=Tryz.zeroValue334
 g3:=by kernel_rfl
 g4:=by kernel_rfl}
def Tryz.lays162_ren:Go.Shelf.Ren:=⟨fun|162=>84|232=>117|227=>118|234=>119|236=>120|228=>146|271=>147|151=>148|120=>176|197=>177|152=>178|260=>208|137=>41|119=>209|224=>210|225=>211|217=>64|266=>85|n=>n,fun|9=>9|4=>4|3=>3|5=>5|117=>212|116=>211|0=>0|124=>215|21=>21|105=>245|46=>317|119=>331|139=>334|138=>333|n=>n,fun|3=>2|4=>3|n=>n⟩
theorem Tryz.lays162:Go.Proofs.Lays.n162 Tryz.prog Tryz.lays162_ren:={
 mixed:=by kernel_rfl
 f119:=Tryz.func209.trans (congrArg some (by kernel_rfl))
 f120:=Tryz.func176.trans (congrArg some (by kernel_rfl))
 f137:=Tryz.func41.trans (congrArg some (by kernel_rfl))
 f151:=Tryz.func148.trans (congrArg some (by kernel_rfl))
 f152:=Tryz.func178.trans (congrArg some (by kernel_rfl))
 f162:=Tryz.func84.trans (congrArg some (by kernel_rfl))
 f197:=Tryz.func177.trans (congrArg some (by kernel_rfl))
 f217:=Tryz.func64.trans (congrArg some (by kernel_rfl))
 f224:=Tryz.func210.trans (congrArg some (by kernel_rfl))
 f225:=Tryz.func211.trans (congrArg some (by kernel_rfl))
 f227:=Tryz.func118.trans (congrArg some (by kernel_rfl))
 f228:=Tryz.func146.trans (congrArg some (by kernel_rfl))
 f232:=Tryz.func117.trans (congrArg some (by kernel_rfl))
 f234:=Tryz.func119.trans (congrArg some (by kernel_rfl))
 f236:=Tryz.func120.trans (congrArg some (by kernel_rfl))
 f260:=Tryz.func208.trans (congrArg some (by kernel_rfl))
 f266:=Tryz.func85.trans (congrArg some (by kernel_rfl))
 f271:=Tryz.func147.trans (congrArg some (by kernel_rfl))
 t0:=Tryz.underlying0
 a0:=Tryz.isAgg0
 z0:=Tryz.sizeOf0
 v0:=Tryz.zeroValue0
 t3:=Tryz.underlying3
 a3:=Tryz.isAgg3
 z3:=Tryz.sizeOf3
 v3:=Tryz.zeroValue3
 t4:=Tryz.underlying4
 a4:=Tryz.isAgg4
 z4:=Tryz.sizeOf4
 v4:=Tryz.zeroValue4
 t5:=Tryz.underlying5
 a5:=Tryz.isAgg5
 z5:=Tryz.sizeOf5
 v5:=Tryz.zeroValue5
 t9:=Tryz.underlying9
 a9:=Tryz.isAgg9
 z9:=Tryz.sizeOf9
 v9:=Tryz.zeroValue9
 t21:=Tryz.underlying21
 a21:=Tryz.isAgg21
 z21:=Tryz.sizeOf21
 v21:=Tryz.zeroValue21
 t46:=Tryz.underlying317
 a46:=Tryz.isAgg317
 z46:=Tryz.sizeOf317
 v46:=Tryz.zeroValue317
 t105:=Tryz.underlying245
 a105:=Tryz.isAgg245
 z105:=Tryz.sizeOf245
 v105:=Tryz.zeroValue245
 t116:=Tryz.underlying211
 a116:=Tryz.isAgg211
 z116:=Tryz.sizeOf211
 t117:=Tryz.underlying212
 a117:=Tryz.isAgg212
 z117:=Tryz.sizeOf212
 v117:=Tryz.zeroValue212
 t119:=Tryz.underlying331
 a119:=Tryz.isAgg331
 z119:=Tryz.sizeOf331
 t124:=Tryz.underlying215
 a124:=Tryz.isAgg215
 z124:=Tryz.sizeOf215
 v124:=Tryz.zeroValue215
 t138:=Tryz.underlying333
 a138:=Tryz.isAgg333
 z138:=Tryz.sizeOf333
 v138:=Tryz.zeroValue333
 t139:=Tryz.underlying334
 a139:=Tryz.isAgg334
 z139:=Tryz.sizeOf334
 v139:=Tryz.zeroValue334
 g3:=by kernel_rfl
 g4:=by kernel_rfl}
open Go.RowKit in
theorem Tryz.strings_TrimRight_one(s:ByteArray)(c:UInt8)(hc:c.toNat<128)(w:World)(hs:s.size<=9223372036854775807):
  Calls Tryz.prog 84 #[.string s,.string ⟨#[c]⟩] w fun e w'=>e=.returned (.string ⟨(Lib.trimRightB s.data.toList c).toArray⟩)/\w'=w:=Any.strings_TrimRight_one Tryz.lays162 s c hc w hs
def Tryz.lays160_ren:Go.Shelf.Ren:=⟨fun|160=>166|232=>117|231=>189|227=>118|234=>119|233=>190|236=>120|235=>191|228=>146|271=>147|151=>148|197=>177|120=>176|152=>178|260=>208|137=>41|119=>209|224=>210|225=>211|217=>64|266=>85|n=>n,fun|9=>9|4=>4|3=>3|5=>5|117=>212|116=>211|0=>0|124=>215|21=>21|105=>245|46=>317|119=>331|139=>334|138=>333|n=>n,fun|3=>2|4=>3|n=>n⟩
theorem Tryz.lays160:Go.Proofs.Lays.n160 Tryz.prog Tryz.lays160_ren:={
 mixed:=by kernel_rfl
 f119:=Tryz.func209.trans (congrArg some (by kernel_rfl))
 f120:=Tryz.func176.trans (congrArg some (by kernel_rfl))
 f137:=Tryz.func41.trans (congrArg some (by kernel_rfl))
 f151:=Tryz.func148.trans (congrArg some (by kernel_rfl))
 f152:=Tryz.func178.trans (congrArg some (by kernel_rfl))
 f160:=Tryz.func166.trans (congrArg some (by kernel_rfl))
 f197:=Tryz.func177.trans (congrArg some (by kernel_rfl))
 f217:=Tryz.func64.trans (congrArg some (by kernel_rfl))
 f224:=Tryz.func210.trans (congrArg some (by kernel_rfl))
 f225:=Tryz.func211.trans (congrArg some (by kernel_rfl))
 f227:=Tryz.func118.trans (congrArg some (by kernel_rfl))
 f228:=Tryz.func146.trans (congrArg some (by kernel_rfl))
 f231:=Tryz.func189.trans (congrArg some (by kernel_rfl))
 f232:=Tryz.func117.trans (congrArg some (by kernel_rfl))
 f233:=Tryz.func190.trans (congrArg some (by kernel_rfl))
 f234:=Tryz.func119.trans (congrArg some (by kernel_rfl))
 f235:=Tryz.func191.trans (congrArg some (by kernel_rfl))
 f236:=Tryz.func120.trans (congrArg some (by kernel_rfl))
 f260:=Tryz.func208.trans (congrArg some (by kernel_rfl))
 f266:=Tryz.func85.trans (congrArg some (by kernel_rfl))
 f271:=Tryz.func147.trans (congrArg some (by kernel_rfl))
 t0:=Tryz.underlying0
 a0:=Tryz.isAgg0
 z0:=Tryz.sizeOf0
 v0:=Tryz.zeroValue0
 t3:=Tryz.underlying3
 a3:=Tryz.isAgg3
 z3:=Tryz.sizeOf3
 v3:=Tryz.zeroValue3
 t4:=Tryz.underlying4
 a4:=Tryz.isAgg4
 z4:=Tryz.sizeOf4
 v4:=Tryz.zeroValue4
 t5:=Tryz.underlying5
 a5:=Tryz.isAgg5
 z5:=Tryz.sizeOf5
 v5:=Tryz.zeroValue5
 t9:=Tryz.underlying9
 a9:=Tryz.isAgg9
 z9:=Tryz.sizeOf9
 v9:=Tryz.zeroValue9
 t21:=Tryz.underlying21
 a21:=Tryz.isAgg21
 z21:=Tryz.sizeOf21
 v21:=Tryz.zeroValue21
 t46:=Tryz.underlying317
 a46:=Tryz.isAgg317
 z46:=Tryz.sizeOf317
 v46:=Tryz.zeroValue317
 t105:=Tryz.underlying245
 a105:=Tryz.isAgg245
 z105:=Tryz.sizeOf245
 v105:=Tryz.zeroValue245
 t116:=Tryz.underlying211
 a116:=Tryz.isAgg211
 z116:=Tryz.sizeOf211
 t117:=Tryz.underlying212
 a117:=Tryz.isAgg212
 z117:=Tryz.sizeOf212
 v117:=Tryz.zeroValue212
 t119:=Tryz.underlying331
 a119:=Tryz.isAgg331
 z119:=Tryz.sizeOf331
 t124:=Tryz.underlying215
 a124:=Tryz.isAgg215
 z124:=Tryz.sizeOf215
 v124:=Tryz.zeroValue215
 t138:=Tryz.underlying333
 a138:=Tryz.isAgg333
 z138:=Tryz.sizeOf333
 v138:=Tryz.zeroValue333
 t139:=Tryz.underlying334
 a139:=Tryz.isAgg334
 z139:=Tryz.sizeOf334
 v139:=Tryz.zeroValue334
 g3:=by kernel_rfl
 g4:=by kernel_rfl}
def Tryz.laysM173_ren:Go.Shelf.Ren:=⟨fun|173=>137|246=>161|283=>194|284=>195|285=>196|286=>197|129=>220|317=>219|318=>221|319=>222|320=>223|337=>235|338=>236|n=>n,fun|2=>2|3=>3|9=>9|4=>4|171=>296|0=>0|53=>297|37=>119|5=>5|173=>300|212=>320|51=>321|20=>20|213=>322|46=>317|232=>341|233=>342|n=>n,fun|17=>1|18=>4|19=>5|n=>n⟩
theorem Tryz.laysM173:Go.Proofs.LaysM.n173 Tryz.prog Tryz.laysM173_ren:={
 mixed:=by kernel_rfl
 f129:=Tryz.func220.trans (congrArg some (by kernel_rfl))
 f173:=Tryz.func137.trans (congrArg some (by kernel_rfl))
 f246:=Tryz.func161.trans (congrArg some (by kernel_rfl))
 f283:=Tryz.func194.trans (congrArg some (by kernel_rfl))
 f284:=Tryz.func195.trans (congrArg some (by kernel_rfl))
 f285:=Tryz.func196.trans (congrArg some (by kernel_rfl))
 f286:=Tryz.func197.trans (congrArg some (by kernel_rfl))
 f317:=Tryz.func219.trans (congrArg some (by kernel_rfl))
 f318:=Tryz.func221.trans (congrArg some (by kernel_rfl))
 f319:=Tryz.func222.trans (congrArg some (by kernel_rfl))
 f320:=Tryz.func223.trans (congrArg some (by kernel_rfl))
 f337:=Tryz.func235.trans (congrArg some (by kernel_rfl))
 f338:=Tryz.func236.trans (congrArg some (by kernel_rfl))
 t0:=Tryz.underlying0
 a0:=Tryz.isAgg0
 z0:=Tryz.sizeOf0
 v0:=Tryz.zeroValue0
 t2:=Tryz.underlying2
 a2:=Tryz.isAgg2
 z2:=Tryz.sizeOf2
 v2:=Tryz.zeroValue2
 t3:=Tryz.underlying3
 a3:=Tryz.isAgg3
 z3:=Tryz.sizeOf3
 v3:=Tryz.zeroValue3
 t4:=Tryz.underlying4
 a4:=Tryz.isAgg4
 z4:=Tryz.sizeOf4
 v4:=Tryz.zeroValue4
 t5:=Tryz.underlying5
 a5:=Tryz.isAgg5
 z5:=Tryz.sizeOf5
 v5:=Tryz.zeroValue5
 t9:=Tryz.underlying9
 a9:=Tryz.isAgg9
 z9:=Tryz.sizeOf9
 v9:=Tryz.zeroValue9
 t20:=Tryz.underlying20
 a20:=Tryz.isAgg20
 z20:=Tryz.sizeOf20
 v20:=Tryz.zeroValue20
 t37:=Tryz.underlying119
 a37:=Tryz.isAgg119
 z37:=Tryz.sizeOf119
 v37:=Tryz.zeroValue119
 t46:=Tryz.underlying317
 a46:=Tryz.isAgg317
 z46:=Tryz.sizeOf317
 v46:=Tryz.zeroValue317
 t51:=Tryz.underlying321
 a51:=Tryz.isAgg321
 z51:=Tryz.sizeOf321
 v51:=Tryz.zeroValue321
 t53:=Tryz.underlying297
 a53:=Tryz.isAgg297
 z53:=Tryz.sizeOf297
 v53:=Tryz.zeroValue297
 t171:=Tryz.underlying296
 a171:=Tryz.isAgg296
 z171:=Tryz.sizeOf296
 v171:=Tryz.zeroValue296
 t173:=Tryz.underlying300
 a173:=Tryz.isAgg300
 z173:=Tryz.sizeOf300
 v173:=Tryz.zeroValue300
 t212:=Tryz.underlying320
 a212:=Tryz.isAgg320
 z212:=Tryz.sizeOf320
 v212:=Tryz.zeroValue320
 t213:=Tryz.underlying322
 a213:=Tryz.isAgg322
 z213:=Tryz.sizeOf322
 t232:=Tryz.underlying341
 a232:=Tryz.isAgg341
 z232:=Tryz.sizeOf341
 v232:=Tryz.zeroValue341
 t233:=Tryz.underlying342
 a233:=Tryz.isAgg342
 z233:=Tryz.sizeOf342
 v233:=Tryz.zeroValue342
 g17:=by kernel_rfl
 g18:=by kernel_rfl
 g19:=by kernel_rfl
 i0:=by kernel_rfl
 i2:=by kernel_rfl
 i3:=by kernel_rfl
 i4:=by kernel_rfl
 i5:=by kernel_rfl
 i9:=by kernel_rfl
 i20:=by kernel_rfl
 i37:=by kernel_rfl
 i46:=by kernel_rfl
 i51:=by kernel_rfl
 i53:=by kernel_rfl
 i171:=by kernel_rfl
 i173:=by kernel_rfl
 i212:=by kernel_rfl
 i232:=by kernel_rfl
 i233:=by kernel_rfl
 m17:=by kernel_rfl
 m18:=by kernel_rfl
 m19:=by kernel_rfl}
open Go.RowKit Go.Sort Go.Lib in
theorem Tryz.strconv_FormatInt_10(n:Int)(h0: -9223372036854775808<=n)(h1:n<=9223372036854775807)(w:World)(Ahu:Lib.TabIs Tryz.prog w "internal/strconv.uint64pow10" .u64 Lib.pow10Tab):
  Calls Tryz.prog 137 #[.int .i64 n,.int .i64 10] w fun e w'=>e=.returned (.string ⟨(Lib.itoa n).toArray⟩)/\∃k os,w'=grow (w.drewN k) os:=Any.strconv_FormatInt_10 Tryz.laysM173 n h0 h1 w Ahu
def Tryz.lays144_ren:Go.Shelf.Ren:=⟨fun|144=>159|143=>192|219=>218|217=>64|225=>211|224=>210|267=>234|266=>85|314=>241|n=>n,fun|9=>9|4=>4|3=>3|5=>5|46=>317|146=>339|51=>321|n=>n,fun|1=>0|n=>n⟩
theorem Tryz.lays144:Go.Proofs.Lays.n144 Tryz.prog Tryz.lays144_ren:={
 mixed:=by kernel_rfl
 f143:=Tryz.func192.trans (congrArg some (by kernel_rfl))
 f144:=Tryz.func159.trans (congrArg some (by kernel_rfl))
 f217:=Tryz.func64.trans (congrArg some (by kernel_rfl))
 f219:=Tryz.func218.trans (congrArg some (by kernel_rfl))
 f224:=Tryz.func210.trans (congrArg some (by kernel_rfl))
 f225:=Tryz.func211.trans (congrArg some (by kernel_rfl))
 f266:=Tryz.func85.trans (congrArg some (by kernel_rfl))
 f267:=Tryz.func234.trans (congrArg some (by kernel_rfl))
 f314:=Tryz.func241.trans (congrArg some (by kernel_rfl))
 t3:=Tryz.underlying3
 a3:=Tryz.isAgg3
 z3:=Tryz.sizeOf3
 v3:=Tryz.zeroValue3
 t4:=Tryz.underlying4
 a4:=Tryz.isAgg4
 z4:=Tryz.sizeOf4
 v4:=Tryz.zeroValue4
 t5:=Tryz.underlying5
 a5:=Tryz.isAgg5
 z5:=Tryz.sizeOf5
 v5:=Tryz.zeroValue5
 t9:=Tryz.underlying9
 a9:=Tryz.isAgg9
 z9:=Tryz.sizeOf9
 v9:=Tryz.zeroValue9
 t46:=Tryz.underlying317
 a46:=Tryz.isAgg317
 z46:=Tryz.sizeOf317
 v46:=Tryz.zeroValue317
 t51:=Tryz.underlying321
 a51:=Tryz.isAgg321
 z51:=Tryz.sizeOf321
 v51:=Tryz.zeroValue321
 t146:=Tryz.underlying339
 a146:=Tryz.isAgg339
 z146:=Tryz.sizeOf339
 v146:=Tryz.zeroValue339
 g1:=by kernel_rfl}
open Go.RowKit Go.Lib in
theorem Tryz.strings_Contains_one(s:ByteArray)(c:UInt8)(w:World):
  Calls Tryz.prog 159 #[.string s,.string ⟨#[c]⟩] w fun e w'=>e=.returned (.bool (decide (0<=Lib.indexByte s.data.toList c)))/\w'=w:=Any.strings_Contains_one Tryz.lays144 s c w
open Go.RowKit Go.Lib in
theorem Tryz.strings_Contains(s sub:ByteArray)(m:Int)(w:World)(hs:s.size<4294967281)(hm:w.cell? ⟨0,0,none⟩=some (.int .i64 m)):
  Calls Tryz.prog 159 #[.string s,.string sub] w fun e w'=>e=.returned (.bool (Lib.contains s.data.toList sub.data.toList))/\w'=w:=Any.strings_Contains Tryz.lays144 s sub m w hs hm
def Tryz.laysM144_ren:Go.Shelf.Ren:=⟨fun|144=>159|143=>192|219=>218|217=>64|225=>211|224=>210|267=>234|266=>85|314=>241|n=>n,fun|9=>9|4=>4|3=>3|5=>5|46=>317|146=>339|51=>321|n=>n,fun|1=>0|n=>n⟩
theorem Tryz.laysM144:Go.Proofs.LaysM.n144 Tryz.prog Tryz.laysM144_ren:={
 mixed:=by kernel_rfl
 f143:=Tryz.func192.trans (congrArg some (by kernel_rfl))
 f144:=Tryz.func159.trans (congrArg some (by kernel_rfl))
 f217:=Tryz.func64.trans (congrArg some (by kernel_rfl))
 f219:=Tryz.func218.trans (congrArg some (by kernel_rfl))
 f224:=Tryz.func210.trans (congrArg some (by kernel_rfl))
 f225:=Tryz.func211.trans (congrArg some (by kernel_rfl))
 f266:=Tryz.func85.trans (congrArg some (by kernel_rfl))
 f267:=Tryz.func234.trans (congrArg some (by kernel_rfl))
 f314:=Tryz.func241.trans (congrArg some (by kernel_rfl))
 t3:=Tryz.underlying3
 a3:=Tryz.isAgg3
 z3:=Tryz.sizeOf3
 v3:=Tryz.zeroValue3
 t4:=Tryz.underlying4
 a4:=Tryz.isAgg4
 z4:=Tryz.sizeOf4
 v4:=Tryz.zeroValue4
 t5:=Tryz.underlying5
 a5:=Tryz.isAgg5
 z5:=Tryz.sizeOf5
 v5:=Tryz.zeroValue5
 t9:=Tryz.underlying9
 a9:=Tryz.isAgg9
 z9:=Tryz.sizeOf9
 v9:=Tryz.zeroValue9
 t46:=Tryz.underlying317
 a46:=Tryz.isAgg317
 z46:=Tryz.sizeOf317
 v46:=Tryz.zeroValue317
 t51:=Tryz.underlying321
 a51:=Tryz.isAgg321
 z51:=Tryz.sizeOf321
 v51:=Tryz.zeroValue321
 t146:=Tryz.underlying339
 a146:=Tryz.isAgg339
 z146:=Tryz.sizeOf339
 v146:=Tryz.zeroValue339
 g1:=by kernel_rfl
 i3:=by kernel_rfl
 i4:=by kernel_rfl
 i5:=by kernel_rfl
 i9:=by kernel_rfl
 i46:=by kernel_rfl
 i51:=by kernel_rfl
 i146:=by kernel_rfl
 m1:=by kernel_rfl
 s1_3:=fun w h=>Go.Proofs.cell_of_shapedOpen_int (zero:=#[.int .i64 0]) (t:=3) h (of_decide_eq_true (by kernel_rfl)) (by kernel_rfl) rfl (by kernel_rfl) (by kernel_rfl) Tryz.underlying3}
def Tryz.lays101_ren:Go.Shelf.Ren:=⟨fun|101=>113|208=>142|206=>128|n=>n,fun|9=>9|4=>4|3=>3|n=>n,fun|n=>n⟩
theorem Tryz.lays101:Go.Proofs.Lays.n101 Tryz.prog Tryz.lays101_ren:={
 mixed:=by kernel_rfl
 f101:=Tryz.func113.trans (congrArg some (by kernel_rfl))
 f206:=Tryz.func128.trans (congrArg some (by kernel_rfl))
 f208:=Tryz.func142.trans (congrArg some (by kernel_rfl))
 t3:=Tryz.underlying3
 a3:=Tryz.isAgg3
 z3:=Tryz.sizeOf3
 v3:=Tryz.zeroValue3
 t4:=Tryz.underlying4
 a4:=Tryz.isAgg4
 z4:=Tryz.sizeOf4
 v4:=Tryz.zeroValue4
 t9:=Tryz.underlying9
 a9:=Tryz.isAgg9
 z9:=Tryz.sizeOf9
 v9:=Tryz.zeroValue9}
open Go.RowKit Go.Lib in
theorem Tryz.strings_TrimPrefix(s p:ByteArray)(w:World):
  Calls Tryz.prog 113 #[.string s,.string p] w fun e w'=>e=.returned (.string ⟨(Lib.trimPrefix s.data.toList p.data.toList).toArray⟩)/\w'=w:=Any.strings_TrimPrefix Tryz.lays101 s p w
def Tryz.lays102_ren:Go.Shelf.Ren:=⟨fun|102=>207|209=>229|207=>240|n=>n,fun|9=>9|4=>4|3=>3|n=>n,fun|n=>n⟩
theorem Tryz.lays102:Go.Proofs.Lays.n102 Tryz.prog Tryz.lays102_ren:={
 mixed:=by kernel_rfl
 f102:=Tryz.func207.trans (congrArg some (by kernel_rfl))
 f207:=Tryz.func240.trans (congrArg some (by kernel_rfl))
 f209:=Tryz.func229.trans (congrArg some (by kernel_rfl))
 t3:=Tryz.underlying3
 a3:=Tryz.isAgg3
 z3:=Tryz.sizeOf3
 v3:=Tryz.zeroValue3
 t4:=Tryz.underlying4
 a4:=Tryz.isAgg4
 z4:=Tryz.sizeOf4
 v4:=Tryz.zeroValue4
 t9:=Tryz.underlying9
 a9:=Tryz.isAgg9
 z9:=Tryz.sizeOf9
 v9:=Tryz.zeroValue9}
open Go.RowKit Go.Lib in
theorem Tryz.strings_TrimSuffix(s p:ByteArray)(w:World)(hs:s.size<=9223372036854775807):
  Calls Tryz.prog 207 #[.string s,.string p] w fun e w'=>e=.returned (.string ⟨(Lib.trimSuffix s.data.toList p.data.toList).toArray⟩)/\w'=w:=Any.strings_TrimSuffix Tryz.lays102 s p w hs
end Go.Proofs
