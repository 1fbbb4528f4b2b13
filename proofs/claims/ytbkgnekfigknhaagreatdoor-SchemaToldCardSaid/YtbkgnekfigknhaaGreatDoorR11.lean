/- Merged texts: Shelf Pr0 S17 S18 Plain. No statement of the program is proved here. -/
import Derived.Test.YtbkgnekfigknhaaGreatDoorR10
import Derived.Shelf.LaysM
import Derived.Shelf.Strconv.Itoa3
import Derived.Shelf.Strings.Replace
import Derived.Shelf.Strings.OnBuilder
import Derived.Shelf.Strings.Search3
import Derived.Shelf.Small.Utf8
import Derived.Shelf.LaysC
import Derived.Shelf.Unicode.DecodeAny
import Derived.Shelf.Unicode.ValidAny
import Derived.Shelf.Small.Wraps
import Derived.Laws.StructEq
import Derived.Lib.ValidU
import Derived.Lib.TrimUEq
import Derived.Lib.ValidLaws
set_option linter.unusedSimpArgs false
set_option linter.unusedVariables false
set_option maxRecDepth 100000
set_option maxHeartbeats 8000000
section
namespace Go.Proofs
open Go.Shelf
def Tryz.laysValid_ren:Go.Shelf.Ren:=⟨fun|196=>185|259=>214|n=>n,fun|9=>9|4=>4|3=>3|5=>5|12=>12|119=>255|0=>0|46=>259|139=>258|138=>257|53=>272|n=>n,fun|3=>0|4=>1|n=>n⟩
theorem Tryz.laysValid:Go.Proofs.Lays.n196 Tryz.prog Tryz.laysValid_ren:={
 mixed:=by kernel_rfl
 f196:=Tryz.func185.trans (congrArg some (by kernel_rfl))
 f259:=Tryz.func214.trans (congrArg some (by kernel_rfl))
 t0:=Tryz.underlying0
 a0:=Tryz.isAgg0
 z0:=Tryz.sizeOf0
 v0:=Tryz.zeroValue0
 t3:=Tryz.underlying3
 a3:=Tryz.isAgg3
 z3:=Tryz.sizeOf3
 v3:=Tryz.zeroValue3
 t4:=Tryz.underlying4
 a4:=Tryz.isAgg4
 z4:=Tryz.sizeOf4
 v4:=Tryz.zeroValue4
 t5:=Tryz.underlying5
 a5:=Tryz.isAgg5
 z5:=Tryz.sizeOf5
 v5:=Tryz.zeroValue5
 t9:=Tryz.underlying9
 a9:=Tryz.isAgg9
 z9:=Tryz.sizeOf9
 v9:=Tryz.zeroValue9
 t12:=Tryz.underlying12
 a12:=Tryz.isAgg12
 z12:=Tryz.sizeOf12
 v12:=Tryz.zeroValue12
 t46:=Tryz.underlying259
 a46:=Tryz.isAgg259
 z46:=Tryz.sizeOf259
 v46:=Tryz.zeroValue259
 t53:=Tryz.underlying272
 a53:=Tryz.isAgg272
 z53:=Tryz.sizeOf272
 v53:=Tryz.zeroValue272
 t119:=Tryz.underlying255
 a119:=Tryz.isAgg255
 z119:=Tryz.sizeOf255
 t138:=Tryz.underlying257
 a138:=Tryz.isAgg257
 z138:=Tryz.sizeOf257
 v138:=Tryz.zeroValue257
 t139:=Tryz.underlying258
 a139:=Tryz.isAgg258
 z139:=Tryz.sizeOf258
 v139:=Tryz.zeroValue258
 g3:=by kernel_rfl
 g4:=by kernel_rfl }
open Go.RowKit Go.Lib in
theorem Tryz.utf8_ValidString(s:ByteArray)(w:World)(hs:s.size≤9223372036854775807)(hT:Lib.Utf8Tabs 0 1 w):
  Calls Tryz.prog 185 #[.string s] w fun e w'=>e=.returned (.bool (Lib.validD s.data.toList))∧Below w.heap.size w w':=Any.utf8_ValidString Tryz.laysValid s w hs hT
def Tryz.laysDecode_ren:Go.Shelf.Ren:=⟨fun|197=>202|260=>229|n=>n,fun|9=>9|21=>21|3=>3|4=>4|5=>5|105=>240|119=>255|0=>0|46=>259|139=>258|138=>257|n=>n,fun|3=>0|4=>1|n=>n⟩
theorem Tryz.laysDecode:Go.Proofs.Lays.n197 Tryz.prog Tryz.laysDecode_ren:={
 mixed:=by kernel_rfl
 f197:=Tryz.func202.trans (congrArg some (by kernel_rfl))
 f260:=Tryz.func229.trans (congrArg some (by kernel_rfl))
 t0:=Tryz.underlying0
 a0:=Tryz.isAgg0
 z0:=Tryz.sizeOf0
 v0:=Tryz.zeroValue0
 t3:=Tryz.underlying3
 a3:=Tryz.isAgg3
 z3:=Tryz.sizeOf3
 v3:=Tryz.zeroValue3
 t4:=Tryz.underlying4
 a4:=Tryz.isAgg4
 z4:=Tryz.sizeOf4
 v4:=Tryz.zeroValue4
 t5:=Tryz.underlying5
 a5:=Tryz.isAgg5
 z5:=Tryz.sizeOf5
 v5:=Tryz.zeroValue5
 t9:=Tryz.underlying9
 a9:=Tryz.isAgg9
 z9:=Tryz.sizeOf9
 v9:=Tryz.zeroValue9
 t21:=Tryz.underlying21
 a21:=Tryz.isAgg21
 z21:=Tryz.sizeOf21
 v21:=Tryz.zeroValue21
 t46:=Tryz.underlying259
 a46:=Tryz.isAgg259
 z46:=Tryz.sizeOf259
 v46:=Tryz.zeroValue259
 t105:=Tryz.underlying240
 a105:=Tryz.isAgg240
 z105:=Tryz.sizeOf240
 v105:=Tryz.zeroValue240
 t119:=Tryz.underlying255
 a119:=Tryz.isAgg255
 z119:=Tryz.sizeOf255
 t138:=Tryz.underlying257
 a138:=Tryz.isAgg257
 z138:=Tryz.sizeOf257
 v138:=Tryz.zeroValue257
 t139:=Tryz.underlying258
 a139:=Tryz.isAgg258
 z139:=Tryz.sizeOf258
 v139:=Tryz.zeroValue258
 g3:=by kernel_rfl
 g4:=by kernel_rfl }
open Go.RowKit Go.Lib in
theorem Tryz.utf8_DecodeRuneInString(s:ByteArray)(w:World)(hT:Lib.Utf8Tabs 0 1 w):
  Calls Tryz.prog 202 #[.string s] w fun e w'=>e=.returned (.tuple #[.int .i32 (Lib.decodeGo s).1,.int .i64 (Lib.decodeGo s).2])∧Below w.heap.size w w':=Any.utf8_DecodeRuneInString Tryz.laysDecode s w hT
def Tryz.laysM171_ren:Go.Shelf.Ren:=⟨fun|171=>91|243=>163|246=>200|283=>223|284=>224|285=>225|286=>226|129=>254|317=>253|318=>255|319=>256|320=>257|337=>271|338=>272|n=>n,fun|3=>3|9=>9|2=>2|4=>4|171=>271|0=>0|53=>272|37=>66|5=>5|173=>275|212=>294|51=>295|20=>20|213=>296|46=>259|232=>314|233=>315|n=>n,fun|17=>3|18=>6|19=>7|n=>n⟩
theorem Tryz.laysM171:Go.Proofs.LaysM.n171 Tryz.prog Tryz.laysM171_ren:={
 mixed:=by kernel_rfl
 f129:=Tryz.func254.trans (congrArg some (by kernel_rfl))
 f171:=Tryz.func91.trans (congrArg some (by kernel_rfl))
 f243:=Tryz.func163.trans (congrArg some (by kernel_rfl))
 f246:=Tryz.func200.trans (congrArg some (by kernel_rfl))
 f283:=Tryz.func223.trans (congrArg some (by kernel_rfl))
 f284:=Tryz.func224.trans (congrArg some (by kernel_rfl))
 f285:=Tryz.func225.trans (congrArg some (by kernel_rfl))
 f286:=Tryz.func226.trans (congrArg some (by kernel_rfl))
 f317:=Tryz.func253.trans (congrArg some (by kernel_rfl))
 f318:=Tryz.func255.trans (congrArg some (by kernel_rfl))
 f319:=Tryz.func256.trans (congrArg some (by kernel_rfl))
 f320:=Tryz.func257.trans (congrArg some (by kernel_rfl))
 f337:=Tryz.func271.trans (congrArg some (by kernel_rfl))
 f338:=Tryz.func272.trans (congrArg some (by kernel_rfl))
 t0:=Tryz.underlying0
 a0:=Tryz.isAgg0
 z0:=Tryz.sizeOf0
 v0:=Tryz.zeroValue0
 t2:=Tryz.underlying2
 a2:=Tryz.isAgg2
 z2:=Tryz.sizeOf2
 v2:=Tryz.zeroValue2
 t3:=Tryz.underlying3
 a3:=Tryz.isAgg3
 z3:=Tryz.sizeOf3
 v3:=Tryz.zeroValue3
 t4:=Tryz.underlying4
 a4:=Tryz.isAgg4
 z4:=Tryz.sizeOf4
 v4:=Tryz.zeroValue4
 t5:=Tryz.underlying5
 a5:=Tryz.isAgg5
 z5:=Tryz.sizeOf5
 v5:=Tryz.zeroValue5
 t9:=Tryz.underlying9
 a9:=Tryz.isAgg9
 z9:=Tryz.sizeOf9
 v9:=Tryz.zeroValue9
 t20:=Tryz.underlying20
 a20:=Tryz.isAgg20
 z20:=Tryz.sizeOf20
 v20:=Tryz.zeroValue20
 t37:=Tryz.underlying66
 a37:=Tryz.isAgg66
 z37:=Tryz.sizeOf66
 v37:=Tryz.zeroValue66
 t46:=Tryz.underlying259
 a46:=Tryz.isAgg259
 z46:=Tryz.sizeOf259
 v46:=Tryz.zeroValue259
 t51:=Tryz.underlying295
 a51:=Tryz.isAgg295
 z51:=Tryz.sizeOf295
 v51:=Tryz.zeroValue295
 t53:=Tryz.underlying272
 a53:=Tryz.isAgg272
 z53:=Tryz.sizeOf272
 v53:=Tryz.zeroValue272
 t171:=Tryz.underlying271
 a171:=Tryz.isAgg271
 z171:=Tryz.sizeOf271
 v171:=Tryz.zeroValue271
 t173:=Tryz.underlying275
 a173:=Tryz.isAgg275
 z173:=Tryz.sizeOf275
 v173:=Tryz.zeroValue275
 t212:=Tryz.underlying294
 a212:=Tryz.isAgg294
 z212:=Tryz.sizeOf294
 v212:=Tryz.zeroValue294
 t213:=Tryz.underlying296
 a213:=Tryz.isAgg296
 z213:=Tryz.sizeOf296
 t232:=Tryz.underlying314
 a232:=Tryz.isAgg314
 z232:=Tryz.sizeOf314
 v232:=Tryz.zeroValue314
 t233:=Tryz.underlying315
 a233:=Tryz.isAgg315
 z233:=Tryz.sizeOf315
 v233:=Tryz.zeroValue315
 g17:=by kernel_rfl
 g18:=by kernel_rfl
 g19:=by kernel_rfl
 i0:=by kernel_rfl
 i2:=by kernel_rfl
 i3:=by kernel_rfl
 i4:=by kernel_rfl
 i5:=by kernel_rfl
 i9:=by kernel_rfl
 i20:=by kernel_rfl
 i37:=by kernel_rfl
 i46:=by kernel_rfl
 i51:=by kernel_rfl
 i53:=by kernel_rfl
 i171:=by kernel_rfl
 i173:=by kernel_rfl
 i212:=by kernel_rfl
 i232:=by kernel_rfl
 i233:=by kernel_rfl
 m17:=by kernel_rfl
 m18:=by kernel_rfl
 m19:=by kernel_rfl }
open Go.RowKit Go.Lib in
theorem Tryz.strconv_Itoa(n:Int)(h0: -9223372036854775808≤n)(h1:n≤9223372036854775807)(w:World)(htab:Lib.TabIs Tryz.prog w "internal/strconv.uint64pow10" .u64 Lib.pow10Tab):
  Calls Tryz.prog 91 #[.int .i64 n] w fun e w'=>e=.returned (.string ⟨(Lib.itoa n).toArray⟩)∧∃k os,w'=Go.Sort.grow (w.drewN k) os:=Any.strconv_Itoa Tryz.laysM171 n h0 h1 w htab
def Tryz.lays155_ren:Go.Shelf.Ren:=⟨fun|155=>92|154=>164|138=>201|165=>165|143=>177|166=>166|197=>202|169=>167|195=>227|218=>228|240=>203|241=>204|219=>211|260=>229|276=>230|277=>231|217=>238|225=>239|224=>240|267=>241|266=>262|314=>263|n=>n,fun|9=>9|3=>3|4=>4|72=>207|0=>0|76=>211|105=>240|21=>21|5=>5|70=>205|20=>20|37=>66|75=>210|127=>242|164=>278|46=>259|119=>255|139=>258|138=>257|146=>301|51=>295|80=>213|n=>n,fun|1=>2|3=>0|4=>1|n=>n⟩
theorem Tryz.lays155:Go.Proofs.Lays.n155 Tryz.prog Tryz.lays155_ren:={
 mixed:=by kernel_rfl
 f138:=Tryz.func201.trans (congrArg some (by kernel_rfl))
 f143:=Tryz.func177.trans (congrArg some (by kernel_rfl))
 f154:=Tryz.func164.trans (congrArg some (by kernel_rfl))
 f155:=Tryz.func92.trans (congrArg some (by kernel_rfl))
 f165:=Tryz.func165.trans (congrArg some (by kernel_rfl))
 f166:=Tryz.func166.trans (congrArg some (by kernel_rfl))
 f169:=Tryz.func167.trans (congrArg some (by kernel_rfl))
 f195:=Tryz.func227.trans (congrArg some (by kernel_rfl))
 f197:=Tryz.func202.trans (congrArg some (by kernel_rfl))
 f217:=Tryz.func238.trans (congrArg some (by kernel_rfl))
 f218:=Tryz.func228.trans (congrArg some (by kernel_rfl))
 f219:=Tryz.func211.trans (congrArg some (by kernel_rfl))
 f224:=Tryz.func240.trans (congrArg some (by kernel_rfl))
 f225:=Tryz.func239.trans (congrArg some (by kernel_rfl))
 f240:=Tryz.func203.trans (congrArg some (by kernel_rfl))
 f241:=Tryz.func204.trans (congrArg some (by kernel_rfl))
 f260:=Tryz.func229.trans (congrArg some (by kernel_rfl))
 f266:=Tryz.func262.trans (congrArg some (by kernel_rfl))
 f267:=Tryz.func241.trans (congrArg some (by kernel_rfl))
 f276:=Tryz.func230.trans (congrArg some (by kernel_rfl))
 f277:=Tryz.func231.trans (congrArg some (by kernel_rfl))
 f314:=Tryz.func263.trans (congrArg some (by kernel_rfl))
 t0:=Tryz.underlying0
 a0:=Tryz.isAgg0
 z0:=Tryz.sizeOf0
 v0:=Tryz.zeroValue0
 t3:=Tryz.underlying3
 a3:=Tryz.isAgg3
 z3:=Tryz.sizeOf3
 v3:=Tryz.zeroValue3
 t4:=Tryz.underlying4
 a4:=Tryz.isAgg4
 z4:=Tryz.sizeOf4
 v4:=Tryz.zeroValue4
 t5:=Tryz.underlying5
 a5:=Tryz.isAgg5
 z5:=Tryz.sizeOf5
 v5:=Tryz.zeroValue5
 t9:=Tryz.underlying9
 a9:=Tryz.isAgg9
 z9:=Tryz.sizeOf9
 v9:=Tryz.zeroValue9
 t20:=Tryz.underlying20
 a20:=Tryz.isAgg20
 z20:=Tryz.sizeOf20
 v20:=Tryz.zeroValue20
 t21:=Tryz.underlying21
 a21:=Tryz.isAgg21
 z21:=Tryz.sizeOf21
 v21:=Tryz.zeroValue21
 t37:=Tryz.underlying66
 a37:=Tryz.isAgg66
 z37:=Tryz.sizeOf66
 v37:=Tryz.zeroValue66
 t46:=Tryz.underlying259
 a46:=Tryz.isAgg259
 z46:=Tryz.sizeOf259
 v46:=Tryz.zeroValue259
 t51:=Tryz.underlying295
 a51:=Tryz.isAgg295
 z51:=Tryz.sizeOf295
 v51:=Tryz.zeroValue295
 t70:=Tryz.underlying205
 a70:=Tryz.isAgg205
 z70:=Tryz.sizeOf205
 v70:=Tryz.zeroValue205
 t72:=Tryz.underlying207
 a72:=Tryz.isAgg207
 z72:=Tryz.sizeOf207
 v72:=Tryz.zeroValue207
 t75:=Tryz.underlying210
 a75:=Tryz.isAgg210
 z75:=Tryz.sizeOf210
 v75:=Tryz.zeroValue210
 t76:=Tryz.underlying211
 a76:=Tryz.isAgg211
 z76:=Tryz.sizeOf211
 v76:=Tryz.zeroValue211
 t105:=Tryz.underlying240
 a105:=Tryz.isAgg240
 z105:=Tryz.sizeOf240
 v105:=Tryz.zeroValue240
 t119:=Tryz.underlying255
 a119:=Tryz.isAgg255
 z119:=Tryz.sizeOf255
 t127:=Tryz.underlying242
 a127:=Tryz.isAgg242
 z127:=Tryz.sizeOf242
 v127:=Tryz.zeroValue242
 t138:=Tryz.underlying257
 a138:=Tryz.isAgg257
 z138:=Tryz.sizeOf257
 v138:=Tryz.zeroValue257
 t139:=Tryz.underlying258
 a139:=Tryz.isAgg258
 z139:=Tryz.sizeOf258
 v139:=Tryz.zeroValue258
 t146:=Tryz.underlying301
 a146:=Tryz.isAgg301
 z146:=Tryz.sizeOf301
 v146:=Tryz.zeroValue301
 t164:=Tryz.underlying278
 a164:=Tryz.isAgg278
 z164:=Tryz.sizeOf278
 v164:=Tryz.zeroValue278
 g1:=by kernel_rfl
 g3:=by kernel_rfl
 g4:=by kernel_rfl }
theorem Tryz.Builder_Extra_155:Builder.Extra Tryz.prog Tryz.lays155_ren:={
 sizeBuilder:=by kernel_rfl
 liesBuilder:=by kernel_rfl
 t5:=Tryz.underlying5
 a5:=Tryz.isAgg5
 z5:=Tryz.sizeOf5
 v5:=Tryz.zeroValue5
 infoByte:=by kernel_rfl
 cellsByte:=by kernel_rfl
 sizeByte:=by kernel_rfl
 neB5:=by decide }
open Go.RowKit Go.Lib in
theorem Tryz.strings_ReplaceAll(s old new:ByteArray)(m:Int)(w:World)(hs:s.size<4294967281)(hm:w.cell? ⟨2,0,none⟩=some (.int .i64 m))(h1:1≤old.size)(hlen:s.size+Lib.countB s old*new.size≤140737488355328):
  Calls Tryz.prog 92 #[.string s,.string old,.string new] w fun e w'=>e=.returned (.string ⟨(Lib.replaceAll s.data.toList old.data.toList new.data.toList).toArray⟩)∧Below w.heap.size w w':=Any.strings_ReplaceAll Tryz.lays155 Tryz.Builder_Extra_155 s old new m w hs hm h1 hlen
def Tryz.lays156_ren:Go.Shelf.Ren:=⟨fun|156=>94|165=>165|166=>166|169=>167|240=>203|241=>204|276=>230|277=>231|n=>n,fun|31=>110|9=>9|3=>3|4=>4|0=>0|20=>20|72=>207|76=>211|70=>205|37=>66|75=>210|127=>242|164=>278|5=>5|80=>213|n=>n,fun|n=>n⟩
theorem Tryz.lays156:Go.Proofs.Lays.n156 Tryz.prog Tryz.lays156_ren:={
 mixed:=by kernel_rfl
 f156:=Tryz.func94.trans (congrArg some (by kernel_rfl))
 f165:=Tryz.func165.trans (congrArg some (by kernel_rfl))
 f166:=Tryz.func166.trans (congrArg some (by kernel_rfl))
 f169:=Tryz.func167.trans (congrArg some (by kernel_rfl))
 f240:=Tryz.func203.trans (congrArg some (by kernel_rfl))
 f241:=Tryz.func204.trans (congrArg some (by kernel_rfl))
 f276:=Tryz.func230.trans (congrArg some (by kernel_rfl))
 f277:=Tryz.func231.trans (congrArg some (by kernel_rfl))
 t0:=Tryz.underlying0
 a0:=Tryz.isAgg0
 z0:=Tryz.sizeOf0
 v0:=Tryz.zeroValue0
 t3:=Tryz.underlying3
 a3:=Tryz.isAgg3
 z3:=Tryz.sizeOf3
 v3:=Tryz.zeroValue3
 t4:=Tryz.underlying4
 a4:=Tryz.isAgg4
 z4:=Tryz.sizeOf4
 v4:=Tryz.zeroValue4
 t9:=Tryz.underlying9
 a9:=Tryz.isAgg9
 z9:=Tryz.sizeOf9
 v9:=Tryz.zeroValue9
 t20:=Tryz.underlying20
 a20:=Tryz.isAgg20
 z20:=Tryz.sizeOf20
 v20:=Tryz.zeroValue20
 t31:=Tryz.underlying110
 a31:=Tryz.isAgg110
 z31:=Tryz.sizeOf110
 v31:=Tryz.zeroValue110
 t37:=Tryz.underlying66
 a37:=Tryz.isAgg66
 z37:=Tryz.sizeOf66
 v37:=Tryz.zeroValue66
 t70:=Tryz.underlying205
 a70:=Tryz.isAgg205
 z70:=Tryz.sizeOf205
 v70:=Tryz.zeroValue205
 t72:=Tryz.underlying207
 a72:=Tryz.isAgg207
 z72:=Tryz.sizeOf207
 v72:=Tryz.zeroValue207
 t75:=Tryz.underlying210
 a75:=Tryz.isAgg210
 z75:=Tryz.sizeOf210
 v75:=Tryz.zeroValue210
 t76:=Tryz.underlying211
 a76:=Tryz.isAgg211
 z76:=Tryz.sizeOf211
 v76:=Tryz.zeroValue211
 t127:=Tryz.underlying242
 a127:=Tryz.isAgg242
 z127:=Tryz.sizeOf242
 v127:=Tryz.zeroValue242
 t164:=Tryz.underlying278
 a164:=Tryz.isAgg278
 z164:=Tryz.sizeOf278
 v164:=Tryz.zeroValue278 }
theorem Tryz.Builder_Extra_156:Builder.Extra Tryz.prog Tryz.lays156_ren:={
 sizeBuilder:=by kernel_rfl
 liesBuilder:=by kernel_rfl
 t5:=Tryz.underlying5
 a5:=Tryz.isAgg5
 z5:=Tryz.sizeOf5
 v5:=Tryz.zeroValue5
 infoByte:=by kernel_rfl
 cellsByte:=by kernel_rfl
 sizeByte:=by kernel_rfl
 neB5:=by decide }
open Go.RowKit Go.Lib in
theorem Tryz.strings_Join(bk o c:Nat)(xs:List ByteArray)(sep:ByteArray)(w:World)(hcells:∀(j:Nat) x,xs[j]?=some x→w.cell? ⟨bk,o+j,none⟩=some (.string x))(hbk:bk<w.heap.size)(hN:xs.length≤140737488355328)(hcap:xs.length≤c)(hlen:(Lib.join (xs.map (·.data.toList)) sep.data.toList).length≤140737488355328):
  Calls Tryz.prog 94 #[.slice (some ⟨bk,o,none⟩) xs.length c,.string sep] w fun e w'=>e=.returned (.string ⟨(Lib.join (xs.map (·.data.toList)) sep.data.toList).toArray⟩)∧Below w.heap.size w w':=Any.strings_Join Tryz.lays156 Tryz.Builder_Extra_156 bk o c xs sep w hcells hbk hN hcap hlen
def Tryz.lays143_ren:Go.Shelf.Ren:=⟨fun|143=>177|219=>211|217=>238|225=>239|224=>240|267=>241|266=>262|314=>263|n=>n,fun|9=>9|3=>3|4=>4|5=>5|46=>259|146=>301|51=>295|n=>n,fun|1=>2|n=>n⟩
theorem Tryz.lays143:Go.Proofs.Lays.n143 Tryz.prog Tryz.lays143_ren:={
 mixed:=by kernel_rfl
 f143:=Tryz.func177.trans (congrArg some (by kernel_rfl))
 f217:=Tryz.func238.trans (congrArg some (by kernel_rfl))
 f219:=Tryz.func211.trans (congrArg some (by kernel_rfl))
 f224:=Tryz.func240.trans (congrArg some (by kernel_rfl))
 f225:=Tryz.func239.trans (congrArg some (by kernel_rfl))
 f266:=Tryz.func262.trans (congrArg some (by kernel_rfl))
 f267:=Tryz.func241.trans (congrArg some (by kernel_rfl))
 f314:=Tryz.func263.trans (congrArg some (by kernel_rfl))
 t3:=Tryz.underlying3
 a3:=Tryz.isAgg3
 z3:=Tryz.sizeOf3
 v3:=Tryz.zeroValue3
 t4:=Tryz.underlying4
 a4:=Tryz.isAgg4
 z4:=Tryz.sizeOf4
 v4:=Tryz.zeroValue4
 t5:=Tryz.underlying5
 a5:=Tryz.isAgg5
 z5:=Tryz.sizeOf5
 v5:=Tryz.zeroValue5
 t9:=Tryz.underlying9
 a9:=Tryz.isAgg9
 z9:=Tryz.sizeOf9
 v9:=Tryz.zeroValue9
 t46:=Tryz.underlying259
 a46:=Tryz.isAgg259
 z46:=Tryz.sizeOf259
 v46:=Tryz.zeroValue259
 t51:=Tryz.underlying295
 a51:=Tryz.isAgg295
 z51:=Tryz.sizeOf295
 v51:=Tryz.zeroValue295
 t146:=Tryz.underlying301
 a146:=Tryz.isAgg301
 z146:=Tryz.sizeOf301
 v146:=Tryz.zeroValue301
 g1:=by kernel_rfl }
open Go.RowKit Go.Lib in
theorem Tryz.strings_Index(s substr:ByteArray)(m:Int)(w:World)(hs:s.size<4294967281)(hm:w.cell? ⟨2,0,none⟩=some (.int .i64 m)):
  Calls Tryz.prog 177 #[.string s,.string substr] w fun e w'=>e=.returned (.int .i64 (Lib.index s.data.toList substr.data.toList))∧w'=w:=Any.strings_Index Tryz.lays143 s substr m w hs hm
def Tryz.lays118_ren:Go.Shelf.Ren:=⟨fun|118=>176|n=>n,fun|21=>21|3=>3|4=>4|n=>n,fun|n=>n⟩
theorem Tryz.lays118:Go.Proofs.Lays.n118 Tryz.prog Tryz.lays118_ren:={
 mixed:=by kernel_rfl
 f118:=Tryz.func176.trans (congrArg some (by kernel_rfl))
 t3:=Tryz.underlying3
 a3:=Tryz.isAgg3
 z3:=Tryz.sizeOf3
 v3:=Tryz.zeroValue3
 t4:=Tryz.underlying4
 a4:=Tryz.isAgg4
 z4:=Tryz.sizeOf4
 v4:=Tryz.zeroValue4
 t21:=Tryz.underlying21
 a21:=Tryz.isAgg21
 z21:=Tryz.sizeOf21
 v21:=Tryz.zeroValue21 }
open Go.RowKit Go.Lib in
theorem Tryz.utf8_RuneLen(r:Int)(w:World):
  Calls Tryz.prog 176 #[.int .i32 r] w fun e w'=>e=.returned (.int .i64 (Lib.runeLen r))∧w'=w:=Any.utf8_RuneLen Tryz.lays118 r w
def Tryz.laysC172_ren:Go.Shelf.Ren:=⟨fun|172=>178|244=>212|245=>213|247=>242|279=>243|280=>244|281=>245|282=>246|287=>264|316=>265|171=>91|205=>266|321=>273|322=>274|243=>163|246=>200|283=>223|284=>224|285=>225|286=>226|129=>254|317=>253|318=>255|319=>256|320=>257|337=>271|338=>272|n=>n,fun|9=>9|3=>3|75=>210|76=>211|4=>4|5=>5|167=>285|37=>66|0=>0|85=>286|2=>2|168=>288|53=>272|175=>303|46=>259|210=>306|127=>242|145=>313|143=>311|21=>21|171=>271|173=>275|212=>294|51=>295|20=>20|213=>296|232=>314|233=>315|80=>213|n=>n,fun|15=>4|16=>5|17=>3|18=>6|19=>7|n=>n⟩
theorem Tryz.laysC172:Go.Proofs.LaysC.n172 Tryz.prog Tryz.laysC172_ren:={
 mixed:=by kernel_rfl
 f129:=Tryz.func254.trans (congrArg some (by kernel_rfl))
 f171:=Tryz.func91.trans (congrArg some (by kernel_rfl))
 f172:=Tryz.func178.trans (congrArg some (by kernel_rfl))
 f205:=Tryz.func266.trans (congrArg some (by kernel_rfl))
 f243:=Tryz.func163.trans (congrArg some (by kernel_rfl))
 f244:=Tryz.func212.trans (congrArg some (by kernel_rfl))
 f245:=Tryz.func213.trans (congrArg some (by kernel_rfl))
 f246:=Tryz.func200.trans (congrArg some (by kernel_rfl))
 f247:=Tryz.func242.trans (congrArg some (by kernel_rfl))
 f279:=Tryz.func243.trans (congrArg some (by kernel_rfl))
 f280:=Tryz.func244.trans (congrArg some (by kernel_rfl))
 f281:=Tryz.func245.trans (congrArg some (by kernel_rfl))
 f282:=Tryz.func246.trans (congrArg some (by kernel_rfl))
 f283:=Tryz.func223.trans (congrArg some (by kernel_rfl))
 f284:=Tryz.func224.trans (congrArg some (by kernel_rfl))
 f285:=Tryz.func225.trans (congrArg some (by kernel_rfl))
 f286:=Tryz.func226.trans (congrArg some (by kernel_rfl))
 f287:=Tryz.func264.trans (congrArg some (by kernel_rfl))
 f316:=Tryz.func265.trans (congrArg some (by kernel_rfl))
 f317:=Tryz.func253.trans (congrArg some (by kernel_rfl))
 f318:=Tryz.func255.trans (congrArg some (by kernel_rfl))
 f319:=Tryz.func256.trans (congrArg some (by kernel_rfl))
 f320:=Tryz.func257.trans (congrArg some (by kernel_rfl))
 f321:=Tryz.func273.trans (congrArg some (by kernel_rfl))
 f322:=Tryz.func274.trans (congrArg some (by kernel_rfl))
 f337:=Tryz.func271.trans (congrArg some (by kernel_rfl))
 f338:=Tryz.func272.trans (congrArg some (by kernel_rfl))
 t0:=Tryz.underlying0
 a0:=Tryz.isAgg0
 z0:=Tryz.sizeOf0
 v0:=Tryz.zeroValue0
 t2:=Tryz.underlying2
 a2:=Tryz.isAgg2
 z2:=Tryz.sizeOf2
 v2:=Tryz.zeroValue2
 t3:=Tryz.underlying3
 a3:=Tryz.isAgg3
 z3:=Tryz.sizeOf3
 v3:=Tryz.zeroValue3
 t4:=Tryz.underlying4
 a4:=Tryz.isAgg4
 z4:=Tryz.sizeOf4
 v4:=Tryz.zeroValue4
 t5:=Tryz.underlying5
 a5:=Tryz.isAgg5
 z5:=Tryz.sizeOf5
 v5:=Tryz.zeroValue5
 t9:=Tryz.underlying9
 a9:=Tryz.isAgg9
 z9:=Tryz.sizeOf9
 v9:=Tryz.zeroValue9
 t20:=Tryz.underlying20
 a20:=Tryz.isAgg20
 z20:=Tryz.sizeOf20
 v20:=Tryz.zeroValue20
 t21:=Tryz.underlying21
 a21:=Tryz.isAgg21
 z21:=Tryz.sizeOf21
 v21:=Tryz.zeroValue21
 t37:=Tryz.underlying66
 a37:=Tryz.isAgg66
 z37:=Tryz.sizeOf66
 v37:=Tryz.zeroValue66
 t46:=Tryz.underlying259
 a46:=Tryz.isAgg259
 z46:=Tryz.sizeOf259
 v46:=Tryz.zeroValue259
 t51:=Tryz.underlying295
 a51:=Tryz.isAgg295
 z51:=Tryz.sizeOf295
 v51:=Tryz.zeroValue295
 t53:=Tryz.underlying272
 a53:=Tryz.isAgg272
 z53:=Tryz.sizeOf272
 v53:=Tryz.zeroValue272
 t75:=Tryz.underlying210
 a75:=Tryz.isAgg210
 z75:=Tryz.sizeOf210
 v75:=Tryz.zeroValue210
 t76:=Tryz.underlying211
 a76:=Tryz.isAgg211
 z76:=Tryz.sizeOf211
 v76:=Tryz.zeroValue211
 t85:=Tryz.underlying286
 a85:=Tryz.isAgg286
 z85:=Tryz.sizeOf286
 v85:=Tryz.zeroValue286
 t127:=Tryz.underlying242
 a127:=Tryz.isAgg242
 z127:=Tryz.sizeOf242
 v127:=Tryz.zeroValue242
 t143:=Tryz.underlying311
 a143:=Tryz.isAgg311
 z143:=Tryz.sizeOf311
 v143:=Tryz.zeroValue311
 t145:=Tryz.underlying313
 a145:=Tryz.isAgg313
 z145:=Tryz.sizeOf313
 v145:=Tryz.zeroValue313
 t167:=Tryz.underlying285
 a167:=Tryz.isAgg285
 z167:=Tryz.sizeOf285
 v167:=Tryz.zeroValue285
 t168:=Tryz.underlying288
 a168:=Tryz.isAgg288
 z168:=Tryz.sizeOf288
 v168:=Tryz.zeroValue288
 t171:=Tryz.underlying271
 a171:=Tryz.isAgg271
 z171:=Tryz.sizeOf271
 v171:=Tryz.zeroValue271
 t173:=Tryz.underlying275
 a173:=Tryz.isAgg275
 z173:=Tryz.sizeOf275
 v173:=Tryz.zeroValue275
 t175:=Tryz.underlying303
 a175:=Tryz.isAgg303
 z175:=Tryz.sizeOf303
 v175:=Tryz.zeroValue303
 t210:=Tryz.underlying306
 a210:=Tryz.isAgg306
 z210:=Tryz.sizeOf306
 v210:=Tryz.zeroValue306
 t212:=Tryz.underlying294
 a212:=Tryz.isAgg294
 z212:=Tryz.sizeOf294
 v212:=Tryz.zeroValue294
 t213:=Tryz.underlying296
 a213:=Tryz.isAgg296
 z213:=Tryz.sizeOf296
 t232:=Tryz.underlying314
 a232:=Tryz.isAgg314
 z232:=Tryz.sizeOf314
 v232:=Tryz.zeroValue314
 t233:=Tryz.underlying315
 a233:=Tryz.isAgg315
 z233:=Tryz.sizeOf315
 v233:=Tryz.zeroValue315
 g15:=by kernel_rfl
 g16:=by kernel_rfl
 g17:=by kernel_rfl
 g18:=by kernel_rfl
 g19:=by kernel_rfl
 t80:=Tryz.underlying213
 a80:=Tryz.isAgg213
 z80:=Tryz.sizeOf213
 v80:=Tryz.zeroValue213
 i0:=by kernel_rfl
 i2:=by kernel_rfl
 i3:=by kernel_rfl
 i4:=by kernel_rfl
 i5:=by kernel_rfl
 i9:=by kernel_rfl
 i20:=by kernel_rfl
 i21:=by kernel_rfl
 i37:=by kernel_rfl
 i46:=by kernel_rfl
 i51:=by kernel_rfl
 i53:=by kernel_rfl
 i75:=by kernel_rfl
 i76:=by kernel_rfl
 i80:=by kernel_rfl
 i85:=by kernel_rfl
 i127:=by kernel_rfl
 i143:=by kernel_rfl
 i145:=by kernel_rfl
 i167:=by kernel_rfl
 i168:=by kernel_rfl
 i171:=by kernel_rfl
 i173:=by kernel_rfl
 i175:=by kernel_rfl
 i210:=by kernel_rfl
 i212:=by kernel_rfl
 i232:=by kernel_rfl
 i233:=by kernel_rfl
 m15:=by kernel_rfl
 m16:=by kernel_rfl
 m17:=by kernel_rfl
 m18:=by kernel_rfl
 m19:=by kernel_rfl
 c0:=by kernel_rfl
 c2:=by kernel_rfl
 c3:=by kernel_rfl
 c4:=by kernel_rfl
 c5:=by kernel_rfl
 c9:=by kernel_rfl
 c20:=by kernel_rfl
 c21:=by kernel_rfl
 c37:=by kernel_rfl
 c46:=by kernel_rfl
 c51:=by kernel_rfl
 c53:=by kernel_rfl
 c75:=by kernel_rfl
 c76:=by kernel_rfl
 c80:=by kernel_rfl
 c85:=by kernel_rfl
 c127:=by kernel_rfl
 c143:=by kernel_rfl
 c145:=by kernel_rfl
 c167:=by kernel_rfl
 c168:=by kernel_rfl
 c171:=by kernel_rfl
 c173:=by kernel_rfl
 c175:=by kernel_rfl
 c210:=by kernel_rfl
 c212:=by kernel_rfl
 c213:=by kernel_rfl
 c232:=by kernel_rfl
 c233:=by kernel_rfl }
end Go.Proofs
end

section
namespace Go.Proofs.YtbkgnekfigknhaaGreatDoor
open Go Go.RowKit Go.Mor Go.Sh
theorem zk:Tryz.prog.follows .mixedOrders=true:=by kernel_rfl
structure GlobN0(n:Nat)(w:World):Prop where
 u:GlobU w
 sz:n≤w.heap.size
 hv:8≤n
theorem zqu{w w':World}{n:Nat}(hn:8≤n)(h:Lib.Utf8Tabs 0 1 w)(hk:∀k,k<n→w'.heap[k]?=w.heap[k]?):Lib.Utf8Tabs 0 1 w':=by
 have hc:∀b o,b<n→w'.cell? ⟨b,o,none⟩=w.cell? ⟨b,o,none⟩:=fun b o hb=>World.cell?_of_block (w:=w) (a:=⟨b,o,none⟩) (hk b hb);refine⟨fun c hcc=> ?_,fun i hi=> ?_⟩
 ·rw[hc _ _ (by omega)];exact h.1 c hcc
 ·obtain⟨h1,h2⟩:=h.2 i hi;exact⟨by rw[hc _ _ (by omega)];exact h1,by rw[hc _ _ (by omega)];exact h2⟩
theorem zfd{w w':World}{n:Nat}(hv:8≤n)(h:GlobU w)(hk:∀k,k<n→w'.heap[k]?=w.heap[k]?):GlobU w':=by
 exact⟨zqu hv h.tabs hk⟩
theorem zi2{w w':World}{n:Nat}(hsz:n≤w.heap.size)(hk:∀k,k<n→w'.heap[k]?=w.heap[k]?):n≤w'.heap.size:=by
 rcases Nat.eq_zero_or_pos n with h0|h0
 ·omega
 ·have:=hk (n-1) (by omega);rw[Array.getElem?_eq_getElem (show n-1<w.heap.size by omega)]at this;have:=(gA this).1;omega
def gl0(n:Nat):Sh.Glob where
 G:=GlobN0 n
 n:=n
 st:=fun w w' h hk=>⟨zfd h.hv h.u hk,zi2 h.sz hk,h.hv⟩
 le:=fun w h=>h.sz
theorem zpc{P:Program}{g g':Sh.Glob}{f:Nat}{xs:List TV}{os:List MO}{y:TV}{os':List MO}(hn:g'.n=g.n)(hG:∀w,g'.G w→g.G w)(h:SCalls P g f xs os y os'):SCalls P g' f xs os y os':=
 ⟨h.1,fun w E vs h1 h2 h3 h4 h5=>h.2 w E vs (hG w h1) h2 (fun d b hb=>hn▸h3 d b hb) h4 h5⟩
theorem zlu{w:World}{E:Env}{r:Sh.Rows}(vs:List Value):RelT w E r (.tuple (vs.map fun v=> .pv (.v v))) (.tuple vs.toArray):=
 .tuple _ vs (by simp) (fun j c v hc hv=>by simp[hv]at hc;subst hc;exact .pv (.v v))
theorem z3u{P:Program}{g:Sh.Glob}{f:Nat}{vs:List Value}{y:TV}{v:Value}(hb:z3I P f)(hy:∀w E r,RelT w E r y v)(h:∀w,g.G w→Calls P f vs.toArray w fun e w'=>e=.returned v∧Below w.heap.size w w'):SCalls P g f (vs.map fun v=> .pv (.v v)) [] y []:=by
 refine⟨hb,fun w E us hG hm hX hl hr=> ?_⟩;have hus:us=vs:=by
  apply List.ext_getElem?;intro j;rcases Nat.lt_or_ge j us.length with hj|hj
  ·have hj':j<vs.length:=by simpa [←hl]using hj
   have:=hr j (.pv (.v vs[j])) us[j] (by simp[hj']) (gE hj);rw[gE hj,gE hj'];exact congrArg some (val_rel (y:=vs[j]) this rfl)
  ·rw[List.getElem?_eq_none hj,List.getElem?_eq_none (by simpa [←hl]using hj)]
 subst hus;refine(h w hG).mono ?_;rintro e w' ⟨rfl,hb⟩;refine⟨v,E,rfl,?_,hy _ _ _,⟨fun _ _ _=>rfl,fun _ _ _ _=>rfl,fun d e W n hd=>by obtain⟨j,_,hj⟩:=z0V hd;simp at hj⟩⟩;exact MSim.ext (s:=⟨fun _=>none,z0k [],zx [],fun _=>none⟩) hm hb E (fun _ _ h=>h) (fun _ _ h=> .inl h) (fun _ _=>⟨rfl,rfl⟩) (fun _ _ _=>rfl) (fun _ _=>⟨rfl,rfl⟩)
def I(x:Int):TV:=.pv (.v (.int .i64 x))
def S(s:ByteArray):TV:=.pv (.v (.string s))
theorem z1y{f:Nat}(h:(match Tryz.prog.funcs[f]? with|some fn=>fn.body.isSome&&fn.name != "runtime.NumGoroutine" |none=>false)=true):z3I Tryz.prog f:=by
 split at h
 ·rename_i fn hfn;rw[Bool.and_eq_true]at h;obtain⟨b,hb⟩:=Option.isSome_iff_exists.1 h.1;exact⟨fn,b,hfn,hb,by simpa using h.2⟩
 ·cases h
def zjk:z0n:=fun f xs os=>
 if Nat.beq f 185 then match xs,os with
  |[.pv (.v (.string s))],[]=>if decide (s.size≤9223372036854775807)then some (.pv (.v (.bool (Lib.validD s.data.toList))),[])else none
  |_,_=>none
 else if Nat.beq f 202 then match xs,os with
  |[.pv (.v (.string s))],[]=>some (.tuple [.pv (.v (.int .i32 (Lib.decodeGo s).1)),I (Lib.decodeGo s).2],[])
  |_,_=>none
 else none
theorem zgS(n:Nat):z4m Tryz.prog (gl0 n) zjk:=by
 intro f xs os y os' h;unfold zjk at h;split at h
 ·rename_i hf;obtain rfl:=Nat.eq_of_beq_eq_true hf;split at h<;>try(cases h;done)
  rename_i s;split at h<;>try(cases h;done)
  rename_i hx;cases h;exact z3u (vs:=[.string s]) (z1y (by kernel_rfl)) (fun w E r=> .pv (.v _)) (fun w hG=>Tryz.utf8_ValidString s w (by simpa using hx) hG.u.tabs)
 split at h
 ·rename_i hf;obtain rfl:=Nat.eq_of_beq_eq_true hf;split at h<;>try(cases h;done)
  rename_i s;cases h;exact z3u (vs:=[.string s]) (v:=.tuple #[.int .i32 (Lib.decodeGo s).1,.int .i64 (Lib.decodeGo s).2]) (z1y (by kernel_rfl)) (fun w E r=>zlu [_,_]) (fun w hG=>Tryz.utf8_DecodeRuneInString s w hG.u.tabs)
 ·cases h
end Go.Proofs.YtbkgnekfigknhaaGreatDoor
end

section
namespace Go.Sh
open Go Go.RowKit
section
def noC:z0n:=fun _ _ _=>none
theorem z8L(P:Program)(g:Glob):z4m P g noC:=fun f xs os y os' h=>by cases h
def SOp.isCall:SOp→Bool| .call .. | .callv .. =>true|_=>false
theorem zpF{P:Program}{C:z0n}{dst:Option Nat}{o:SOp}(h:o.isCall=false)(s:FS):eff P C dst o s=eff P noC dst o s:=by
 cases o<;>first|rfl|cases h
theorem zeY{P:Program}{C:z0n}{o:SOper}(h:o.op.isCall=false)(s:FS):effG P C o s=effG P noC o s:=by
 unfold effG effF;rw[zpF h]
def z3Q(P:Program)(o:SOper)(K:ES→Prop)(s:ES):Option (TV×Upd)→Prop
 |some e=>K (s.after o e)
 |none=>False
section
variable{P:Program}{g:Glob}{o:SOper}{l:List SOper}{K:ES→Prop}{s:ES}
theorem zq8(h:o.op.isCall=false):zQ P g (o::l) K s ↔ z3Q P o (zQ P g l K) s (effG P noC o s.fs):=by
 constructor
 ·rintro⟨C,hC,e,he,hk⟩;rw[zeY h]at he;rw[he];exact hk
 ·intro hk;cases he:effG P noC o s.fs with
  |none=>rw[he]at hk;exact hk.elim
  |some e=>rw[he]at hk;exact⟨noC,z8L P g,e,he,hk⟩
def z7u(P:Program)(g:Glob)(k f m:Nat)(s:FS)(K:TV→Upd→Prop):Option (List TV)→Prop
 |none=>False
 |some args=>∃I,I=handI s m args∧∃xs' os,seqO (TV.ren2 (rhoIn I)) args=some xs'∧seqO (fun d=>(s.mo d).bind (MO.ren (rhoIn I))) I=some os∧
   ∃y os',SCalls P g f xs' os y os'∧moOk os os'=true∧∃y' us,y.ren3 (rhoOut I k)=some y'∧outs (rhoOut I k) 0 os'=some us∧K y' (.mem us)
open Classical in
noncomputable def zjS(f:Nat)(xs:List TV)(os:List MO)(r:TV×List MO):z0n:=fun f' xs' os'=>if f'=f∧xs'=xs∧os'=os then some r else none
theorem zjT{f:Nat}{xs:List TV}{os os':List MO}{y:TV}(h:SCalls P g f xs os y os'):z4m P g (zjS f xs os (y,os')):=by
 intro f' xs' os2 y' os3 h'
 grind [zjS]
theorem zbh{k f m:Nat}{s:FS}{K:TV→Upd→Prop}{args:List TV}(h:z7u P g k f m s K (some args)):∃C,z4m P g C∧∃y' u,z2B C s k f m args=some (y',u)∧K y' u:=by
 obtain⟨I,rfl,xs',os,h1,h2,y,os',hc,hmo,y',us,h3,h4,hk⟩:=h;refine⟨zjS f xs' os (y,os'),zjT hc,y',.mem us,?_,hk⟩
 grind [z2B,handI,only,zjS]
theorem zli{dst:Option Nat}{f m:Nat}{xs:List Arg}(h:z7u P g (dstId dst) f m s.fs (fun y u=>zQ P g l K (s.after ⟨dst,none,none,.call f m xs⟩ (y,u))) (seqO (fun x:Arg=>x.get s.fs) xs)):zQ P g (⟨dst,none,none,.call f m xs⟩::l) K s:=by
 cases hx:seqO (fun x:Arg=>x.get s.fs) xs with
 |none=>rw[hx]at h;exact h.elim
 |some args=>
  rw[hx]at h;obtain⟨C,hC,y',u,he,hk⟩:=zbh h;exact⟨C,hC,(y',u),by simp only[effG,effF,footOk,eff,hx,Option.bind_some,he],hk⟩
def zqT(P:Program)(g:Glob)(k m:Nat)(s:FS)(K:TV→Upd→Prop):Option (Nat×List TV×List TV)→Option (List TV)→Prop
 |some (f,fa,fb),some vs=>z7u P g k f m s K (some (fa++vs++fb))
 |_,_=>False
theorem zjb{dst:Option Nat}{m:Nat}{x:Arg}{xs:List Arg}(h:zqT P g (dstId dst) m s.fs (fun y u=>zQ P g l K (s.after ⟨dst,none,none,.callv x m xs⟩ (y,u))) ((x.get s.fs).bind TV.callee) (seqO (fun x:Arg=>x.get s.fs) xs)):zQ P g (⟨dst,none,none,.callv x m xs⟩::l) K s:=by
 cases hc:(x.get s.fs).bind TV.callee with
 |none=>rw[hc]at h;exact h.elim
 |some c=>
  obtain⟨f,fa,fb⟩:=c;cases hx:seqO (fun x:Arg=>x.get s.fs) xs with
  |none=>rw[hc,hx]at h;exact h.elim
  |some vs=>
   rw[hc,hx]at h;have h':z7u P g (dstId dst) f m s.fs (fun y u=>zQ P g l K (s.after ⟨dst,none,none,.callv x m xs⟩ (y,u))) (some (fa++vs++fb)):=h;obtain⟨C,hC,y',u,he,hk⟩:=zbh h';exact⟨C,hC,(y',u),by simp only[effG,effF,footOk,eff,hc,hx,he],hk⟩
end
def exitR(res:List SRes)(keep:Bool)(n:Nat)(s:ES):Option (TV×List MO):=exitF ⟨0,.skip,res,keep⟩ n s
theorem z9t(F:SFunc)(n:Nat)(s:ES):exitF F n s=exitR F.res F.keep n s:=rfl
def PostR(res:List SRes)(keep:Bool)(n:Nat)(y:TV)(os':List MO):SExit→ES→Prop
 | .ret,s| .normal,s=>exitR res keep n s=some (y,os')
 | .exit _,_| .pan _,_=>False
theorem z9r{P:Program}{g:Glob}{f:Nat}{H:Nat→Option Nat→Nat}{Fp:Nat→List (Nat→Option Nat)}{K:Nat→List Nat}{keep:Bool}{F:SFunc}(zk:P.follows .mixedOrders=true)(hF:zU P f H Fp K keep=some F){xs:List TV}{os os':List MO}{y:TV}(hn:Nat.ble xs.length F.N=true)(hos:Nat.ble os.length 1000=true)(hmo:moOk os os'=true)
  (h:swp P g F.code (PostR F.res F.keep os.length y os') (startE xs os)):SCalls P g f xs os y os':=
 zgB zk hF (Nat.le_of_ble_eq_true hn) (Nat.le_of_ble_eq_true hos) hmo (z1c h fun e s he=>by
  cases e with
  |normal=>exact⟨.inr rfl,by rw[z9t];exact he⟩
  |ret=>exact⟨.inl rfl,by rw[z9t];exact he⟩
  |exit id=>exact he.elim
  |pan z=>exact he.elim)
def ansW(y:TV):Option TV→Prop
 |some y0=>y0.ids3=[]∧y0.ren3 (rhoIn [])=some y
 |none=>False
def Post0(res:List SRes)(y:TV):SExit→ES→Prop
 | .ret,s| .normal,s=>ansW y (resT s.fs res)
 | .exit _,_| .pan _,_=>False
theorem z7v{P:Program}{g:Glob}{f:Nat}{H:Nat→Option Nat→Nat}{Fp:Nat→List (Nat→Option Nat)}{K:Nat→List Nat}{keep:Bool}{F:SFunc}(zk:P.follows .mixedOrders=true)(hF:zU P f H Fp K keep=some F){xs:List TV}{y:TV}(hn:Nat.ble xs.length F.N=true)
  (h:swp P g F.code (Post0 F.res y) (startE xs [])):SCalls P g f xs [] y []:=by
 have key:∀s,ansW y (resT s.fs F.res)→exitR F.res F.keep 0 s=some (y,[]):=by
  intro s he;cases hr:resT s.fs F.res with
  |none=>rw[hr]at he;exact he.elim
  |some y0=>
   rw[hr]at he;obtain⟨h1,h2⟩:=he;simp[exitR,exitF,hr,idsFrom,h1,zA,h2,seqO]
 refine z9r zk hF hn rfl rfl (z1c h fun e s he=> ?_);cases e with
 |normal=>exact key s he
 |ret=>exact key s he
 |exit id=>exact he.elim
 |pan z=>exact he.elim
section
variable(P:Program)(t:TypeId)(k:IntKind)(a b:Int)(x y:ByteArray)
theorem bin_lss:z04 P (do eqGuard .lss t (.const (.int k a)) (.const (.int k b)) (.int k a) (.int k b);binOp .lss t (.int k a) (.int k b))=some (.pv (.v (.bool (decide (a<b)))),.no):=by simp[z04,eqGuard,binOp,Op.intCmp];rfl
theorem bin_gtr:z04 P (do eqGuard .gtr t (.const (.int k a)) (.const (.int k b)) (.int k a) (.int k b);binOp .gtr t (.int k a) (.int k b))=some (.pv (.v (.bool (decide (b<a)))),.no):=by simp[z04,eqGuard,binOp,Op.intCmp];rfl
theorem bin_leq:z04 P (do eqGuard .leq t (.const (.int k a)) (.const (.int k b)) (.int k a) (.int k b);binOp .leq t (.int k a) (.int k b))=some (.pv (.v (.bool (decide (a≤b)))),.no):=by simp[z04,eqGuard,binOp,Op.intCmp];rfl
theorem bin_geq:z04 P (do eqGuard .geq t (.const (.int k a)) (.const (.int k b)) (.int k a) (.int k b);binOp .geq t (.int k a) (.int k b))=some (.pv (.v (.bool (decide (b≤a)))),.no):=by simp[z04,eqGuard,binOp,Op.intCmp];rfl
theorem bin_eql:z04 P (do eqGuard .eql t (.const (.int k a)) (.const (.int k b)) (.int k a) (.int k b);binOp .eql t (.int k a) (.int k b))=some (.pv (.v (.bool (decide (a=b)))),.no):=by
 simp[z04,eqGuard,binOp,Op.intCmp];rfl
theorem bin_neq:z04 P (do eqGuard .neq t (.const (.int k a)) (.const (.int k b)) (.int k a) (.int k b);binOp .neq t (.int k a) (.int k b))=some (.pv (.v (.bool (!decide (a=b)))),.no):=by simp[z04,eqGuard,binOp,Op.intCmp];rfl
theorem bin_add:z04 P (do eqGuard .add t (.const (.int k a)) (.const (.int k b)) (.int k a) (.int k b);binOp .add t (.int k a) (.int k b))=some (.pv (.v (.int k (k.wrap (a+b)))),.no):=by simp[z04,eqGuard,binOp,Op.intArith];rfl
theorem bin_sub:z04 P (do eqGuard .sub t (.const (.int k a)) (.const (.int k b)) (.int k a) (.int k b);binOp .sub t (.int k a) (.int k b))=some (.pv (.v (.int k (k.wrap (a-b)))),.no):=by simp[z04,eqGuard,binOp,Op.intArith];rfl
theorem bin_mul:z04 P (do eqGuard .mul t (.const (.int k a)) (.const (.int k b)) (.int k a) (.int k b);binOp .mul t (.int k a) (.int k b))=some (.pv (.v (.int k (k.wrap (a*b)))),.no):=by simp[z04,eqGuard,binOp,Op.intArith];rfl
theorem zpu(hb:b≠0):z04 P (do eqGuard .quo t (.const (.int k a)) (.const (.int k b)) (.int k a) (.int k b);binOp .quo t (.int k a) (.int k b))=some (.pv (.v (.int k (k.wrap (a.tdiv b)))),.no):=by simp[z04,eqGuard,binOp,Op.intDiv,hb];rfl
theorem zpv(hb:b≠0):z04 P (do eqGuard .rem t (.const (.int k a)) (.const (.int k b)) (.int k a) (.int k b);binOp .rem t (.int k a) (.int k b))=some (.pv (.v (.int k (a.tmod b))),.no):=by simp[z04,eqGuard,binOp,Op.intDiv,hb];rfl
theorem sbin_eql:z04 P (do eqGuard .eql t (.const (.string x)) (.const (.string y)) (.string x) (.string y);binOp .eql t (.string x) (.string y))=some (.pv (.v (.bool (x.toList==y.toList))),.no):=by simp[z04,eqGuard,binOp,Op.stringOp];rfl
theorem sbin_neq:z04 P (do eqGuard .neq t (.const (.string x)) (.const (.string y)) (.string x) (.string y);binOp .neq t (.string x) (.string y))=some (.pv (.v (.bool (!(x.toList==y.toList)))),.no):=by simp[z04,eqGuard,binOp,Op.stringOp];rfl
theorem sbin_lss:z04 P (do eqGuard .lss t (.const (.string x)) (.const (.string y)) (.string x) (.string y);binOp .lss t (.string x) (.string y))=some (.pv (.v (.bool (Op.bytesLess x.toList y.toList))),.no):=by simp[z04,eqGuard,binOp,Op.stringOp];rfl
theorem sbin_gtr:z04 P (do eqGuard .gtr t (.const (.string x)) (.const (.string y)) (.string x) (.string y);binOp .gtr t (.string x) (.string y))=some (.pv (.v (.bool (!(Op.bytesLess x.toList y.toList||x.toList==y.toList)))),.no):=by simp[z04,eqGuard,binOp,Op.stringOp];rfl
theorem zo6(h:x.size+y.size≤9223372036854775807):z04 P (do eqGuard .add t (.const (.string x)) (.const (.string y)) (.string x) (.string y);binOp .add t (.string x) (.string y))=some (.pv (.v (.string (x++y))),.no):=by
 have hm:IntKind.i64.max=9223372036854775807:=by rfl
 have h':¬(((x.size+y.size:Nat):Int)>IntKind.i64.max):=by omega
 simp only[z04,eqGuard,binOp,Op.stringOp,h',if_false];rfl
theorem un_neg:z04 P (Op.unary .neg (.int k a))=some (.pv (.v (.int k (k.wrap (0-a)))),.no):=rfl
theorem un_not(q:Bool):z04 P (Op.unary .not (.bool q))=some (.pv (.v (.bool (!q))),.no):=rfl
end
theorem nbeq(a b:Nat):Nat.beq a b=(a==b):=by
 grind [Nat.beq,Nat.eq_of_beq_eq_true,Nat.beq_refl]
theorem nble(a b:Nat):Nat.ble a b=decide (a≤b):=by
 grind [Nat.ble,Nat.le_of_ble_eq_true,Nat.ble_eq_true_of_le]
theorem nblt(a b:Nat):Nat.blt a b=decide (a<b):=by grind [Nat.blt,nble]
theorem bFT:(false==true)=false:=rfl
theorem bTF:(true==false)=false:=rfl
theorem wrap64{x:Int}(h0: -9223372036854775808≤x)(h1:x≤9223372036854775807):IntKind.i64.wrap x=x:=by rw[IntKind.wrap_i64];omega
section
variable{P:Program}{g:Glob}{a b c:SCode}{Q:SExit→ES→Prop}{s s':ES}{n kill:List Nat}{l:List SOper}{r:List (List Nat×List SOper)}
def z7p(P:Program)(g:Glob)(a:SCode)(Q:SExit→ES→Prop):Nat→ES→Prop
 |0,_=>False
 |k+1,s=>swp P g a (z2y (z7p P g a Q k) Q) s
theorem z3y(k:Nat)(h:z7p P g a Q k s):swp P g (.loop a) Q s:=by
 refine⟨fun n s=>z7p P g a Q n s,k,⟨s,.refl s,h⟩,fun n s h=> ?_⟩;cases n with
 |zero=>exact h.elim
 |succ n=>
  refine z1c (c:=a) h (fun e s he=> ?_);cases e with
  |normal=>exact⟨n,Nat.lt_succ_self n,s,.refl s,he⟩
  |exit id=>exact he
  |ret=>exact he
  |pan z=>exact he
theorem zsb{K:ES→Prop}{dst:Option Nat}{f m:Nat}{xs:List Arg}{args xs':List TV}{I:List Nat}{os os':List MO}{y y':TV}{us:List (Nat×MO)}(hx:seqO (fun x:Arg=>x.get s.fs) xs=some args)(hI:handI s.fs m args=I)(h1:seqO (TV.ren2 (rhoIn I)) args=some xs')
  (h2:seqO (fun d=>(s.fs.mo d).bind (MO.ren (rhoIn I))) I=some os) (hc:SCalls P g f xs' os y os') (hmo:moOk os os'=true) (h3:y.ren3 (rhoOut I (dstId dst))=some y') (h4:outs (rhoOut I (dstId dst)) 0 os'=some us) (hs:s.after ⟨dst,none,none,.call f m xs⟩ (y',.mem us)=s') (hk:zQ P g l K s'):
  zQ P g (⟨dst,none,none,.call f m xs⟩::l) K s:=by
 refine zli ?_;rw[hx];exact⟨I,hI.symm,xs',os,h1,h2,y,os',hc,hmo,y',us,h3,h4,by rw[←hs]at hk;exact hk⟩
end
end
end Go.Sh
end

section
namespace Go.Sh
open Go Go.RowKit
section
variable{P:Program}{g:Glob}{b:SCode}{Q:SExit→ES→Prop}{s s':ES}{n kill:List Nat}{l:List SOper}{r:List (List Nat×List SOper)}
end
def Wk(x y:TV):Prop:=∀w E r v,RelT w E r x v→RelT w E r y v
theorem Wk.refl(x:TV):Wk x x:=fun _ _ _ _ h=>h
theorem Wk.trans{x y z:TV}(h:Wk x y)(h':Wk y z):Wk x z:=fun w E r v hr=>h' w E r v (h w E r v hr)
theorem z3z(W:Nat):Wk (.pv (.v (.slice none 0 0))) (.pv (.sl W [])):=by
 intro w E r v h;cases h with
 |pv h=>
  cases h with
  |v x=>exact .pv (.sl W [] 0 0 0 none (fun _ _=>undef) (by simp) (by simp) (by simp) (by simp) (by simp) (by simp))
theorem z9m{cs ds:List TV}(hl:cs.length=ds.length)(h:∀(j:Nat) c d,cs[j]?=some c→ds[j]?=some d→Wk c d):Wk (.agg cs) (.agg ds):=by
 intro w E r v hr;cases hr with
 |agg cs vs hl' hv ho=>
  refine .agg ds vs (hl▸hl') (fun j d v hd hv'=> ?_) ho;have hj:j<cs.length:=by
   grind
  exact h j _ d (gE hj) hd w E r v (hv j _ v (gE hj) hv')
theorem SCalls.out{P:Program}{g:Glob}{f:Nat}{xs:List TV}{os os':List MO}{y y':TV}(h:SCalls P g f xs os y os')(hw:Wk y y'):SCalls P g f xs os y' os':=
 ⟨h.1,fun w E vs hG hm hX hl hr=>(h.2 w E vs hG hm hX hl hr).mono (by
  rintro e w' ⟨v,E',h1,h2,h3,h4⟩;exact⟨v,E',h1,h2,hw _ _ _ _ h3,h4⟩)⟩
theorem SCalls.inp{P:Program}{g:Glob}{f:Nat}{xs xs':List TV}{os os':List MO}{y:TV}(h:SCalls P g f xs' os y os')(hl:xs.length=xs'.length)(hw:∀(j:Nat) c d,xs[j]?=some c→xs'[j]?=some d→Wk c d):SCalls P g f xs os y os':=
 ⟨h.1,fun w E vs hG hm hX hl' hr=>h.2 w E vs hG hm hX (hl▸hl') (fun j d v hd hv=>by
  have hj:j<xs.length:=by
   grind
  exact hw j _ d (gE hj) hd w E _ v (hr j _ v (gE hj) hv))⟩
end Go.Sh
namespace Go.Sh
open Go Go.RowKit
theorem zbU{s:FS}:∀(f:Nat) (l:List Nat),(∀d∈l,s.b d=none)→zA s false f l []=[]
 |0,_,_=>by simp[zA]
 |_+1,[],_=>by simp[zA]
 |f+1,d::l,h=>by
  have h1:=h d (by simp);simp only[zA,pos,h1];have ih:=zbU f l (fun e he=>h e (by simp[he]))
  grind
def ansW1(s:ES)(y:TV):Option TV→Prop
 |some y0=>(y0.ids3.all fun d=>(s.fs.b d).isNone)=true∧y0.ren3 (rhoIn [])=some y
 |none=>False
def Post1(res:List SRes)(y:TV):SExit→ES→Prop
 | .ret,s| .normal,s=>ansW1 s y (resT s.fs res)
 | .exit _,_| .pan _,_=>False
theorem zeK{P:Program}{g:Glob}{f:Nat}{H:Nat→Option Nat→Nat}{Fp:Nat→List (Nat→Option Nat)}{K:Nat→List Nat}{F:SFunc}(zk:P.follows .mixedOrders=true)(hF:zU P f H Fp K false=some F)(hk:F.keep=false){xs:List TV}{y:TV}(hn:Nat.ble xs.length F.N=true)
  (h:swp P g F.code (Post1 F.res y) (startE xs [])):SCalls P g f xs [] y []:=by
 have key:∀s,ansW1 s y (resT s.fs F.res)→exitR F.res F.keep 0 s=some (y,[]):=by
  intro s he;cases hr:resT s.fs F.res with
  |none=>rw[hr]at he;exact he.elim
  |some y0=>
   rw[hr]at he;obtain⟨h1,h2⟩:=he;have h3:zA s.fs false 64 y0.ids3 []=[]:=zbU 64 _ (fun d hd=>by simpa using List.all_eq_true.1 h1 d hd)
   grind [exitR,exitF,idsFrom,seqO]
 refine z9r zk hF hn rfl rfl (z1c h fun e s he=> ?_);cases e with
 |normal=>exact key s he
 |ret=>exact key s he
 |exit id=>exact he.elim
 |pan z=>exact he.elim
end Go.Sh
namespace Go.Sh
open Go Go.RowKit
theorem zrH{α:Type}(P:Program)(c:Prop)[Decidable c](a b:Sem α):zr P (if c then a else b)=if c then zr P a else zr P b:=by grind
theorem z9L{α:Type}(P:Program)(a:α):zr P (pure a)=some a:=rfl
theorem zjj(P:Program):zr P program=some P:=rfl
theorem z2n{P:Program}(d:Nat)(t:TypeId)(xs ys:Array Value)(ht:zr P (underlying t)=some (.struct (P.fieldsOf t)))(hp:P.stoodInHeld t=false):
  zr P (Op.equalIn (d+1) t (.agg xs) (.agg ys))=zr P (Op.eqFields d xs ys (P.fieldsOf t).toList):=by
 simp only[Op.equalIn,z01,ht,Option.bind_some,zjj,hp,Bool.false_eq_true,if_false];rw[←Array.forIn_toList];generalize(P.fieldsOf t).toList=fs
 induction fs with
 |nil=>simp[Op.eqFields,z9L]
 |cons f fs ih=>
  simp only[List.forIn_cons,Op.eqFields,z01,zrH];split
  ·generalize zr P (part f.type xs f.offset)=r1;cases r1 with
   |none=>rfl
   |some a=>
    generalize zr P (part f.type ys f.offset)=r2;cases r2 with
    |none=>rfl
    |some b=>
     simp only[Option.bind_some];generalize zr P (Op.equalIn d f.type a b)=r3;cases r3 with
     |none=>rfl
     |some r=>
      cases r
      ·simp only[Option.bind_some,Bool.not_false,if_true,z9L]
      ·simp only[Option.bind_some,Bool.not_true,Bool.false_eq_true,if_false,z9L];exact ih
  ·simp only[z9L,Option.bind_some];exact ih
end Go.Sh
end

section
namespace Go.Mor
def z40(r:Nat):Bool:=decide (32≤r)&&r !=127
def z60:Nat→zB→Bool
 |0,_=>true
 |n+1,l=>if l=[] then true else z40 (Lib.decodeL l).1&&z60 n (l.drop (Lib.decodeL l).2)
def z39(l:zB):Bool:=z60 l.length l
theorem zfM:∀(n:Nat) (l:zB),l.length≤n→z60 n l=z39 l:=by
 intro n
 induction n using Nat.strongRecOn with
 |_ n ih=>
  intro l hl;unfold z39;cases l with
  |nil=>cases n<;>simp[z60]
  |cons b t=>
   obtain⟨m,rfl⟩:∃m,n=m+1:=⟨n-1,by simp at hl;omega⟩
   have hw:=Lib.decodeL_width (b::t);simp only[z60,List.length_cons,reduceCtorEq,if_false]
   grind
theorem z5i(l:zB)(hne:l≠[]):z39 l=(z40 (Lib.decodeL l).1&&z39 (l.drop (Lib.decodeL l).2)):=by
 cases l with
 |nil=>grind
 |cons b t=>
  have hw:=Lib.decodeL_width (b::t)
  conv=>lhs;unfold z39
  simp only[z60,List.length_cons,reduceCtorEq,if_false]
  grind [zfM]
def zi(s:zB):Bool:=decide (s.length≤60)&&(Lib.validD s&&z39 s)
def z2J(n:Int):Bool:=decide (1≤n∧n≤100000∨ -20≤n∧n≤ -1)
def bare(x:V):Bool:=x.s==[]&&x.l.length==0
def z15(x:V):Bool:=
 if x.k=0 then bare x&&x.n==0
 else if x.k=1 then bare x&&decide (-1000000000000000≤x.n)&&decide (x.n≤1000000000000000)
 else if x.k=2 then x.n==0&&x.l.length==0&&zi x.s
 else if x.k=3∨x.k=4 then bare x&&z2J x.n
 else false
def z36(x:V):Bool:=x.k==5|| !z15 x
def z1f(x:V):Bool:=
 if x.k=5 then x.n==0&&x.s==[]&&decide (x.l.length≤12)&& !x.l.any z36 else z15 x
structure Ty where
 k:Int
 o:Int
def zg(t:Ty):Bool:=if t.k=5 then decide (1≤t.o∧t.o≤4)else decide (1≤t.k∧t.k≤4∧t.o=0)
def z0U(x:V)(k:Int):Bool:=x.k==k||(x.k==0&&(k==3||k==4))
def zI(x:V)(t:Ty):Bool:=z1f x&&zg t&&z0U x t.k&& !x.l.any (fun y=> !z0U y t.o)
def z5k(t:Ty):V:=if !zg t||t.k==3||t.k==4 then V.nil else .mk t.k 0 [] []
end Go.Mor
end
