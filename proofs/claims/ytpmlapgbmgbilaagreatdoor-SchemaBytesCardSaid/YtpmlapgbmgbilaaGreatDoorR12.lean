/- Merged texts: Shelf Pr0 S17 S18 Plain Pcm Dt By. No statement of the program is proved here. -/
import Derived.Test.YtpmlapgbmgbilaaGreatDoorR11
import Derived.Shelf.LaysM
import Derived.Shelf.Strconv.Itoa3
import Derived.Shelf.Strings.Search3
import Derived.Shelf.Small.Utf8
import Derived.Shelf.LaysC
import Derived.Shelf.Unicode.DecodeAny
import Derived.Shelf.Unicode.ValidAny
import Derived.Shelf.Small.Wraps
import Derived.Laws.StructEq
import Derived.Lib.ValidU
import Derived.Lib.TrimUEq
import Derived.Lib.ValidLaws
set_option linter.unusedSimpArgs false
set_option linter.unusedVariables false
set_option maxRecDepth 100000
set_option maxHeartbeats 8000000
section
namespace Go.Proofs
open Go.Shelf
def Tryz.laysValid_ren:Go.Shelf.Ren:=⟨fun|196=>213|259=>234|n=>n,fun|9=>9|4=>4|3=>3|5=>5|12=>12|119=>298|0=>0|46=>302|139=>301|138=>300|53=>173|n=>n,fun|3=>2|4=>3|n=>n⟩
theorem Tryz.laysValid:Go.Proofs.Lays.n196 Tryz.prog Tryz.laysValid_ren:={
 mixed:=by kernel_rfl
 f196:=Tryz.func213.trans (congrArg some (by kernel_rfl))
 f259:=Tryz.func234.trans (congrArg some (by kernel_rfl))
 t0:=Tryz.underlying0
 a0:=Tryz.isAgg0
 z0:=Tryz.sizeOf0
 v0:=Tryz.zeroValue0
 t3:=Tryz.underlying3
 a3:=Tryz.isAgg3
 z3:=Tryz.sizeOf3
 v3:=Tryz.zeroValue3
 t4:=Tryz.underlying4
 a4:=Tryz.isAgg4
 z4:=Tryz.sizeOf4
 v4:=Tryz.zeroValue4
 t5:=Tryz.underlying5
 a5:=Tryz.isAgg5
 z5:=Tryz.sizeOf5
 v5:=Tryz.zeroValue5
 t9:=Tryz.underlying9
 a9:=Tryz.isAgg9
 z9:=Tryz.sizeOf9
 v9:=Tryz.zeroValue9
 t12:=Tryz.underlying12
 a12:=Tryz.isAgg12
 z12:=Tryz.sizeOf12
 v12:=Tryz.zeroValue12
 t46:=Tryz.underlying302
 a46:=Tryz.isAgg302
 z46:=Tryz.sizeOf302
 v46:=Tryz.zeroValue302
 t53:=Tryz.underlying173
 a53:=Tryz.isAgg173
 z53:=Tryz.sizeOf173
 v53:=Tryz.zeroValue173
 t119:=Tryz.underlying298
 a119:=Tryz.isAgg298
 z119:=Tryz.sizeOf298
 t138:=Tryz.underlying300
 a138:=Tryz.isAgg300
 z138:=Tryz.sizeOf300
 v138:=Tryz.zeroValue300
 t139:=Tryz.underlying301
 a139:=Tryz.isAgg301
 z139:=Tryz.sizeOf301
 v139:=Tryz.zeroValue301
 g3:=by kernel_rfl
 g4:=by kernel_rfl }
open Go.RowKit Go.Lib in
theorem Tryz.utf8_ValidString(s:ByteArray)(w:World)(hs:s.size≤9223372036854775807)(hT:Lib.Utf8Tabs 2 3 w):
  Calls Tryz.prog 213 #[.string s] w fun e w'=>e=.returned (.bool (Lib.validD s.data.toList))∧Below w.heap.size w w':=Any.utf8_ValidString Tryz.laysValid s w hs hT
def Tryz.laysM171_ren:Go.Shelf.Ren:=⟨fun|171=>195|243=>219|246=>237|283=>248|284=>249|285=>250|286=>251|129=>262|317=>261|318=>263|319=>264|320=>265|337=>269|338=>270|n=>n,fun|3=>3|9=>9|2=>2|4=>4|171=>308|0=>0|53=>173|37=>96|5=>5|173=>311|212=>323|51=>319|20=>20|213=>324|46=>302|232=>337|233=>338|n=>n,fun|17=>5|18=>8|19=>9|n=>n⟩
theorem Tryz.laysM171:Go.Proofs.LaysM.n171 Tryz.prog Tryz.laysM171_ren:={
 mixed:=by kernel_rfl
 f129:=Tryz.func262.trans (congrArg some (by kernel_rfl))
 f171:=Tryz.func195.trans (congrArg some (by kernel_rfl))
 f243:=Tryz.func219.trans (congrArg some (by kernel_rfl))
 f246:=Tryz.func237.trans (congrArg some (by kernel_rfl))
 f283:=Tryz.func248.trans (congrArg some (by kernel_rfl))
 f284:=Tryz.func249.trans (congrArg some (by kernel_rfl))
 f285:=Tryz.func250.trans (congrArg some (by kernel_rfl))
 f286:=Tryz.func251.trans (congrArg some (by kernel_rfl))
 f317:=Tryz.func261.trans (congrArg some (by kernel_rfl))
 f318:=Tryz.func263.trans (congrArg some (by kernel_rfl))
 f319:=Tryz.func264.trans (congrArg some (by kernel_rfl))
 f320:=Tryz.func265.trans (congrArg some (by kernel_rfl))
 f337:=Tryz.func269.trans (congrArg some (by kernel_rfl))
 f338:=Tryz.func270.trans (congrArg some (by kernel_rfl))
 t0:=Tryz.underlying0
 a0:=Tryz.isAgg0
 z0:=Tryz.sizeOf0
 v0:=Tryz.zeroValue0
 t2:=Tryz.underlying2
 a2:=Tryz.isAgg2
 z2:=Tryz.sizeOf2
 v2:=Tryz.zeroValue2
 t3:=Tryz.underlying3
 a3:=Tryz.isAgg3
 z3:=Tryz.sizeOf3
 v3:=Tryz.zeroValue3
 t4:=Tryz.underlying4
 a4:=Tryz.isAgg4
 z4:=Tryz.sizeOf4
 v4:=Tryz.zeroValue4
 t5:=Tryz.underlying5
 a5:=Tryz.isAgg5
 z5:=Tryz.sizeOf5
 v5:=Tryz.zeroValue5
 t9:=Tryz.underlying9
 a9:=Tryz.isAgg9
 z9:=Tryz.sizeOf9
 v9:=Tryz.zeroValue9
 t20:=Tryz.underlying20
 a20:=Tryz.isAgg20
 z20:=Tryz.sizeOf20
 v20:=Tryz.zeroValue20
 t37:=Tryz.underlying96
 a37:=Tryz.isAgg96
 z37:=Tryz.sizeOf96
 v37:=Tryz.zeroValue96
 t46:=Tryz.underlying302
 a46:=Tryz.isAgg302
 z46:=Tryz.sizeOf302
 v46:=Tryz.zeroValue302
 t51:=Tryz.underlying319
 a51:=Tryz.isAgg319
 z51:=Tryz.sizeOf319
 v51:=Tryz.zeroValue319
 t53:=Tryz.underlying173
 a53:=Tryz.isAgg173
 z53:=Tryz.sizeOf173
 v53:=Tryz.zeroValue173
 t171:=Tryz.underlying308
 a171:=Tryz.isAgg308
 z171:=Tryz.sizeOf308
 v171:=Tryz.zeroValue308
 t173:=Tryz.underlying311
 a173:=Tryz.isAgg311
 z173:=Tryz.sizeOf311
 v173:=Tryz.zeroValue311
 t212:=Tryz.underlying323
 a212:=Tryz.isAgg323
 z212:=Tryz.sizeOf323
 v212:=Tryz.zeroValue323
 t213:=Tryz.underlying324
 a213:=Tryz.isAgg324
 z213:=Tryz.sizeOf324
 t232:=Tryz.underlying337
 a232:=Tryz.isAgg337
 z232:=Tryz.sizeOf337
 v232:=Tryz.zeroValue337
 t233:=Tryz.underlying338
 a233:=Tryz.isAgg338
 z233:=Tryz.sizeOf338
 v233:=Tryz.zeroValue338
 g17:=by kernel_rfl
 g18:=by kernel_rfl
 g19:=by kernel_rfl
 i0:=by kernel_rfl
 i2:=by kernel_rfl
 i3:=by kernel_rfl
 i4:=by kernel_rfl
 i5:=by kernel_rfl
 i9:=by kernel_rfl
 i20:=by kernel_rfl
 i37:=by kernel_rfl
 i46:=by kernel_rfl
 i51:=by kernel_rfl
 i53:=by kernel_rfl
 i171:=by kernel_rfl
 i173:=by kernel_rfl
 i212:=by kernel_rfl
 i232:=by kernel_rfl
 i233:=by kernel_rfl
 m17:=by kernel_rfl
 m18:=by kernel_rfl
 m19:=by kernel_rfl }
open Go.RowKit Go.Lib in
theorem Tryz.strconv_Itoa(n:Int)(h0: -9223372036854775808≤n)(h1:n≤9223372036854775807)(w:World)(htab:Lib.TabIs Tryz.prog w "internal/strconv.uint64pow10" .u64 Lib.pow10Tab):
  Calls Tryz.prog 195 #[.int .i64 n] w fun e w'=>e=.returned (.string ⟨(Lib.itoa n).toArray⟩)∧∃k os,w'=Go.Sort.grow (w.drewN k) os:=Any.strconv_Itoa Tryz.laysM171 n h0 h1 w htab
def Tryz.lays143_ren:Go.Shelf.Ren:=⟨fun|143=>218|219=>236|217=>244|225=>245|224=>246|267=>247|266=>259|314=>260|n=>n,fun|9=>9|3=>3|4=>4|5=>5|46=>302|146=>320|51=>319|n=>n,fun|1=>4|n=>n⟩
theorem Tryz.lays143:Go.Proofs.Lays.n143 Tryz.prog Tryz.lays143_ren:={
 mixed:=by kernel_rfl
 f143:=Tryz.func218.trans (congrArg some (by kernel_rfl))
 f217:=Tryz.func244.trans (congrArg some (by kernel_rfl))
 f219:=Tryz.func236.trans (congrArg some (by kernel_rfl))
 f224:=Tryz.func246.trans (congrArg some (by kernel_rfl))
 f225:=Tryz.func245.trans (congrArg some (by kernel_rfl))
 f266:=Tryz.func259.trans (congrArg some (by kernel_rfl))
 f267:=Tryz.func247.trans (congrArg some (by kernel_rfl))
 f314:=Tryz.func260.trans (congrArg some (by kernel_rfl))
 t3:=Tryz.underlying3
 a3:=Tryz.isAgg3
 z3:=Tryz.sizeOf3
 v3:=Tryz.zeroValue3
 t4:=Tryz.underlying4
 a4:=Tryz.isAgg4
 z4:=Tryz.sizeOf4
 v4:=Tryz.zeroValue4
 t5:=Tryz.underlying5
 a5:=Tryz.isAgg5
 z5:=Tryz.sizeOf5
 v5:=Tryz.zeroValue5
 t9:=Tryz.underlying9
 a9:=Tryz.isAgg9
 z9:=Tryz.sizeOf9
 v9:=Tryz.zeroValue9
 t46:=Tryz.underlying302
 a46:=Tryz.isAgg302
 z46:=Tryz.sizeOf302
 v46:=Tryz.zeroValue302
 t51:=Tryz.underlying319
 a51:=Tryz.isAgg319
 z51:=Tryz.sizeOf319
 v51:=Tryz.zeroValue319
 t146:=Tryz.underlying320
 a146:=Tryz.isAgg320
 z146:=Tryz.sizeOf320
 v146:=Tryz.zeroValue320
 g1:=by kernel_rfl }
open Go.RowKit Go.Lib in
theorem Tryz.strings_Index(s substr:ByteArray)(m:Int)(w:World)(hs:s.size<4294967281)(hm:w.cell? ⟨4,0,none⟩=some (.int .i64 m)):
  Calls Tryz.prog 218 #[.string s,.string substr] w fun e w'=>e=.returned (.int .i64 (Lib.index s.data.toList substr.data.toList))∧w'=w:=Any.strings_Index Tryz.lays143 s substr m w hs hm
def Tryz.lays118_ren:Go.Shelf.Ren:=⟨fun|118=>217|n=>n,fun|21=>21|3=>3|4=>4|n=>n,fun|n=>n⟩
theorem Tryz.lays118:Go.Proofs.Lays.n118 Tryz.prog Tryz.lays118_ren:={
 mixed:=by kernel_rfl
 f118:=Tryz.func217.trans (congrArg some (by kernel_rfl))
 t3:=Tryz.underlying3
 a3:=Tryz.isAgg3
 z3:=Tryz.sizeOf3
 v3:=Tryz.zeroValue3
 t4:=Tryz.underlying4
 a4:=Tryz.isAgg4
 z4:=Tryz.sizeOf4
 v4:=Tryz.zeroValue4
 t21:=Tryz.underlying21
 a21:=Tryz.isAgg21
 z21:=Tryz.sizeOf21
 v21:=Tryz.zeroValue21 }
open Go.RowKit Go.Lib in
theorem Tryz.utf8_RuneLen(r:Int)(w:World):
  Calls Tryz.prog 217 #[.int .i32 r] w fun e w'=>e=.returned (.int .i64 (Lib.runeLen r))∧w'=w:=Any.utf8_RuneLen Tryz.lays118 r w
def Tryz.laysC172_ren:Go.Shelf.Ren:=⟨fun|172=>220|244=>238|245=>239|247=>252|279=>253|280=>254|281=>255|282=>256|287=>266|316=>267|171=>195|205=>268|321=>271|322=>272|243=>219|246=>237|283=>248|284=>249|285=>250|286=>251|129=>262|317=>261|318=>263|319=>264|320=>265|337=>269|338=>270|n=>n,fun|9=>9|3=>3|75=>178|76=>182|4=>4|5=>5|167=>313|37=>96|0=>0|85=>314|2=>2|168=>316|53=>173|175=>326|46=>302|210=>329|127=>333|145=>336|143=>334|21=>21|171=>308|173=>311|212=>323|51=>319|20=>20|213=>324|232=>337|233=>338|80=>101|n=>n,fun|15=>6|16=>7|17=>5|18=>8|19=>9|n=>n⟩
theorem Tryz.laysC172:Go.Proofs.LaysC.n172 Tryz.prog Tryz.laysC172_ren:={
 mixed:=by kernel_rfl
 f129:=Tryz.func262.trans (congrArg some (by kernel_rfl))
 f171:=Tryz.func195.trans (congrArg some (by kernel_rfl))
 f172:=Tryz.func220.trans (congrArg some (by kernel_rfl))
 f205:=Tryz.func268.trans (congrArg some (by kernel_rfl))
 f243:=Tryz.func219.trans (congrArg some (by kernel_rfl))
 f244:=Tryz.func238.trans (congrArg some (by kernel_rfl))
 f245:=Tryz.func239.trans (congrArg some (by kernel_rfl))
 f246:=Tryz.func237.trans (congrArg some (by kernel_rfl))
 f247:=Tryz.func252.trans (congrArg some (by kernel_rfl))
 f279:=Tryz.func253.trans (congrArg some (by kernel_rfl))
 f280:=Tryz.func254.trans (congrArg some (by kernel_rfl))
 f281:=Tryz.func255.trans (congrArg some (by kernel_rfl))
 f282:=Tryz.func256.trans (congrArg some (by kernel_rfl))
 f283:=Tryz.func248.trans (congrArg some (by kernel_rfl))
 f284:=Tryz.func249.trans (congrArg some (by kernel_rfl))
 f285:=Tryz.func250.trans (congrArg some (by kernel_rfl))
 f286:=Tryz.func251.trans (congrArg some (by kernel_rfl))
 f287:=Tryz.func266.trans (congrArg some (by kernel_rfl))
 f316:=Tryz.func267.trans (congrArg some (by kernel_rfl))
 f317:=Tryz.func261.trans (congrArg some (by kernel_rfl))
 f318:=Tryz.func263.trans (congrArg some (by kernel_rfl))
 f319:=Tryz.func264.trans (congrArg some (by kernel_rfl))
 f320:=Tryz.func265.trans (congrArg some (by kernel_rfl))
 f321:=Tryz.func271.trans (congrArg some (by kernel_rfl))
 f322:=Tryz.func272.trans (congrArg some (by kernel_rfl))
 f337:=Tryz.func269.trans (congrArg some (by kernel_rfl))
 f338:=Tryz.func270.trans (congrArg some (by kernel_rfl))
 t0:=Tryz.underlying0
 a0:=Tryz.isAgg0
 z0:=Tryz.sizeOf0
 v0:=Tryz.zeroValue0
 t2:=Tryz.underlying2
 a2:=Tryz.isAgg2
 z2:=Tryz.sizeOf2
 v2:=Tryz.zeroValue2
 t3:=Tryz.underlying3
 a3:=Tryz.isAgg3
 z3:=Tryz.sizeOf3
 v3:=Tryz.zeroValue3
 t4:=Tryz.underlying4
 a4:=Tryz.isAgg4
 z4:=Tryz.sizeOf4
 v4:=Tryz.zeroValue4
 t5:=Tryz.underlying5
 a5:=Tryz.isAgg5
 z5:=Tryz.sizeOf5
 v5:=Tryz.zeroValue5
 t9:=Tryz.underlying9
 a9:=Tryz.isAgg9
 z9:=Tryz.sizeOf9
 v9:=Tryz.zeroValue9
 t20:=Tryz.underlying20
 a20:=Tryz.isAgg20
 z20:=Tryz.sizeOf20
 v20:=Tryz.zeroValue20
 t21:=Tryz.underlying21
 a21:=Tryz.isAgg21
 z21:=Tryz.sizeOf21
 v21:=Tryz.zeroValue21
 t37:=Tryz.underlying96
 a37:=Tryz.isAgg96
 z37:=Tryz.sizeOf96
 v37:=Tryz.zeroValue96
 t46:=Tryz.underlying302
 a46:=Tryz.isAgg302
 z46:=Tryz.sizeOf302
 v46:=Tryz.zeroValue302
 t51:=Tryz.underlying319
 a51:=Tryz.isAgg319
 z51:=Tryz.sizeOf319
 v51:=Tryz.zeroValue319
 t53:=Tryz.underlying173
 a53:=Tryz.isAgg173
 z53:=Tryz.sizeOf173
 v53:=Tryz.zeroValue173
 t75:=Tryz.underlying178
 a75:=Tryz.isAgg178
 z75:=Tryz.sizeOf178
 v75:=Tryz.zeroValue178
 t76:=Tryz.underlying182
 a76:=Tryz.isAgg182
 z76:=Tryz.sizeOf182
 v76:=Tryz.zeroValue182
 t85:=Tryz.underlying314
 a85:=Tryz.isAgg314
 z85:=Tryz.sizeOf314
 v85:=Tryz.zeroValue314
 t127:=Tryz.underlying333
 a127:=Tryz.isAgg333
 z127:=Tryz.sizeOf333
 v127:=Tryz.zeroValue333
 t143:=Tryz.underlying334
 a143:=Tryz.isAgg334
 z143:=Tryz.sizeOf334
 v143:=Tryz.zeroValue334
 t145:=Tryz.underlying336
 a145:=Tryz.isAgg336
 z145:=Tryz.sizeOf336
 v145:=Tryz.zeroValue336
 t167:=Tryz.underlying313
 a167:=Tryz.isAgg313
 z167:=Tryz.sizeOf313
 v167:=Tryz.zeroValue313
 t168:=Tryz.underlying316
 a168:=Tryz.isAgg316
 z168:=Tryz.sizeOf316
 v168:=Tryz.zeroValue316
 t171:=Tryz.underlying308
 a171:=Tryz.isAgg308
 z171:=Tryz.sizeOf308
 v171:=Tryz.zeroValue308
 t173:=Tryz.underlying311
 a173:=Tryz.isAgg311
 z173:=Tryz.sizeOf311
 v173:=Tryz.zeroValue311
 t175:=Tryz.underlying326
 a175:=Tryz.isAgg326
 z175:=Tryz.sizeOf326
 v175:=Tryz.zeroValue326
 t210:=Tryz.underlying329
 a210:=Tryz.isAgg329
 z210:=Tryz.sizeOf329
 v210:=Tryz.zeroValue329
 t212:=Tryz.underlying323
 a212:=Tryz.isAgg323
 z212:=Tryz.sizeOf323
 v212:=Tryz.zeroValue323
 t213:=Tryz.underlying324
 a213:=Tryz.isAgg324
 z213:=Tryz.sizeOf324
 t232:=Tryz.underlying337
 a232:=Tryz.isAgg337
 z232:=Tryz.sizeOf337
 v232:=Tryz.zeroValue337
 t233:=Tryz.underlying338
 a233:=Tryz.isAgg338
 z233:=Tryz.sizeOf338
 v233:=Tryz.zeroValue338
 g15:=by kernel_rfl
 g16:=by kernel_rfl
 g17:=by kernel_rfl
 g18:=by kernel_rfl
 g19:=by kernel_rfl
 t80:=Tryz.underlying101
 a80:=Tryz.isAgg101
 z80:=Tryz.sizeOf101
 v80:=Tryz.zeroValue101
 i0:=by kernel_rfl
 i2:=by kernel_rfl
 i3:=by kernel_rfl
 i4:=by kernel_rfl
 i5:=by kernel_rfl
 i9:=by kernel_rfl
 i20:=by kernel_rfl
 i21:=by kernel_rfl
 i37:=by kernel_rfl
 i46:=by kernel_rfl
 i51:=by kernel_rfl
 i53:=by kernel_rfl
 i75:=by kernel_rfl
 i76:=by kernel_rfl
 i80:=by kernel_rfl
 i85:=by kernel_rfl
 i127:=by kernel_rfl
 i143:=by kernel_rfl
 i145:=by kernel_rfl
 i167:=by kernel_rfl
 i168:=by kernel_rfl
 i171:=by kernel_rfl
 i173:=by kernel_rfl
 i175:=by kernel_rfl
 i210:=by kernel_rfl
 i212:=by kernel_rfl
 i232:=by kernel_rfl
 i233:=by kernel_rfl
 m15:=by kernel_rfl
 m16:=by kernel_rfl
 m17:=by kernel_rfl
 m18:=by kernel_rfl
 m19:=by kernel_rfl
 c0:=by kernel_rfl
 c2:=by kernel_rfl
 c3:=by kernel_rfl
 c4:=by kernel_rfl
 c5:=by kernel_rfl
 c9:=by kernel_rfl
 c20:=by kernel_rfl
 c21:=by kernel_rfl
 c37:=by kernel_rfl
 c46:=by kernel_rfl
 c51:=by kernel_rfl
 c53:=by kernel_rfl
 c75:=by kernel_rfl
 c76:=by kernel_rfl
 c80:=by kernel_rfl
 c85:=by kernel_rfl
 c127:=by kernel_rfl
 c143:=by kernel_rfl
 c145:=by kernel_rfl
 c167:=by kernel_rfl
 c168:=by kernel_rfl
 c171:=by kernel_rfl
 c173:=by kernel_rfl
 c175:=by kernel_rfl
 c210:=by kernel_rfl
 c212:=by kernel_rfl
 c213:=by kernel_rfl
 c232:=by kernel_rfl
 c233:=by kernel_rfl }
end Go.Proofs
end

section
namespace Go.Proofs.YtpmlapgbmgbilaaGreatDoor
open Go Go.RowKit Go.Mor Go.Sh
theorem ze:Tryz.prog.follows .mixedOrders=true:=by kernel_rfl
structure GlobN0(n:Nat)(w:World):Prop where
 u:GlobU w
 sz:n≤w.heap.size
 hv:10≤n
theorem zqJ{w w':World}{n:Nat}(hn:10≤n)(h:Lib.Utf8Tabs 2 3 w)(hk:∀k,k<n→w'.heap[k]?=w.heap[k]?):Lib.Utf8Tabs 2 3 w':=by
 have hc:∀b o,b<n→w'.cell? ⟨b,o,none⟩=w.cell? ⟨b,o,none⟩:=fun b o hb=>World.cell?_of_block (w:=w) (a:=⟨b,o,none⟩) (hk b hb);refine⟨fun c hcc=> ?_,fun i hi=> ?_⟩
 ·rw[hc _ _ (by omega)];exact h.1 c hcc
 ·obtain⟨h1,h2⟩:=h.2 i hi;exact⟨by rw[hc _ _ (by omega)];exact h1,by rw[hc _ _ (by omega)];exact h2⟩
theorem zaN{w w':World}{n:Nat}(hv:10≤n)(h:GlobU w)(hk:∀k,k<n→w'.heap[k]?=w.heap[k]?):GlobU w':=by
 exact⟨zqJ hv h.tabs hk⟩
theorem zcX{w w':World}{n:Nat}(hsz:n≤w.heap.size)(hk:∀k,k<n→w'.heap[k]?=w.heap[k]?):n≤w'.heap.size:=by
 rcases Nat.eq_zero_or_pos n with h0|h0
 ·omega
 ·have:=hk (n-1) (by omega);rw[Array.getElem?_eq_getElem (show n-1<w.heap.size by omega)]at this;have:=(gA this).1;omega
def gl0(n:Nat):Sh.Glob where
 G:=GlobN0 n
 n:=n
 st:=fun w w' h hk=>⟨zaN h.hv h.u hk,zcX h.sz hk,h.hv⟩
 le:=fun w h=>h.sz
theorem za3{P:Program}{g g':Sh.Glob}{f:Nat}{xs:List TV}{os:List MO}{y:TV}{os':List MO}(hn:g'.n=g.n)(hG:∀w,g'.G w→g.G w)(h:SCalls P g f xs os y os'):SCalls P g' f xs os y os':=
 ⟨h.1,fun w E vs h1 h2 h3 h4 h5=>h.2 w E vs (hG w h1) h2 (fun d b hb=>hn▸h3 d b hb) h4 h5⟩
theorem z5q{w:World}{E:Env}{r:Sh.Rows}(vs:List Value):RelT w E r (.tuple (vs.map fun v=> .pv (.v v))) (.tuple vs.toArray):=
 .tuple _ vs (by simp) (fun j c v hc hv=>by simp[hv]at hc;subst hc;exact .pv (.v v))
theorem z2s{P:Program}{g:Sh.Glob}{f:Nat}{vs:List Value}{y:TV}{v:Value}(hb:z4Y P f)(hy:∀w E r,RelT w E r y v)(h:∀w,g.G w→Calls P f vs.toArray w fun e w'=>e=.returned v∧Below w.heap.size w w'):SCalls P g f (vs.map fun v=> .pv (.v v)) [] y []:=by
 refine⟨hb,fun w E us hG hm hX hl hr=> ?_⟩;have hus:us=vs:=by
  apply List.ext_getElem?;intro j;rcases Nat.lt_or_ge j us.length with hj|hj
  ·have hj':j<vs.length:=by simpa [←hl]using hj
   have:=hr j (.pv (.v vs[j])) us[j] (by simp[hj']) (gE hj);rw[gE hj,gE hj'];exact congrArg some (val_rel (y:=vs[j]) this rfl)
  ·rw[List.getElem?_eq_none hj,List.getElem?_eq_none (by simpa [←hl]using hj)]
 subst hus;refine(h w hG).mono ?_;rintro e w' ⟨rfl,hb⟩;refine⟨v,E,rfl,?_,hy _ _ _,⟨fun _ _ _=>rfl,fun _ _ _ _=>rfl,fun d e W n hd=>by obtain⟨j,_,hj⟩:=z0V hd;simp at hj⟩⟩;exact MSim.ext (s:=⟨fun _=>none,z0q [],zA [],fun _=>none⟩) hm hb E (fun _ _ h=>h) (fun _ _ h=> .inl h) (fun _ _=>⟨rfl,rfl⟩) (fun _ _ _=>rfl) (fun _ _=>⟨rfl,rfl⟩)
def zaR(x:Int):Bool:=decide (-9223372036854775808≤x)&&decide (x≤9223372036854775807)
def I(x:Int):TV:=.pv (.v (.int .i64 x))
def S(s:ByteArray):TV:=.pv (.v (.string s))
def bl(s:ByteArray):zB:=s.data.toList
theorem zgj(s:ByteArray):str (bl s)=s:=by cases s;simp[str,bl]
theorem z1k{f:Nat}(h:(match Tryz.prog.funcs[f]? with|some fn=>fn.body.isSome&&fn.name != "runtime.NumGoroutine" |none=>false)=true):z4Y Tryz.prog f:=by
 split at h
 ·rename_i fn hfn;rw[Bool.and_eq_true]at h;obtain⟨b,hb⟩:=Option.isSome_iff_exists.1 h.1;exact⟨fn,b,hfn,hb,by simpa using h.2⟩
 ·cases h
theorem z8H{x:Int}(h:zaR x=true): -9223372036854775808≤x∧x≤9223372036854775807:=by
 unfold zaR at h;simpa using h
def zeu:z0m:=fun f xs os=>
 if Nat.beq f 213 then match xs,os with
  |[.pv (.v (.string s))],[]=>if decide (s.size≤9223372036854775807)then some (.pv (.v (.bool (Lib.validD s.data.toList))),[])else none
  |_,_=>none
 else none
theorem zao(n:Nat):z3O Tryz.prog (gl0 n) zeu:=by
 intro f xs os y os' h;unfold zeu at h;split at h
 ·rename_i hf;obtain rfl:=Nat.eq_of_beq_eq_true hf;split at h<;>try(cases h;done)
  rename_i s;split at h<;>try(cases h;done)
  rename_i hx;cases h;exact z2s (vs:=[.string s]) (z1k (by kernel_rfl)) (fun w E r=> .pv (.v _)) (fun w hG=>Tryz.utf8_ValidString s w (by simpa using hx) hG.u.tabs)
 ·cases h
end Go.Proofs.YtpmlapgbmgbilaaGreatDoor
end

section
namespace Go.Sh
open Go Go.RowKit
section
def noC:z0m:=fun _ _ _=>none
theorem z8Q(P:Program)(g:Glob):z3O P g noC:=fun f xs os y os' h=>by cases h
def SOp.isCall:SOp→Bool| .call .. | .callv .. =>true|_=>false
theorem zpO{P:Program}{C:z0m}{dst:Option Nat}{o:SOp}(h:o.isCall=false)(s:FS):eff P C dst o s=eff P noC dst o s:=by
 cases o<;>first|rfl|cases h
theorem zf2{P:Program}{C:z0m}{o:SOper}(h:o.op.isCall=false)(s:FS):effG P C o s=effG P noC o s:=by
 unfold effG effF;rw[zpO h]
def z3J(P:Program)(o:SOper)(K:ES→Prop)(s:ES):Option (TV×Upd)→Prop
 |some e=>K (s.after o e)
 |none=>False
section
variable{P:Program}{g:Glob}{o:SOper}{l:List SOper}{K:ES→Prop}{s:ES}
theorem zqh(h:o.op.isCall=false):zQ P g (o::l) K s ↔ z3J P o (zQ P g l K) s (effG P noC o s.fs):=by
 constructor
 ·rintro⟨C,hC,e,he,hk⟩;rw[zf2 h]at he;rw[he];exact hk
 ·intro hk;cases he:effG P noC o s.fs with
  |none=>rw[he]at hk;exact hk.elim
  |some e=>rw[he]at hk;exact⟨noC,z8Q P g,e,he,hk⟩
def z7v(P:Program)(g:Glob)(k f m:Nat)(s:FS)(K:TV→Upd→Prop):Option (List TV)→Prop
 |none=>False
 |some args=>∃I,I=handI s m args∧∃xs' os,seqO (TV.ren2 (rhoIn I)) args=some xs'∧seqO (fun d=>(s.mo d).bind (MO.ren (rhoIn I))) I=some os∧
   ∃y os',SCalls P g f xs' os y os'∧moOk os os'=true∧∃y' us,y.ren3 (rhoOut I k)=some y'∧outs (rhoOut I k) 0 os'=some us∧K y' (.mem us)
open Classical in
noncomputable def zkd(f:Nat)(xs:List TV)(os:List MO)(r:TV×List MO):z0m:=fun f' xs' os'=>if f'=f∧xs'=xs∧os'=os then some r else none
theorem zke{f:Nat}{xs:List TV}{os os':List MO}{y:TV}(h:SCalls P g f xs os y os'):z3O P g (zkd f xs os (y,os')):=by
 intro f' xs' os2 y' os3 h'
 grind [zkd]
theorem zbu{k f m:Nat}{s:FS}{K:TV→Upd→Prop}{args:List TV}(h:z7v P g k f m s K (some args)):∃C,z3O P g C∧∃y' u,z2K C s k f m args=some (y',u)∧K y' u:=by
 obtain⟨I,rfl,xs',os,h1,h2,y,os',hc,hmo,y',us,h3,h4,hk⟩:=h;refine⟨zkd f xs' os (y,os'),zke hc,y',.mem us,?_,hk⟩
 grind [z2K,handI,only,zkd]
theorem zlU{dst:Option Nat}{f m:Nat}{xs:List Arg}(h:z7v P g (dstId dst) f m s.fs (fun y u=>zQ P g l K (s.after ⟨dst,none,none,.call f m xs⟩ (y,u))) (seqO (fun x:Arg=>x.get s.fs) xs)):zQ P g (⟨dst,none,none,.call f m xs⟩::l) K s:=by
 cases hx:seqO (fun x:Arg=>x.get s.fs) xs with
 |none=>rw[hx]at h;exact h.elim
 |some args=>
  rw[hx]at h;obtain⟨C,hC,y',u,he,hk⟩:=zbu h;exact⟨C,hC,(y',u),by simp only[effG,effF,footOk,eff,hx,Option.bind_some,he],hk⟩
def zra(P:Program)(g:Glob)(k m:Nat)(s:FS)(K:TV→Upd→Prop):Option (Nat×List TV×List TV)→Option (List TV)→Prop
 |some (f,fa,fb),some vs=>z7v P g k f m s K (some (fa++vs++fb))
 |_,_=>False
theorem zjx{dst:Option Nat}{m:Nat}{x:Arg}{xs:List Arg}(h:zra P g (dstId dst) m s.fs (fun y u=>zQ P g l K (s.after ⟨dst,none,none,.callv x m xs⟩ (y,u))) ((x.get s.fs).bind TV.callee) (seqO (fun x:Arg=>x.get s.fs) xs)):zQ P g (⟨dst,none,none,.callv x m xs⟩::l) K s:=by
 cases hc:(x.get s.fs).bind TV.callee with
 |none=>rw[hc]at h;exact h.elim
 |some c=>
  obtain⟨f,fa,fb⟩:=c;cases hx:seqO (fun x:Arg=>x.get s.fs) xs with
  |none=>rw[hc,hx]at h;exact h.elim
  |some vs=>
   rw[hc,hx]at h;have h':z7v P g (dstId dst) f m s.fs (fun y u=>zQ P g l K (s.after ⟨dst,none,none,.callv x m xs⟩ (y,u))) (some (fa++vs++fb)):=h;obtain⟨C,hC,y',u,he,hk⟩:=zbu h';exact⟨C,hC,(y',u),by simp only[effG,effF,footOk,eff,hc,hx,he],hk⟩
end
def exitR(res:List SRes)(keep:Bool)(n:Nat)(s:ES):Option (TV×List MO):=exitF ⟨0,.skip,res,keep⟩ n s
theorem z9v(F:SFunc)(n:Nat)(s:ES):exitF F n s=exitR F.res F.keep n s:=rfl
def PostR(res:List SRes)(keep:Bool)(n:Nat)(y:TV)(os':List MO):SExit→ES→Prop
 | .ret,s| .normal,s=>exitR res keep n s=some (y,os')
 | .exit _,_| .pan _,_=>False
theorem z5S{P:Program}{g:Glob}{f:Nat}{H:Nat→Option Nat→Nat}{Fp:Nat→List (Nat→Option Nat)}{K:Nat→List Nat}{keep:Bool}{F:SFunc}(ze:P.follows .mixedOrders=true)(hF:zW P f H Fp K keep=some F){xs:List TV}{os os':List MO}{y:TV}(hn:Nat.ble xs.length F.N=true)(hos:Nat.ble os.length 1000=true)(hmo:moOk os os'=true)
  (h:swp P g F.code (PostR F.res F.keep os.length y os') (startE xs os)):SCalls P g f xs os y os':=
 zgJ ze hF (Nat.le_of_ble_eq_true hn) (Nat.le_of_ble_eq_true hos) hmo (z1c h fun e s he=>by
  cases e with
  |normal=>exact⟨.inr rfl,by rw[z9v];exact he⟩
  |ret=>exact⟨.inl rfl,by rw[z9v];exact he⟩
  |exit id=>exact he.elim
  |pan z=>exact he.elim)
def ansW(y:TV):Option TV→Prop
 |some y0=>y0.ids3=[]∧y0.ren3 (rhoIn [])=some y
 |none=>False
def Post0(res:List SRes)(y:TV):SExit→ES→Prop
 | .ret,s| .normal,s=>ansW y (resT s.fs res)
 | .exit _,_| .pan _,_=>False
theorem z7x{P:Program}{g:Glob}{f:Nat}{H:Nat→Option Nat→Nat}{Fp:Nat→List (Nat→Option Nat)}{K:Nat→List Nat}{keep:Bool}{F:SFunc}(ze:P.follows .mixedOrders=true)(hF:zW P f H Fp K keep=some F){xs:List TV}{y:TV}(hn:Nat.ble xs.length F.N=true)
  (h:swp P g F.code (Post0 F.res y) (startE xs [])):SCalls P g f xs [] y []:=by
 have key:∀s,ansW y (resT s.fs F.res)→exitR F.res F.keep 0 s=some (y,[]):=by
  intro s he;cases hr:resT s.fs F.res with
  |none=>rw[hr]at he;exact he.elim
  |some y0=>
   rw[hr]at he;obtain⟨h1,h2⟩:=he;simp[exitR,exitF,hr,idsFrom,h1,zx,h2,seqO]
 refine z5S ze hF hn rfl rfl (z1c h fun e s he=> ?_);cases e with
 |normal=>exact key s he
 |ret=>exact key s he
 |exit id=>exact he.elim
 |pan z=>exact he.elim
section
variable(P:Program)(t:TypeId)(k:IntKind)(a b:Int)(x y:ByteArray)
theorem bin_lss:z05 P (do eqGuard .lss t (.const (.int k a)) (.const (.int k b)) (.int k a) (.int k b);binOp .lss t (.int k a) (.int k b))=some (.pv (.v (.bool (decide (a<b)))),.no):=by simp[z05,eqGuard,binOp,Op.intCmp];rfl
theorem bin_gtr:z05 P (do eqGuard .gtr t (.const (.int k a)) (.const (.int k b)) (.int k a) (.int k b);binOp .gtr t (.int k a) (.int k b))=some (.pv (.v (.bool (decide (b<a)))),.no):=by simp[z05,eqGuard,binOp,Op.intCmp];rfl
theorem bin_leq:z05 P (do eqGuard .leq t (.const (.int k a)) (.const (.int k b)) (.int k a) (.int k b);binOp .leq t (.int k a) (.int k b))=some (.pv (.v (.bool (decide (a≤b)))),.no):=by simp[z05,eqGuard,binOp,Op.intCmp];rfl
theorem bin_geq:z05 P (do eqGuard .geq t (.const (.int k a)) (.const (.int k b)) (.int k a) (.int k b);binOp .geq t (.int k a) (.int k b))=some (.pv (.v (.bool (decide (b≤a)))),.no):=by simp[z05,eqGuard,binOp,Op.intCmp];rfl
theorem bin_eql:z05 P (do eqGuard .eql t (.const (.int k a)) (.const (.int k b)) (.int k a) (.int k b);binOp .eql t (.int k a) (.int k b))=some (.pv (.v (.bool (decide (a=b)))),.no):=by
 simp[z05,eqGuard,binOp,Op.intCmp];rfl
theorem bin_neq:z05 P (do eqGuard .neq t (.const (.int k a)) (.const (.int k b)) (.int k a) (.int k b);binOp .neq t (.int k a) (.int k b))=some (.pv (.v (.bool (!decide (a=b)))),.no):=by simp[z05,eqGuard,binOp,Op.intCmp];rfl
theorem bin_add:z05 P (do eqGuard .add t (.const (.int k a)) (.const (.int k b)) (.int k a) (.int k b);binOp .add t (.int k a) (.int k b))=some (.pv (.v (.int k (k.wrap (a+b)))),.no):=by simp[z05,eqGuard,binOp,Op.intArith];rfl
theorem bin_sub:z05 P (do eqGuard .sub t (.const (.int k a)) (.const (.int k b)) (.int k a) (.int k b);binOp .sub t (.int k a) (.int k b))=some (.pv (.v (.int k (k.wrap (a-b)))),.no):=by simp[z05,eqGuard,binOp,Op.intArith];rfl
theorem bin_mul:z05 P (do eqGuard .mul t (.const (.int k a)) (.const (.int k b)) (.int k a) (.int k b);binOp .mul t (.int k a) (.int k b))=some (.pv (.v (.int k (k.wrap (a*b)))),.no):=by simp[z05,eqGuard,binOp,Op.intArith];rfl
theorem zpE(hb:b≠0):z05 P (do eqGuard .quo t (.const (.int k a)) (.const (.int k b)) (.int k a) (.int k b);binOp .quo t (.int k a) (.int k b))=some (.pv (.v (.int k (k.wrap (a.tdiv b)))),.no):=by simp[z05,eqGuard,binOp,Op.intDiv,hb];rfl
theorem zpF(hb:b≠0):z05 P (do eqGuard .rem t (.const (.int k a)) (.const (.int k b)) (.int k a) (.int k b);binOp .rem t (.int k a) (.int k b))=some (.pv (.v (.int k (a.tmod b))),.no):=by simp[z05,eqGuard,binOp,Op.intDiv,hb];rfl
theorem sbin_eql:z05 P (do eqGuard .eql t (.const (.string x)) (.const (.string y)) (.string x) (.string y);binOp .eql t (.string x) (.string y))=some (.pv (.v (.bool (x.toList==y.toList))),.no):=by simp[z05,eqGuard,binOp,Op.stringOp];rfl
theorem sbin_neq:z05 P (do eqGuard .neq t (.const (.string x)) (.const (.string y)) (.string x) (.string y);binOp .neq t (.string x) (.string y))=some (.pv (.v (.bool (!(x.toList==y.toList)))),.no):=by simp[z05,eqGuard,binOp,Op.stringOp];rfl
theorem sbin_lss:z05 P (do eqGuard .lss t (.const (.string x)) (.const (.string y)) (.string x) (.string y);binOp .lss t (.string x) (.string y))=some (.pv (.v (.bool (Op.bytesLess x.toList y.toList))),.no):=by simp[z05,eqGuard,binOp,Op.stringOp];rfl
theorem sbin_gtr:z05 P (do eqGuard .gtr t (.const (.string x)) (.const (.string y)) (.string x) (.string y);binOp .gtr t (.string x) (.string y))=some (.pv (.v (.bool (!(Op.bytesLess x.toList y.toList||x.toList==y.toList)))),.no):=by simp[z05,eqGuard,binOp,Op.stringOp];rfl
theorem zoz(h:x.size+y.size≤9223372036854775807):z05 P (do eqGuard .add t (.const (.string x)) (.const (.string y)) (.string x) (.string y);binOp .add t (.string x) (.string y))=some (.pv (.v (.string (x++y))),.no):=by
 have hm:IntKind.i64.max=9223372036854775807:=by rfl
 have h':¬(((x.size+y.size:Nat):Int)>IntKind.i64.max):=by omega
 simp only[z05,eqGuard,binOp,Op.stringOp,h',if_false];rfl
theorem un_neg:z05 P (Op.unary .neg (.int k a))=some (.pv (.v (.int k (k.wrap (0-a)))),.no):=rfl
theorem un_not(q:Bool):z05 P (Op.unary .not (.bool q))=some (.pv (.v (.bool (!q))),.no):=rfl
end
theorem nbeq(a b:Nat):Nat.beq a b=(a==b):=by
 grind [Nat.beq,Nat.eq_of_beq_eq_true,Nat.beq_refl]
theorem nble(a b:Nat):Nat.ble a b=decide (a≤b):=by
 grind [Nat.ble,Nat.le_of_ble_eq_true,Nat.ble_eq_true_of_le]
theorem nblt(a b:Nat):Nat.blt a b=decide (a<b):=by grind [Nat.blt,nble]
theorem bFT:(false==true)=false:=rfl
theorem bTF:(true==false)=false:=rfl
theorem wrap64{x:Int}(h0: -9223372036854775808≤x)(h1:x≤9223372036854775807):IntKind.i64.wrap x=x:=by rw[IntKind.wrap_i64];omega
section
variable{P:Program}{g:Glob}{a b c:SCode}{Q:SExit→ES→Prop}{s s':ES}{n kill:List Nat}{l:List SOper}{r:List (List Nat×List SOper)}
def z7o(P:Program)(g:Glob)(a:SCode)(Q:SExit→ES→Prop):Nat→ES→Prop
 |0,_=>False
 |k+1,s=>swp P g a (z2G (z7o P g a Q k) Q) s
theorem z3s(k:Nat)(h:z7o P g a Q k s):swp P g (.loop a) Q s:=by
 refine⟨fun n s=>z7o P g a Q n s,k,⟨s,.refl s,h⟩,fun n s h=> ?_⟩;cases n with
 |zero=>exact h.elim
 |succ n=>
  refine z1c (c:=a) h (fun e s he=> ?_);cases e with
  |normal=>exact⟨n,Nat.lt_succ_self n,s,.refl s,he⟩
  |exit id=>exact he
  |ret=>exact he
  |pan z=>exact he
theorem zsp{K:ES→Prop}{dst:Option Nat}{f m:Nat}{xs:List Arg}{args xs':List TV}{I:List Nat}{os os':List MO}{y y':TV}{us:List (Nat×MO)}(hx:seqO (fun x:Arg=>x.get s.fs) xs=some args)(hI:handI s.fs m args=I)(h1:seqO (TV.ren2 (rhoIn I)) args=some xs')
  (h2:seqO (fun d=>(s.fs.mo d).bind (MO.ren (rhoIn I))) I=some os) (hc:SCalls P g f xs' os y os') (hmo:moOk os os'=true) (h3:y.ren3 (rhoOut I (dstId dst))=some y') (h4:outs (rhoOut I (dstId dst)) 0 os'=some us) (hs:s.after ⟨dst,none,none,.call f m xs⟩ (y',.mem us)=s') (hk:zQ P g l K s'):
  zQ P g (⟨dst,none,none,.call f m xs⟩::l) K s:=by
 refine zlU ?_;rw[hx];exact⟨I,hI.symm,xs',os,h1,h2,y,os',hc,hmo,y',us,h3,h4,by rw[←hs]at hk;exact hk⟩
end
end
end Go.Sh
end

section
namespace Go.Sh
open Go Go.RowKit
section
variable{P:Program}{g:Glob}{b:SCode}{Q:SExit→ES→Prop}{s s':ES}{n kill:List Nat}{l:List SOper}{r:List (List Nat×List SOper)}
end
def Wk(x y:TV):Prop:=∀w E r v,RelT w E r x v→RelT w E r y v
theorem Wk.refl(x:TV):Wk x x:=fun _ _ _ _ h=>h
theorem Wk.trans{x y z:TV}(h:Wk x y)(h':Wk y z):Wk x z:=fun w E r v hr=>h' w E r v (h w E r v hr)
theorem z2u(W:Nat):Wk (.pv (.v (.slice none 0 0))) (.pv (.sl W [])):=by
 intro w E r v h;cases h with
 |pv h=>
  cases h with
  |v x=>exact .pv (.sl W [] 0 0 0 none (fun _ _=>undef) (by simp) (by simp) (by simp) (by simp) (by simp) (by simp))
theorem z6l{cs ds:List TV}(hl:cs.length=ds.length)(h:∀(j:Nat) c d,cs[j]?=some c→ds[j]?=some d→Wk c d):Wk (.agg cs) (.agg ds):=by
 intro w E r v hr;cases hr with
 |agg cs vs hl' hv ho=>
  refine .agg ds vs (hl▸hl') (fun j d v hd hv'=> ?_) ho;have hj:j<cs.length:=by
   grind
  exact h j _ d (gE hj) hd w E r v (hv j _ v (gE hj) hv')
theorem SCalls.out{P:Program}{g:Glob}{f:Nat}{xs:List TV}{os os':List MO}{y y':TV}(h:SCalls P g f xs os y os')(hw:Wk y y'):SCalls P g f xs os y' os':=
 ⟨h.1,fun w E vs hG hm hX hl hr=>(h.2 w E vs hG hm hX hl hr).mono (by
  rintro e w' ⟨v,E',h1,h2,h3,h4⟩;exact⟨v,E',h1,h2,hw _ _ _ _ h3,h4⟩)⟩
theorem SCalls.inp{P:Program}{g:Glob}{f:Nat}{xs xs':List TV}{os os':List MO}{y:TV}(h:SCalls P g f xs' os y os')(hl:xs.length=xs'.length)(hw:∀(j:Nat) c d,xs[j]?=some c→xs'[j]?=some d→Wk c d):SCalls P g f xs os y os':=
 ⟨h.1,fun w E vs hG hm hX hl' hr=>h.2 w E vs hG hm hX (hl▸hl') (fun j d v hd hv=>by
  have hj:j<xs.length:=by
   grind
  exact hw j _ d (gE hj) hd w E _ v (hr j _ v (gE hj) hv))⟩
end Go.Sh
namespace Go.Sh
open Go Go.RowKit
theorem zc3{s:FS}:∀(f:Nat) (l:List Nat),(∀d∈l,s.b d=none)→zx s false f l []=[]
 |0,_,_=>by simp[zx]
 |_+1,[],_=>by simp[zx]
 |f+1,d::l,h=>by
  have h1:=h d (by simp);simp only[zx,pos,h1];have ih:=zc3 f l (fun e he=>h e (by simp[he]))
  grind
def ansW1(s:ES)(y:TV):Option TV→Prop
 |some y0=>(y0.ids3.all fun d=>(s.fs.b d).isNone)=true∧y0.ren3 (rhoIn [])=some y
 |none=>False
def Post1(res:List SRes)(y:TV):SExit→ES→Prop
 | .ret,s| .normal,s=>ansW1 s y (resT s.fs res)
 | .exit _,_| .pan _,_=>False
theorem zeM{P:Program}{g:Glob}{f:Nat}{H:Nat→Option Nat→Nat}{Fp:Nat→List (Nat→Option Nat)}{K:Nat→List Nat}{F:SFunc}(ze:P.follows .mixedOrders=true)(hF:zW P f H Fp K false=some F)(hk:F.keep=false){xs:List TV}{y:TV}(hn:Nat.ble xs.length F.N=true)
  (h:swp P g F.code (Post1 F.res y) (startE xs [])):SCalls P g f xs [] y []:=by
 have key:∀s,ansW1 s y (resT s.fs F.res)→exitR F.res F.keep 0 s=some (y,[]):=by
  intro s he;cases hr:resT s.fs F.res with
  |none=>rw[hr]at he;exact he.elim
  |some y0=>
   rw[hr]at he;obtain⟨h1,h2⟩:=he;have h3:zx s.fs false 64 y0.ids3 []=[]:=zc3 64 _ (fun d hd=>by simpa using List.all_eq_true.1 h1 d hd)
   grind [exitR,exitF,idsFrom,seqO]
 refine z5S ze hF hn rfl rfl (z1c h fun e s he=> ?_);cases e with
 |normal=>exact key s he
 |ret=>exact key s he
 |exit id=>exact he.elim
 |pan z=>exact he.elim
end Go.Sh
namespace Go.Sh
open Go Go.RowKit
theorem zrX{α:Type}(P:Program)(c:Prop)[Decidable c](a b:Sem α):zq P (if c then a else b)=if c then zq P a else zq P b:=by grind
theorem z9S{α:Type}(P:Program)(a:α):zq P (pure a)=some a:=rfl
theorem zjC(P:Program):zq P program=some P:=rfl
theorem z2q{P:Program}(d:Nat)(t:TypeId)(xs ys:Array Value)(ht:zq P (underlying t)=some (.struct (P.fieldsOf t)))(hp:P.stoodInHeld t=false):
  zq P (Op.equalIn (d+1) t (.agg xs) (.agg ys))=zq P (Op.eqFields d xs ys (P.fieldsOf t).toList):=by
 simp only[Op.equalIn,z02,ht,Option.bind_some,zjC,hp,Bool.false_eq_true,if_false];rw[←Array.forIn_toList];generalize(P.fieldsOf t).toList=fs
 induction fs with
 |nil=>simp[Op.eqFields,z9S]
 |cons f fs ih=>
  simp only[List.forIn_cons,Op.eqFields,z02,zrX];split
  ·generalize zq P (part f.type xs f.offset)=r1;cases r1 with
   |none=>rfl
   |some a=>
    generalize zq P (part f.type ys f.offset)=r2;cases r2 with
    |none=>rfl
    |some b=>
     simp only[Option.bind_some];generalize zq P (Op.equalIn d f.type a b)=r3;cases r3 with
     |none=>rfl
     |some r=>
      cases r
      ·simp only[Option.bind_some,Bool.not_false,if_true,z9S]
      ·simp only[Option.bind_some,Bool.not_true,Bool.false_eq_true,if_false,z9S];exact ih
  ·simp only[z9S,Option.bind_some];exact ih
end Go.Sh
end

section
namespace Go.Mor
def z3T(r:Nat):Bool:=decide (32≤r)&&r !=127
def z5X:Nat→zB→Bool
 |0,_=>true
 |n+1,l=>if l=[] then true else z3T (Lib.decodeL l).1&&z5X n (l.drop (Lib.decodeL l).2)
def z38(l:zB):Bool:=z5X l.length l
theorem zfS:∀(n:Nat) (l:zB),l.length≤n→z5X n l=z38 l:=by
 intro n
 induction n using Nat.strongRecOn with
 |_ n ih=>
  intro l hl;unfold z38;cases l with
  |nil=>cases n<;>simp[z5X]
  |cons b t=>
   obtain⟨m,rfl⟩:∃m,n=m+1:=⟨n-1,by simp at hl;omega⟩
   have hw:=Lib.decodeL_width (b::t);simp only[z5X,List.length_cons,reduceCtorEq,if_false]
   grind
theorem z5h(l:zB)(hne:l≠[]):z38 l=(z3T (Lib.decodeL l).1&&z38 (l.drop (Lib.decodeL l).2)):=by
 cases l with
 |nil=>grind
 |cons b t=>
  have hw:=Lib.decodeL_width (b::t)
  conv=>lhs;unfold z38
  simp only[z5X,List.length_cons,reduceCtorEq,if_false]
  grind [zfS]
def zl(s:zB):Bool:=decide (s.length≤60)&&(Lib.validD s&&z38 s)
def z3H(n:Int):Bool:=decide (1≤n∧n≤100000∨ -20≤n∧n≤ -1)
def bare(x:V):Bool:=x.s==[]&&x.l.length==0
def z1L(x:V):Bool:=
 if x.k=0 then bare x&&x.n==0
 else if x.k=1 then bare x&&decide (-1000000000000000≤x.n)&&decide (x.n≤1000000000000000)
 else if x.k=2 then x.n==0&&x.l.length==0&&zl x.s
 else if x.k=3∨x.k=4 then bare x&&z3H x.n
 else false
def z3S(x:V):Bool:=x.k==5|| !z1L x
def z1r(x:V):Bool:=
 if x.k=5 then x.n==0&&x.s==[]&&decide (x.l.length≤12)&& !x.l.any z3S else z1L x
structure Ty where
 k:Int
 o:Int
def zi(t:Ty):Bool:=if t.k=5 then decide (1≤t.o∧t.o≤4)else decide (1≤t.k∧t.k≤4∧t.o=0)
def z1U(x:V)(k:Int):Bool:=x.k==k||(x.k==0&&(k==3||k==4))
def zJ(x:V)(t:Ty):Bool:=z1r x&&zi t&&z1U x t.k&& !x.l.any (fun y=> !z1U y t.o)
def z41(t:Ty):V:=if !zi t||t.k==3||t.k==4 then V.nil else .mk t.k 0 [] []
end Go.Mor
end

section
namespace Go.Proofs.YtpmlapgbmgbilaaGreatDoor
open Go Go.Mor
def I64(c:Int):Prop:= -9223372036854775808≤c∧c≤9223372036854775807
def z2k(a b:Int):Int:=if a<b then -1 else if b<a then 1 else 0
def z0f(c d:Int):Int:=if c=0 then d else c
def z30(a b:zB):Int:=if Op.bytesLess a b then -1 else if a=b then 0 else 1
mutual
def cmpV:V→V→Int
 | .mk k n s l,y=>z0f (z2k k y.k) (z0f (z2k n y.n) (z0f (z30 s y.s) (z1H l y.l)))
def z1H:List V→List V→Int
 |[],[]=>0
 |[],_::_=> -1
 |_::_,[]=>1
 |x::l,y::l'=>z0f (cmpV x y) (z1H l l')
end
theorem z9t(x y:V):cmpV x y=z0f (z2k x.k y.k) (z0f (z2k x.n y.n) (z0f (z30 x.s y.s) (z1H x.l y.l))):=by
 cases x;simp only[cmpV,V.k,V.n,V.s,V.l]
theorem zdf{l l':List V}{i:Nat}{x y:V}(hx:l[i]?=some x)(hy:l'[i]?=some y):z1H (l.drop i) (l'.drop i)=z0f (cmpV x y) (z1H (l.drop (i+1)) (l'.drop (i+1))):=by
 grind [List.getElem?_eq_some_iff,List.drop_eq_getElem_cons,z1H]
theorem zaE{l l':List V}{i:Nat}(h:i=min l.length l'.length):z1H (l.drop i) (l'.drop i)=z2k l.length l'.length:=by
 grind [z2k,Nat.lt_trichotomy,List.drop_eq_nil_of_le,List.drop_eq_getElem_cons,z1H]
section
open Go.RowKit Go.Sh
theorem ztw:str []=(⟨#[]⟩:ByteArray):=rfl
def tyT(t:Ty):TV:=.agg [I t.k,I t.o]
def nv(x:V):TV:=.agg [I x.k,I x.n,S (str x.s),.pv (.v (.slice none 0 0))]
def V.row:V→List PV
 | .mk k n s l=>[.v (.int .i64 k),.v (.int .i64 n),.v (.string (str s)),.sl 4 (l.attach.map fun x=>V.row x.1)]
termination_by x=>SizeOf.sizeOf x
decreasing_by exact V.size_lt x.2 k n s
def V.rows(l:List V):List (List PV):=l.map V.row
theorem V.row_mk(k n:Int)(s:zB)(l:List V):V.row (.mk k n s l)=[.v (.int .i64 k),.v (.int .i64 n),.v (.string (str s)),.sl 4 (V.rows l)]:=by
 rw[V.row];simp[V.rows]
theorem V.rows_nil:V.rows []=[]:=rfl
theorem z1e(l:List V):V.rows l=l.map V.row:=rfl
def tv(x:V):TV:=.agg [I x.k,I x.n,S (str x.s),.pv (.sl 4 (V.rows x.l))]
theorem wk4{a b c x y:TV}(h:Wk x y):Wk (.agg [a,b,c,x]) (.agg [a,b,c,y]):=
 z6l rfl (fun j p q hp hq=>by
  match j with
  |0=>simp at hp hq;subst hp;subst hq;exact .refl _
  |1=>simp at hp hq;subst hp;subst hq;exact .refl _
  |2=>simp at hp hq;subst hp;subst hq;exact .refl _
  |3=>simp at hp hq;subst hp;subst hq;exact h
  |j+4=>simp at hp)
theorem z4L{x:V}(h:x.l=[]):Wk (nv x) (tv x):=by
 unfold nv tv;rw[h];exact wk4 (z2u 4)
structure R1 where
 k:Int
 n:Int
 s:zB
structure RawV where
 k:Int
 n:Int
 s:zB
 l:List R1
def R1.ok(x:R1):Prop:=I64 x.k∧I64 x.n∧x.s.length≤9223372036854775807
def RawV.ok(x:RawV):Prop:=I64 x.k∧I64 x.n∧x.s.length≤9223372036854775807∧(∀y∈x.l,y.ok)∧x.l.length≤9223372036854775807
def R1.row(x:R1):List PV:=[.v (.int .i64 x.k),.v (.int .i64 x.n),.v (.string (str x.s))]
def RawV.tv(x:RawV):TV:=.agg [I x.k,I x.n,S (str x.s),.pv (.sl 3 (x.l.map R1.row))]
theorem Vk(k n:Int)(s:zB)(l:List V):(V.mk k n s l).k=k:=rfl
theorem Vn(k n:Int)(s:zB)(l:List V):(V.mk k n s l).n=n:=rfl
theorem Vs(k n:Int)(s:zB)(l:List V):(V.mk k n s l).s=s:=rfl
theorem Vl(k n:Int)(s:zB)(l:List V):(V.mk k n s l).l=l:=rfl
theorem zi3(l:List V)(k:Nat):(V.rows l)[k]?=(l[k]?).map V.row:=by rw[z1e,List.getElem?_map]
theorem z1u(l:List V):(V.rows l).length=l.length:=by rw[z1e,List.length_map]
theorem z2l(y:V):V.row y=[.v (.int .i64 y.k),.v (.int .i64 y.n),.v (.string (str y.s)),.sl 4 (V.rows y.l)]:=by cases y;exact V.row_mk _ _ _ _
inductive VSmall:V→Prop where
 |mk {k n:Int} {s:zB} {l:List V} (h:l.length≤maxLen) (hs:∀y∈l,VSmall y):VSmall (.mk k n s l)
theorem VSmall.len{x:V}(h:VSmall x):x.l.length≤maxLen:=by cases h;assumption
theorem VSmall.sub{x y:V}(h:VSmall x)(hy:y∈x.l):VSmall y:=by cases h with|mk h hs=>exact hs y hy
def z25(x:V):Prop:=x.s.length≤9223372036854775807
theorem zpp{w:World}{E:Env}{r:Sh.Rows}{x:Int}{v:Value}(h:RelT w E r (I x) v):v=.int .i64 x:=val_rel h rfl
def VOk(x:V):Prop:=z25 x∧∀y∈x.l,z25 y
def pvC(xs:List PV):List TV:=xs.map TV.pv
theorem z9X(ids:List Nat)(xs:List PV):List.map (fgt3 ids) (pvC xs)=pvC xs:=by
 unfold pvC;rw[List.map_map];exact List.map_congr_left fun x _=>by cases ids<;>rfl
theorem z9Y(xs:List PV):List.flatMap TV.ids1 (pvC xs)=[]:=by
 unfold pvC;induction xs with
 |nil=>rfl
 |cons x xs ih=>rw[List.map_cons,List.flatMap_cons,ih];rfl
theorem z9Z(ρ:Nat→Option Nat)(xs:List PV):seqO (TV.ren1 ρ) (pvC xs)=some (pvC xs):=by
 unfold pvC;induction xs with
 |nil=>rfl
 |cons x xs ih=>simp only[List.map_cons,seqO,ih];rfl
theorem zi0(xs:List PV):(pvC xs).length=xs.length:=by simp[pvC]
theorem zqo(xs:List PV)(i:Nat):(pvC xs)[i]?=(xs[i]?).map TV.pv:=by simp[pvC]
theorem zcR{xs:List PV}{i:Nat}(h:i<xs.length)(y:PV):List.take i (pvC xs)++[TV.pv y]++List.drop (i+1) (pvC xs)=pvC (xs.set i y):=by
 unfold pvC;rw[List.set_eq_take_append_cons_drop,if_pos h,List.map_append,List.map_cons,List.map_take,List.map_drop,List.append_assoc];rfl
theorem vV:type_of%(wa3 (wa8 @z9X @z9Y @z9Z @zi0 @I.eq_1 @S.eq_1 @tv.eq_1 @nv.eq_1) (wa8 @tyT.eq_1 @RawV.tv.eq_1 @R1.row.eq_1 @zi3 @z1u @z2l @Vk @Vn) (wa2 @Vs @Vl)):=wa3 (wa8 @z9X @z9Y @z9Z @zi0 @I.eq_1 @S.eq_1 @tv.eq_1 @nv.eq_1) (wa8 @tyT.eq_1 @RawV.tv.eq_1 @R1.row.eq_1 @zi3 @z1u @z2l @Vk @Vn) (wa2 @Vs @Vl)
def byR(l:zB):List (List PV):=l.map fun u=>[.v (.int .u8 u.toNat)]
theorem byP(l:zB):z0C (str l)=byR l:=by simp[z0C,byR,str]
theorem z2d(a b:zB):byR a++byR b=byR (a++b):=by simp[byR]
theorem z0J(a:zB):(byR a).length=a.length:=by simp[byR]
theorem z1X:∀(a:zB),seqO Sh.byteOf (byR a)=some a
 |[]=>rfl
 |u::a=>by
  have ih:=z1X a;unfold byR at ih ⊢;simp only[List.map_cons,seqO,ih,Sh.byteOf];simp
theorem z2g(l:zB):(⟨l.toArray⟩:ByteArray)=str l:=rfl
end
end Go.Proofs.YtpmlapgbmgbilaaGreatDoor
end
