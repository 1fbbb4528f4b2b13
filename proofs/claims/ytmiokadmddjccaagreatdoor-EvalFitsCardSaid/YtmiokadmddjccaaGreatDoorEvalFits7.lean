/- Merged texts: Shelf Dt Cd1 Px1 Cd5 Px2 Px3 Cd6 Zw1 Zy2 Px5 Rp1 Ze12 Zf4 Zi2. No statement of the program is proved here. -/
import Derived.Test.YtmiokadmddjccaaGreatDoorM1
import Derived.Test.YtmiokadmddjccaaGreatDoorM2
import Derived.Test.YtmiokadmddjccaaGreatDoorM3
import Derived.Test.YtmiokadmddjccaaGreatDoorM4
import Derived.Test.YtmiokadmddjccaaGreatDoorM5
import Derived.Test.YtmiokadmddjccaaGreatDoorM6
set_option linter.unusedSimpArgs false
set_option linter.unusedVariables false
section
namespace Go.Proofs
open Go.Shelf
def Tryz.lays155_ren:Go.Shelf.Ren:=⟨fun|155=>104|154=>166|138=>200|165=>167|143=>188|166=>168|197=>182|169=>169|195=>219|218=>220|240=>201|241=>202|219=>212|260=>211|276=>221|277=>222|217=>227|225=>228|224=>229|267=>230|266=>244|314=>245|n=>n,fun|9=>9|3=>3|4=>4|72=>215|0=>0|76=>219|105=>233|21=>21|5=>5|70=>213|20=>20|37=>22|75=>218|127=>246|164=>265|46=>244|119=>240|139=>243|138=>242|146=>290|51=>282|80=>159|n=>n,fun|1=>4|3=>0|4=>1|n=>n⟩
theorem Tryz.lays155:Go.Proofs.Lays.n155 Tryz.prog Tryz.lays155_ren:={
 mixed:=by kernel_rfl
 f138:=Tryz.func200.trans (congrArg some (by kernel_rfl))
 f143:=Tryz.func188.trans (congrArg some (by kernel_rfl))
 f154:=Tryz.func166.trans (congrArg some (by kernel_rfl))
 f155:=Tryz.func104.trans (congrArg some (by kernel_rfl))
 f165:=Tryz.func167.trans (congrArg some (by kernel_rfl))
 f166:=Tryz.func168.trans (congrArg some (by kernel_rfl))
 f169:=Tryz.func169.trans (congrArg some (by kernel_rfl))
 f195:=Tryz.func219.trans (congrArg some (by kernel_rfl))
 f197:=Tryz.func182.trans (congrArg some (by kernel_rfl))
 f217:=Tryz.func227.trans (congrArg some (by kernel_rfl))
 f218:=Tryz.func220.trans (congrArg some (by kernel_rfl))
 f219:=Tryz.func212.trans (congrArg some (by kernel_rfl))
 f224:=Tryz.func229.trans (congrArg some (by kernel_rfl))
 f225:=Tryz.func228.trans (congrArg some (by kernel_rfl))
 f240:=Tryz.func201.trans (congrArg some (by kernel_rfl))
 f241:=Tryz.func202.trans (congrArg some (by kernel_rfl))
 f260:=Tryz.func211.trans (congrArg some (by kernel_rfl))
 f266:=Tryz.func244.trans (congrArg some (by kernel_rfl))
 f267:=Tryz.func230.trans (congrArg some (by kernel_rfl))
 f276:=Tryz.func221.trans (congrArg some (by kernel_rfl))
 f277:=Tryz.func222.trans (congrArg some (by kernel_rfl))
 f314:=Tryz.func245.trans (congrArg some (by kernel_rfl))
 t0:=Tryz.underlying0
 a0:=Tryz.isAgg0
 z0:=Tryz.sizeOf0
 v0:=Tryz.zeroValue0
 t3:=Tryz.underlying3
 a3:=Tryz.isAgg3
 z3:=Tryz.sizeOf3
 v3:=Tryz.zeroValue3
 t4:=Tryz.underlying4
 a4:=Tryz.isAgg4
 z4:=Tryz.sizeOf4
 v4:=Tryz.zeroValue4
 t5:=Tryz.underlying5
 a5:=Tryz.isAgg5
 z5:=Tryz.sizeOf5
 v5:=Tryz.zeroValue5
 t9:=Tryz.underlying9
 a9:=Tryz.isAgg9
 z9:=Tryz.sizeOf9
 v9:=Tryz.zeroValue9
 t20:=Tryz.underlying20
 a20:=Tryz.isAgg20
 z20:=Tryz.sizeOf20
 v20:=Tryz.zeroValue20
 t21:=Tryz.underlying21
 a21:=Tryz.isAgg21
 z21:=Tryz.sizeOf21
 v21:=Tryz.zeroValue21
 t37:=Tryz.underlying22
 a37:=Tryz.isAgg22
 z37:=Tryz.sizeOf22
 v37:=Tryz.zeroValue22
 t46:=Tryz.underlying244
 a46:=Tryz.isAgg244
 z46:=Tryz.sizeOf244
 v46:=Tryz.zeroValue244
 t51:=Tryz.underlying282
 a51:=Tryz.isAgg282
 z51:=Tryz.sizeOf282
 v51:=Tryz.zeroValue282
 t70:=Tryz.underlying213
 a70:=Tryz.isAgg213
 z70:=Tryz.sizeOf213
 v70:=Tryz.zeroValue213
 t72:=Tryz.underlying215
 a72:=Tryz.isAgg215
 z72:=Tryz.sizeOf215
 v72:=Tryz.zeroValue215
 t75:=Tryz.underlying218
 a75:=Tryz.isAgg218
 z75:=Tryz.sizeOf218
 v75:=Tryz.zeroValue218
 t76:=Tryz.underlying219
 a76:=Tryz.isAgg219
 z76:=Tryz.sizeOf219
 v76:=Tryz.zeroValue219
 t105:=Tryz.underlying233
 a105:=Tryz.isAgg233
 z105:=Tryz.sizeOf233
 v105:=Tryz.zeroValue233
 t119:=Tryz.underlying240
 a119:=Tryz.isAgg240
 z119:=Tryz.sizeOf240
 t127:=Tryz.underlying246
 a127:=Tryz.isAgg246
 z127:=Tryz.sizeOf246
 v127:=Tryz.zeroValue246
 t138:=Tryz.underlying242
 a138:=Tryz.isAgg242
 z138:=Tryz.sizeOf242
 v138:=Tryz.zeroValue242
 t139:=Tryz.underlying243
 a139:=Tryz.isAgg243
 z139:=Tryz.sizeOf243
 v139:=Tryz.zeroValue243
 t146:=Tryz.underlying290
 a146:=Tryz.isAgg290
 z146:=Tryz.sizeOf290
 v146:=Tryz.zeroValue290
 t164:=Tryz.underlying265
 a164:=Tryz.isAgg265
 z164:=Tryz.sizeOf265
 v164:=Tryz.zeroValue265
 g1:=by kernel_rfl
 g3:=by kernel_rfl
 g4:=by kernel_rfl }
theorem Tryz.Builder_Extra_155:Builder.Extra Tryz.prog Tryz.lays155_ren:={
 sizeBuilder:=by kernel_rfl
 liesBuilder:=by kernel_rfl
 t5:=Tryz.underlying5
 a5:=Tryz.isAgg5
 z5:=Tryz.sizeOf5
 v5:=Tryz.zeroValue5
 infoByte:=by kernel_rfl
 cellsByte:=by kernel_rfl
 sizeByte:=by kernel_rfl
 neB5:=by decide }
open Go.RowKit Go.Lib in
theorem Tryz.strings_ReplaceAll(s old new:ByteArray)(m:Int)(w:World)(hs:s.size<4294967281)(hm:w.cell? ⟨4,0,none⟩=some (.int .i64 m))(h1:1≤old.size)(hlen:s.size+Lib.countB s old*new.size≤140737488355328):
  Calls Tryz.prog 104 #[.string s,.string old,.string new] w fun e w'=>e=.returned (.string ⟨(Lib.replaceAll s.data.toList old.data.toList new.data.toList).toArray⟩)∧Below w.heap.size w w':=Any.strings_ReplaceAll Tryz.lays155 Tryz.Builder_Extra_155 s old new m w hs hm h1 hlen
def Tryz.lays156_ren:Go.Shelf.Ren:=⟨fun|156=>106|165=>167|166=>168|169=>169|240=>201|241=>202|276=>221|277=>222|n=>n,fun|31=>125|9=>9|3=>3|4=>4|0=>0|20=>20|72=>215|76=>219|70=>213|37=>22|75=>218|127=>246|164=>265|5=>5|80=>159|n=>n,fun|n=>n⟩
theorem Tryz.lays156:Go.Proofs.Lays.n156 Tryz.prog Tryz.lays156_ren:={
 mixed:=by kernel_rfl
 f156:=Tryz.func106.trans (congrArg some (by kernel_rfl))
 f165:=Tryz.func167.trans (congrArg some (by kernel_rfl))
 f166:=Tryz.func168.trans (congrArg some (by kernel_rfl))
 f169:=Tryz.func169.trans (congrArg some (by kernel_rfl))
 f240:=Tryz.func201.trans (congrArg some (by kernel_rfl))
 f241:=Tryz.func202.trans (congrArg some (by kernel_rfl))
 f276:=Tryz.func221.trans (congrArg some (by kernel_rfl))
 f277:=Tryz.func222.trans (congrArg some (by kernel_rfl))
 t0:=Tryz.underlying0
 a0:=Tryz.isAgg0
 z0:=Tryz.sizeOf0
 v0:=Tryz.zeroValue0
 t3:=Tryz.underlying3
 a3:=Tryz.isAgg3
 z3:=Tryz.sizeOf3
 v3:=Tryz.zeroValue3
 t4:=Tryz.underlying4
 a4:=Tryz.isAgg4
 z4:=Tryz.sizeOf4
 v4:=Tryz.zeroValue4
 t9:=Tryz.underlying9
 a9:=Tryz.isAgg9
 z9:=Tryz.sizeOf9
 v9:=Tryz.zeroValue9
 t20:=Tryz.underlying20
 a20:=Tryz.isAgg20
 z20:=Tryz.sizeOf20
 v20:=Tryz.zeroValue20
 t31:=Tryz.underlying125
 a31:=Tryz.isAgg125
 z31:=Tryz.sizeOf125
 v31:=Tryz.zeroValue125
 t37:=Tryz.underlying22
 a37:=Tryz.isAgg22
 z37:=Tryz.sizeOf22
 v37:=Tryz.zeroValue22
 t70:=Tryz.underlying213
 a70:=Tryz.isAgg213
 z70:=Tryz.sizeOf213
 v70:=Tryz.zeroValue213
 t72:=Tryz.underlying215
 a72:=Tryz.isAgg215
 z72:=Tryz.sizeOf215
 v72:=Tryz.zeroValue215
 t75:=Tryz.underlying218
 a75:=Tryz.isAgg218
 z75:=Tryz.sizeOf218
 v75:=Tryz.zeroValue218
 t76:=Tryz.underlying219
 a76:=Tryz.isAgg219
 z76:=Tryz.sizeOf219
 v76:=Tryz.zeroValue219
 t127:=Tryz.underlying246
 a127:=Tryz.isAgg246
 z127:=Tryz.sizeOf246
 v127:=Tryz.zeroValue246
 t164:=Tryz.underlying265
 a164:=Tryz.isAgg265
 z164:=Tryz.sizeOf265
 v164:=Tryz.zeroValue265 }
theorem Tryz.Builder_Extra_156:Builder.Extra Tryz.prog Tryz.lays156_ren:={
 sizeBuilder:=by kernel_rfl
 liesBuilder:=by kernel_rfl
 t5:=Tryz.underlying5
 a5:=Tryz.isAgg5
 z5:=Tryz.sizeOf5
 v5:=Tryz.zeroValue5
 infoByte:=by kernel_rfl
 cellsByte:=by kernel_rfl
 sizeByte:=by kernel_rfl
 neB5:=by decide }
open Go.RowKit Go.Lib in
theorem Tryz.strings_Join(bk o c:Nat)(xs:List ByteArray)(sep:ByteArray)(w:World)(hcells:∀(j:Nat) x,xs[j]?=some x→w.cell? ⟨bk,o+j,none⟩=some (.string x))(hbk:bk<w.heap.size)(hN:xs.length≤140737488355328)(hcap:xs.length≤c)(hlen:(Lib.join (xs.map (·.data.toList)) sep.data.toList).length≤140737488355328):
  Calls Tryz.prog 106 #[.slice (some ⟨bk,o,none⟩) xs.length c,.string sep] w fun e w'=>e=.returned (.string ⟨(Lib.join (xs.map (·.data.toList)) sep.data.toList).toArray⟩)∧Below w.heap.size w w':=Any.strings_Join Tryz.lays156 Tryz.Builder_Extra_156 bk o c xs sep w hcells hbk hN hcap hlen
end Go.Proofs
end

section
namespace Go.Proofs.YtmiokadmddjccaaGreatDoor
open Go Go.RowKit Go.Mor Go.Sh
set_option maxRecDepth 100000
set_option maxHeartbeats 8000000
theorem rel_S{w:World}{E:Env}{r:Sh.Rows}{x:ByteArray}{v:Value}(h:RelT w E r (S x) v):v=.string x:=val_rel h rfl
theorem pvC_set{xs:List PV}{i:Nat}(h:i<xs.length)(y:PV):List.take i (pvC xs)++[TV.pv y]++List.drop (i+1) (pvC xs)=pvC (xs.set i y):=by
 unfold pvC;rw[List.set_eq_take_append_cons_drop,if_pos h,List.map_append,List.map_cons,List.map_take,List.map_drop,List.append_assoc];rfl
end Go.Proofs.YtmiokadmddjccaaGreatDoor
end

section
namespace Go.Sh.Cd1
open Go Go.Sh
set_option maxRecDepth 100000
abbrev c_109_0:=kV [2,3] [kO 2 0,kO 3 1,kT 4 false] [0,1,4]
abbrev c_109_1:=kV [2028,2029,2030,2031] [oL 5 true 4 2,oL 6 true 4 3,kD 7 80 0 5 6,kK 8 .eql 3 7 0,oM 4 8] [2,3,5,6,7,8]
abbrev F_109:SFunc:=⟨9,(.seq c_109_0 (.seq c_109_1 .ret)),[.tmp 4],false⟩
theorem tf_109:kU 27 [(7,0)] [] F_109:=by unfold kU;kernel_rfl
end Go.Sh.Cd1
end

section
namespace Go.Mor
open Go
def qesc(s:List UInt8):List UInt8:=s.flatMap fun b=>if b=34∨b=92 then [92,b] else [b]
def brk(t:List UInt8):List UInt8:=40::(t++[41])
def kidT(e:V)(least:Int)(t:List UInt8):List UInt8:=if e.k=4∧bindsV e.s<least then brk t else t
def txtE:Nat→V→List UInt8
 |0,_=>[]
 |d+1,e=>
  if e.k=1 then Lib.itoa e.n
  else if e.k=2 then 34::(qesc e.s++[34])
  else if e.k=5 then 45::kidT (e.l.getD 0 V.nil) 5 (txtE d (e.l.getD 0 V.nil))
  else if e.k=4 then kidT (e.l.getD 0 V.nil) (bindsV e.s) (txtE d (e.l.getD 0 V.nil))++32::(e.s++32::kidT (e.l.getD 1 V.nil) (bindsV e.s+1) (txtE d (e.l.getD 1 V.nil)))
  else if e.k=6 then e.s++40::(Lib.join (e.l.map (txtE d)) [44,32]++[41])
  else e.s

end Go.Mor
end

section
namespace Go.Sh.Cd5
open Go Go.Sh
set_option maxRecDepth 100000
abbrev c_58_0:=kV [1] [kO 1 0,oD 2 (.mov (.val (.string ⟨#[]⟩))),kI 3 0] [0,2,3]
abbrev c_58_1:=kV [2024,2025,2026,2027] [oL 5 true 4 1,kC 6 18 0 5,kN 7 6] [5,6]
abbrev c_58_2:=kR [oD 2 (.mov (.val (.string ⟨#[]⟩))),kI 3 50] [1,7]
abbrev c_58_3:=kV [2032,2033,2034,2035,4] [oD 8 (.call 59 0 []),oD 9 (.build [(.map none)] [(0,1,(.tmp 8))]),oD 4 (.new [(.map none)]),kS 1 4 9] [2,3,7,8,9]
abbrev c_58_4:=kV [2048,2049,2050,2051] [oL 10 true 1 4,oL 11 true 4 1,kD 12 60 0 10 11,oM 2 12,kI 3 0] [1,4,10,11,12]
abbrev F_58:SFunc:=⟨13,(.seq c_58_0 (.seq (.seq c_58_1 (.cond (.tmp 7) (.seq c_58_2 .ret) .skip)) (.seq c_58_3 (.seq c_58_4 .ret)))),[.tmp 2,.tmp 3],false⟩
theorem tf_58:kU 16 [(6,0),(8,0),(12,0)] [] F_58:=by unfold kU;kernel_rfl
abbrev c_16_0:=kV [2,3] [kO 2 0,kO 3 1,oD 4 (.mov (.val (.string ⟨#[]⟩)))] [0,1,4]
abbrev c_16_1:=kR [kA 10 0 3,oL 11 false 1 10] [10]
abbrev c_16_2:=kR [kK 13 .eql 3 11 1,oM 12 13] [13]
abbrev c_16_3:=kV [2064,2065,2066,2067] [kA 14 1 3,oL 15 false 1 14,kC 16 103 0 15,oM 4 16] [2,3,11,12,14,15,16]
abbrev c_16_4:=kR [kK 18 .eql 3 11 2,oM 17 18] [12,18]
abbrev c_16_5:=kV [2084,2085,2086,2087] [kA 19 2 3,oL 20 false 1 19,oD 21 (.call 104 0 [.tmp 20,.val (.string ⟨#[92]⟩),.val (.string ⟨#[92,92]⟩)]),oM 5 21] [2,3,11,17,19,20,21]
abbrev c_16_6:=kV [2092,2093,2094,2095] [oM 22 5,oD 23 (.call 104 0 [.tmp 22,.val (.string ⟨#[34]⟩),.val (.string ⟨#[92,34]⟩)]),oD 24 (.bin .add 9 (.val (.string ⟨#[34]⟩)) (.tmp 23)),oD 25 (.bin .add 9 (.tmp 24) (.val (.string ⟨#[34]⟩))),oM 4 25] [5,22,23,24,25]
abbrev c_16_7:=kR [kK 27 .eql 3 11 5,oM 26 27] [17,27]
abbrev c_16_8:=kV [2132,2133,2134,2135] [oL 28 true 1 2,kA 29 3 3,oL 30 false 1 29,oD 31 (.idxA 4 (.tmp 30) (vI 0)),oL 32 true 4 31,oD 33 (.call 105 0 [.tmp 28,.tmp 32,vI 5]),oD 34 (.bin .add 9 (.val (.string ⟨#[45]⟩)) (.tmp 33)),oM 4 34] [2,3,11,26,28,29,30,31,32,33,34]
abbrev c_16_9:=kR [kK 36 .eql 3 11 4,oM 35 36] [26,36]
abbrev c_16_10:=kR [kA 37 0 2,oL 38 false 1 37,kA 39 2 3,oL 40 false 1 39,oD 41 (.lkp true (.int .i64 0) (.tmp 38) (.tmp 40)),oM 6 41] [11,35,37,38,39,40,41]
abbrev c_16_11:=kV [2192,2193,2194,2195,2244,2245,2246,2247] [oL 42 true 1 2,kA 43 3 3,oL 44 false 1 43,oD 45 (.idxA 4 (.tmp 44) (vI 0)),oL 46 true 4 45,oM 47 6,kE 48 105 0 42 46 47,oD 49 (.bin .add 9 (.tmp 48) (.val (.string ⟨#[32]⟩))),kA 50 2 3,oL 51 false 1 50,kB 52 .add 9 49 51,oD 53 (.bin .add 9 (.tmp 52) (.val (.string ⟨#[32]⟩))),oL 54 true 1 2,kA 55 3 3,oL 56 false 1 55,oD 57 (.idxA 4 (.tmp 56) (vI 1)),oL 58 true 4 57,oM 59 6,kK 60 .add 3 59 1,kE 61 105 0 54 58 60,kB 62 .add 9 53 61,oM 4 62] [2,3,6,42,43,44,45,46,47,48,49,50,51,52,53,54,55,56,57,58,59,60,61,62]
abbrev c_16_12:=kR [kK 64 .eql 3 11 6,oM 63 64] [11,35,64]
abbrev c_16_13:=kV [68] [kA 65 3 3,oL 66 false 1 65,kZ 67 66,oD 68 (.mks 16 [(.string ⟨#[]⟩)] (.tmp 67)),oM 7 68] [63,65,66,67,68]
abbrev c_16_14:=kR [kA 69 3 3,oL 70 false 1 69,kZ 71 70,kI 72 0] [69]
abbrev c_16_15:=kR [kB 73 .lss 3 72 71] []
abbrev c_16_16:=kV [9] [oM 74 72,kX 75 4 70 72,oL 76 true 4 75,oD 9 (.new zV),oM 8 74,kS 4 9 76] [73,74,75,76]
abbrev c_16_17:=kV [2324,2325,2326,2327] [oM 77 7,oM 78 8,oL 79 true 1 2,oL 80 true 4 9,kD 81 60 0 79 80,kX 82 1 77 78,kS 1 82 81] [8,9,77,78,79,80,81,82]
abbrev c_16_18:=kR [kK 83 .add 3 72 1,oM 72 83] [83]
abbrev c_16_19:SCode:=(.seq c_16_15 (.seq (.cond (.tmp 73) .skip (.exit 1)) (.seq (.block 2 (.seq c_16_16 c_16_17)) c_16_18)))
abbrev c_16_20:=kV [2352,2353,2354,2355] [kA 84 2 3,⟨(some 85),none,(some 3),.ld false 1 (.tmp 84)⟩,oD 86 (.bin .add 9 (.tmp 85) (.val (.string ⟨#[40]⟩))),oM 87 7,⟨(some 88),none,(some 68),.call 106 1 [.tmp 87,.val (.string ⟨#[44,32]⟩)]⟩,kB 89 .add 9 86 88,oD 90 (.bin .add 9 (.tmp 89) (.val (.string ⟨#[41]⟩))),oM 4 90] [2,3,7,70,71,72,84,85,86,87,88,89,90]
abbrev c_16_21:=kR [kA 91 2 3,oL 92 false 1 91,oM 4 92] [2,3,63,91,92]
abbrev F_16:SFunc:=⟨93,(.seq c_16_0 (.seq (.seq c_16_1 (.block 0 (.seq c_16_2 (.cond (.tmp 12) (.seq c_16_3 .ret) (.seq c_16_4 (.cond (.tmp 17) (.seq c_16_5 (.seq c_16_6 .ret)) (.seq c_16_7 (.cond (.tmp 26) (.seq c_16_8 .ret) (.seq c_16_9 (.cond (.tmp 35) (.seq c_16_10 (.seq c_16_11 .ret)) (.seq c_16_12 (.cond (.tmp 63) (.seq c_16_13 (.seq (.seq c_16_14 (.block 1 (.loop c_16_19))) (.seq c_16_20 .ret))) .skip)))))))))))) (.seq c_16_21 .ret))),[.tmp 4],false⟩
theorem tf_16:kU 60 [(16,0),(21,0),(23,0),(33,0),(48,0),(61,0),(81,0),(88,1)] [(19,[[(1,3),(4,68)]])] F_16:=by unfold kU;kernel_rfl
abbrev c_15_0:=kV [3,4] [kO 3 0,kO 4 1,oD 6 (.mov (.val (.string ⟨#[]⟩)))] [0,1,6]
abbrev c_15_1:=kR [kA 7 0 4,oL 8 false 1 7,kK 9 .eql 3 8 4,oM 10 9,kF 11 10 true 0 3,kL 12 10 true false 1 11,kF 13 10 true 2 4,kL 14 10 true false 1 13,oG 15 10 true (.lkp true (.int .i64 0) (.tmp 12) (.tmp 14)),oH 16 10 true 2,kH 17 10 true .lss 3 15 16,oP 18 10 17 false] [2,7,8,9,10,11,12,13,14,15,16,17]
abbrev c_15_2:=kV [2084,2085,2086,2087] [oL 19 true 1 3,oL 20 true 4 4,kD 21 60 0 19 20,oD 22 (.bin .add 9 (.val (.string ⟨#[40]⟩)) (.tmp 21)),oD 23 (.bin .add 9 (.tmp 22) (.val (.string ⟨#[41]⟩))),oM 6 23] [3,4,18,19,20,21,22,23]
abbrev c_15_3:=kV [2104,2105,2106,2107] [oL 24 true 1 3,oL 25 true 4 4,kD 26 60 0 24 25,oM 6 26] [3,4,18,24,25,26]
abbrev F_15:SFunc:=⟨27,(.seq c_15_0 (.seq (.seq c_15_1 (.cond (.tmp 18) (.seq c_15_2 .ret) .skip)) (.seq c_15_3 .ret))),[.tmp 6],false⟩
theorem tf_15:kU 105 [(21,0),(26,0)] [] F_15:=by unfold kU;kernel_rfl
end Go.Sh.Cd5
end

section
namespace Go.Mor
open Go
set_option maxHeartbeats 2000000
def kidK(e:V)(least:Int)(t:List T3):List T3:=if e.k=4∧bindsV e.s<least then sg [40]::(t++[sg [41]])else t
def sepK:List (List T3)→List T3
 |[]=>[]
 |x::r=>x++(r.map fun y=>sg [44]::y).flatten
def tokE:Nat→V→List T3
 |0,_=>[]
 |d+1,e=>
  if e.k=1 then [(1,e.n,[])]
  else if e.k=2 then [(2,0,e.s)]
  else if e.k=5 then sg [45]::kidK (e.l.getD 0 V.nil) 5 (tokE d (e.l.getD 0 V.nil))
  else if e.k=4 then kidK (e.l.getD 0 V.nil) (bindsV e.s) (tokE d (e.l.getD 0 V.nil))++sg e.s::kidK (e.l.getD 1 V.nil) (bindsV e.s+1) (tokE d (e.l.getD 1 V.nil))
  else if e.k=6 then(3,0,e.s)::sg [40]::(sepK (e.l.map (tokE d))++[sg [41]])
  else [(3,0,e.s)]
theorem LexP.blank(post:List UInt8):LexP [32] [] post:=by
 intro f a acc hf;obtain⟨f,rfl⟩:∃g,f=g+1:=⟨f-1,by simp at hf;omega⟩
 refine⟨f,[],by simp at hf;omega,rfl,?_⟩;simp[lexG]
def NoWord(l:List UInt8):Prop:=∀c r,l=c::r→nameB c=false
theorem digB_name{b:UInt8}(h:digB b=true):nameB b=true:=by
 unfold digB at h;unfold nameB;simp only[decide_eq_true_eq]at h;simp[h]
theorem numG_end{l:List UInt8}(h:NoWord l)(n:Int)(z:Nat):numG l n z=(n,z):=by
 cases l with
 |nil=>rfl
 |cons c r=>
  have hc:=h c r rfl;rw[numG];cases hd:digB c with
  |false=>simp
  |true=>rw[digB_name hd]at hc;cases hc
theorem numG_digits:∀(m:Nat),m≤1000000000000000→∀(r:List UInt8) (z:Nat),numG (Lib.decDigits m++r) 0 z=numG r m (z+(Lib.decDigits m).length):=by
 have step:∀(n d:Nat),d<10→10*n+d≤1000000000000000→∀r z,numG (UInt8.ofNat (48+d)::r) n z=numG r ((10*n+d:Nat):Int) (z+1):=by
  intro n d hd hn r z;rw[numG,if_pos (by unfold digB;rw[digC d hd];simp;omega),digC d hd];congr 1;omega
 intro m
 induction m using Nat.strongRecOn with
 |_ m ih=>
  intro h1 r z;by_cases hm:m<10
  ·rw[Lib.decDigits_one hm];have:=step 0 m hm (by omega) r z;simpa using this
  ·have e0:Lib.decDigits m=Lib.decDigits (m / 10)++[UInt8.ofNat (48+m%10)]:=by rw[Lib.decDigits,dif_neg hm]
   have e1:=ih (m / 10) (by omega) (by omega) (UInt8.ofNat (48+m%10)::r) z;have e2:=step (m / 10) (m%10) (by omega) (by omega) r (z+(Lib.decDigits (m / 10)).length);have e3:10*(m / 10)+m%10=m:=by omega
   rw[e3]at e2;rw[e0,List.append_assoc,List.singleton_append,e1,e2];congr 1;simp;omega
theorem decDigits_cons(m:Nat):∃c r,Lib.decDigits m=c::r∧digB c=true:=by
 induction m using Nat.strongRecOn with
 |_ m ih=>
  by_cases hm:m<10
  ·exact⟨UInt8.ofNat (48+m),[],Lib.decDigits_one hm,by unfold digB;rw[digC m hm];simp;omega⟩
  ·obtain⟨c,r,h1,h2⟩:=ih (m / 10) (by omega);exact⟨c,r++[UInt8.ofNat (48+m%10)],by rw[Lib.decDigits,dif_neg hm,h1];rfl,h2⟩
theorem lex_num{n:Int}(h0:0≤n)(h1:n≤1000000000000000){post:List UInt8}(hp:NoWord post):LexP (Lib.itoa n) [(1,n,[])] post:=by
 obtain⟨m,rfl⟩:=Int.eq_ofNat_of_zero_le h0;have hi:Lib.itoa (m:Int)=Lib.decDigits m:=by unfold Lib.itoa;simp
 rw[hi];obtain⟨c,r,e1,e2⟩:=decDigits_cons m;refine LexP.one e1 (by rintro rfl;revert e2;decide) (fun a=>⟨⟨1,m,[],a⟩,?_,rfl⟩);have hg:numG (Lib.decDigits m++post) 0 0=((m:Int),(Lib.decDigits m).length):=by
  rw[numG_digits m (by omega),numG_end hp,Nat.zero_add]
 rw[e1]at hg ⊢;rw[List.cons_append]at hg ⊢;unfold readP;simp only[e2,if_true,hg];rw[if_neg (by omega)]
theorem nameZ_all:∀{s post:List UInt8},s.all nameB=true→NoWord post→nameZ (s++post)=s.length
 |[],[],_,_=>rfl
 |[],c::r,_,hp=>by rw[List.nil_append,nameZ,hp c r rfl];rfl
 |b::s,post,h,hp=>by
  rw[List.all_cons,Bool.and_eq_true]at h;rw[List.cons_append,nameZ,h.1,if_pos rfl,nameZ_all h.2 hp];rfl
theorem z169{s:List UInt8}(h:z13 s=true):∃b r,s=b::r∧small b=true∧s.all nameB=true:=by
 unfold z13 at h;simp only[Bool.and_eq_true,decide_eq_true_eq]at h;obtain⟨⟨⟨h1,_⟩,h2⟩,h3⟩:=h;cases s with
 |nil=>simp at h1
 |cons b r=>exact⟨b,r,rfl,by simpa using h2,h3⟩
theorem small_dig{b:UInt8}(h:small b=true):digB b=false∧b≠32:=by
 unfold small at h;unfold digB;simp only[decide_eq_true_eq]at h;exact⟨by simp;omega,by rintro rfl;revert h;decide⟩
theorem lex_name{s:List UInt8}(h:z13 s=true){post:List UInt8}(hp:NoWord post):LexP s [(3,0,s)] post:=by
 obtain⟨b,r,e1,e2,e3⟩:=z169 h;obtain⟨d1,d2⟩:=small_dig e2;refine LexP.one e1 d2 (fun a=>⟨⟨3,0,s,a⟩,?_,rfl⟩);have hz:=nameZ_all e3 hp;have ht:(s++post).take s.length=s:=List.take_left' rfl;rw[e1]at hz ht h ⊢;rw[List.cons_append]at hz ht ⊢;unfold readP;simp only[d1,e2,Bool.false_eq_true,if_false,if_true,hz,ht,h]
theorem quoG_esc:∀(s acc:List UInt8) (k:Nat) (post:List UInt8),z10 (acc++s)=true→quoG (qesc s++34::post) acc k=some (acc++s,k+(qesc s).length+1)
 |[],acc,k,post,h=>by
  rw[List.append_nil]at h;simp[qesc,quoG_34,h]
 |b::s,acc,k,post,h=>by
  have e1:acc++b::s=(acc++[b])++s:=by simp
  rw[e1]at h;by_cases hb:b=34∨b=92
  ·have e2:qesc (b::s)=92::b::qesc s:=by simp[qesc,hb]
   rw[e2,List.cons_append,List.cons_append,quoG_92,if_pos hb,quoG_esc s _ _ _ h,e1];simp only[List.length_cons];congr 2;omega
  ·have e2:qesc (b::s)=b::qesc s:=by simp[qesc,hb]
   rw[not_or]at hb;rw[e2,List.cons_append,quoG_c hb.1 hb.2,quoG_esc s _ _ _ h,e1];simp only[List.length_cons];congr 2;omega
theorem lex_text{s:List UInt8}(h:z10 s=true)(post:List UInt8):LexP (34::(qesc s++[34])) [(2,0,s)] post:=by
 refine LexP.one rfl (by decide) (fun a=>⟨⟨2,0,s,a⟩,?_,rfl⟩);have hq:=quoG_esc s [] 1 post (by simpa using h);rw[List.nil_append]at hq;rw[List.cons_append,List.append_assoc,List.singleton_append];unfold readP;simp only[show digB 34=false by decide,show small 34=false by decide,Bool.false_eq_true,if_false,if_true,hq];congr 2;simp;omega
theorem z90{b:UInt8}(h:b=40∨b=41∨b=44∨b=45)(post:List UInt8):LexP [b] [sg [b]] post:=by
 refine LexP.one rfl (by rcases h with rfl|rfl|rfl|rfl<;>decide) (fun a=>⟨⟨4,0,[b],a⟩,?_,rfl⟩);rcases h with rfl|rfl|rfl|rfl<;>rfl
theorem lex_op{s:List UInt8}(h:0<bindsV s)(post:List UInt8):LexP s [sg s] (32::post):=by
 have hs:=binds_cases h;rcases hs with rfl|rfl|rfl|rfl|rfl|rfl|rfl|rfl|rfl|rfl|rfl|rfl<;>
  exact LexP.one rfl (by decide) (fun a=>⟨⟨4,0,_,a⟩,rfl,rfl⟩)
def StopT(l:List UInt8):Prop:=∀c r,l=c::r→c=32∨c=41∨c=44
theorem StopT.word{l:List UInt8}(h:StopT l):NoWord l:=by
 intro c r e;rcases h c r e with rfl|rfl|rfl<;>decide
theorem stop32(l:List UInt8):StopT (32::l):=by intro c r e;cases e;exact .inl rfl
theorem stop41(l:List UInt8):StopT (41::l):=by intro c r e;cases e;exact .inr (.inl rfl)
theorem stop44(l:List UInt8):StopT (44::l):=by intro c r e;cases e;exact .inr (.inr rfl)
theorem stop0:StopT []:=by intro c r e;cases e
theorem word40(l:List UInt8):NoWord (40::l):=by intro c r e;cases e;decide
theorem lex_kid{e:V}{least:Int}{t:List UInt8}{ts:List T3}(h:∀post,StopT post→LexP t ts post)(post:List UInt8)(hp:StopT post):LexP (kidT e least t) (kidK e least ts) post:=by
 unfold kidT kidK;split
 ·have h1:=z90 (b:=40) (by simp) (t++([41]++post));have h2:=h ([41]++post) (stop41 _);have h3:=z90 (b:=41) (by simp) post;have:=LexP.app (t2:=t++[41]) (by simpa using h1) (h2.app h3);simpa [brk]using this
 ·exact h post hp
theorem takes_name{s:List UInt8}(h:0<takesV s):z13 s=true:=by
 unfold takesV at h;split at h
 ·rename_i h1;rcases h1 with rfl|rfl|rfl<;>decide
 split at h
 ·rename_i h1;rcases h1 with rfl|rfl|rfl|rfl|rfl|rfl<;>decide
 split at h
 ·rename_i h1;subst h1;decide
 ·omega
theorem lex_sep{d:Nat}(hd:∀e,okE d e=true→∀post,StopT post→LexP (txtE d e) (tokE d e) post):∀(l:List V),(∀x∈l,okE d x=true)→∀post,StopT post→LexP ((l.map fun y=>[44,32]++txtE d y).flatten) ((l.map fun y=>sg [44]::tokE d y).flatten) post
 |[],_,post,_=>by simpa using LexP.nil post
 |y::l,hl,post,hp=>by
  have ih:=lex_sep hd l (fun x hx=>hl x (List.mem_cons_of_mem _ hx)) post hp;have hst:StopT ((l.map fun y=>[44,32]++txtE d y).flatten++post):=by
   cases l with
   |nil=>simpa using hp
   |cons z l=>simpa using stop44 _
  have h1:=hd y (hl y (List.mem_cons_self ..)) _ hst;have h2:=LexP.blank (txtE d y++((l.map fun y=>[44,32]++txtE d y).flatten++post));have h3:=z90 (b:=44) (by simp) ([32]++(txtE d y++((l.map fun y=>[44,32]++txtE d y).flatten++post)));have:=LexP.app (t2:=[32]++(txtE d y++(l.map fun y=>[44,32]++txtE d y).flatten)) (by simpa using h3) (LexP.app (t2:=txtE d y++(l.map fun y=>[44,32]++txtE d y).flatten) (by simpa using h2) (h1.app ih));simpa using this
theorem lex_tree:∀(d:Nat) (e:V),okE d e=true→∀post,StopT post→LexP (txtE d e) (tokE d e) post
 |0,e,h,_,_=>by cases h
 |d+1,e,h,post,hp=>by
  obtain⟨hn,hk⟩:=z98 h;have ih:=lex_tree d;unfold txtE tokE;rcases z79 hn with k|k|k|k|k|k
  ·obtain⟨h1,h2,_,_⟩:=node1 hn k;simp only[k,if_true];exact lex_num h1 h2 hp.word
  ·obtain⟨_,h2,_⟩:=node2 hn k;simp only[k,Int.reduceEq,if_false,if_true];exact lex_text h2 post
  ·obtain⟨_,h2,_⟩:=node3 hn k;simp only[k,Int.reduceEq,if_false];exact lex_name h2 hp.word
  ·obtain⟨_,h2,a,b,hl⟩:=node4 hn k;simp only[k,Int.reduceEq,if_false,if_true,hl,List.getD_cons_zero,List.getD_cons_succ];have ha:=hk a (by simp[hl]);have hb:=hk b (by simp[hl]);have q1:=lex_kid (e:=a) (least:=bindsV e.s) (ih a ha) (32::(e.s++32::(kidT b (bindsV e.s+1) (txtE d b)++post))) (stop32 _);have q2:=LexP.blank (e.s++32::(kidT b (bindsV e.s+1) (txtE d b)++post));have q3:=lex_op h2 (kidT b (bindsV e.s+1) (txtE d b)++post);have q4:=LexP.blank (kidT b (bindsV e.s+1) (txtE d b)++post);have q5:=lex_kid (e:=b) (least:=bindsV e.s+1) (ih b hb) post hp;have r4:=LexP.app q4 q5;have r3:=LexP.app (t2:=[32]++kidT b (bindsV e.s+1) (txtE d b)) (by simpa using q3) r4;have r2:=LexP.app (t2:=e.s++([32]++kidT b (bindsV e.s+1) (txtE d b))) (by simpa using q2) r3;have r1:=LexP.app (t2:=[32]++(e.s++([32]++kidT b (bindsV e.s+1) (txtE d b)))) (by simpa using q1) r2;simpa using r1
  ·obtain⟨_,h2,a,hl⟩:=node5 hn k;simp only[k,Int.reduceEq,if_false,if_true,hl,List.getD_cons_zero];have ha:=hk a (by simp[hl]);have q1:=lex_kid (e:=a) (least:=5) (ih a ha) post hp;have q0:=z90 (b:=45) (by simp) (kidT a 5 (txtE d a)++post);have:=LexP.app (by simpa using q0) q1;simpa using this
  ·obtain⟨_,h2,hl⟩:=node6 hn k;simp only[k,Int.reduceEq,if_false,if_true];obtain⟨y,l,hyl⟩:∃y l,e.l=y::l:=by
    cases hh:e.l with
    |nil=>rw[hh]at hl;simp at hl;omega
    |cons y l=>exact⟨y,l,rfl⟩
   rw[hyl,List.map_cons,List.map_cons,Lib.join_cons,sepK];unfold Lib.joinTail;rw[List.map_map,List.map_map];have hks:∀x∈l,okE d x=true:=fun x hx=>hk x (by rw[hyl];exact List.mem_cons_of_mem _ hx);have hy:=hk y (by rw[hyl];exact List.mem_cons_self ..);have s1:=z90 (b:=41) (by simp) post;have s2:=lex_sep ih l hks ([41]++post) (stop41 _);have hst:StopT ((l.map fun y=>[44,32]++txtE d y).flatten++([41]++post)):=by
    cases l with
    |nil=>simpa using stop41 _
    |cons z l=>simpa using stop44 _
   have s3:=ih y hy _ hst;have s4:=z90 (b:=40) (by simp) (txtE d y++((l.map fun y=>[44,32]++txtE d y).flatten++([41]++post)));have s5:=lex_name (takes_name h2) (word40 (txtE d y++((l.map fun y=>[44,32]++txtE d y).flatten++([41]++post))));have r1:=LexP.app s2 s1;have r2:=LexP.app (t2:=(l.map fun y=>[44,32]++txtE d y).flatten++[41]) (by simpa using s3) r1;have r3:=LexP.app (t2:=txtE d y++((l.map fun y=>[44,32]++txtE d y).flatten++[41])) (by simpa using s4) r2;have r4:=LexP.app (t2:=[40]++(txtE d y++((l.map fun y=>[44,32]++txtE d y).flatten++[41]))) (by simpa using s5) r3;simpa [Function.comp_def]using r4
section
variable{L:List Pc}{sz p:Nat}{t:T3}{ts r post:List T3}
theorem z54(h:(L.drop p).map er=t::r):er (pkP L sz p)=t∧(L.drop (p+1)).map er=r:=by
 cases hd:L.drop p with
 |nil=>rw[hd]at h;cases h
 |cons q l=>
  rw[hd,List.map_cons]at h;injection h with h1 h2
  have hq:L[p]?=some q:=by
   have:=congrArg (·[0]?) hd;simpa using this
  refine⟨by simp[pkP,hq,h1],?_⟩;have:L.drop (p+1)=l:=by
   have:=congrArg (List.drop 1) hd;simpa [List.drop_drop,Nat.add_comm]using this
  rw[this];exact h2
theorem pk_nil(h:(L.drop p).map er=[]):pkP L sz p=⟨0,0,[],sz⟩:=by
 have h1:L.drop p=[]:=by simpa using h
 have h2:L.length≤p:=by simpa using h1
 simp[pkP,List.getElem?_eq_none h2]
theorem drop_len(h:(L.drop p).map er=ts++r):(L.drop (p+ts.length)).map er=r:=by
 have:=congrArg (List.drop ts.length) h;simpa [←List.map_drop,List.drop_drop]using this
theorem er_k{q:Pc}(h:er q=t):q.k=t.1∧q.n=t.2.1∧q.s=t.2.2:=by subst h;exact⟨rfl,rfl,rfl⟩
theorem z40{q:Pc}(h:er q=t)(s:List UInt8):isSg q s=(t.1==4&&t.2.2==s):=by subst h;rfl
end
def NP(post:List T3):Prop:=∀t r,post=t::r→t.1=4∧t.2.2≠[40]
def StopK(least:Int)(post:List T3):Prop:=∀t r,post=t::r→t.1=4→bindsV t.2.2<least
theorem np_sg{s:List UInt8}(h:s≠[40])(r:List T3):NP (sg s::r):=by intro t r e;cases e;exact⟨rfl,h⟩
theorem z106{s:List UInt8}{m:Int}(h:bindsV s<m)(r:List T3):StopK m (sg s::r):=by intro t r e _;cases e;exact h
theorem np_nil:NP []:=by intro t r e;cases e
theorem stopK_nil(m:Int):StopK m []:=by intro t r e;cases e
theorem binds_ne{s:List UInt8}(h:0<bindsV s):s≠[40]:=by rintro rfl;revert h;decide
def PT(d:Nat):Prop:=∀e,okE d e=true→e.k≠4→∀(L:List Pc) (sz p:Nat) (post:List T3),(L.drop p).map er=tokE d e++post→NP post→∃F,∀f,F≤f→pT L sz f p=some (.ok e (p+(tokE d e).length))
def PC(d:Nat):Prop:=∀e,okE d e=true→∀(least:Int) (L:List Pc) (sz p:Nat) (post:List T3),(L.drop p).map er=tokE d e++post→NP post→(e.k=4→least≤bindsV e.s∧StopK (bindsV e.s+1) post)→
 ∃F j,∀f,F≤f→pE L sz (f+j) least p=pL L sz f least e (p+(tokE d e).length)
def PK(d:Nat):Prop:=∀e,okE d e=true→∀(m least:Int),least≤m→∀(L:List Pc) (sz p:Nat) (post:List T3),(L.drop p).map er=kidK e m (tokE d e)++post→NP post→(e.k=4→m≤bindsV e.s→StopK (bindsV e.s+1) post)→
 ∃F j,∀f,F≤f→pE L sz (f+j) least p=pL L sz f least e (p+(kidK e m (tokE d e)).length)
def PD(d:Nat):Prop:=∀e,okE d e=true→∀(m:Int) (L:List Pc) (sz p:Nat) (post:List T3),(L.drop p).map er=kidK e m (tokE d e)++post→NP post→StopK m post→
 ∃F,∀f,F≤f→pE L sz f m p=some (.ok e (p+(kidK e m (tokE d e)).length))
theorem pL_stop{L:List Pc}{sz p:Nat}{post:List T3}{m:Int}{e:V}(h:(L.drop p).map er=post)(hs:StopK m post)(f:Nat):pL L sz (f+1) m e p=some (.ok e p):=by
 rw[pL,if_pos];cases post with
 |nil=>rw[pk_nil h];simp
 |cons t r=>
  obtain⟨h1,h2,h3⟩:=er_k (z54 (sz:=sz) h).1;rw[h1,h3];by_cases hk:t.1=4
  ·exact .inr (hs t r rfl hk)
  ·exact .inl hk
theorem pd_of{d:Nat}(hk:PK d):PD d:=by
 intro e he m L sz p post h hnp hst;obtain⟨F,j,hF⟩:=hk e he m m (Int.le_refl _) L sz p post h hnp (fun h4 hm t r e1 e2=>by have:=hst t r e1 e2;omega);refine⟨F+1+j,fun f hf=> ?_⟩;obtain⟨g,rfl⟩:∃g,f=g+1+j:=⟨f-1-j,by omega⟩
 rw[hF (g+1) (by omega)];exact pL_stop (drop_len h) hst g
theorem b41:bindsV [41]=0:=by decide
theorem pk_of{d:Nat}(hc:PC d):PK d:=by
 intro e he m least hle L sz p post h hnp hst;unfold kidK at h ⊢;by_cases hb:e.k=4∧bindsV e.s<m
 ·rw[if_pos hb]at h ⊢;have hn:=(by cases d with|zero=>cases he|succ d=>exact(z98 he).1:nodeE e=true)
  obtain⟨_,hb0,_⟩:=node4 hn hb.1;rw[List.cons_append]at h;obtain⟨h1,h2⟩:=z54 (sz:=sz) h;rw[List.append_assoc,List.singleton_append]at h2;obtain⟨F,j,hF⟩:=hc e he 1 L sz (p+1) (sg [41]::post) h2 (np_sg (by decide) _) (fun _=>⟨by omega,z106 (by rw[b41];omega) _⟩);have h3:=drop_len h2;obtain⟨h4,h5⟩:=z54 (sz:=sz) h3;have hT:∀f,F+j+2≤f→pT L sz f p=some (.ok e (p+(sg [40]::(tokE d e++[sg [41]])).length)):=by
   intro f hf;obtain⟨g,rfl⟩:∃g,f=g+1+j+1:=⟨f-j-2,by omega⟩
   rw[pT,z40 h1,show((sg [40]).1==4&&(sg [40]).2.2==[40])=true from rfl,if_pos rfl,hF (g+1) (by omega),
    pL_stop h3 (z106 (by decide) _) g]
   simp only;rw[z40 h4,show((sg [41]).1==4&&(sg [41]).2.2==[41])=true from rfl,if_pos rfl];simp only[List.length_cons,List.length_append,List.length_nil];congr 2;omega
  refine⟨F+j+2,1,fun f hf=> ?_⟩;rw[pE,hT f hf]
 ·rw[if_neg hb]at h ⊢;exact hc e he least L sz p post h hnp (fun h4=>by
   have:m≤bindsV e.s:=by
    have:¬bindsV e.s<m:=fun hlt=>hb ⟨h4,hlt⟩;omega
   exact⟨by omega,hst h4 this⟩)
theorem kidK_1{d:Nat}{e:V}(he:okE d e=true)(ts:List T3):kidK e 1 ts=ts:=by
 cases d with
 |zero=>cases he
 |succ d=>
  unfold kidK;rw[if_neg];rintro⟨h4,hb⟩;obtain⟨_,h0,_⟩:=node4 (z98 he).1 h4;omega
theorem pH_tail{d:Nat}(hd:PD d)(n:Nat)(L:List Pc)(sz:Nat)(post:List T3):∀(l:List V),(∀x∈l,okE d x=true)→∀(acc:List V) (p:Nat),0<acc.length→acc.length+l.length=n→(L.drop p).map er=(l.map fun y=>sg [44]::tokE d y).flatten++(sg [41]::post)→
  ∃F,∀f,F≤f→pH L sz f n acc.length p acc=some (.ok (acc++l) (p+((l.map fun y=>sg [44]::tokE d y).flatten).length+1))
 |[],_,acc,p,h0,hn,h=>by
  rw[List.map_nil,List.flatten_nil,List.nil_append]at h;obtain⟨h1,_⟩:=z54 (sz:=sz) h;refine⟨1,fun f hf=> ?_⟩;obtain⟨g,rfl⟩:∃g,f=g+1:=⟨f-1,by omega⟩
  rw[pH,if_neg (by simp at hn;omega),z40 h1,show((sg [41]).1==4&&(sg [41]).2.2==[41])=true from rfl,if_pos rfl];simp
 |y::l,hl,acc,p,h0,hn,h=>by
  rw[List.map_cons,List.flatten_cons,List.append_assoc,List.cons_append]at h;obtain⟨h1,h2⟩:=z54 (sz:=sz) h;have hy:=hl y (List.mem_cons_self ..);have hp:NP ((l.map fun y=>sg [44]::tokE d y).flatten++(sg [41]::post))∧StopK 1 ((l.map fun y=>sg [44]::tokE d y).flatten++(sg [41]::post)):=by
   cases l with
   |nil=>exact⟨np_sg (by decide) _,z106 (by decide) _⟩
   |cons z l=>exact⟨np_sg (by decide) _,z106 (by decide) _⟩
  obtain⟨F1,hF1⟩:=hd y hy 1 L sz (p+1) _ (by rw[kidK_1 hy];exact h2) hp.1 hp.2;rw[kidK_1 hy]at hF1;have h3:=drop_len h2;obtain⟨F2,hF2⟩:=pH_tail hd n L sz post l (fun x hx=>hl x (List.mem_cons_of_mem _ hx)) (acc++[y]) (p+1+(tokE d y).length) (by simp) (by simp at hn ⊢;omega) h3;refine⟨F1+F2+1,fun f hf=> ?_⟩;obtain⟨g,rfl⟩:∃g,f=g+1:=⟨f-1,by omega⟩
  rw[pH,if_pos (by simp at hn;omega),z40 h1,show((sg [44]).1==4&&(sg [44]).2.2==[44])=true from rfl,if_neg (by simp),if_pos h0,hF1 g (by omega)];simp only;have:=hF2 g (by omega);rw[List.length_append,List.length_singleton]at this;rw[this];simp only[List.map_cons,List.flatten_cons,List.length_append,List.length_cons,List.append_assoc,List.singleton_append];congr 2;omega
theorem pt_of {d : Nat} (hd : PD d) : PT (d + 1) := by
  intro e he h4 L sz p post h hnp
  obtain ⟨hn, hk⟩ := z98 he
  have heta := V.eta e
  unfold tokE at h ⊢
  rcases z79 hn with k | k | k | k | k | k
  · obtain ⟨_, _, hs, hl⟩ := node1 hn k
    simp only [k, if_true] at h ⊢
    obtain ⟨h1, _⟩ := z54 (sz := sz) h
    obtain ⟨q1, q2, q3⟩ := er_k h1
    refine ⟨1, fun f hf => ?_⟩
    obtain ⟨g, rfl⟩ : ∃ g, f = g + 1 := ⟨f - 1, by omega⟩
    rw [pT, z40 h1, z40 h1, q1, q2]
    simp only [Int.reduceBEq, Bool.false_and, Bool.false_eq_true, if_false, if_true]
    rw [k, hs, hl] at heta
    rw [heta]; rfl
  · obtain ⟨hn0, _, hl⟩ := node2 hn k
    simp only [k, Int.reduceEq, if_false, if_true] at h ⊢
    obtain ⟨h1, _⟩ := z54 (sz := sz) h
    obtain ⟨q1, q2, q3⟩ := er_k h1
    refine ⟨1, fun f hf => ?_⟩
    obtain ⟨g, rfl⟩ : ∃ g, f = g + 1 := ⟨f - 1, by omega⟩
    rw [pT, z40 h1, z40 h1, q1, q3]
    simp only [Int.reduceBEq, Bool.false_and, Bool.false_eq_true, if_false, Int.reduceEq, if_true]
    rw [k, hn0, hl] at heta
    rw [heta]; rfl
  · obtain ⟨hn0, _, hl⟩ := node3 hn k
    simp only [k, Int.reduceEq, if_false] at h ⊢
    obtain ⟨h1, h2⟩ := z54 (sz := sz) h
    obtain ⟨q1, q2, q3⟩ := er_k h1
    have hne : isSg (pkP L sz (p + 1)) [40] = false := by
      cases post with
      | nil => rw [pk_nil h2]; rfl
      | cons t r =>
        obtain ⟨h3, _⟩ := z54 (sz := sz) h2
        rw [z40 h3]
        have := (hnp t r rfl).2
        simp [this]
    refine ⟨1, fun f hf => ?_⟩
    obtain ⟨g, rfl⟩ : ∃ g, f = g + 1 := ⟨f - 1, by omega⟩
    rw [pT, z40 h1, z40 h1, q1, q3, hne]
    simp only [Int.reduceBEq, Bool.false_and, Bool.false_eq_true, if_false, Int.reduceEq, and_false, if_true]
    rw [k, hn0, hl] at heta
    rw [heta]; rfl
  · exact absurd k h4
  · obtain ⟨hn0, hs, a, hl⟩ := node5 hn k
    simp only [k, Int.reduceEq, if_false, if_true, hl, List.getD_cons_zero] at h ⊢
    rw [List.cons_append] at h
    obtain ⟨h1, h2⟩ := z54 (sz := sz) h
    have ha := hk a (by simp [hl])
    have ht : ∃ F, ∀ f, F ≤ f → pT L sz f (p + 1) = some (.ok a (p + 1 + (kidK a 5 (tokE d a)).length)) := by
      -- what stands ahead is tight: read as an expression that binds more than any operator
      obtain ⟨F, hF⟩ := hd a ha 5 L sz (p + 1) post h2 hnp (fun t r e1 e2 => by
        have : bindsV t.2.2 ≤ 4 := by unfold bindsV; repeat' split
                                      all_goals omega
        omega)
      refine ⟨F + 1, fun f hf => ?_⟩
      have h5 := hF (f + 1) (by omega)
      rw [pE] at h5
      cases hp : pT L sz f (p + 1) with
      | none => rw [hp] at h5; cases h5
      | some q =>
        rw [hp] at h5
        cases q with
        | bad x y => cases h5
        | ok e' p' =>
          simp only at h5
          obtain ⟨g, rfl⟩ : ∃ g, f = g + 1 := ⟨f - 1, by omega⟩
          rw [pL, if_pos] at h5
          · exact h5
          · by_cases hk4 : (pkP L sz p').k = 4
            · right
              unfold bindsV; repeat' split
              all_goals omega
            · exact .inl hk4
    obtain ⟨F, hF⟩ := ht
    refine ⟨F + 1, fun f hf => ?_⟩
    obtain ⟨g, rfl⟩ : ∃ g, f = g + 1 := ⟨f - 1, by omega⟩
    rw [pT, z40 h1, z40 h1, show ((sg [45]).1 == 4 && (sg [45]).2.2 == [40]) = false from rfl, show ((sg [45]).1 == 4 && (sg [45]).2.2 == [45]) = true from rfl, if_neg (by simp), if_pos rfl, hF g (by omega)]
    simp only
    rw [k, hn0, hs, hl] at heta
    rw [heta]
    simp only [List.length_cons]
    congr 2; omega
  · obtain ⟨hn0, ht, hl⟩ := node6 hn k
    simp only [k, Int.reduceEq, if_false, if_true] at h ⊢
    obtain ⟨y, l, hyl⟩ : ∃ y l, e.l = y :: l := by
      cases hh : e.l with
      | nil => rw [hh] at hl; simp at hl; omega
      | cons y l => exact ⟨y, l, rfl⟩
    have hy := hk y (by rw [hyl]; exact List.mem_cons_self ..)
    have hks : ∀ x ∈ l, okE d x = true := fun x hx => hk x (by rw [hyl]; exact List.mem_cons_of_mem _ hx)
    rw [hyl, List.map_cons, sepK, List.map_map] at h ⊢
    rw [List.cons_append, List.cons_append, List.append_assoc, List.append_assoc] at h
    obtain ⟨h1, h2⟩ := z54 (sz := sz) h
    obtain ⟨q1, q2, q3⟩ := er_k h1
    obtain ⟨h3, h5⟩ := z54 (sz := sz) h2
    have hp : NP ((l.map fun y => sg [44] :: tokE d y).flatten ++ (sg [41] :: post)) ∧ StopK 1 ((l.map fun y => sg [44] :: tokE d y).flatten ++ (sg [41] :: post)) := by
      cases l with
      | nil => exact ⟨np_sg (by decide) _, z106 (by decide) _⟩
      | cons z l => exact ⟨np_sg (by decide) _, z106 (by decide) _⟩
    have h5' : (L.drop (p + 1 + 1)).map er = tokE d y ++ ((l.map fun y => sg [44] :: tokE d y).flatten ++ (sg [41] :: post)) := by simpa [Function.comp_def] using h5
    obtain ⟨F1, hF1⟩ := hd y hy 1 L sz (p + 1 + 1) _ (by rw [kidK_1 hy]; exact h5') hp.1 hp.2
    rw [kidK_1 hy] at hF1
    have h6 := drop_len h5'
    obtain ⟨F2, hF2⟩ := pH_tail hd (takesV e.s).toNat L sz post l hks [y] (p + 1 + 1 + (tokE d y).length) (by simp) (by rw [hyl] at hl; simp at hl ⊢; omega) h6
    refine ⟨F1 + F2 + 2, fun f hf => ?_⟩
    obtain ⟨g, rfl⟩ : ∃ g, f = g + 1 + 1 := ⟨f - 2, by omega⟩
    rw [pT, z40 h1, z40 h1, q1, q3, z40 h3, show ((sg [40]).1 == 4 && (sg [40]).2.2 == [40]) = true from rfl]
    simp only [Int.reduceBEq, Bool.false_and, Bool.false_eq_true, if_false, Int.reduceEq, and_true, ht, if_true]
    rw [pH, if_pos (by omega), if_neg (by simp), if_neg (by simp), hF1 g (by omega)]
    simp only [List.nil_append]
    have h7 := hF2 g (by omega)
    rw [show ([y] : List V).length = 0 + 1 from rfl] at h7
    rw [h7]
    rw [k, hn0, hyl] at heta
    simp only [List.singleton_append]
    rw [heta]
    simp only [List.length_cons, List.length_append, List.length_nil, Function.comp_def]
    congr 2; omega
theorem pc_of{d:Nat}(ht:PT (d+1))(hk:PK d)(hd:PD d):PC (d+1):=by
 intro e he least L sz p post h hnp hst;by_cases h4:e.k=4
 ·obtain⟨hle,hst⟩:=hst h4;obtain⟨hn,hks⟩:=z98 he;obtain⟨hn0,hb0,a,b,hl⟩:=node4 hn h4;have ha:=hks a (by simp[hl]);have hb:=hks b (by simp[hl]);have htk:tokE (d+1) e=kidK a (bindsV e.s) (tokE d a)++sg e.s::kidK b (bindsV e.s+1) (tokE d b):=by
   rw[tokE];simp only[h4,Int.reduceEq,if_false,if_true,hl,List.getD_cons_zero,List.getD_cons_succ]
  rw[htk,List.append_assoc,List.cons_append]at h;obtain⟨F1,j,hF1⟩:=hk a ha (bindsV e.s) least hle L sz p _ h (np_sg (binds_ne hb0) _) (fun _ hm=>z106 (by omega) _);have h2:=drop_len h;obtain⟨h3,h5⟩:=z54 (sz:=sz) h2;obtain⟨q1,q2,q3⟩:=er_k h3;obtain⟨F2,hF2⟩:=hd b hb (bindsV e.s+1) L sz (p+(kidK a (bindsV e.s) (tokE d a)).length+1) post h5 hnp hst;refine⟨F1+F2,j+1,fun f hf=> ?_⟩;rw[show f+(j+1)=f+1+j by omega,hF1 (f+1) (by omega),pL,q1,q3,if_neg (by simp only[sg,ne_eq,not_true_eq_false,false_or];omega),show(sg e.s).2.2=e.s from rfl,hF2 f (by omega)];simp only;have heta:=V.eta e;rw[h4,hn0,hl]at heta;rw[heta,htk];congr 1;simp only[List.length_append,List.length_cons];omega
 ·obtain⟨F,hF⟩:=ht e he h4 L sz p post h hnp;exact⟨F,1,fun f hf=>by rw[pE,hF f hf]⟩
theorem parse_tree:∀d,PT d∧PC d∧PK d∧PD d
 |0=>by
  have hc:PC 0:=fun e he=>absurd he (by simp[okE]);exact⟨fun e he=>absurd he (by simp[okE]),hc,pk_of hc,pd_of (pk_of hc)⟩
 |d+1=>by
  obtain⟨_,_,hk,hd⟩:=parse_tree d;have ht:=pt_of hd;have hc:=pc_of ht hk hd;exact⟨ht,hc,pk_of hc,pd_of (pk_of hc)⟩
end Go.Mor
end

section
namespace Go.Sh.Cd6
open Go Go.Sh
set_option maxRecDepth 100000
abbrev c_75_0:=kV [4] [kO 4 0,kT 8 false] [0,8]
abbrev c_75_1:=kV [2100,2101,2102,2103] [oD 25 (.call 31 0 []),oM 9 25] [25]
abbrev c_75_2:=kV [2108,2109,2110,2111,10] [oL 26 true 2 4,kC 27 21 0 26,oD 10 (.new [(.string ⟨#[]⟩),(.slice none 0 0)]),kS 2 10 27] [4,26,27]
abbrev c_75_3:=kV [2120,2121,2122,2123] [oL 28 true 2 10,oM 29 1,oD 30 (.call 22 0 [.tmp 28,.tmp 29,vI 9]),oM 11 30] [1,28,29,30]
abbrev c_75_4:=kR [kI 12 1] []
abbrev c_75_5:=kR [oM 31 3] [3]
abbrev c_75_6:=kR [kI 12 2] [31]
abbrev c_75_7:=kV [2140,2141,2142,2143,13] [oM 32 2,oL 33 true 2 10,oM 34 12,kE 35 32 0 32 33 34,oD 13 (.new zV),kS 4 13 35] [2,31,32,33,34,35]
abbrev c_75_8:=kV [2156,2157,2158,2159,14] [oL 37 true 4 13,oL 38 true 2 10,kD 39 55 0 37 38,oM 36 39,kY 40 36 0,kY 41 36 1,oD 14 (.new [(.int .i64 0),(.int .i64 0)]),kS 2 14 40,oM 15 41] [36,37,38,39,40,41]
abbrev c_75_9:=kV [2184,2185,2186,2187,16] [oL 43 true 4 13,oL 44 true 2 10,oM 45 11,kE 46 34 0 43 44 45,oM 42 46,kY 47 42 0,kY 48 42 1,oD 16 (.new zV),kS 4 16 47,oM 17 48] [42,43,44,45,46,47,48]
abbrev c_75_10:=kV [2204,2205,2206,2207] [oL 50 true 4 13,kC 51 16 0 50,oM 49 51,kY 52 49 0,kY 53 49 1,oM 18 52,oM 19 53] [13,49,50,51,52,53]
abbrev c_75_11:=kV [2292,2293,2294,2295] [oM 54 15,kK 55 .neq 28 54 0,oM 56 55,oH 57 56 false 17,kG 58 56 false .neq 28 57 0,oQ 59 56 58 true,oM 60 59,oH 61 60 false 19,kG 62 60 false .neq 28 61 0,oQ 63 60 62 true,oM 64 63,kF 65 64 false 0 14,kL 66 64 false false 1 65,oH 67 64 false 12,kH 68 64 false .neq 3 66 67,oQ 69 64 68 true,oM 70 69,kL 71 70 false true 4 16,kL 72 70 false true 2 14,oG 73 70 false (.call 56 0 [.tmp 71,.tmp 72]),oG 74 70 false (.un .not (.tmp 73)),oQ 75 70 74 true] [12,14,15,17,19,54,55,56,57,58,59,60,61,62,63,64,65,66,67,68,69,70,71,72,73,74]
abbrev c_75_12:=kR [kT 8 false] [9,10,11,16,18,75]
abbrev c_75_13:=kR [oM 76 18,oD 77 (.slen (.tmp 76)),kK 78 .gtr 3 77 200] [8,75,76,77]
abbrev c_75_14:=kR [oM 79 9,oM 8 79] [9,10,11,16,18,78,79]
abbrev c_75_15:=kV [2328,2329,2330,2331,20] [oM 81 18,kC 82 17 0 81,oM 80 82,kY 83 80 0,kY 84 80 1,kY 85 80 2,oD 20 (.new zV),kS 4 20 83,oM 21 84,oM 22 85] [8,18,21,78,80,81,82,83,84,85]
abbrev c_75_16:=kV [2360,2361,2362,2363,23] [oL 87 true 4 20,oL 88 true 2 10,oM 89 11,kE 90 34 0 87 88 89,oM 86 90,kY 91 86 0,kY 92 86 1,oD 23 (.new zV),kS 4 23 91,oM 24 92] [10,11,20,86,87,88,89,90,91,92]
abbrev c_75_17:=kV [2420,2421,2422,2423] [oM 93 9,oM 94 93,oH 95 94 true 22,kG 96 94 true .eql 28 95 0,oP 97 94 96 false,oM 98 97,oH 99 98 true 24,kG 100 98 true .eql 28 99 0,oP 101 98 100 false,oM 102 101,kL 103 102 true true 4 16,kL 104 102 true true 4 23,oG 105 102 true (.call 27 0 [.tmp 103,.tmp 104]),oP 106 102 105 false,oM 8 106] [9,16,22,23,24,93,94,95,96,97,98,99,100,101,102,103,104,105,106]
abbrev F_75:SFunc:=⟨107,(.seq c_75_0 (.seq c_75_1 (.seq c_75_2 (.seq c_75_3 (.seq c_75_4 (.seq (.seq c_75_5 (.cond (.tmp 31) c_75_6 .skip)) (.seq c_75_7 (.seq c_75_8 (.seq c_75_9 (.seq c_75_10 (.seq (.seq c_75_11 (.cond (.tmp 75) (.seq c_75_12 .ret) .skip)) (.seq (.seq c_75_13 (.cond (.tmp 78) (.seq c_75_14 .ret) .skip)) (.seq c_75_15 (.seq c_75_16 (.seq c_75_17 .ret))))))))))))))),[.tmp 8],false⟩
theorem tf_75:kU 13 [(25,0),(27,0),(30,0),(35,0),(39,0),(46,0),(51,0),(73,0),(82,0),(90,0),(105,0)] [] F_75:=by unfold kU;kernel_rfl
end Go.Sh.Cd6
end

section
namespace Go.Proofs.YtmiokadmddjccaaGreatDoor
open Go Go.RowKit Go.Mor Go.Sh
set_option maxRecDepth 100000
set_option maxHeartbeats 2000000
theorem scalls_keep{P:Program}{g:Sh.Glob}{f:Nat}{xs:List TV}{os:List MO}{y:TV}(hb:hasBody P f)
  (h:∀(w:World) (E:Env) (vs:List Value),g.G w→MSim (Sh.start w E os 0) (objB os) (objR os) w E→xs.length=vs.length→(∀(j:Nat) x v,xs[j]?=some x→vs[j]?=some v→RelT w E (objR os) x v)→
   ∃v,(∀w' E r,RelT w' E r y v)∧Calls P f vs.toArray w fun e w'=>e=.returned v∧Below w.heap.size w w'):SCalls P g f xs os y os:=by
 refine⟨hb,fun w E us hG hm hX hl hr=> ?_⟩;obtain⟨v,hy,hc⟩:=h w E us hG hm hl hr;refine hc.mono ?_;rintro e w' ⟨rfl,hb⟩;refine⟨v,E,rfl,?_,hy _ _ _,⟨fun _ _ _=>rfl,fun _ _ _ _=>rfl,fun d e W n hd=>⟨n,hd,Nat.le_refl _,fun _=>rfl⟩⟩⟩;exact MSim.ext (s:=⟨fun _=>none,objB os,objR os,fun _=>none⟩) hm hb E (fun _ _ h=>h) (fun _ _ h=> .inl h) (fun _ _=>⟨rfl,rfl⟩) (fun _ _ _=>rfl) (fun _ _=>⟨rfl,rfl⟩)
theorem repl_ok(m:Nat)(s o n:List UInt8)(hs:s.length<4294967281)(ho:1≤o.length)(hl:s.length+Lib.countB (str s) (str o)*n.length≤140737488355328):
  SCalls Tryz.prog (glT m) 104 [S (str s),S (str o),S (str n)] [] (S (str (Lib.replaceAll s o n))) []:=
 z104 (vs:=[.string (str s),.string (str o),.string (str n)]) (z77 (by kernel_rfl)) (fun w E r=> .pv (.v _)) (fun w hG=>by
  obtain⟨k,hk⟩:=hG.t.mx;have:=Tryz.strings_ReplaceAll (str s) (str o) (str n) k w (by rw[z129];exact hs) hk (by rw[z129];exact ho) (by rw[z129,z129];exact hl);simp only[str_toList]at this;exact this)
def strC(l:List (List UInt8)):List TV:=pvC (l.map fun s=> .v (.string (str s)))
theorem join_ok(m:Nat)(l:List (List UInt8))(sep:List UInt8)(hN:l.length≤140737488355328)(hl:(Lib.join l sep).length≤140737488355328):
  SCalls Tryz.prog (glT m) 106 [.bs 1000 0 l.length l.length,S (str sep)] [.box (strC l)] (S (str (Lib.join l sep))) [.box (strC l)]:=by
 refine scalls_keep (z77 (by kernel_rfl)) fun w E vs hG hm hlen hr=>⟨.string (str (Lib.join l sep)),fun w' E r=> .pv (.v _),?_⟩
 obtain⟨v0,v1,rfl⟩:∃v0 v1,vs=[v0,v1]:=by
  match vs,hlen with
  |[v0,v1],_=>exact⟨v0,v1,rfl⟩
 obtain rfl:=rel_S (hr 1 _ v1 rfl rfl);have r0:=hr 0 _ v0 rfl rfl;cases r0 with
 |bs _ _ _ _ C _ hcC _=>
 obtain⟨hbox,_⟩:=hm.box 1000 (strC l) rfl;have:=Tryz.strings_Join (E.β 1000) 0 C (l.map str) (str sep) w (fun j x hx=>by
  rw[List.getElem?_map]at hx;obtain⟨y,hy,rfl⟩:=gO hx;obtain⟨v,h1,_,h3⟩:=hbox.cell j (S (str y)) (by simp[strC,pvC,hy];rfl);rw[Nat.zero_add,h1,rel_S h3]) hbox.lt (by simpa using hN) (by simpa using hcC) (by simpa [Function.comp_def,str_toList]using hl)
 simp only[List.length_map,List.map_map,Function.comp_def,str_toList,List.map_id']at this;exact this
end Go.Proofs.YtmiokadmddjccaaGreatDoor
end

section
namespace Go.Proofs.YtmiokadmddjccaaGreatDoor
open Go Go.RowKit Go.Mor Go.Sh Go.Sh.Cd1
set_option maxRecDepth 100000
set_option maxHeartbeats 2000000
theorem same_ok(g:Sh.Glob)(x y:V)(hx:VSmall x):SCalls Tryz.prog g 27 [tv x,tv y] [] (.pv (.v (.bool (decide (cmpV x y=0))))) []:=by
 refine z7 hmix tf_109 rfl ?_;simp only[vcA,seval,vV];(with_reducible apply v_call);exact kv;rfl;exact compare_ok g x y hx;exact km;exact kv;simp only[vcA,seval,vV]
end Go.Proofs.YtmiokadmddjccaaGreatDoor
end

section
namespace Go.Mor
open Go
set_option maxHeartbeats 2000000
def arT:Nat→List UInt8→List UInt8
 |0,t=>t
 |n+1,t=>32::40::(arT n t++[32,41])
def arK:Nat→List T3→List T3
 |0,t=>t
 |n+1,t=>sg [40]::(arK n t++[sg [41]])
theorem lex_ar{t:List UInt8}{ts:List T3}(h:∀post,StopT post→LexP t ts post):∀(n:Nat) (post:List UInt8),StopT post→LexP (arT n t) (arK n ts) post
 |0,post,hp=>h post hp
 |n+1,post,hp=>by
  have q1:=LexP.blank ([40]++(arT n t++([32]++([41]++post))));have q2:=z90 (b:=40) (by simp) (arT n t++([32]++([41]++post)));have q3:=lex_ar h n ([32]++([41]++post)) (stop32 _);have q4:=LexP.blank ([41]++post);have q5:=z90 (b:=41) (by simp) post;have r4:=LexP.app q4 q5;have r3:=LexP.app (t2:=[32]++[41]) (by simpa using q3) r4;have r2:=LexP.app (t2:=arT n t++([32]++[41])) (by simpa using q2) r3;have r1:=LexP.app (t2:=[40]++(arT n t++([32]++[41]))) (by simpa using q1) r2;simpa [arT,arK]using r1
theorem parse_ar{d:Nat}{e:V}(he:okE d e=true)(L:List Pc)(sz:Nat):∀(n p:Nat) (post:List T3),(L.drop p).map er=arK n (tokE d e)++post→NP post→StopK 1 post→
  ∃F,∀f,F≤f→pE L sz f 1 p=some (.ok e (p+(arK n (tokE d e)).length))
 |0,p,post,h,hnp,hst=>by
  obtain⟨_,_,_,hd⟩:=parse_tree d;obtain⟨F,hF⟩:=hd e he 1 L sz p post (by rw[kidK_1 he];exact h) hnp hst;rw[kidK_1 he]at hF;exact⟨F,hF⟩
 |n+1,p,post,h,hnp,hst=>by
  unfold arK at h ⊢;rw[List.cons_append]at h;obtain⟨h1,h2⟩:=z54 (sz:=sz) h;rw[List.append_assoc,List.singleton_append]at h2;obtain⟨F,hF⟩:=parse_ar he L sz n (p+1) (sg [41]::post) h2 (np_sg (by decide) _) (z106 (by decide) _);have h3:=drop_len h2;obtain⟨h4,h5⟩:=z54 (sz:=sz) h3;have hlen:p+(sg [40]::(arK n (tokE d e)++[sg [41]])).length=p+1+(arK n (tokE d e)).length+1:=by
   simp only[List.length_cons,List.length_append,List.length_nil];omega
  refine⟨F+2,fun f hf=> ?_⟩;obtain⟨g,rfl⟩:∃g,f=g+1+1:=⟨f-2,by omega⟩
  rw[pE,pT,z40 h1,show((sg [40]).1==4&&(sg [40]).2.2==[40])=true from rfl,if_pos rfl,hF g (by omega)];simp only;rw[z40 h4,show((sg [41]).1==4&&(sg [41]).2.2==[41])=true from rfl,if_pos rfl];simp only;rw[pL_stop h5 hst g,hlen]
theorem lex_whole{t:List UInt8}{ts:List T3}(h:LexP t ts []):∃L,L.map er=ts∧lexG (t.length+1) t 0 []=some (.ok L):=by
 obtain⟨f',L,h1,h2,h3⟩:=h (t.length+1) 0 [] (by simp);obtain⟨g,rfl⟩:∃g,f'=g+1:=⟨f'-1,by simp at h1;omega⟩
 rw[List.append_nil,List.nil_append]at h3;exact⟨L,h2,by rw[h3,lexG]⟩
theorem lex_around{e:V}(he:okE 8 e=true)(n:Nat):∃L F,lexG ((arT n (txtE 8 e)).length+1) (arT n (txtE 8 e)) 0 []=some (.ok L)∧∀f sz,F≤f→pE L sz f 1 0=some (.ok e L.length)∨sz≠(arT n (txtE 8 e)).length:=by
 obtain⟨L,h1,h2⟩:=lex_whole (lex_ar (fun post hp=>lex_tree 8 e he post hp) n [] stop0);obtain⟨F,hF⟩:=parse_ar he L (arT n (txtE 8 e)).length n 0 [] (by rw[List.drop_zero,h1,List.append_nil]) np_nil (stopK_nil _);refine⟨L,F,h2,fun f sz hf=> ?_⟩;by_cases hs:sz=(arT n (txtE 8 e)).length
 ·left;subst hs;rw[hF f hf,Nat.zero_add,←h1,List.length_map]
 ·exact .inr hs
theorem parse_around{e:V}(hr:rightE e=true)(n:Nat)(hl:(arT n (txtE 8 e)).length≤200):∃f,parseV f (arT n (txtE 8 e))=some (e,0,0):=by
 have he:okE 8 e=true:=by unfold rightE at hr;rw[Bool.and_eq_true]at hr;exact hr.1
 obtain⟨L,F,h1,h2⟩:=lex_around he n;refine⟨F,?_⟩;have h3:=(h2 F _ (Nat.le_refl _)).resolve_right (fun h=>h rfl);unfold parseV;rw[if_neg (by omega),h1];simp only;rw[h3];simp only;rw[if_neg (by omega),if_pos hr]
end Go.Mor
end

section
namespace Go.Proofs.YtmiokadmddjccaaGreatDoor
open Go Go.Mor
set_option maxHeartbeats 2000000
theorem index_none1(c:UInt8):∀(s:List UInt8),c∉s→Lib.index s [c]= -1
 |[],_=>rfl
 |b::l,h=>by
  have h1:¬c=b:=fun e=>h (e▸List.mem_cons_self ..);have h2:=index_none1 c l (fun hm=>h (List.mem_cons_of_mem _ hm));unfold Lib.index;rw[h2];have:([c].isPrefixOf (b::l))=false:=by simp[List.isPrefixOf,h1]
  rw[this];rfl
theorem index_at1(c:UInt8)(post:List UInt8):∀(pre:List UInt8),c∉pre→Lib.index (pre++c::post) [c]=pre.length
 |[],_=>by simp[Lib.index,List.isPrefixOf]
 |b::l,h=>by
  have h1:¬c=b:=fun e=>h (e▸List.mem_cons_self ..);have h2:=index_at1 c post l (fun hm=>h (List.mem_cons_of_mem _ hm));show Lib.index (b::(l++c::post)) [c]=_;unfold Lib.index;rw[h2];have:([c].isPrefixOf (b::(l++c::post)))=false:=by simp[List.isPrefixOf,h1]
  rw[this];have h3:((l.length:Int)== -1)=false:=by rw[beq_eq_false_iff_ne];omega
  simp only[Bool.false_eq_true,if_false,h3,List.length_cons];omega
theorem replaceK_one(c:UInt8)(new:List UInt8):∀(fuel:Nat) (s:List UInt8),s.length<fuel→Lib.replaceK [c] new (Lib.countFrom [c] fuel s) s=s.flatMap fun b=>if b=c then new else [b]
 |0,s,h=>by omega
 |fuel+1,s,h=>by
  have hplain:∀l:List UInt8,c∉l→(l.flatMap fun b=>if b=c then new else [b])=l:=by
   intro l
   induction l with
   |nil=>intro _;rfl
   |cons b l ih=>
    intro hm;have h1:¬b=c:=fun e=>hm (e▸List.mem_cons_self ..);rw[List.flatMap_cons,if_neg h1,ih (fun h=>hm (List.mem_cons_of_mem _ h))];rfl
  by_cases hm:c∈s
  ·obtain⟨pre,post,rfl,hpre⟩:=List.eq_append_cons_of_mem hm;have hi:=index_at1 c post pre hpre;have hne:¬(Lib.index (pre++c::post) [c]== -1)=true:=by rw[hi,beq_iff_eq];omega
   unfold Lib.countFrom;rw[if_neg hne,Nat.add_comm,Lib.replaceK_hit _ _ _ _ pre.length hi,hi];have hd:(pre++c::post).drop ((pre.length:Int).toNat+[c].length)=post:=by
    rw[Int.toNat_natCast,List.drop_append];simp
   have hd':(pre++c::post).drop (pre.length+[c].length)=post:=by
    rw[List.drop_append];simp
   rw[hd,hd',replaceK_one c new fuel post (by simp at h;omega)];rw[List.take_append_of_le_length (Nat.le_refl _),List.take_length,List.flatMap_append,hplain pre hpre,List.flatMap_cons,if_pos rfl,List.append_assoc]
  ·unfold Lib.countFrom;rw[index_none1 c s hm,if_pos (by decide),Lib.replaceK,hplain s hm]
theorem z147(c:UInt8)(new:List UInt8)(hne:new≠[c])(s:List UInt8):Lib.replaceAll s [c] new=s.flatMap fun b=>if b=c then new else [b]:=by
 unfold Lib.replaceAll Lib.replace Lib.replaceNum Lib.count;have h1:([c]==new)=false:=by rw[beq_eq_false_iff_ne];exact fun h=>hne h.symm
 rw[h1,if_neg (by decide),if_pos (Or.inl (by decide))];exact replaceK_one c new _ s (by omega)
theorem repl_len(s:List UInt8):(Lib.replaceAll s [92] [92,92]).length≤2*s.length:=by
 rw[z147 92 _ (by decide)]
 induction s with
 |nil=>simp
 |cons b s ih=>rw[List.flatMap_cons,List.length_append,List.length_cons];split<;>simp only[List.length_cons,List.length_nil]<;>omega
theorem countFrom_le(c:UInt8):∀(fuel:Nat) (s:List UInt8),Lib.countFrom [c] fuel s≤s.length
 |0,s=>by simp[Lib.countFrom]
 |fuel+1,s=>by
  unfold Lib.countFrom;split
  ·omega
  ·rename_i h;have h1:=Lib.index_ge s [c];have h2:Lib.index s [c]≠ -1:=fun e=>h (by rw[e];rfl);have h3:=Lib.index_room s [c] (by omega);have:=countFrom_le c fuel (s.drop ((Lib.index s [c]).toNat+[c].length));simp only[List.length_drop,List.length_singleton]at this h3 ⊢;omega
theorem countB_one(c:UInt8)(s:List UInt8):Lib.countB (str s) (str [c])≤s.length:=by
 have:Lib.countB (str s) (str [c])=Lib.count s [c]:=by unfold Lib.countB;rw[str_toList,str_toList]
 rw[this];exact countFrom_le c _ s
end Go.Proofs.YtmiokadmddjccaaGreatDoor
end

section
namespace Go.Proofs.YtmiokadmddjccaaGreatDoor
open Go Go.RowKit Go.Mor Go.Sh Go.Sh.Cd1 Go.Sh.Cd4 Go.Sh.Cd5
set_option maxRecDepth 100000
set_option maxHeartbeats 4000000
theorem sum_mem{f:V→Nat}:∀{l:List V} {x:V},x∈l→f x≤(l.map f).sum:=by
 intro l
 induction l with
 |nil=>intro x h;exact absurd h (by simp)
 |cons y l ih=>
  intro x h;rw[List.map_cons,List.sum_cons];rcases List.mem_cons.1 h with rfl|h
  ·omega
  ·have:=ih h;omega
theorem join_len(sep:List UInt8)(f:V→List UInt8)(g:V→Nat):∀(l:List V),(∀x∈l,(f x).length≤200*g x)→(Lib.join (l.map f) sep).length≤200*(l.map g).sum+sep.length*l.length:=by
 have hlens:∀(l:List V),(∀x∈l,(f x).length≤200*g x)→Lib.lens (l.map f)≤200*(l.map g).sum:=by
  intro l
  induction l with
  |nil=>intro _;simp[Lib.lens]
  |cons x l ih=>
   intro h;have h1:=h x (by simp);have h2:=ih fun y hy=>h y (by simp[hy]);rw[List.map_cons,List.map_cons,List.sum_cons,Nat.mul_add];unfold Lib.lens at h2 ⊢;simp only[List.map_cons,List.sum_cons]at h2 ⊢;omega
 intro l h;cases l with
 |nil=>simp[Lib.join_nil]
 |cons x l=>
  have h1:=hlens (x::l) h;rw[List.map_cons,Lib.join_length];rw[List.map_cons]at h1;rw[List.length_map,List.length_cons,Nat.mul_add,Nat.mul_one];omega
theorem rightText_len'{s:List UInt8}(h:z10 s=true):s.length≤60:=by unfold z10 at h;simp at h;exact h.1
theorem rightName_len'{s:List UInt8}(h:z13 s=true):s.length≤60:=by unfold z13 at h;simp at h;omega
theorem takes_len{s:List UInt8}(h:0<takesV s):s.length≤5∧takesV s≤3:=by
 unfold takesV at*;split at h
 ·next h1=>rcases h1 with h1|h1|h1<;>subst h1<;>decide
 ·split at h
  ·next h1=>rcases h1 with h1|h1|h1|h1|h1|h1<;>subst h1<;>decide
  ·split at h
   ·next h1=>subst h1;decide
   ·omega
theorem qesc_repl(s:List UInt8):Lib.replaceAll (Lib.replaceAll s [92] [92,92]) [34] [92,34]=qesc s:=by
 rw[z147 34 _ (by decide),z147 92 _ (by decide)];unfold qesc;rw[List.flatMap_assoc];congr 1;funext b;by_cases h1:b=92
 ·subst h1;decide
 ·by_cases h2:b=34
  ·subst h2;decide
  ·simp[h1,h2]
theorem qesc_len(s:List UInt8):(qesc s).length≤2*s.length:=by
 unfold qesc
 induction s with
 |nil=>simp
 |cons b s ih=>rw[List.flatMap_cons,List.length_append,List.length_cons];split<;>simp only[List.length_cons,List.length_nil]<;>omega
theorem kidT_len(e:V)(m:Int)(t:List UInt8):(kidT e m t).length≤t.length+2:=by
 unfold kidT brk;split<;>simp<;>omega
theorem txt_len:∀(d:Nat) (e:V),okE d e=true→(txtE d e).length+10≤200*szE d e:=by
 intro d
 induction d with
 |zero=>intro e h;simp[okE]at h
 |succ d ih=>
  intro e h;rw[okE,Bool.and_eq_true,List.all_eq_true]at h;obtain⟨hn,hk⟩:=h;unfold txtE szE;rcases z79 hn with k|k|k|k|k|k
  ·rw[if_pos k];have:=node1 hn k;have:=Lib.itoa_length_le e.n (by omega) (by omega);omega
  ·rw[if_neg (by omega),if_pos k];have:=rightText_len' (node2 hn k).2.1;have:=qesc_len e.s;simp only[List.length_cons,List.length_append,List.length_nil];omega
  ·rw[if_neg (by omega),if_neg (by omega),if_neg (by omega),if_neg (by omega),if_neg (by omega)];have:=rightName_len' (node3 hn k).2.1;omega
  ·rw[if_neg (by omega),if_neg (by omega),if_neg (by omega),if_pos k];obtain⟨_,hb,a,b,hl⟩:=node4 hn k;rw[hl]at hk ⊢;have h1:=ih a (hk a (by simp));have h2:=ih b (hk b (by simp));have h3:=binds_len hb;have h4:=kidT_len a (bindsV e.s) (txtE d a);have h5:=kidT_len b (bindsV e.s+1) (txtE d b);simp only[List.length_cons,List.length_append,List.length_nil,List.getD_cons_zero,List.getD_cons_succ,List.map_cons,List.map_nil,List.sum_cons,List.sum_nil];omega
  ·rw[if_neg (by omega),if_neg (by omega),if_pos k];obtain⟨_,_,a,hl⟩:=node5 hn k;rw[hl]at hk ⊢;have h1:=ih a (hk a (by simp));have h4:=kidT_len a 5 (txtE d a);simp only[List.length_cons,List.length_append,List.length_nil,List.getD_cons_zero,List.getD_cons_succ,List.map_cons,List.map_nil,List.sum_cons,List.sum_nil];omega
  ·rw[if_neg (by omega),if_neg (by omega),if_neg (by omega),if_neg (by omega),if_pos k];obtain⟨_,hb,hl⟩:=node6 hn k;have h3:=takes_len hb;have h4:=join_len [44,32] (txtE d) (szE d) e.l fun x hx=>by have:=ih x (hk x hx);omega
   simp only[List.length_cons,List.length_append,List.length_nil]at h4 ⊢;omega
def partG(f:V→List UInt8)(l:List V)(i:Nat):List PV:=(l.take i).map (fun x=>PV.v (.string (str (f x))))++List.replicate (l.length-i) (.v (.string (str [])))
theorem partG_0(f:V→List UInt8)(l:List V):pvC (partG f l 0)=(List.replicate l.length [TV.pv (.v (.string ⟨#[]⟩))]).flatten:=by
 have:∀n,(List.replicate n [TV.pv (.v (.string ⟨#[]⟩))]).flatten=List.replicate n (S (str [])):=by
  intro n
  induction n with
  |zero=>rfl
  |succ n ih=>rw[List.replicate_succ,List.flatten_cons,ih];rfl
 rw[this];simp[partG,pvC,S]
theorem partG_len(f:V→List UInt8)(l:List V)(i:Nat)(h:i≤l.length):(partG f l i).length=l.length:=by simp[partG];omega
theorem partG_end(f:V→List UInt8)(l:List V):pvC (partG f l l.length)=strC (l.map f):=by simp[partG,strC,Function.comp_def]
theorem partG_succ{f:V→List UInt8}{l:List V}{i:Nat}{x:V}(h:l[i]?=some x):List.take i (pvC (partG f l i))++[TV.pv (.v (.string (str (f x))))]++List.drop (i+1) (pvC (partG f l i))=pvC (partG f l (i+1)):=by
 have hi:i<l.length:=(gJ h).1;rw[pvC_set (by rw[partG_len f l i (by omega)];exact hi)];congr 1;have hl:((l.take i).map (fun x=>PV.v (.string (str (f x))))).length=i:=by simp;omega
 unfold partG;rw[List.set_append_right _ _ (by omega),hl,Nat.sub_self,List.take_add_one,h,show l.length-i=(l.length-(i+1))+1 by omega,List.replicate_succ,List.set_cons_zero];simp
theorem q34':(⟨#[34]⟩:ByteArray)=str [34]:=rfl
theorem q40':(⟨#[40]⟩:ByteArray)=str [40]:=rfl
theorem q41':(⟨#[41]⟩:ByteArray)=str [41]:=rfl
theorem q45':(⟨#[45]⟩:ByteArray)=str [45]:=rfl
theorem q4432':(⟨#[44,32]⟩:ByteArray)=str [44,32]:=rfl
theorem q32':(⟨#[32]⟩:ByteArray)=str [32]:=rfl
theorem kid_ok(m:Nat)(e:V)(t:List UInt8)(ht:t.length≤100000)(least:Int)(HT:SCalls Tryz.prog (glT m) 60 [.agg [bindM],tv e] [] (S (str t)) []):
  SCalls Tryz.prog (glT m) 105 [.agg [bindM],tv e,I least] [] (S (str (kidT e least t))) []:=by
 by_cases k4:e.k=4
 ·by_cases hb:bindsV e.s<least
  ·rw[show kidT e least t=brk t from if_pos ⟨k4,hb⟩];unfold brk;obtain⟨k,n,s,l⟩:=e;simp only[Vk,Vs]at k4 hb;subst k4;refine z7 hmix tf_15 rfl ?_;simp only[vcA,seval,vV,bmV,hb];(with_reducible apply v_call);simp only[vcA,seval,vV,bmV];rfl;rfl;exact HT;exact km;simp only[vcA,seval,vV,bmV];rfl;simp only[vcA,seval,vV,bmV,q40',q41'];exact⟨by omega,by omega⟩
  ·rw[show kidT e least t=t from if_neg fun h=>hb h.2];obtain⟨k,n,s,l⟩:=e;simp only[Vk,Vs]at k4 hb;subst k4;refine z7 hmix tf_15 rfl ?_;simp only[vcA,seval,vV,bmV,hb];(with_reducible apply v_call);simp only[vcA,seval,vV,bmV];rfl;rfl;exact HT;exact km;simp only[vcA,seval,vV,bmV];rfl;simp only[vcA,seval,vV,bmV,q40',q41']
 ·rw[show kidT e least t=t from if_neg fun h=>k4 h.1];refine z7 hmix tf_15 rfl ?_;simp only[vcA,seval,vV,bmV,k4];(with_reducible apply v_call);simp only[vcA,seval,vV,bmV];rfl;rfl;exact HT;exact km;simp only[vcA,seval,vV,bmV];rfl;simp only[vcA,seval,vV,bmV,q40',q41']
theorem text_ok(m:Nat):∀(d:Nat) (e:V),okE d e=true→szE d e≤40→SCalls Tryz.prog (glT m) 60 [.agg [bindM],tv e] [] (S (str (txtE d e))) []:=by
 intro d
 induction d with
 |zero=>intro e h;simp[okE]at h
 |succ d ih=>
  intro e h hz;refine z7 hmix tf_16 rfl ?_;have hI:∀n:Int, -1000000000000000≤n→n≤1000000000000000→SCalls Tryz.prog (glT m) 103 [I n] [] (S (str (Lib.itoa n))) []:=fun n h1 h2=>itoa_ok m n (by omega) (by omega);rw[okE,Bool.and_eq_true,List.all_eq_true]at h;obtain⟨hn,hk⟩:=h;have hz1:∀x∈e.l,szE d x≤39:=fun x hx=>by
   have:=sum_mem (f:=szE d) hx;unfold szE at hz;omega
  have hx:∀x∈e.l,∀least:Int,SCalls Tryz.prog (glT m) 105 [.agg [bindM],tv x,I least] [] (S (str (kidT x least (txtE d x)))) []:=fun x hx least=>by
   have:=txt_len d x (hk x hx);have:=hz1 x hx;exact kid_ok m x _ (by omega) least (ih x (hk x hx) (by omega))
  have hL:∀x∈e.l,∀least:Int,(kidT x least (txtE d x)).length≤10000:=fun x hx least=>by
   have:=txt_len d x (hk x hx);have:=hz1 x hx;have:=kidT_len x least (txtE d x);omega
  unfold txtE;by_cases k1:e.k=1
  ·rw[if_pos k1];have hb:=node1 hn k1;have HI:=hI e.n (by omega) (by omega);simp only[vcA,seval,vV,bmV,k1];(with_reducible apply v_call);simp only[vcA,seval,vV,bmV];rfl;rfl;exact HI;exact km;simp only[vcA,seval,vV,bmV];rfl;simp only[vcA,seval,vV,bmV]
  rw[if_neg k1];by_cases k2:e.k=2
  ·rw[if_pos k2];have hl:=rightText_len' (node2 hn k2).2.1;have l1:=repl_len e.s;have HR1:=repl_ok m e.s [92] [92,92] (by omega) (by decide) (by have:=countB_one 92 e.s;simp only[List.length_cons,List.length_nil];omega);have HR2:=repl_ok m (Lib.replaceAll e.s [92] [92,92]) [34] [92,34] (by omega) (by decide) (by have:=countB_one 34 (Lib.replaceAll e.s [92] [92,92]);simp only[List.length_cons,List.length_nil];omega);rw[qesc_repl]at HR2;have l2:=qesc_len e.s;simp only[vcA,seval,vV,bmV,k2];(with_reducible apply v_call);simp only[vcA,seval,vV,bmV];rfl;rfl;exact HR1;exact km;simp only[vcA,seval,vV,bmV];rfl;simp only[vcA,seval,vV,bmV];(with_reducible apply v_call);simp only[vcA,seval,vV,bmV];rfl;rfl;exact HR2;exact km;simp only[vcA,seval,vV,bmV];rfl;simp only[vcA,seval,vV,bmV,q34'];exact⟨by omega,by omega⟩
  rw[if_neg k2];by_cases k5:e.k=5
  ·rw[if_pos k5];obtain⟨_,_,a,hl⟩:=node5 hn k5;have HA:=hx a (by rw[hl];simp) 5;have la:=hL a (by rw[hl];simp) 5;rw[hl,List.getD_cons_zero];obtain⟨k,n,s,l⟩:=e;simp only[Vk,Vl]at k5 hl;subst k5 hl;simp only[vcA,seval,vV,bmV];(with_reducible apply v_call);simp only[vcA,seval,vV,bmV];rfl;rfl;exact HA;exact km;simp only[vcA,seval,vV,bmV];rfl;simp only[vcA,seval,vV,bmV,q45'];omega
  rw[if_neg k5];by_cases k4:e.k=4
  ·rw[if_pos k4];obtain⟨_,hb,a,b,hl⟩:=node4 hn k4;have l3:=binds_len hb;have b3:=binds_rng e.s;have w1:IntKind.i64.wrap (bindsV e.s+1)=bindsV e.s+1:=wrap64 (by omega) (by omega);have HA:=hx a (by rw[hl];simp) (bindsV e.s);have la:=hL a (by rw[hl];simp) (bindsV e.s);have HB:=hx b (by rw[hl];simp) (bindsV e.s+1);have lb:=hL b (by rw[hl];simp) (bindsV e.s+1);rw[hl,List.getD_cons_zero,List.getD_cons_succ,List.getD_cons_zero];obtain⟨k,n,s,l⟩:=e;simp only[Vk,Vs,Vl]at k4 hl l3 w1 HA HB la lb ⊢;subst k4 hl;simp only[vcA,seval,vV,bmV];(with_reducible apply v_call);simp only[vcA,seval,vV,bmV];rfl;rfl;exact HA;exact km;simp only[vcA,seval,vV,bmV];rfl;simp only[vcA,seval,vV,bmV,q32',w1];refine⟨by omega,by omega,by omega,?_⟩;(with_reducible apply v_call);simp only[vcA,seval,vV,bmV];rfl;rfl;exact HB;exact km;simp only[vcA,seval,vV,bmV];rfl;simp only[vcA,seval,vV,bmV];refine⟨by omega,?_⟩;simp only[List.append_assoc,List.singleton_append,List.cons_append,List.nil_append]
  rw[if_neg k4];by_cases k6:e.k=6
  ·rw[if_pos k6];obtain⟨_,hb,hl⟩:=node6 hn k6;have h3:=takes_len hb;have h4:=join_len [44,32] (txtE d) (szE d) e.l fun x hx=>by have:=txt_len d x (hk x hx);omega
   have h5:(e.l.map (szE d)).sum≤40:=by unfold szE at hz;omega
   simp only[List.length_cons,List.length_nil]at h4;have HJ:=join_ok m (e.l.map (txtE d)) [44,32] (by rw[List.length_map];omega) (by omega);rw[List.length_map,←partG_end]at HJ;have HT:∀x∈e.l,SCalls Tryz.prog (glT m) 60 [.agg [bindM],tv x] [] (S (str (txtE d x))) []:=fun x hx=>ih x (hk x hx) (by have:=hz1 x hx;omega);obtain⟨k,n,s,l⟩:=e;simp only[Vk,Vs,Vl]at k6 hl h3 h4 h5 HJ HT ⊢;clear hx hL hz1 hk ih hI;subst k6;simp only[vcA,seval,vV,bmV];refine⟨⟨by omega,by unfold maxLen;omega⟩,?_⟩;rw[←partG_0 (txtE d)];refine v_loop (σ:={i:Nat // i≤l.length}) (fun i=>⟨[(2,.ptr 2 0),(3,.ptr 3 0),(7,.bs 68 0 l.length l.length),(70,.pv (.sl 4 (V.rows l))),(71,I (l.length:Int)),(72,I (i.1:Int))],[(2,[bindM]),(3,[I 6,I n,S (str s),.pv (.sl 4 (V.rows l))]),(68,pvC (partG (txtE d) l i.1))],[],[]⟩) (fun i=>l.length-i.1) ⟨0,by omega⟩ ?_ ?_
   ·apply lw_of<;>simp[leL,lk,sv,Nat.beq,I,S,ES.kill,has,drp,nilT,pvC_fgt]
   rintro⟨i,hi⟩;by_cases hlt:i<l.length
   ·have d1:(i:Int)<(l.length:Int):=by omega
    obtain⟨y,ey⟩:∃y,l[i]?=some y:=⟨_,gE hlt⟩
    have HW:=HT y (gM ey);have w1:IntKind.i64.wrap ((i:Int)+1)=((i+1:Nat):Int):=by rw[wrap64 (by omega) (by omega)];omega
    have pl:=partG_len (txtE d) l i hi;have ps:=partG_succ (f:=txtE d) ey;simp only[vcA,seval,vV,bmV,d1,ey];(with_reducible apply v_call);simp only[vcA,seval,vV,bmV];rfl;rfl;exact HW;exact km;simp only[vcA,seval,vV,bmV];rfl;simp only[vcA,seval,vV,bmV,pl,w1,Nat.mul_one,ps];refine⟨by omega,by omega,z11 ⟨i+1,by omega⟩ (by show l.length-(i+1)<l.length-i;omega) ?_⟩;apply lw_of<;>simp[leL,lk,sv,Nat.beq,I,S,ES.kill,has,drp,nilT]
   ·have d1:¬(i:Int)<(l.length:Int):=by omega
    obtain rfl:i=l.length:=by omega
    simp only[vcA,seval,vV,bmV,d1,q40',q41',q4432'];refine⟨by omega,?_⟩;(with_reducible apply v_call);simp only[vcA,seval,vV,bmV];rfl;rfl;exact HJ;exact km;simp only[vcA,seval,vV,bmV];rfl;simp only[vcA,seval,vV,bmV,q40',q41'];refine⟨by omega,by omega,?_⟩;simp only[List.append_assoc,List.singleton_append,List.cons_append,List.nil_append]
  rw[if_neg k6];simp only[vcA,seval,vV,bmV,k1,k2,k4,k5,k6]
def prV(e:V):TV:=if rightE e then .tuple [S (str (txtE 8 e)),I 0] else .tuple [S (str []),I 50]
theorem print_ok(m:Nat)(e:V)(he:ESmall e):SCalls Tryz.prog (glT m) 16 [tv e] [] (prV e) []:=by
 have HR:=sc_0T (exprRight_ok m e he);have HB:=bindings_ok (glT m);unfold prV B at*;refine z7 hmix tf_58 rfl ?_;cases hr:rightE e
 ·rw[hr]at HR;simp only[vcA,seval,vV,bmV];(with_reducible apply v_call);simp only[vcA,seval,vV,bmV];rfl;rfl;exact HR;exact km;simp only[vcA,seval,vV,bmV];rfl;simp only[vcA,seval,vV,bmV];rfl
 ·rw[hr]at HR;have hi:=z162 hr;have HT:=text_ok m 8 e hi.1 hi.2;simp only[vcA,seval,vV,bmV];(with_reducible apply v_call);simp only[vcA,seval,vV,bmV];rfl;rfl;exact HR;exact km;simp only[vcA,seval,vV,bmV];rfl;simp only[vcA,seval,vV,bmV];(with_reducible apply v_call);simp only[vcA,seval,vV,bmV];rfl;rfl;exact HB;exact km;simp only[vcA,seval,vV,bmV];rfl;simp only[vcA,seval,vV,bmV];(with_reducible apply v_call);simp only[vcA,seval,vV,bmV];rfl;rfl;exact HT;exact km;simp only[vcA,seval,vV,bmV];rfl;simp only[vcA,seval,vV,bmV]
end Go.Proofs.YtmiokadmddjccaaGreatDoor
end

section
namespace Go.Proofs.YtmiokadmddjccaaGreatDoor
open Go Go.RowKit Go.Mor Go.Sh Go.Sh.Cd1 Go.Sh.Cd5
set_option maxRecDepth 100000
set_option maxHeartbeats 8000000
theorem print_right(m:Nat){e:V}(hr:rightE e=true)(hs:ESmall e):SCalls Tryz.prog (glT m) 16 [tv e] [] (.tuple [S (str (txtE 8 e)),I 0]) []:=by
 have h:=print_ok m e hs;unfold prV at h
 rwa [if_pos hr]at h
theorem parse_ar_ok(m:Nat){e:V}(hr:rightE e=true)(n:Nat)(hl:(arT n (txtE 8 e)).length≤200):SCalls Tryz.prog (glT m) 17 [S (str (arT n (txtE 8 e)))] [] (.tuple [tv e,I 0,I 0]) []:=by
 obtain⟨f,hf⟩:=parse_around hr n hl;have h:=sc_0T (parse_any m _ hf);unfold parT at h;simpa only[if_true]using h
end Go.Proofs.YtmiokadmddjccaaGreatDoor
end

section
namespace Go.Proofs.YtmiokadmddjccaaGreatDoor
open Go Go.RowKit Go.Mor Go.Sh Go.Sh.Cd1 Go.Sh.Cd6
set_option maxRecDepth 100000
set_option maxHeartbeats 8000000
theorem b_kind(b:Bool):∃kind:Int,(kind=1∨kind=2)∧b=decide (kind=2):=by
 cases b
 ·exact⟨1,.inl rfl,rfl⟩
 ·exact⟨2,.inr rfl,rfl⟩
theorem evalFits_ok(m:Nat)(x:Raw)(n:List Int)(l:List UInt8)(b:Bool)(hx:RawOk x)(hn:n.length≤9223372036854775807)(hl:l.length≤9223372036854775807):
  SCalls Tryz.prog (glE m) 13 [rawT x,.pv (.sl 1 (iiR n)),bysT l,.pv (.v (.bool b))] [] (.pv (.v (.bool true))) []:=by
 have HA:=awake_ok m;have HC:=classOf4_ok (glE m) x hx;have HV:=madeV_ok (glE m) x n 9 hn (by decide);obtain⟨kind,hk,rfl⟩:=b_kind b;have HE:=madeE_ok m x l hk hl;have hg:=z49 x;have hf:=made_fit x n (many:=9) (by decide);have hfew:=vals_few hg n (many:=9) (by decide);have hvl:(mkVals (z8 x).fs n 9).length≤4611686018427387904:=by have:=hg.len;rw[z43];omega
 have hw:=made_fits hg l hk hf;obtain⟨hr,_,_,_⟩:=z57 hg l hk;have hT:=made_type hg l hk;have hW:=made_eval hg l hk (vals_check hg n (many:=9) (by decide));have hs:=z71 hr;have HT:=evType_ok m _ _ (good_ok hg) hs;have HW:=evEval_ok m _ _ _ (good_ok hg) hs hfew hvl;rw[hT]at HT;rw[hW]at HW;have HP:=sc_TE (print_right m hr hs);obtain⟨wl,ws⟩:=fits_12 hk hw;have HF:=sc_0E (fits_ok0 m _ ⟨kind,0⟩ (vok_60 ws (by rw[wl];simp)) (by rw[wl];decide));rw[hw]at HF;have HS:=same_ok (glE m) (worthV (z8 x).fs (mkVals (z8 x).fs n 9) 8 (exprOf l (z8 x).fs kind)) (worthV (z8 x).fs (mkVals (z8 x).fs n 9) 8 (exprOf l (z8 x).fs kind)) (few0 wl).small;rw[z132]at HS;have HQ:=fun h=>sc_TE (parse_ar_ok m hr 0 h);unfold arT at HQ;unfold typeT at HT;unfold evalT at HW;simp only[if_true]at HW;generalize worthV (z8 x).fs (mkVals (z8 x).fs n 9) 8 (exprOf l (z8 x).fs kind)=w at*;generalize mkVals (z8 x).fs n 9=vals at*;generalize exprOf l (z8 x).fs kind=e at*;generalize z8 x=c at*;generalize txtE 8 e=s at*;unfold B bysT rawT tyT clT tv at*;by_cases h2:200<s.length
 ·have d2:(200:Int)<(s.length:Int):=by omega
  refine z7 hmix tf_75 rfl ?_;rcases hk with rfl|rfl
  all_goals(
   simp only[vcA,seval,vV];(with_reducible apply v_call);exact kv;rfl;exact HA;exact km;exact kv;simp only[vcA,seval,vV];(with_reducible apply v_call);exact kv;rfl;exact HC;exact km;exact kv;simp only[vcA,seval,vV];(with_reducible apply v_call);exact kv;rfl;exact HV;exact km;exact kv;simp only[vcA,seval,vV];(with_reducible apply v_call);exact kv;rfl;exact HE;exact km;exact kv;simp only[vcA,seval,vV];(with_reducible apply v_call);exact kv;rfl;exact HT;exact km;exact kv;simp only[vcA,seval,vV];(with_reducible apply v_call);exact kv;rfl;exact HW;exact km;exact kv;simp only[vcA,seval,vV];(with_reducible apply v_call);exact kv;rfl;exact HP;exact km;exact kv;simp only[vcA,seval,vV];(with_reducible apply v_call);exact kv;rfl;exact HF;exact km;exact kv;simp only[vcA,seval,vV,d2])
 ·have d2:¬(200:Int)<(s.length:Int):=by omega
  have Q:=HQ (by show s.length≤200;omega);refine z7 hmix tf_75 rfl ?_;rcases hk with rfl|rfl
  all_goals(
   simp only[vcA,seval,vV];(with_reducible apply v_call);exact kv;rfl;exact HA;exact km;exact kv;simp only[vcA,seval,vV];(with_reducible apply v_call);exact kv;rfl;exact HC;exact km;exact kv;simp only[vcA,seval,vV];(with_reducible apply v_call);exact kv;rfl;exact HV;exact km;exact kv;simp only[vcA,seval,vV];(with_reducible apply v_call);exact kv;rfl;exact HE;exact km;exact kv;simp only[vcA,seval,vV];(with_reducible apply v_call);exact kv;rfl;exact HT;exact km;exact kv;simp only[vcA,seval,vV];(with_reducible apply v_call);exact kv;rfl;exact HW;exact km;exact kv;simp only[vcA,seval,vV];(with_reducible apply v_call);exact kv;rfl;exact HP;exact km;exact kv;simp only[vcA,seval,vV];(with_reducible apply v_call);exact kv;rfl;exact HF;exact km;exact kv;simp only[vcA,seval,vV,d2];(with_reducible apply v_call);exact kv;rfl;exact Q;exact km;exact kv;simp only[vcA,seval,vV];(with_reducible apply v_call);exact kv;rfl;exact HW;exact km;exact kv;simp only[vcA,seval,vV];(with_reducible apply v_call);exact kv;rfl;exact HS;exact km;exact kv;simp only[vcA,seval,vV])
end Go.Proofs.YtmiokadmddjccaaGreatDoor
end
