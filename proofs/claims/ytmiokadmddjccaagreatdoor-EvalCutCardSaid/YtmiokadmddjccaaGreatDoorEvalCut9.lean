/- Merged texts: Base S17 Pcm OpenS Cd1 PWire Px2 Cd4 Cd6 Zg1 PSign Sy1 Pe7 Sn1 Sy5 Sy6 Sy12 Cd2 Zt7 Pt0 Pt3 Zg13 Zg15 Zq1 Zq2 Zq3 Zq4 Pq3 Zg16. No statement of the program is proved here. -/
import Derived.Test.YtmiokadmddjccaaGreatDoorM1
import Derived.Test.YtmiokadmddjccaaGreatDoorM2
import Derived.Test.YtmiokadmddjccaaGreatDoorM3
import Derived.Test.YtmiokadmddjccaaGreatDoorM4
import Derived.Test.YtmiokadmddjccaaGreatDoorM5
import Derived.Test.YtmiokadmddjccaaGreatDoorM6
import Derived.Test.YtmiokadmddjccaaGreatDoorM7
import Derived.Test.YtmiokadmddjccaaGreatDoorM8
set_option linter.unusedSimpArgs false
set_option linter.unusedVariables false
section
namespace Go.Mor
open Go Go.RowKit
theorem str_of(s:ByteArray):str s.data.toList=s:=by cases s;simp[str]

end Go.Mor
end

section
namespace Go.Sh
open Go Go.RowKit
set_option maxHeartbeats 4000000
section
variable{P:Program}{g:Glob}{o:SOper}{l:List SOper}{K:ES→Prop}{s:ES}
end
section
variable(P:Program)(t:TypeId)(k:IntKind)(a b:Int)(x y:ByteArray)
end
section
variable{P:Program}{g:Glob}{a b c:SCode}{Q:SExit→ES→Prop}{s s':ES}{n kill:List Nat}{l:List SOper}{r:List (List Nat×List SOper)}
def unrollW(P:Program)(g:Glob)(a:SCode)(Q:SExit→ES→Prop):Nat→ES→Prop
 |0,_=>False
 |k+1,s=>swp P g a (thenW (unrollW P g a Q k) Q) s
theorem z107(k:Nat)(h:unrollW P g a Q k s):swp P g (.loop a) Q s:=by
 refine⟨fun n s=>unrollW P g a Q n s,k,⟨s,.refl s,h⟩,fun n s h=> ?_⟩;cases n with
 |zero=>exact h.elim
 |succ n=>
  refine z39 (c:=a) h (fun e s he=> ?_);cases e with
  |normal=>exact⟨n,Nat.lt_succ_self n,s,.refl s,he⟩
  |exit id=>exact he
  |ret=>exact he
  |pan z=>exact he
end
end Go.Sh
end

section
namespace Go.Proofs.YtmiokadmddjccaaGreatDoor
open Go Go.Mor
def pickI(c n:Int):Int:=(if c<0 then -(c+1)else c).tmod n
end Go.Proofs.YtmiokadmddjccaaGreatDoor
end

section
namespace Go.Proofs.YtmiokadmddjccaaGreatDoor
open Go.RowKit Go.Lib
theorem str_len{s:ByteArray}(h:s.size≤maxLen):s.data.toList.length≤9223372036854775807:=by
 have:s.data.toList.length=s.size:=Array.length_toList;unfold maxLen at h;omega
end Go.Proofs.YtmiokadmddjccaaGreatDoor
end

section
namespace Go.Sh.Cd1
open Go Go.Sh
set_option maxRecDepth 100000
abbrev c_96_0:SCode:=.reg [([4],[oD 4 (.new zV),oD 5 (.mov (vI 0)),oD 6 (.mov (vI 0))])] [5,6]
abbrev c_96_1:SCode:=.reg [([],[oM 11 1,oD 12 (.bin .lss 3 (.tmp 11) (vI 0)),oM 13 12,oH 14 13 false 1,oH 15 13 false 0,oG 16 13 false (.slen (.tmp 15)),oG 17 13 false (.bin .gtr 3 (.tmp 14) (.tmp 16)),oQ 18 13 17 true])] [11,12,13,14,15,16,17]
abbrev c_96_2:SCode:=.reg [([],[oD 19 (.build zV []),oM 20 1,oN (.st 4 (.tmp 4) (.tmp 19)),oM 5 20,oD 6 (.mov (vI 2))])] [0,1,18,19,20]
abbrev c_96_3:SCode:=.reg [([2092,2093,2094,2095],[oM 21 0,oM 22 1,oD 23 (.call 77 0 [.tmp 21,.tmp 22]),oM 7 23])] [0,5,6,18,21,22,23]
abbrev c_96_4:SCode:=.reg [([2104,2105,2106,2107,8],[oM 25 7,oD 26 (.callv (.tmp 25) 1 [(.val (.func (.func 78) #[] #[]))]),oM 24 26,oD 27 (.ext (.tmp 24) 0),oD 28 (.ext (.tmp 24) 1),oD 29 (.ext (.tmp 24) 2),oD 8 (.new zV),oN (.st 4 (.tmp 8) (.tmp 27)),oM 9 28,oM 10 29])] [24,25,26,27,28,29]
abbrev c_96_5:SCode:=.reg [([],[oM 30 10,oM 31 30,oG 32 31 true (.fldA 0 (.tmp 8)),oG 33 31 true (.ld false 1 (.tmp 32)),oG 34 31 true (.bin .eql 3 (.tmp 33) (vI 5)),oP 35 31 34 false])] [30,31,32,33,34]
abbrev c_96_6:SCode:=.reg [([2152,2153,2154,2155],[oM 37 7,oD 38 (.call 79 1 [.tmp 37]),oM 36 38,oD 39 (.ext (.tmp 36) 0),oD 40 (.ext (.tmp 36) 1),oD 41 (.ext (.tmp 36) 2),oD 42 (.fldA 3 (.tmp 8)),oN (.st 1 (.tmp 42) (.tmp 39)),oM 9 40,oM 10 41])] [7,35,36,37,38,39,40,41,42]
abbrev c_96_7:SCode:=.reg [([],[oM 43 10,oD 44 (.un .not (.tmp 43))])] [7,10,35,43]
abbrev c_96_8:SCode:=.reg [([],[oD 45 (.build zV []),oM 46 1,oN (.st 4 (.tmp 4) (.tmp 45)),oM 5 46,oD 6 (.mov (vI 30))])] [1,8,9,44,45,46]
abbrev c_96_9:SCode:=.reg [([],[oL 47 true 4 8,oM 48 9,oN (.st 4 (.tmp 4) (.tmp 47)),oM 5 48,oD 6 (.mov (vI 0))])] [1,8,9,44,47,48]
abbrev F_96:SFunc:=⟨49,(.seq c_96_0 (.seq (.seq c_96_1 (.cond (.tmp 18) (.seq c_96_2 .ret) .skip)) (.seq c_96_3 (.seq c_96_4 (.seq (.seq c_96_5 (.cond (.tmp 35) c_96_6 .skip)) (.seq (.seq c_96_7 (.cond (.tmp 44) (.seq c_96_8 .ret) .skip)) (.seq c_96_9 .ret))))))),[.cell true 4 4,.tmp 5,.tmp 6],false⟩
theorem tf_96:z6 Go.Proofs.Tryz.prog 26 (hintT [(23,0),(26,1),(38,1)]) (fpT []) (killT (klN 0 F_96.code.kl)) false=some F_96:=by kernel_rfl
abbrev c_63_0:SCode:=.reg [([],[oD 2 (.mov (.val (.string ⟨#[]⟩)))])] [2]
abbrev c_63_1:SCode:=.reg [([],[oD 3 (.mov (.val (.string ⟨#[]⟩)))])] []
abbrev c_63_2:SCode:=.reg [([],[oD 4 (.mov (vI 0))])] []
abbrev c_63_3:SCode:=.reg [([],[oM 7 4,oM 8 0,oD 9 (.slen (.tmp 8)),oD 10 (.bin .lss 3 (.tmp 7) (.tmp 9)),oM 11 10,oH 12 11 true 3,oG 13 11 true (.slen (.tmp 12)),oG 14 11 true (.bin .lss 3 (.tmp 13) (vI 17)),oP 15 11 14 false])] [7,8,9,10,11,12,13,14]
abbrev c_63_4:SCode:=.reg [([2076,2077,2078,2079],[oM 16 0,oM 17 4,oD 18 (.ssub (.tmp 16) (some (.tmp 17)) none),oD 19 (.call 51 0 [.tmp 18]),oD 20 (.imm true (.tmp 19) (vI 1)),oM 5 20])] [15,16,17,18,19,20]
abbrev c_63_5:SCode:=.reg [([2108,2109,2110,2111],[oM 21 0,oM 22 4,oM 23 4,oM 24 5,oD 25 (.bin .add 3 (.tmp 23) (.tmp 24)),oD 26 (.ssub (.tmp 21) (some (.tmp 22)) (some (.tmp 25))),oD 27 (.call 87 0 [.tmp 26]),oM 6 27])] [21,22,23,24,25,26,27]
abbrev c_63_6:SCode:=.reg [([],[oM 28 6])] [6]
abbrev c_63_7:SCode:=.reg [([],[oM 29 3,oM 30 0,oM 31 4,oM 32 4,oM 33 5,oD 34 (.bin .add 3 (.tmp 32) (.tmp 33)),oD 35 (.ssub (.tmp 30) (some (.tmp 31)) (some (.tmp 34))),oD 36 (.bin .add 9 (.tmp 29) (.tmp 35)),oM 3 36])] [28,29,30,31,32,33,34,35,36]
abbrev c_63_8:SCode:=.reg [([],[oM 37 4,oM 38 5,oD 39 (.bin .add 3 (.tmp 37) (.tmp 38)),oM 4 39])] [5,28,37,38,39]
abbrev c_63_9:SCode:=(.seq (.seq c_63_3 (.cond (.tmp 15) .skip (.exit 0))) (.block 1 (.seq c_63_4 (.seq c_63_5 (.seq (.seq c_63_6 (.cond (.tmp 28) c_63_7 .skip)) c_63_8)))))
abbrev c_63_10:SCode:=.reg [([],[oM 40 3,oM 2 40])] [0,3,4,40]
abbrev F_63:SFunc:=⟨41,(.seq c_63_0 (.seq c_63_1 (.seq (.seq c_63_2 (.block 0 (.loop c_63_9))) (.seq c_63_10 .ret)))),[.tmp 2],false⟩
theorem tf_63:z6 Go.Proofs.Tryz.prog 37 (hintT [(19,0),(27,0)]) (fpT []) (killT (klN 0 F_63.code.kl)) false=some F_63:=by kernel_rfl
abbrev c_62_0:SCode:=.reg [([3,4],[oD 3 (.box (.tmp 1)),oD 4 (.new zV)])] [1]
abbrev c_62_1:SCode:=.reg [([],[oM 6 0])] []
abbrev c_62_2:SCode:=.reg [([],[oD 8 (.bin .eql 3 (.tmp 6) (vI 1)),oM 7 8])] [8]
abbrev c_62_3:SCode:=.reg [([],[oD 9 (.fldA 1 (.tmp 3)),oL 10 false 1 9,oM 5 10])] [6,7,9,10]
abbrev c_62_4:SCode:=.reg [([],[oM 11 5,oD 12 (.bin .lss 3 (.tmp 11) (.val (.int .i64 (-1000000000000000)))),oM 13 12,oH 14 13 false 5,oG 15 13 false (.bin .gtr 3 (.tmp 14) (vI 1000000000000000)),oQ 16 13 15 true])] [11,12,13,14,15]
abbrev c_62_5:SCode:=.reg [([2076,2077,2078,2079],[oD 17 (.fldA 1 (.tmp 3)),oL 18 false 1 17,oD 19 (.call 88 0 [.tmp 18,vI 1000000000000001]),oM 5 19])] [3,16,17,18,19]
abbrev c_62_6:SCode:=.reg [([],[oM 20 0,oM 21 5,oD 22 (.build zV [(0,1,(.tmp 20)),(1,1,(.tmp 21))]),oN (.st 4 (.tmp 4) (.tmp 22))])] [0,3,5,16,20,21,22]
abbrev c_62_7:SCode:=.reg [([],[oD 24 (.bin .eql 3 (.tmp 6) (vI 2)),oM 23 24])] [7,24]
abbrev c_62_8:SCode:=.reg [([2112,2113,2114,2115],[oM 25 0,oD 26 (.fldA 2 (.tmp 3)),oL 27 false 1 26,oD 28 (.call 37 0 [.tmp 27]),oD 29 (.build zV [(0,1,(.tmp 25)),(2,1,(.tmp 28))]),oN (.st 4 (.tmp 4) (.tmp 29))])] [0,3,6,23,25,26,27,28,29]
abbrev c_62_9:SCode:=.reg [([],[oD 31 (.bin .eql 3 (.tmp 6) (vI 3)),oM 30 31])] [23,31]
abbrev c_62_10:SCode:=.reg [([],[oD 32 (.bin .eql 3 (.tmp 6) (vI 4)),oM 30 32])] [6,32]
abbrev c_62_11:SCode:=.reg [([2144,2145,2146,2147],[oM 33 0,oD 34 (.fldA 1 (.tmp 3)),oL 35 false 1 34,oD 36 (.call 88 0 [.tmp 35,vI 100000]),oD 37 (.bin .add 3 (vI 1) (.tmp 36)),oD 38 (.build zV [(0,1,(.tmp 33)),(1,1,(.tmp 37))]),oN (.st 4 (.tmp 4) (.tmp 38))])] [0,3,6,30,33,34,35,36,37,38]
abbrev c_62_12:SCode:=.reg [([],[oD 39 (.build zV []),oN (.st 4 (.tmp 4) (.tmp 39))])] [0,3,6,30,39]
abbrev F_62:SFunc:=⟨40,(.seq c_62_0 (.seq (.seq c_62_1 (.block 0 (.seq c_62_2 (.cond (.tmp 7) (.seq c_62_3 (.seq (.seq c_62_4 (.cond (.tmp 16) c_62_5 .skip)) (.seq c_62_6 .ret))) (.seq c_62_7 (.cond (.tmp 23) (.seq c_62_8 .ret) (.seq (.seq c_62_9 (.cond (.tmp 30) .skip c_62_10)) (.cond (.tmp 30) (.seq c_62_11 .ret) .skip)))))))) (.seq c_62_12 .ret))),[.cell true 4 4],false⟩
theorem tf_62:z6 Go.Proofs.Tryz.prog 45 (hintT [(19,0),(28,0),(36,0)]) (fpT []) (killT (klN 0 F_62.code.kl)) false=some F_62:=by kernel_rfl
abbrev c_86_0:SCode:=.reg [([],[oD 2 (.mov (vI 0))])] [2]
abbrev c_86_1:SCode:=.reg [([],[oM 8 0,oD 9 (.slen (.tmp 8)),oD 10 (.bin .eql 3 (.tmp 9) (vI 0))])] [8,9]
abbrev c_86_2:SCode:=.reg [([],[oD 2 (.mov (vI 0))])] [0,10]
abbrev c_86_3:SCode:=.reg [([],[oM 11 0,oD 12 (.sidx (.tmp 11) (vI 0)),oD 13 (.cvi .i64 (.tmp 12)),oM 3 13])] [2,10,11,12,13]
abbrev c_86_4:SCode:=.reg [([],[oM 14 3,oD 15 (.bin .lss 3 (.tmp 14) (vI 128))])] [14]
abbrev c_86_5:SCode:=.reg [([],[oD 2 (.mov (vI 1))])] [0,3,15]
abbrev c_86_6:SCode:=.reg [([],[oD 4 (.mov (vI 0))])] [2,15]
abbrev c_86_7:SCode:=.reg [([],[oD 5 (.mov (vI 128))])] []
abbrev c_86_8:SCode:=.reg [([],[oD 6 (.mov (vI 191))])] []
abbrev c_86_9:SCode:=.reg [([],[oM 16 3,oD 17 (.bin .geq 3 (.tmp 16) (vI 194)),oM 18 17,oH 19 18 true 3,oG 20 18 true (.bin .leq 3 (.tmp 19) (vI 223)),oP 21 18 20 false])] [16,17,18,19,20]
abbrev c_86_10:SCode:=.reg [([],[oD 4 (.mov (vI 2))])] [21]
abbrev c_86_11:SCode:=.reg [([],[oM 22 3,oD 23 (.bin .geq 3 (.tmp 22) (vI 224)),oM 24 23,oH 25 24 true 3,oG 26 24 true (.bin .leq 3 (.tmp 25) (vI 239)),oP 27 24 26 false])] [21,22,23,24,25,26]
abbrev c_86_12:SCode:=.reg [([],[oD 4 (.mov (vI 3))])] [27]
abbrev c_86_13:SCode:=.reg [([],[oM 28 3,oD 29 (.bin .geq 3 (.tmp 28) (vI 240)),oM 30 29,oH 31 30 true 3,oG 32 30 true (.bin .leq 3 (.tmp 31) (vI 244)),oP 33 30 32 false])] [27,28,29,30,31,32]
abbrev c_86_14:SCode:=.reg [([],[oD 4 (.mov (vI 4))])] [33]
abbrev c_86_15:SCode:=.reg [([],[oM 34 4,oD 35 (.bin .eql 3 (.tmp 34) (vI 0)),oM 36 35,oH 37 36 false 0,oG 38 36 false (.slen (.tmp 37)),oH 39 36 false 4,oG 40 36 false (.bin .lss 3 (.tmp 38) (.tmp 39)),oQ 41 36 40 true])] [33,34,35,36,37,38,39,40]
abbrev c_86_16:SCode:=.reg [([],[oD 2 (.mov (vI 0))])] [0,3,4,5,6,41]
abbrev c_86_17:SCode:=.reg [([],[oM 42 3])] [2,3,41]
abbrev c_86_18:SCode:=.reg [([],[oD 44 (.bin .eql 3 (.tmp 42) (vI 224)),oM 43 44])] [44]
abbrev c_86_19:SCode:=.reg [([],[oD 5 (.mov (vI 160))])] [42,43]
abbrev c_86_20:SCode:=.reg [([],[oD 46 (.bin .eql 3 (.tmp 42) (vI 237)),oM 45 46])] [43,46]
abbrev c_86_21:SCode:=.reg [([],[oD 6 (.mov (vI 159))])] [42,45]
abbrev c_86_22:SCode:=.reg [([],[oD 48 (.bin .eql 3 (.tmp 42) (vI 240)),oM 47 48])] [45,48]
abbrev c_86_23:SCode:=.reg [([],[oD 5 (.mov (vI 144))])] [42,47]
abbrev c_86_24:SCode:=.reg [([],[oD 50 (.bin .eql 3 (.tmp 42) (vI 244)),oM 49 50])] [42,47,50]
abbrev c_86_25:SCode:=.reg [([],[oD 6 (.mov (vI 143))])] [49]
abbrev c_86_26:SCode:=.reg [([],[oM 51 0,oD 52 (.sidx (.tmp 51) (vI 1)),oD 53 (.cvi .i64 (.tmp 52)),oM 54 5,oD 55 (.bin .lss 3 (.tmp 53) (.tmp 54)),oM 56 55,oH 57 56 false 0,oG 58 56 false (.sidx (.tmp 57) (vI 1)),oG 59 56 false (.cvi .i64 (.tmp 58)),oH 60 56 false 6,oG 61 56 false (.bin .gtr 3 (.tmp 59) (.tmp 60)),oQ 62 56 61 true])] [5,6,49,51,52,53,54,55,56,57,58,59,60,61]
abbrev c_86_27:SCode:=.reg [([],[oD 2 (.mov (vI 0))])] [0,4,62]
abbrev c_86_28:SCode:=.reg [([],[oD 7 (.mov (vI 2))])] [2,62]
abbrev c_86_29:SCode:=.reg [([],[oM 63 7,oM 64 4,oD 65 (.bin .lss 3 (.tmp 63) (.tmp 64))])] [63,64]
abbrev c_86_30:SCode:=.reg [([],[oM 68 0,oM 69 7,oD 70 (.sidx (.tmp 68) (.tmp 69)),oD 71 (.bin .lss 5 (.tmp 70) (.val (.int .u8 128))),oM 72 71,oH 73 72 false 0,oH 74 72 false 7,oG 75 72 false (.sidx (.tmp 73) (.tmp 74)),oG 76 72 false (.bin .gtr 5 (.tmp 75) (.val (.int .u8 191))),oQ 77 72 76 true])] [65,68,69,70,71,72,73,74,75,76]
abbrev c_86_31:SCode:=.reg [([],[oD 2 (.mov (vI 0))])] [0,4,7,77]
abbrev c_86_32:SCode:=.reg [([],[oM 66 7,oD 67 (.bin .add 3 (.tmp 66) (vI 1)),oM 7 67])] [2,66,67,77]
abbrev c_86_33:SCode:=(.seq (.seq c_86_29 (.cond (.tmp 65) .skip (.exit 1))) (.seq (.block 2 (.seq c_86_30 (.cond (.tmp 77) (.seq c_86_31 .ret) .skip))) c_86_32))
abbrev c_86_34:SCode:=.reg [([],[oM 78 4,oM 2 78])] [0,4,7,78]
abbrev F_86:SFunc:=⟨79,(.seq c_86_0 (.seq (.seq c_86_1 (.cond (.tmp 10) (.seq c_86_2 .ret) .skip)) (.seq c_86_3 (.seq (.seq c_86_4 (.cond (.tmp 15) (.seq c_86_5 .ret) .skip)) (.seq c_86_6 (.seq c_86_7 (.seq c_86_8 (.seq (.seq c_86_9 (.cond (.tmp 21) c_86_10 .skip)) (.seq (.seq c_86_11 (.cond (.tmp 27) c_86_12 .skip)) (.seq (.seq c_86_13 (.cond (.tmp 33) c_86_14 .skip)) (.seq (.seq c_86_15 (.cond (.tmp 41) (.seq c_86_16 .ret) .skip)) (.seq (.seq c_86_17 (.block 0 (.seq c_86_18 (.cond (.tmp 43) c_86_19 (.seq c_86_20 (.cond (.tmp 45) c_86_21 (.seq c_86_22 (.cond (.tmp 47) c_86_23 (.seq c_86_24 (.cond (.tmp 49) c_86_25 .skip)))))))))) (.seq (.seq c_86_26 (.cond (.tmp 62) (.seq c_86_27 .ret) .skip)) (.seq (.seq c_86_28 (.block 1 (.loop c_86_33))) (.seq c_86_34 .ret))))))))))))))),[.tmp 2],false⟩
theorem tf_86:z6 Go.Proofs.Tryz.prog 51 (hintT []) (fpT []) (killT [(0,[2]),(1,[8,9]),(2,[0,10]),(3,[2,10,11,12,13]),(4,[14]),(5,[0,3,15]),(6,[2,15]),(9,[16,17,18,19,20]),(10,[21]),(11,[21,22,23,24,25,26]),(12,[27]),(13,[27,28,29,30,31,32]),(14,[33]),(15,[33,34,35,36,37,38,39,40]),(16,[0,3,4,5,6,41]),(17,[2,3,41]),(18,[44]),(19,[42,43]),(20,[43,46]),(21,[42,45]),(22,[45,48]),(23,[42,47]),(24,[42,47,50]),(25,[49]),(26,[5,6,49,51,52,53,54,55,56,57,58,59,60,61]),(27,[0,4,62]),(28,[2,62]),(29,[63,64]),(31,[65,68,69,70,71,72,73,74,75,76]),(32,[0,4,7,77]),(30,[2,66,67,77]),(33,[0,4,7,78])]) false=some F_86:=by kernel_rfl
abbrev c_106_0:SCode:=.reg [([2,3],[oD 2 (.box (.tmp 0)),oD 3 (.box (.tmp 1)),oD 4 (.mov (.val .nilFunc))])] [0,1,4]
abbrev c_106_1:SCode:=.reg [([],[oD 5 (.mkf (.func 127) [] [.tmp 2,.tmp 3]),oM 4 5])] [2,3,5]
abbrev F_106:SFunc:=⟨6,(.seq c_106_0 (.seq c_106_1 .ret)),[.tmp 4],false⟩
theorem tf_106:z6 Go.Proofs.Tryz.prog 77 (hintT []) (fpT []) (killT (klN 0 F_106.code.kl)) false=some F_106:=by kernel_rfl
abbrev c_114_0:SCode:=.reg [([2],[oD 2 (.new zV),oD 3 (.mov (vI 0))])] [3]
abbrev c_114_1:SCode:=.reg [([4],[oD 6 (.build zV []),oD 4 (.new zV),oN (.st 4 (.tmp 4) (.tmp 6)),oD 5 (.mov (vI 0))])] [5,6]
abbrev c_114_2:SCode:=.reg [([2032,2033,2034,2035],[oM 7 0,oD 8 (.call 128 0 [.tmp 7])])] [7]
abbrev c_114_3:SCode:=.reg [([],[oD 24 (.bin .eql 21 (.tmp 8) (.val (.int .i32 34))),oM 23 24])] [24]
abbrev c_114_4:SCode:=.reg [([],[oD 25 (.fldA 0 (.tmp 4)),oN (.st 1 (.tmp 25) (vI 2))])] [8,23,25]
abbrev c_114_5:SCode:=.reg [([2112,2113,2114,2115],[oM 27 0,oD 28 (.call 129 0 [.tmp 27]),oM 26 28,oD 29 (.ext (.tmp 26) 0),oD 30 (.ext (.tmp 26) 1),oD 31 (.fldA 2 (.tmp 4)),oN (.st 1 (.tmp 31) (.tmp 29)),oM 5 30])] [0,26,27,28,29,30,31]
abbrev c_114_6:SCode:=.reg [([],[oD 33 (.bin .eql 21 (.tmp 8) (.val (.int .i32 64))),oM 32 33])] [23,33]
abbrev c_114_7:SCode:=.reg [([],[oD 34 (.fldA 0 (.tmp 4)),oN (.st 1 (.tmp 34) (vI 3))])] [8,32,34]
abbrev c_114_8:SCode:=.reg [([2148,2149,2150,2151],[oM 36 0,oD 37 (.call 130 0 [.tmp 36]),oM 35 37,oD 38 (.ext (.tmp 35) 0),oD 39 (.ext (.tmp 35) 1),oD 40 (.fldA 1 (.tmp 4)),oN (.st 1 (.tmp 40) (.tmp 38)),oM 5 39])] [0,35,36,37,38,39,40]
abbrev c_114_9:SCode:=.reg [([],[oD 42 (.bin .eql 21 (.tmp 8) (.val (.int .i32 126))),oM 41 42])] [32,42]
abbrev c_114_10:SCode:=.reg [([],[oD 43 (.fldA 0 (.tmp 4)),oN (.st 1 (.tmp 43) (vI 4))])] [8,41,43]
abbrev c_114_11:SCode:=.reg [([2184,2185,2186,2187],[oM 45 0,oD 46 (.call 130 0 [.tmp 45]),oM 44 46,oD 47 (.ext (.tmp 44) 0),oD 48 (.ext (.tmp 44) 1),oD 49 (.fldA 1 (.tmp 4)),oN (.st 1 (.tmp 49) (.tmp 47)),oM 5 48])] [0,44,45,46,47,48,49]
abbrev c_114_12:SCode:=.reg [([],[oD 51 (.bin .eql 21 (.tmp 8) (.val (.int .i32 91))),oM 50 51])] [8,41,51]
abbrev c_114_13:SCode:=.reg [([],[oD 52 (.fldA 0 (.tmp 4)),oN (.st 1 (.tmp 52) (vI 5)),oD 5 (.mov (vI 1))])] [0,50,52]
abbrev c_114_14:SCode:=.reg [([2044,2045,2046,2047],[oM 10 0,oD 11 (.call 131 0 [.tmp 10,(.val (.int .i64 (-1000000000000000))),vI 1000000000000000]),oM 9 11,oD 12 (.ext (.tmp 9) 0),oD 13 (.ext (.tmp 9) 1),oD 14 (.fldA 1 (.tmp 4)),oN (.st 1 (.tmp 14) (.tmp 12)),oM 5 13])] [9,10,11,12,13,14,50]
abbrev c_114_15:SCode:=.reg [([],[oM 15 5,oD 16 (.bin .eql 3 (.tmp 15) (vI 0))])] [15]
abbrev c_114_16:SCode:=.reg [([2068,2069,2070,2071,2076,2077,2078,2079],[oD 17 (.call 132 0 [.val (.int .i32 45)]),oM 18 0,oD 19 (.callv (.tmp 17) 1 [.tmp 18]),oD 20 (.ext (.tmp 19) 0),oD 21 (.ext (.tmp 19) 1),oN (.st 4 (.tmp 2) (.tmp 20)),oM 3 21])] [0,4,5,16,17,18,19,20,21]
abbrev c_114_17:SCode:=.reg [([],[oD 22 (.fldA 0 (.tmp 4)),oN (.st 1 (.tmp 22) (vI 1))])] [0,3,16,22]
abbrev c_114_18:SCode:=.reg [([],[oL 53 true 4 4,oM 54 5,oN (.st 4 (.tmp 2) (.tmp 53)),oM 3 54])] [4,5,53,54]
abbrev F_114:SFunc:=⟨55,(.seq c_114_0 (.seq c_114_1 (.seq (.seq c_114_2 (.block 0 (.seq c_114_3 (.cond (.tmp 23) (.seq c_114_4 c_114_5) (.seq c_114_6 (.cond (.tmp 32) (.seq c_114_7 c_114_8) (.seq c_114_9 (.cond (.tmp 41) (.seq c_114_10 c_114_11) (.seq c_114_12 (.cond (.tmp 50) c_114_13 (.seq c_114_14 (.seq (.seq c_114_15 (.cond (.tmp 16) (.seq c_114_16 .ret) .skip)) c_114_17)))))))))))) (.seq c_114_18 .ret)))),[.cell true 4 2,.tmp 3],false⟩
theorem tf_114:z6 Go.Proofs.Tryz.prog 78 (hintT [(8,0),(28,0),(37,0),(46,0),(11,0),(17,0),(19,1)]) (fpT []) (killT [(0,[3]),(1,[5,6]),(2,[7]),(7,[24]),(8,[8,23,25]),(9,[0,26,27,28,29,30,31]),(10,[23,33]),(11,[8,32,34]),(12,[0,35,36,37,38,39,40]),(13,[32,42]),(14,[8,41,43]),(15,[0,44,45,46,47,48,49]),(16,[8,41,51]),(17,[0,50,52]),(3,[9,10,11,12,13,14,50]),(4,[15]),(5,[0,4,5,16,17,18,19,20,21]),(6,[0,3,16,22]),(18,[4,5,53,54])]) false=some F_114:=by kernel_rfl
abbrev c_82_0:SCode:=.reg [([],[oD 2 (.mov (.val (.bool false)))])] [2]
abbrev c_82_1:SCode:=.reg [([],[oD 3 (.mov (vI 0))])] []
abbrev c_82_2:SCode:=.reg [([],[oM 5 3,oM 6 0,oD 7 (.slen (.tmp 6)),oD 8 (.bin .lss 3 (.tmp 5) (.tmp 7))])] [5,6,7]
abbrev c_82_3:SCode:=.reg [([2048,2049,2050,2051],[oM 9 0,oM 10 3,oD 11 (.ssub (.tmp 9) (some (.tmp 10)) none),oD 12 (.call 51 0 [.tmp 11]),oM 4 12])] [8,9,10,11,12]
abbrev c_82_4:SCode:=.reg [([],[oM 13 4,oD 14 (.bin .eql 3 (.tmp 13) (vI 0)),oM 15 14,oH 16 15 false 0,oH 17 15 false 3,oG 18 15 false (.sidx (.tmp 16) (.tmp 17)),oG 19 15 false (.bin .lss 5 (.tmp 18) (.val (.int .u8 32))),oQ 20 15 19 true,oM 21 20,oH 22 21 false 0,oH 23 21 false 3,oG 24 21 false (.sidx (.tmp 22) (.tmp 23)),oG 25 21 false (.bin .eql 5 (.tmp 24) (.val (.int .u8 127))),oQ 26 21 25 true])] [13,14,15,16,17,18,19,20,21,22,23,24,25]
abbrev c_82_5:SCode:=.reg [([],[oD 2 (.mov (.val (.bool false)))])] [0,3,4,26]
abbrev c_82_6:SCode:=.reg [([],[oM 27 3,oM 28 4,oD 29 (.bin .add 3 (.tmp 27) (.tmp 28)),oM 3 29])] [2,4,26,27,28,29]
abbrev c_82_7:SCode:=(.seq (.seq c_82_2 (.cond (.tmp 8) .skip (.exit 0))) (.block 1 (.seq c_82_3 (.seq (.seq c_82_4 (.cond (.tmp 26) (.seq c_82_5 .ret) .skip)) c_82_6))))
abbrev c_82_8:SCode:=.reg [([],[oD 2 (.mov (.val (.bool true)))])] [0,3]
abbrev F_82:SFunc:=⟨30,(.seq c_82_0 (.seq (.seq c_82_1 (.block 0 (.loop c_82_7))) (.seq c_82_8 .ret))),[.tmp 2],false⟩
theorem tf_82:z6 Go.Proofs.Tryz.prog 87 (hintT [(12,0)]) (fpT []) (killT (klN 0 F_82.code.kl)) false=some F_82:=by kernel_rfl
abbrev c_64_0:SCode:=.reg [([],[oD 4 (.mov (vI 0))])] [4]
abbrev c_64_1:SCode:=.reg [([],[oM 5 0,oD 6 (.bin .lss 3 (.tmp 5) (vI 0))])] [5]
abbrev c_64_2:SCode:=.reg [([],[oM 7 0,oD 8 (.bin .add 3 (.tmp 7) (vI 1)),oD 9 (.un .neg (.tmp 8)),oM 0 9])] [6,7,8,9]
abbrev c_64_3:SCode:=.reg [([],[oM 10 0,oM 11 1,oD 12 (.bin .rem 3 (.tmp 10) (.tmp 11)),oM 4 12])] [0,1,6,10,11,12]
abbrev F_64:SFunc:=⟨13,(.seq c_64_0 (.seq (.seq c_64_1 (.cond (.tmp 6) c_64_2 .skip)) (.seq c_64_3 .ret))),[.tmp 4],false⟩
theorem tf_64:z6 Go.Proofs.Tryz.prog 88 (hintT []) (fpT []) (killT (klN 0 F_64.code.kl)) false=some F_64:=by kernel_rfl
abbrev c_107_0:SCode:=.reg [([4],[oD 4 (.new zV),oD 5 (.mov (vI 0)),oD 6 (.mov (.val (.bool false)))])] [5,6]
abbrev c_107_1:SCode:=.reg [([2056,2057,2058,2059,7],[oM 10 0,oL 11 false 1 1,oL 12 false 1 2,oD 13 (.ssub (.tmp 11) (some (.tmp 12)) none),oD 14 (.callv (.tmp 10) 1 [.tmp 13]),oM 9 14,oD 15 (.ext (.tmp 9) 0),oD 16 (.ext (.tmp 9) 1),oD 7 (.new zV),oN (.st 4 (.tmp 7) (.tmp 15)),oM 8 16])] [0,1,9,10,11,12,13,14,15,16]
abbrev c_107_2:SCode:=.reg [([],[oL 17 false 1 2,oM 18 8,oD 19 (.bin .add 3 (.tmp 17) (.tmp 18)),oN (.st 1 (.tmp 2) (.tmp 19))])] [17,18,19]
abbrev c_107_3:SCode:=.reg [([],[⟨(some 20),none,(some 7),.ld true 4 (.tmp 7)⟩,⟨(some 21),none,(some 1000),.ld false 1 (.tmp 2)⟩,oM 22 8,oD 23 (.bin .gtr 3 (.tmp 22) (vI 0)),⟨none,none,(some 4),.st 4 (.tmp 4) (.tmp 20)⟩,oM 5 21,oM 6 23]),([],[⟨(some 20),none,(some 7),.ld true 4 (.tmp 7)⟩,⟨(some 21),none,(some 1001),.ld false 1 (.tmp 2)⟩,oM 22 8,oD 23 (.bin .gtr 3 (.tmp 22) (vI 0)),⟨none,none,(some 4),.st 4 (.tmp 4) (.tmp 20)⟩,oM 5 21,oM 6 23])] [2,7,8,20,21,22,23]
abbrev F_107:SFunc:=⟨24,(.seq c_107_0 (.seq c_107_1 (.seq c_107_2 (.seq c_107_3 .ret)))),[.cell true 4 4,.tmp 5,.tmp 6],false⟩
theorem tf_107:z6 Go.Proofs.Tryz.prog 127 (hintT [(14,1)]) (fpT [(3,[[(0,7),(4,4),(1,1000)],[(0,7),(4,4),(1,1001)]])]) (killT (klN 0 F_107.code.kl)) false=some F_107:=by kernel_rfl
abbrev c_100_0:SCode:=.reg [([],[oD 2 (.mov (.val (.int .i32 0)))])] [2]
abbrev c_100_1:SCode:=.reg [([],[oM 5 0,oD 6 (.bin .eql 9 (.tmp 5) (.val (.string ⟨#[]⟩)))])] [5]
abbrev c_100_2:SCode:=.reg [([],[oD 2 (.mov (.val (.int .i32 0)))])] [0,6]
abbrev c_100_3:SCode:=.reg [([2036,2037,2038,2039],[oM 8 0,oD 9 (.call 182 0 [.tmp 8]),oM 7 9,oD 10 (.ext (.tmp 7) 0),oD 11 (.ext (.tmp 7) 1),oM 3 10,oM 4 11])] [0,2,4,6,7,8,9,10,11]
abbrev c_100_4:SCode:=.reg [([],[oM 12 3,oM 2 12])] [3,12]
abbrev F_100:SFunc:=⟨13,(.seq c_100_0 (.seq (.seq c_100_1 (.cond (.tmp 6) (.seq c_100_2 .ret) .skip)) (.seq c_100_3 (.seq c_100_4 .ret)))),[.tmp 2],false⟩
theorem tf_100:z6 Go.Proofs.Tryz.prog 128 (hintT [(9,0)]) (fpT []) (killT (klN 0 F_100.code.kl)) false=some F_100:=by kernel_rfl
abbrev c_105_0:SCode:=.reg [([],[oD 2 (.mov (.val (.string ⟨#[]⟩))),oD 3 (.mov (vI 0))])] [2,3]
abbrev c_105_1:SCode:=.reg [([],[oD 4 (.mov (.val (.slice none 0 0)))])] []
abbrev c_105_2:SCode:=.reg [([],[oD 5 (.mov (vI 1))])] []
abbrev c_105_3:SCode:=.reg [([],[oM 8 5,oM 9 0,oD 10 (.slen (.tmp 9)),oD 11 (.bin .lss 3 (.tmp 8) (.tmp 10)),oM 12 11,oH 13 12 true 4,oG 14 12 true (.len (.tmp 13)),oG 15 12 true (.bin .leq 3 (.tmp 14) (vI 60)),oP 16 12 15 false])] [8,9,10,11,12,13,14,15]
abbrev c_105_4:SCode:=.reg [([2084,2085,2086,2087],[oM 18 0,oM 19 5,oD 20 (.ssub (.tmp 18) (some (.tmp 19)) none),oD 21 (.call 182 0 [.tmp 20]),oM 17 21,oD 22 (.ext (.tmp 17) 0),oD 23 (.ext (.tmp 17) 1),oM 6 22,oM 7 23])] [16,17,18,19,20,21,22,23]
abbrev c_105_5:SCode:=.reg [([],[oM 24 6])] [6]
abbrev c_105_6:SCode:=.reg [([],[oD 26 (.bin .eql 21 (.tmp 24) (.val (.int .i32 34))),oM 25 26])] [26]
abbrev c_105_7:SCode:=.reg [([2116,2117,2118,2119],[oM 27 4,oD 28 (.b2s (.tmp 27)),oD 29 (.call 91 0 [.tmp 28]),oD 30 (.un .not (.tmp 29))])] [0,7,24,25,27,28,29]
abbrev c_105_8:SCode:=.reg [([],[oD 2 (.mov (.val (.string ⟨#[]⟩))),oD 3 (.mov (vI 0))])] [4,5,30]
abbrev c_105_9:SCode:=.reg [([],[oM 31 4,oD 32 (.b2s (.tmp 31)),oM 33 5,oD 34 (.bin .add 3 (.tmp 33) (vI 1)),oM 2 32,oM 3 34])] [4,5,30,31,32,33,34]
abbrev c_105_10:SCode:=.reg [([],[oD 36 (.bin .eql 21 (.tmp 24) (.val (.int .i32 92))),oM 35 36])] [24,25,36]
abbrev c_105_11:SCode:=.reg [([],[oM 37 5,oD 38 (.bin .add 3 (.tmp 37) (vI 1)),oM 5 38])] [35,37,38]
abbrev c_105_12:SCode:=.reg [([],[oM 39 5,oM 40 0,oD 41 (.slen (.tmp 40)),oD 42 (.bin .eql 3 (.tmp 39) (.tmp 41)),oM 43 42,oH 44 43 false 0,oH 45 43 false 5,oG 46 43 false (.sidx (.tmp 44) (.tmp 45)),oG 47 43 false (.bin .neq 5 (.tmp 46) (.val (.int .u8 34))),oH 48 43 false 47,oH 49 48 true 0,oH 50 48 true 5,oG 51 48 true (.sidx (.tmp 49) (.tmp 50)),oG 52 48 true (.bin .neq 5 (.tmp 51) (.val (.int .u8 92))),oG 53 43 false (.pick (.tmp 48) (.tmp 52) (.val (.bool false))),oQ 54 43 53 true])] [39,40,41,42,43,44,45,46,47,48,49,50,51,52,53]
abbrev c_105_13:SCode:=.reg [([],[oD 2 (.mov (.val (.string ⟨#[]⟩))),oD 3 (.mov (vI 0))])] [0,4,5,7,54]
abbrev c_105_14:SCode:=.reg [([],[oM 55 4,oM 56 0,oM 57 5,oM 58 5,oM 59 7,oD 60 (.bin .add 3 (.tmp 58) (.tmp 59)),oD 61 (.ssub (.tmp 56) (some (.tmp 57)) (some (.tmp 60))),oD 62 (.appS 5 1 (.tmp 55) (.tmp 61)),oM 4 62]),([62],[oM 55 4,oM 56 0,oM 57 5,oM 58 5,oM 59 7,oD 60 (.bin .add 3 (.tmp 58) (.tmp 59)),oD 61 (.ssub (.tmp 56) (some (.tmp 57)) (some (.tmp 60))),oD 62 (.appNS 5 1 (.tmp 55) (.tmp 61)),oM 4 62])] [2,3,35,54,55,56,57,58,59,60,61,62]
abbrev c_105_15:SCode:=.reg [([],[oM 63 5,oM 64 7,oD 65 (.bin .add 3 (.tmp 63) (.tmp 64)),oM 5 65])] [7,63,64,65]
abbrev c_105_16:SCode:=(.seq (.seq c_105_3 (.cond (.tmp 16) .skip (.exit 0))) (.block 1 (.seq c_105_4 (.seq (.seq c_105_5 (.block 2 (.seq c_105_6 (.cond (.tmp 25) (.seq (.seq c_105_7 (.cond (.tmp 30) (.seq c_105_8 .ret) .skip)) (.seq c_105_9 .ret)) (.seq c_105_10 (.cond (.tmp 35) (.seq c_105_11 (.seq c_105_12 (.cond (.tmp 54) (.seq c_105_13 .ret) .skip))) .skip)))))) (.seq c_105_14 c_105_15)))))
abbrev c_105_17:SCode:=.reg [([],[oD 2 (.mov (.val (.string ⟨#[]⟩))),oD 3 (.mov (vI 0))])] [0,4,5]
abbrev F_105:SFunc:=⟨66,(.seq c_105_0 (.seq c_105_1 (.seq (.seq c_105_2 (.block 0 (.loop c_105_16))) (.seq c_105_17 .ret)))),[.tmp 2,.tmp 3],false⟩
theorem tf_105:z6 Go.Proofs.Tryz.prog 129 (hintT [(21,0),(29,0)]) (fpT []) (killT (klN 0 F_105.code.kl)) false=some F_105:=by kernel_rfl
abbrev c_108_0:SCode:=.reg [([],[oD 2 (.mov (vI 0)),oD 3 (.mov (vI 0))])] [2,3]
abbrev c_108_1:SCode:=.reg [([2036,2037,2038,2039],[oM 7 0,oD 8 (.ssub (.tmp 7) (some (vI 1)) none),oD 9 (.call 131 0 [.tmp 8,(.val (.int .i64 (-20))),vI 100000]),oM 6 9,oD 10 (.ext (.tmp 6) 0),oD 11 (.ext (.tmp 6) 1),oM 4 10,oM 5 11])] [0,6,7,8,9,10,11]
abbrev c_108_2:SCode:=.reg [([],[oM 12 4,oD 13 (.bin .eql 3 (.tmp 12) (vI 0))])] [12]
abbrev c_108_3:SCode:=.reg [([],[oD 2 (.mov (vI 0)),oD 3 (.mov (vI 0))])] [4,5,13]
abbrev c_108_4:SCode:=.reg [([],[oM 14 4,oM 15 5,oD 16 (.bin .add 3 (.tmp 15) (vI 1)),oM 2 14,oM 3 16])] [4,5,13,14,15,16]
abbrev F_108:SFunc:=⟨17,(.seq c_108_0 (.seq c_108_1 (.seq (.seq c_108_2 (.cond (.tmp 13) (.seq c_108_3 .ret) .skip)) (.seq c_108_4 .ret)))),[.tmp 2,.tmp 3],false⟩
theorem tf_108:z6 Go.Proofs.Tryz.prog 130 (hintT [(9,0)]) (fpT []) (killT (klN 0 F_108.code.kl)) false=some F_108:=by kernel_rfl
abbrev c_102_0:SCode:=.reg [([],[oD 6 (.mov (vI 0)),oD 7 (.mov (vI 0))])] [6,7]
abbrev c_102_1:SCode:=.reg [([],[oD 8 (.mov (vI 0)),oD 9 (.mov (vI 0)),oD 10 (.mov (vI 0)),oD 11 (.mov (vI 0))])] []
abbrev c_102_2:SCode:=.reg [([2060,2061,2062,2063],[oM 14 0,oD 15 (.call 128 0 [.tmp 14]),oD 16 (.bin .eql 21 (.tmp 15) (.val (.int .i32 45)))])] [14,15]
abbrev c_102_3:SCode:=.reg [([],[oD 11 (.mov (vI 1))])] [16]
abbrev c_102_4:SCode:=.reg [([],[oM 17 11,oM 12 17])] [16,17]
abbrev c_102_5:SCode:=.reg [([],[oM 18 11,oM 19 0,oD 20 (.slen (.tmp 19)),oD 21 (.bin .lss 3 (.tmp 18) (.tmp 20)),oM 22 21,oH 23 22 true 0,oH 24 22 true 11,oG 25 22 true (.sidx (.tmp 23) (.tmp 24)),oG 26 22 true (.bin .geq 5 (.tmp 25) (.val (.int .u8 48))),oP 27 22 26 false,oM 28 27,oH 29 28 true 0,oH 30 28 true 11,oG 31 28 true (.sidx (.tmp 29) (.tmp 30)),oG 32 28 true (.bin .leq 5 (.tmp 31) (.val (.int .u8 57))),oP 33 28 32 false])] [18,19,20,21,22,23,24,25,26,27,28,29,30,31,32]
abbrev c_102_6:SCode:=.reg [([],[oM 36 8,oD 37 (.bin .mul 3 (vI 10) (.tmp 36)),oM 38 0,oM 39 11,oD 40 (.sidx (.tmp 38) (.tmp 39)),oD 41 (.bin .sub 5 (.tmp 40) (.val (.int .u8 48))),oD 42 (.cvi .i64 (.tmp 41)),oD 43 (.bin .add 3 (.tmp 37) (.tmp 42)),oM 8 43])] [33,36,37,38,39,40,41,42,43]
abbrev c_102_7:SCode:=.reg [([],[oM 44 8,oD 45 (.bin .gtr 3 (.tmp 44) (vI 1000000000000000)),oM 46 45,oH 47 46 false 12,oG 48 46 false (.bin .eql 3 (.tmp 47) (vI 1)),oH 49 46 false 48,oH 50 49 true 8,oG 51 49 true (.bin .eql 3 (.tmp 50) (vI 0)),oG 52 46 false (.pick (.tmp 49) (.tmp 51) (.val (.bool false))),oQ 53 46 52 true])] [44,45,46,47,48,49,50,51,52]
abbrev c_102_8:SCode:=.reg [([],[oM 54 8,oM 13 54])] [53,54]
abbrev c_102_9:SCode:=.reg [([],[oM 55 12,oD 56 (.bin .eql 3 (.tmp 55) (vI 1))])] [55]
abbrev c_102_10:SCode:=.reg [([],[oM 57 8,oD 58 (.un .neg (.tmp 57)),oM 13 58])] [56,57,58]
abbrev c_102_11:SCode:=.reg [([],[oM 59 13,oM 60 1,oD 61 (.bin .geq 3 (.tmp 59) (.tmp 60)),oM 62 61,oH 63 62 true 13,oH 64 62 true 2,oG 65 62 true (.bin .leq 3 (.tmp 63) (.tmp 64)),oP 66 62 65 false])] [56,59,60,61,62,63,64,65]
abbrev c_102_12:SCode:=.reg [([],[oM 67 13,oM 68 11,oD 69 (.bin .add 3 (.tmp 68) (vI 1)),oM 9 67,oM 10 69])] [13,66,67,68,69]
abbrev c_102_13:SCode:=.reg [([],[oM 70 8,oD 71 (.bin .eql 3 (.tmp 70) (vI 0))])] [13,66,70]
abbrev c_102_14:SCode:=.reg [([],[oM 34 11,oD 35 (.bin .add 3 (.tmp 34) (vI 1)),oM 11 35])] [34,35,71]
abbrev c_102_15:SCode:=(.seq (.seq c_102_5 (.cond (.tmp 33) .skip (.exit 0))) (.seq (.block 1 (.seq c_102_6 (.seq (.seq c_102_7 (.cond (.tmp 53) (.exit 0) .skip)) (.seq c_102_8 (.seq (.seq c_102_9 (.cond (.tmp 56) c_102_10 .skip)) (.seq (.seq c_102_11 (.cond (.tmp 66) c_102_12 .skip)) (.seq c_102_13 (.cond (.tmp 71) (.exit 0) .skip)))))))) c_102_14))
abbrev c_102_16:SCode:=.reg [([],[oM 72 9,oM 73 10,oM 6 72,oM 7 73])] [0,1,2,8,9,10,11,12,72,73]
abbrev F_102:SFunc:=⟨74,(.seq c_102_0 (.seq c_102_1 (.seq (.seq c_102_2 (.cond (.tmp 16) c_102_3 .skip)) (.seq (.seq c_102_4 (.block 0 (.loop c_102_15))) (.seq c_102_16 .ret))))),[.tmp 6,.tmp 7],false⟩
theorem tf_102:z6 Go.Proofs.Tryz.prog 131 (hintT [(15,0)]) (fpT []) (killT [(0,[6,7]),(2,[14,15]),(3,[16]),(4,[16,17]),(5,[18,19,20,21,22,23,24,25,26,27,28,29,30,31,32]),(7,[33,36,37,38,39,40,41,42,43]),(8,[44,45,46,47,48,49,50,51,52]),(9,[53,54]),(10,[55]),(11,[56,57,58]),(12,[56,59,60,61,62,63,64,65]),(13,[13,66,67,68,69]),(14,[13,66,70]),(6,[34,35,71]),(15,[0,1,2,8,9,10,11,12,72,73])]) false=some F_102:=by kernel_rfl
abbrev c_112_0:SCode:=.reg [([1],[oD 1 (.box (.tmp 0)),oD 2 (.mov (.val .nilFunc))])] [0,2]
abbrev c_112_1:SCode:=.reg [([],[oD 3 (.mkf (.func 183) [] [.tmp 1]),oM 2 3])] [1,3]
abbrev F_112:SFunc:=⟨4,(.seq c_112_0 (.seq c_112_1 .ret)),[.tmp 2],false⟩
theorem tf_112:z6 Go.Proofs.Tryz.prog 132 (hintT []) (fpT []) (killT (klN 0 F_112.code.kl)) false=some F_112:=by kernel_rfl
abbrev c_113_0:SCode:=.reg [([3],[oD 3 (.new zV),oD 4 (.mov (vI 0))])] [4]
abbrev c_113_1:SCode:=.reg [([2036,2037,2038,2039],[oM 5 0,oD 6 (.bin .neq 9 (.tmp 5) (.val (.string ⟨#[]⟩))),oM 7 6,oH 8 7 true 0,oG 9 7 true (.call 128 0 [.tmp 8]),oG 10 7 true (.ld false 1 (.tmp 1)),oG 11 7 true (.bin .eql 21 (.tmp 9) (.tmp 10)),oP 12 7 11 false])] [0,1,5,6,7,8,9,10,11]
abbrev c_113_2:SCode:=.reg [([],[oD 13 (.build zV []),oN (.st 4 (.tmp 3) (.tmp 13)),oD 4 (.mov (vI 1))])] [12,13]
abbrev c_113_3:SCode:=.reg [([],[oD 14 (.build zV []),oN (.st 4 (.tmp 3) (.tmp 14)),oD 4 (.mov (vI 0))])] [12,14]
abbrev F_113:SFunc:=⟨15,(.seq c_113_0 (.seq (.seq c_113_1 (.cond (.tmp 12) (.seq c_113_2 .ret) .skip)) (.seq c_113_3 .ret))),[.cell true 4 3,.tmp 4],false⟩
theorem tf_113:z6 Go.Proofs.Tryz.prog 183 (hintT [(9,0)]) (fpT []) (killT (klN 0 F_113.code.kl)) false=some F_113:=by kernel_rfl
end Go.Sh.Cd1
end

section
namespace Go.Mor
theorem z62(x:Int)(h:¬x<0):((UInt8.ofNat (mag x%64*2+sgn x)).toNat:Int)=x%64*2:=by
 simp only[mag,sgn,if_neg h,UInt8.toNat_ofNat'];omega
end Go.Mor
end

section
namespace Go.Mor
open Go
set_option maxHeartbeats 2000000
theorem z137(m:Nat):∃c r,Lib.decDigits m=c::r∧digB c=true:=by
 induction m using Nat.strongRecOn with
 |_ m ih=>
  by_cases hm:m<10
  ·exact⟨UInt8.ofNat (48+m),[],Lib.decDigits_one hm,by unfold digB;rw[digC m hm];simp;omega⟩
  ·obtain⟨c,r,h1,h2⟩:=ih (m / 10) (by omega);exact⟨c,r++[UInt8.ofNat (48+m%10)],by rw[Lib.decDigits,dif_neg hm,h1];rfl,h2⟩
end Go.Mor
end

section
namespace Go.Sh.Cd4
open Go Go.Sh
set_option maxRecDepth 100000
abbrev c_87_0:SCode:=.reg [([2],[oD 2 (.box (.tmp 0)),oD 4 (.mov (vI 0)),oD 5 (.mov (.val (.bool false)))])] [0,4,5]
abbrev c_87_1:SCode:=.reg [([],[oD 6 (.mov (vI 0))])] []
abbrev c_87_2:SCode:=.reg [([],[oM 7 6,oD 8 (.fldA 1 (.tmp 2)),oL 9 false 1 8,oD 10 (.len (.tmp 9)),oD 11 (.bin .lss 3 (.tmp 7) (.tmp 10))])] [7,8,9,10]
abbrev c_87_3:SCode:=.reg [([],[oD 14 (.fldA 1 (.tmp 2)),oL 15 false 1 14,oM 16 6,oD 17 (.idxA 4 (.tmp 15) (.tmp 16)),oD 18 (.fldA 0 (.tmp 17)),oL 19 false 1 18,oM 20 1,oD 21 (.bin .eql 9 (.tmp 19) (.tmp 20))])] [11,14,15,16,17,18,19,20]
abbrev c_87_4:SCode:=.reg [([],[oM 22 6,oM 4 22,oD 5 (.mov (.val (.bool true)))])] [1,2,6,21,22]
abbrev c_87_5:SCode:=.reg [([],[oM 12 6,oD 13 (.bin .add 3 (.tmp 12) (vI 1)),oM 6 13])] [4,5,12,13,21]
abbrev c_87_6:SCode:=(.seq (.seq c_87_2 (.cond (.tmp 11) .skip (.exit 0))) (.seq (.block 1 (.seq c_87_3 (.cond (.tmp 21) (.seq c_87_4 .ret) .skip))) c_87_5))
abbrev c_87_7:SCode:=.reg [([],[oD 4 (.mov (vI 0)),oD 5 (.mov (.val (.bool false)))])] [1,2,6]
abbrev F_87:SFunc:=⟨23,(.seq c_87_0 (.seq (.seq c_87_1 (.block 0 (.loop c_87_6))) (.seq c_87_7 .ret))),[.tmp 4,.tmp 5],false⟩
theorem tf_87:z6 Go.Proofs.Tryz.prog 53 (hintT []) (fpT []) (killT [(0,[0,4,5]),(2,[7,8,9,10]),(4,[11,14,15,16,17,18,19,20]),(5,[1,2,6,21,22]),(3,[4,5,12,13,21]),(6,[1,2,6])]) false=some F_87:=by kernel_rfl
end Go.Sh.Cd4
end

section
namespace Go.Sh.Cd6
open Go Go.Sh
set_option maxRecDepth 100000
abbrev c_65_0:SCode:=.reg [([],[oD 4 (.mov (.val (.bool false)))])] [4]
abbrev c_65_1:SCode:=.reg [([2088,2089,2090,2091],[oD 22 (.call 31 0 []),oM 5 22])] [22]
abbrev c_65_2:SCode:=.reg [([2100,2101,2102,2103],[oM 23 0,oD 24 (.build [(.int .i64 0),(.int .i64 0),(.string ⟨#[]⟩)] [(1,1,(.tmp 23))]),oD 25 (.call 45 0 [vI 1,.tmp 24]),oD 26 (.fld false 1 1 (.tmp 25)),oM 6 26])] [0,23,24,25,26]
abbrev c_65_3:SCode:=.reg [([2112,2113,2114,2115],[oM 27 1,oD 28 (.call 37 0 [.tmp 27]),oM 7 28])] [1,27,28]
abbrev c_65_4:SCode:=.reg [([2128,2129,2130,2131,2132,2133,2134,2135],[oM 29 6,oM 30 7,oM 31 6,oD 32 (.call 41 0 [.tmp 31]),oD 33 (.call 39 0 [.val (.string ⟨#[110,117,109,40,116,101,120,116,40,110,41,41]⟩),.tmp 29,.tmp 30,.tmp 32]),oM 8 33])] [29,30,31,32,33]
abbrev c_65_5:SCode:=.reg [([2144,2145,2146,2147,2148,2149,2150,2151],[oM 34 6,oM 35 7,oD 36 (.call 41 0 [vI 0]),oD 37 (.call 39 0 [.val (.string ⟨#[110,117,109,40,116,101,120,116,40,110,41,32,38,32,34,120,34,41]⟩),.tmp 34,.tmp 35,.tmp 36]),oM 9 37])] [34,35,36,37]
abbrev c_65_6:SCode:=.reg [([2164,2165,2166,2167,10],[oM 39 6,oM 40 7,oD 41 (.call 42 0 [.val (.string ⟨#[116,32,38,32,40,116,32,38,32,40,116,32,38,32,116,41,41]⟩),.tmp 39,.tmp 40]),oM 38 41,oD 42 (.ext (.tmp 38) 0),oD 43 (.ext (.tmp 38) 1),oD 10 (.new zV),oN (.st 4 (.tmp 10) (.tmp 42)),oM 11 43])] [38,39,40,41,42,43]
abbrev c_65_7:SCode:=.reg [([],[oM 44 7,oM 45 7,oD 46 (.bin .add 9 (.tmp 44) (.tmp 45)),oM 47 7,oD 48 (.bin .add 9 (.tmp 46) (.tmp 47)),oM 49 7,oD 50 (.bin .add 9 (.tmp 48) (.tmp 49)),oM 12 50])] [7,44,45,46,47,48,49,50]
abbrev c_65_8:SCode:=.reg [([],[oD 51 (.fldA 2 (.tmp 10)),oL 52 false 1 51,oD 53 (.slen (.tmp 52)),oM 13 53])] [51,52,53]
abbrev c_65_9:SCode:=.reg [([],[oM 54 8,oD 55 (.un .not (.tmp 54)),oM 56 55,oH 57 56 false 9,oG 58 56 false (.un .not (.tmp 57)),oQ 59 56 58 true,oM 60 59,oH 61 60 false 11,oG 62 60 false (.un .not (.tmp 61)),oQ 63 60 62 true,oM 64 63,oG 65 64 false (.fldA 0 (.tmp 10)),oG 66 64 false (.ld false 1 (.tmp 65)),oG 67 64 false (.bin .neq 3 (.tmp 66) (vI 2)),oQ 68 64 67 true,oM 69 68,oH 70 69 false 13,oG 71 69 false (.bin .gtr 3 (.tmp 70) (vI 60)),oQ 72 69 71 true,oM 73 72,oH 74 73 false 13,oH 75 73 false 12,oG 76 73 false (.slen (.tmp 75)),oG 77 73 false (.bin .gtr 3 (.tmp 74) (.tmp 76)),oQ 78 73 77 true,oM 79 78,oH 80 79 false 12,oH 81 79 false 13,oG 82 79 false (.ssub (.tmp 80) none (some (.tmp 81))),oG 83 79 false (.fldA 2 (.tmp 10)),oG 84 79 false (.ld false 1 (.tmp 83)),oG 85 79 false (.bin .neq 9 (.tmp 82) (.tmp 84)),oQ 86 79 85 true])] [8,9,11,54,55,56,57,58,59,60,61,62,63,64,65,66,67,68,69,70,71,72,73,74,75,76,77,78,79,80,81,82,83,84,85]
abbrev c_65_10:SCode:=.reg [([],[oD 4 (.mov (.val (.bool false)))])] [5,6,10,12,13,86]
abbrev c_65_11:SCode:=.reg [([],[oM 87 12,oD 88 (.slen (.tmp 87)),oM 89 13,oD 90 (.bin .sub 3 (.tmp 88) (.tmp 89)),oM 14 90])] [4,86,87,88,89,90]
abbrev c_65_12:SCode:=.reg [([2376,2377,2378,2379],[oM 91 12,oM 92 13,oD 93 (.ssub (.tmp 91) (some (.tmp 92)) none),oD 94 (.call 51 0 [.tmp 93]),oD 95 (.imm true (.tmp 94) (vI 0)),oM 15 95])] [12,91,92,93,94,95]
abbrev c_65_13:SCode:=.reg [([2388,2389,2390,2391],[oL 96 true 4 10,oD 97 (.call 52 0 [.tmp 96]),oM 16 97])] [10,96,97]
abbrev c_65_14:SCode:=.reg [([2400,2401,2402,2403,2408,2409,2410,2411,17],[oM 99 6,oD 100 (.call 44 0 [.tmp 99]),oD 101 (.bin .add 9 (.val (.string ⟨#[120]⟩)) (.tmp 100)),oD 102 (.call 26 0 [.tmp 101,vI 1]),oM 98 102,oD 103 (.ext (.tmp 98) 0),oD 104 (.ext (.tmp 98) 1),oD 105 (.ext (.tmp 98) 2),oD 17 (.new zV),oN (.st 4 (.tmp 17) (.tmp 103)),oM 18 104,oM 19 105])] [18,98,99,100,101,102,103,104,105]
abbrev c_65_15:SCode:=.reg [([2428,2429,2430,2431,2432,2433,2434,2435],[oD 107 (.call 54 0 []),oD 108 (.call 53 0 [.tmp 107,.val (.string ⟨#[110]⟩)]),oM 106 108,oD 109 (.ext (.tmp 106) 0),oD 110 (.ext (.tmp 106) 1),oM 20 109,oM 21 110])] [106,107,108,109,110]
abbrev c_65_16:SCode:=.reg [([],[oM 111 5,oM 112 111,oH 113 112 true 16,oP 114 112 113 false,oM 115 114,oH 116 115 true 14,oG 117 115 true (.bin .eql 3 (.tmp 116) (vI 0)),oH 118 115 true 117,oH 119 118 false 13,oH 120 118 false 15,oG 121 118 false (.bin .add 3 (.tmp 119) (.tmp 120)),oG 122 118 false (.bin .gtr 3 (.tmp 121) (vI 60)),oG 123 115 true (.pick (.tmp 118) (.val (.bool true)) (.tmp 122)),oP 124 115 123 false,oM 125 124,oH 126 125 true 19,oG 127 125 true (.bin .eql 28 (.tmp 126) (vI 0)),oP 128 125 127 false,oM 129 128,oG 130 129 true (.fldA 1 (.tmp 17)),oG 131 129 true (.ld false 1 (.tmp 130)),oH 132 129 true 6,oG 133 129 true (.bin .eql 3 (.tmp 131) (.tmp 132)),oP 134 129 133 false,oM 135 134,oH 136 135 true 20,oG 137 135 true (.bin .eql 3 (.tmp 136) (vI 0)),oP 138 135 137 false,oM 139 138,oH 140 139 true 21,oP 141 139 140 false,oM 4 141])] [5,6,13,14,15,16,17,19,20,21,111,112,113,114,115,116,117,118,119,120,121,122,123,124,125,126,127,128,129,130,131,132,133,134,135,136,137,138,139,140,141]
abbrev F_65:SFunc:=⟨142,(.seq c_65_0 (.seq c_65_1 (.seq c_65_2 (.seq c_65_3 (.seq c_65_4 (.seq c_65_5 (.seq c_65_6 (.seq c_65_7 (.seq c_65_8 (.seq (.seq c_65_9 (.cond (.tmp 86) (.seq c_65_10 .ret) .skip)) (.seq c_65_11 (.seq c_65_12 (.seq c_65_13 (.seq c_65_14 (.seq c_65_15 (.seq c_65_16 .ret)))))))))))))))),[.tmp 4],false⟩
theorem tf_65:z6 Go.Proofs.Tryz.prog 12 (hintT [(22,0),(25,0),(28,0),(32,0),(33,0),(36,0),(37,0),(41,0),(94,0),(97,0),(100,0),(102,0),(107,0),(108,0)]) (fpT []) (killT (klN 0 F_65.code.kl)) false=some F_65:=by kernel_rfl
abbrev c_87_0:SCode:=.reg [([2],[oD 2 (.box (.tmp 0)),oD 4 (.mov (vI 0)),oD 5 (.mov (.val (.bool false)))])] [0,4,5]
abbrev c_87_1:SCode:=.reg [([],[oD 6 (.mov (vI 0))])] []
abbrev c_87_2:SCode:=.reg [([],[oM 7 6,oD 8 (.fldA 1 (.tmp 2)),oL 9 false 1 8,oD 10 (.len (.tmp 9)),oD 11 (.bin .lss 3 (.tmp 7) (.tmp 10))])] [7,8,9,10]
abbrev c_87_3:SCode:=.reg [([],[oD 14 (.fldA 1 (.tmp 2)),oL 15 false 1 14,oM 16 6,oD 17 (.idxA 4 (.tmp 15) (.tmp 16)),oD 18 (.fldA 0 (.tmp 17)),oL 19 false 1 18,oM 20 1,oD 21 (.bin .eql 9 (.tmp 19) (.tmp 20))])] [11,14,15,16,17,18,19,20]
abbrev c_87_4:SCode:=.reg [([],[oM 22 6,oM 4 22,oD 5 (.mov (.val (.bool true)))])] [1,2,6,21,22]
abbrev c_87_5:SCode:=.reg [([],[oM 12 6,oD 13 (.bin .add 3 (.tmp 12) (vI 1)),oM 6 13])] [4,5,12,13,21]
abbrev c_87_6:SCode:=(.seq (.seq c_87_2 (.cond (.tmp 11) .skip (.exit 0))) (.seq (.block 1 (.seq c_87_3 (.cond (.tmp 21) (.seq c_87_4 .ret) .skip))) c_87_5))
abbrev c_87_7:SCode:=.reg [([],[oD 4 (.mov (vI 0)),oD 5 (.mov (.val (.bool false)))])] [1,2,6]
abbrev F_87:SFunc:=⟨23,(.seq c_87_0 (.seq (.seq c_87_1 (.block 0 (.loop c_87_6))) (.seq c_87_7 .ret))),[.tmp 4,.tmp 5],false⟩
theorem tf_87:z6 Go.Proofs.Tryz.prog 53 (hintT []) (fpT []) (killT [(0,[0,4,5]),(2,[7,8,9,10]),(4,[11,14,15,16,17,18,19,20]),(5,[1,2,6,21,22]),(3,[4,5,12,13,21]),(6,[1,2,6])]) false=some F_87:=by kernel_rfl
end Go.Sh.Cd6
end

section
namespace Go.Proofs.YtmiokadmddjccaaGreatDoor
open Go Go.RowKit Go.Mor Go.Sh Go.Sh.Cd1 Go.Sh.Cd6
set_option maxRecDepth 100000
set_option maxHeartbeats 4000000
theorem refField_ok(g:Sh.Glob)(c:Cls)(s:List UInt8)(hl:c.fs.length≤4611686018427387904):SCalls Tryz.prog g 53 [clT c,S (str s)] [] (fieldT c.fs s) []:=by
 unfold fieldT;refine z7 hmix tf_87 rfl ?_;simp only[vcA,seval,vV,clV];refine v_loop (σ:={i:Nat // i≤c.fs.length∧∀j x,j<i→c.fs[j]?=some x→(x.n==s)=false}) (fun i=>⟨[(1,S (str s)),(6,I (i.1:Int)),(2,.ptr 2 0)],[(2,[S (str c.n),.pv (.sl 4 (flR c.fs))])],[],[]⟩) (fun i=>c.fs.length-i.1) ⟨0,Nat.zero_le _,fun j x hj=>by omega⟩ ?_ ?_
 ·apply lw_of<;>simp[leL,lk,sv,Nat.beq,I,S,ES.kill,has,drp,nilT]
 rintro⟨i,hi,hno⟩;by_cases hlt:i<c.fs.length
 ·have d1:(i:Int)<(c.fs.length:Int):=by omega
  obtain⟨x,ex⟩:∃x,c.fs[i]?=some x:=⟨_,List.getElem?_eq_getElem hlt⟩
  have w1:IntKind.i64.wrap ((i:Int)+1)=((i+1:Nat):Int):=by rw[wrap64 (by omega) (by omega)];omega
  cases hp:(x.n==s)
  ·simp only[vcA,seval,vV,d1,ex,hp,w1,clV];refine z10 ⟨i+1,by omega,fun j y hj hy=> ?_⟩ (by show c.fs.length-(i+1)<c.fs.length-i;omega) ?_
   ·by_cases hji:j=i
    ·subst hji;rw[ex]at hy;cases hy;exact hp
    ·exact hno j y (by omega) hy
   ·apply lw_of<;>simp[leL,lk,sv,Nat.beq,I,S,ES.kill,has,drp,nilT]
  ·have hf:fieldAt c.fs s=(i:Int):=z98 (fun f:Fld=>f.n==s) c.fs i hno x ex hp;rw[hf,if_neg (by omega)];simp only[vcA,seval,vV,d1,ex,hp,clV];rfl
 ·have d1:¬(i:Int)<(c.fs.length:Int):=by omega
  have hf:fieldAt c.fs s= -1:=z99 (fun f:Fld=>f.n==s) c.fs (fun x hx=>by
   obtain⟨j,hj⟩:=List.getElem?_of_mem hx;exact hno j x (by have:=(List.getElem?_eq_some_iff.1 hj).1;omega) hj)
  rw[hf,if_pos (by omega)];simp only[vcA,seval,vV,d1,clV];rfl
end Go.Proofs.YtmiokadmddjccaaGreatDoor
end

section
namespace Go.Mor
open Go
set_option maxHeartbeats 4000000
def signN(n b0 b1 b2 b3:Nat):Nat:=
 if b0<128 then 1
 else if 194≤b0∧b0≤223 then(if n<2∨b1<128∨191<b1 then 0 else 2)
 else if 224≤b0∧b0≤239 then(if n<3∨b1<(if b0=224 then 160 else 128)∨(if b0=237 then 159 else 191)<b1∨b2<128∨191<b2 then 0 else 3)
 else if 240≤b0∧b0≤244 then(if n<4∨b1<(if b0=240 then 144 else 128)∨(if b0=244 then 143 else 191)<b1∨b2<128∨191<b2∨b3<128∨191<b3 then 0 else 4)
 else 0
def signL(l:List UInt8):Nat:=if l=[] then 0 else signN l.length (l.getD 0 0).toNat (l.getD 1 0).toNat (l.getD 2 0).toNat (l.getD 3 0).toNat
theorem signN_decode(n b0 b1 b2 b3:Nat)(h0:b0<256)(h1:b1<256)(h2:b2<256)(h3:b3<256):
  signN n b0 b1 b2 b3=if(Lib.decodeN n b0 b1 b2 b3).1=65533∧(Lib.decodeN n b0 b1 b2 b3).2=1 then 0 else(Lib.decodeN n b0 b1 b2 b3).2:=by
 unfold signN Lib.decodeN
 repeat' split
 all_goals(simp_all<;>omega)
end Go.Mor
end

section
namespace Go.Proofs.YtmiokadmddjccaaGreatDoor
open Go Go.RowKit Go.Mor Go.Sh Go.Sh.Cd1
set_option maxRecDepth 100000
set_option maxHeartbeats 2000000
theorem pick_ok(g:Sh.Glob)(c n:Int)(hc0: -9223372036854775808≤c)(hc1:c≤9223372036854775807)(hn:n≠0):SCalls Tryz.prog g 88 [I c,I n] [] (I (pickI c n)) []:=by
 refine z7 hmix tf_64 rfl ?_;have hr:=fun(a:Int)=>bin_rem Tryz.prog 3 .i64 a n hn;unfold pickI;by_cases h:c<0
 ·have w1:IntKind.i64.wrap (c+1)=c+1:=wrap64 (by omega) (by omega);have w2:IntKind.i64.wrap (-(c+1))= -(c+1):=wrap64 (by omega) (by omega);have w3:IntKind.i64.wrap (0-(c+1))= -(c+1):=by rw[wrap64 (by omega) (by omega)];omega
  simp only[vcA,seval,vV,h,w1,w2,w3,hn]
 ·simp only[vcA,seval,vV,h,hn]
end Go.Proofs.YtmiokadmddjccaaGreatDoor
end

section
namespace Go.Mor
open Go
open Go.Proofs.YtmiokadmddjccaaGreatDoor (cmpV z97 cmpV_zero cmpV_rng cmpV_eq cmpV_anti ordI thenI ordS cmpL)
set_option maxHeartbeats 2000000
set_option maxRecDepth 100000
section
variable{fs:List Fld}{vals:List V}{d:Nat}{x:Int}{t:List UInt8}{a b c:V}{s:List UInt8}{n:Int}
theorem wo_n:worthV sFs (sVals x t) (d+1) fn'=.mk 1 x [] []:=by kernel_rfl
theorem wo_t:worthV sFs (sVals x t) (d+1) ft'=.mk 2 0 t []:=by kernel_rfl
theorem wo_T:worthV fs vals (d+1) (eT s)=textE s:=by kernel_rfl
theorem wo_cat:worthV fs vals (d+1) (eO [38] a b)=textE ((worthV fs vals d a).s++(worthV fs vals d b).s):=by kernel_rfl
theorem wo_text:worthV fs vals (d+1) (eC nText [a])=textE (Lib.itoa (worthV fs vals d a).n):=by kernel_rfl
theorem wo_num:worthV fs vals (d+1) (eC nNum [a])=numE (toldV (worthV fs vals d a).s):=by kernel_rfl
theorem mk_n{k:Int}{l:List V}:(V.mk k n s l).n=n:=rfl
theorem mk_s{k:Int}{l:List V}:(V.mk k n s l).s=s:=rfl
theorem text_s:(textE s).s=cutT s:=rfl
end
section
variable{x y:Int}{t u:List UInt8}
end
section
variable{gs:List (List UInt8)}{x:Int}
end
theorem flat_one:∀(s:List UInt8),(s.map fun b=>[b]).flatten=s
 |[]=>rfl
 |b::s=>by rw[List.map_cons,List.flatten_cons,flat_one s];rfl
theorem z50{s:List UInt8}(h:Ascii s):cutT s=s.take 60:=by
 obtain⟨h1,h2⟩:=txt_ascii h;obtain⟨k,q1,q2,q3,q4⟩:=cut_txt h1;rw[h2]at q2;have e1:∀n,((s.map fun b=>[b]).take n).flatten=s.take n:=fun n=>by rw[←List.map_take,flat_one]
 rw[e1]at q2 q3;rw[e1]at q4;rw[List.length_map]at q1 q4;rw[List.length_take]at q3 q4;rw[q2];rcases q4 with q4|q4
 ·rw[q4,List.take_of_length_le (by omega),List.take_of_length_le (by omega)]
 ·congr 1;omega
theorem pu_digits:∀(m:Nat),m≤1000000000000000→∀(r:List UInt8),Lib.parseUint10 0 (Lib.decDigits m++r)=Lib.parseUint10 m r:=by
 intro m
 induction m using Nat.strongRecOn with
 |_ m ih=>
  intro hm r;by_cases h:m<10
  ·rw[Lib.decDigits_one h,List.singleton_append,Lib.parseUint10,digC m h,if_pos (by omega),if_neg (by omega),if_neg (by omega)];congr 1;omega
  ·rw[Lib.decDigits,dif_neg h,List.append_assoc,ih (m / 10) (by omega) (by omega),List.singleton_append,Lib.parseUint10,digC (m%10) (by omega),if_pos (by omega),if_neg (by omega),if_neg (by omega)];congr 1;omega
theorem dig_all:∀(m:Nat),∀b∈Lib.decDigits m,48≤b.toNat∧b.toNat≤57:=by
 intro m
 induction m using Nat.strongRecOn with
 |_ m ih=>
  intro b hb;by_cases h:m<10
  ·rw[Lib.decDigits_one h,List.mem_singleton]at hb;subst hb;rw[digC m h];omega
  ·rw[Lib.decDigits,dif_neg h,List.mem_append,List.mem_singleton]at hb;rcases hb with hb|hb
   ·exact ih _ (by omega) b hb
   ·subst hb;rw[digC (m%10) (by omega)];omega
theorem itoa_all(n:Int):∀b∈Lib.itoa n,b.toNat≤57:=by
 intro b hb;unfold Lib.itoa at hb;split at hb
 ·rcases List.mem_cons.1 hb with rfl|hb
  ·decide
  ·exact(dig_all _ b hb).2
 ·exact(dig_all _ b hb).2
theorem pm_digits{m:Nat}(hm:m≤1000000000000000):Lib.parseMag (Lib.decDigits m)=.ok m:=by
 unfold Lib.parseMag;obtain⟨c,r,h,_⟩:=z137 m;rw[if_neg (by rw[h];simp)];have:=pu_digits m hm [];rw[List.append_nil]at this;rw[this];rfl
theorem atoi_itoa{n:Int}(h:Rg n):Lib.atoiAll (Lib.itoa n)=.ok n:=by
 obtain⟨h0,h1⟩:=h;unfold Lib.itoa;split
 ·rename_i hn;rw[Lib.atoiAll_minus,pm_digits (by omega)];unfold Lib.signed;simp only;rw[if_neg (by omega)];congr 1;omega
 ·rename_i hn;obtain⟨c,r,hc,_⟩:=z137 n.toNat;have hd:=dig_all n.toNat c (by rw[hc];exact List.mem_cons_self ..);have hp:=pm_digits (m:=n.toNat) (by omega);rw[hc]at hp ⊢;rw[Lib.atoiAll_plain c r (by omega) (by omega),hp];unfold Lib.signless;simp only;rw[if_neg (by omega)];congr 1;omega
theorem told_itoa{n:Int}(h:Rg n):toldV (Lib.itoa n)=n:=by
 unfold toldV;rw[atoi_itoa h];simp only;rw[if_neg (by have:=h.1;have:=h.2;rintro(h|h|h)<;>first|omega|exact h rfl)]
theorem told_not{n:Int}:toldV (Lib.itoa n++[120])=0:=by
 unfold toldV;split
 ·rename_i v hv;rw[if_pos];right;right;intro e;have:=itoa_all v 120 (by rw[e];simp);revert this;decide
 ·rfl
theorem z100{n:Int}(h:Rg n):(Lib.itoa n).length≤17:=by
 have key:∀m:Nat,m≤1000000000000000→(Lib.decDigits m).length≤16:=fun m hm=>by
  rw[Lib.decDigits_length];by_cases h0:Lib.nDigits m≤16
  ·exact h0
  ·exfalso;have:10 ^ 16≤m:=by
    have h1:∀(k u:Nat),k+1≤Lib.nDigits u→10 ^ k≤u∨k=0:=by
     intro k
     induction k with
     |zero=>intro u _;exact .inr rfl
     |succ k ih=>
      intro u hu;left;by_cases h10:u<10
      ·rw[Lib.nDigits_small h10]at hu;omega
      ·rw[Lib.nDigits_big h10]at hu;rcases ih (u / 10) (by omega)with h2|h2
       ·rw[Nat.pow_succ];omega
       ·subst h2;omega
    rcases h1 16 m (by omega)with h2|h2
    ·exact h2
    ·omega
   omega
 unfold Lib.itoa;obtain⟨h0,h1⟩:=h;split
 ·rw[List.length_cons];have:=key n.natAbs (by omega);omega
 ·have:=key n.toNat (by omega);omega
theorem itoa_asc(n:Int):Ascii (Lib.itoa n):=itoa_ascii n
theorem cut_back{x:Int}{t:List UInt8}(hx:Rg x):worthV sFs (sVals x t) 8 (eC nNum [eC nText [fn']])=.mk 1 x [] []:=by
 simp only[wo_num,wo_text,wo_n,mk_n,text_s];rw[z50 (itoa_asc x),List.take_of_length_le (by have:=z100 hx;omega),told_itoa hx,numE_id hx.1 hx.2]
theorem cut_none{x:Int}{t:List UInt8}(hx:Rg x):worthV sFs (sVals x t) 8 (eC nNum [eO [38] (eC nText [fn']) (eT [120])])=.mk 1 0 [] []:=by
 have h1:Ascii [120]:=by intro b hb;rw[List.mem_singleton]at hb;subst hb;decide
 simp only[wo_num,wo_cat,wo_text,wo_T,wo_n,mk_n,text_s];have hl:=z100 hx;rw[z50 (itoa_asc x),z50 h1,List.take_of_length_le (by omega),List.take_of_length_le (by decide),z50 ((itoa_asc x).app h1),List.take_of_length_le (by simp;omega),told_not];rfl
theorem cut_all{gs:List (List UInt8)}(h:Txt gs):∃k,cutT gs.flatten=(gs.take k).flatten∧k≤gs.length∧(gs.take k).flatten.length≤60∧(k=gs.length∨60<(gs.take (k+1)).flatten.length):=by
 obtain⟨k,h1,h2,h3,h4⟩:=cut_txt h;exact⟨k,h2,h1,h3,h4⟩
theorem cut_long{x:Int}{gs:List (List UInt8)}(h:Txt gs)(hl:gs.flatten.length≤20):worthV sFs (sVals x gs.flatten) 8 (eO [38] ft' (eO [38] ft' (eO [38] ft' ft')))=.mk 2 0 (cutT (gs++(gs++(gs++gs))).flatten) []:=by
 simp only[wo_cat,wo_t,mk_s,text_s];unfold textE;have e2:cutT (gs.flatten++gs.flatten)=(gs++gs).flatten:=by
  rw[←List.flatten_append,cut_id (h.app h) (by rw[List.flatten_append,List.length_append];omega)]
 have e3:cutT (gs.flatten++(gs++gs).flatten)=(gs++(gs++gs)).flatten:=by
  rw[←List.flatten_append,cut_id (h.app (h.app h)) (by simp only[List.flatten_append,List.length_append];omega)]
 rw[e2,e3,←List.flatten_append]
end Go.Mor
end

section
namespace Go.Proofs.YtmiokadmddjccaaGreatDoor
open Go Go.RowKit Go.Mor Go.Sh Go.Sh.Cd1
set_option maxRecDepth 100000
set_option maxHeartbeats 4000000
theorem u8_lt(b:UInt8):b.toNat<256:=b.toNat_lt
theorem wr3:IntKind.i64.wrap 3=3:=rfl
theorem wr4:IntKind.i64.wrap 4=4:=rfl
theorem wr5:IntKind.i64.wrap 5=5:=rfl
theorem getD_some{l:List UInt8}{i:Nat}{b:UInt8}(h:l[i]?=some b):l.getD i 0=b:=by rw[List.getD_eq_getElem?_getD,h];rfl
theorem signL_eq{l:List UInt8}(h:0<l.length):signL l=signN l.length (l.getD 0 0).toNat (l.getD 1 0).toNat (l.getD 2 0).toNat (l.getD 3 0).toNat:=by
 unfold signL;rw[if_neg (by rintro rfl;simp at h)]
theorem at_{l:List UInt8}{i:Nat}(h:i<l.length):∃b,l[i]?=some b:=⟨_,List.getElem?_eq_getElem h⟩
theorem cvi8(n:Nat)(h:n<256):IntKind.i64.wrap (n:Int)=(n:Int):=wrap64 (by omega) (by omega)
theorem v_unr{P:Program}{g:Sh.Glob}{a:SCode}{Q:SExit→ES→Prop}{k:Nat}{s:ES}:unrollW P g a Q (k+1) s=swp P g a (thenW (unrollW P g a Q k) Q) s:=rfl
theorem sg{a b:Int}(h:a=b):some (TV.pv (PV.v (Value.int IntKind.i64 a)))=some (TV.pv (PV.v (Value.int IntKind.i64 b))):=by rw[h]
theorem sign_a(g:Sh.Glob)(l:List UInt8)(b0:UInt8)(hl:0<l.length)(e0:l[0]?=some b0)(hc:b0.toNat<128):SCalls Tryz.prog g 51 [S (str l)] [] (I (signN l.length b0.toNat (l.getD 1 0).toNat (l.getD 2 0).toNat (l.getD 3 0).toNat:Nat)) []:=by
 have hb:=u8_lt b0;have c0:=cvi8 b0.toNat hb;have hl0:¬(l.length:Int)=0:=by omega
 have t0:(b0.toNat:Int)<128:=by omega
 have t1:¬194≤(b0.toNat:Int):=by omega
 have t2:(b0.toNat:Int)≤223:=by omega
 have t3:¬224≤(b0.toNat:Int):=by omega
 have t4:(b0.toNat:Int)≤239:=by omega
 have t5:¬240≤(b0.toNat:Int):=by omega
 have t6:(b0.toNat:Int)≤244:=by omega
 have t7:¬(b0.toNat:Int)=224:=by omega
 have t8:¬(b0.toNat:Int)=237:=by omega
 have t9:¬(b0.toNat:Int)=240:=by omega
 have t10:¬(b0.toNat:Int)=244:=by omega
 refine z7 hmix tf_86 rfl ?_;simp only[vcA,seval,I,S,e0,c0,hl0,t0,t1,t2,t3,t4,t5,t6,t7,t8,t9,t10];exact sg (by unfold signN;(repeat' split)<;>omega)
theorem sign_b(g:Sh.Glob)(l:List UInt8)(b0:UInt8)(hl:0<l.length)(e0:l[0]?=some b0)(hc:128≤b0.toNat∧b0.toNat≤193):SCalls Tryz.prog g 51 [S (str l)] [] (I (signN l.length b0.toNat (l.getD 1 0).toNat (l.getD 2 0).toNat (l.getD 3 0).toNat:Nat)) []:=by
 have hb:=u8_lt b0;have c0:=cvi8 b0.toNat hb;have hl0:¬(l.length:Int)=0:=by omega
 have t0:¬(b0.toNat:Int)<128:=by omega
 have t1:¬194≤(b0.toNat:Int):=by omega
 have t2:(b0.toNat:Int)≤223:=by omega
 have t3:¬224≤(b0.toNat:Int):=by omega
 have t4:(b0.toNat:Int)≤239:=by omega
 have t5:¬240≤(b0.toNat:Int):=by omega
 have t6:(b0.toNat:Int)≤244:=by omega
 have t7:¬(b0.toNat:Int)=224:=by omega
 have t8:¬(b0.toNat:Int)=237:=by omega
 have t9:¬(b0.toNat:Int)=240:=by omega
 have t10:¬(b0.toNat:Int)=244:=by omega
 refine z7 hmix tf_86 rfl ?_;simp only[vcA,seval,I,S,e0,c0,hl0,t0,t1,t2,t3,t4,t5,t6,t7,t8,t9,t10];exact sg (by unfold signN;(repeat' split)<;>omega)
theorem sign_c(g:Sh.Glob)(l:List UInt8)(b0:UInt8)(hl:0<l.length)(e0:l[0]?=some b0)(hc:194≤b0.toNat∧b0.toNat≤223):SCalls Tryz.prog g 51 [S (str l)] [] (I (signN l.length b0.toNat (l.getD 1 0).toNat (l.getD 2 0).toNat (l.getD 3 0).toNat:Nat)) []:=by
 have hb:=u8_lt b0;have c0:=cvi8 b0.toNat hb;have hl0:¬(l.length:Int)=0:=by omega
 have t0:¬(b0.toNat:Int)<128:=by omega
 have t1:194≤(b0.toNat:Int):=by omega
 have t2:(b0.toNat:Int)≤223:=by omega
 have t3:¬224≤(b0.toNat:Int):=by omega
 have t4:(b0.toNat:Int)≤239:=by omega
 have t5:¬240≤(b0.toNat:Int):=by omega
 have t6:(b0.toNat:Int)≤244:=by omega
 have t7:¬(b0.toNat:Int)=224:=by omega
 have t8:¬(b0.toNat:Int)=237:=by omega
 have t9:¬(b0.toNat:Int)=240:=by omega
 have t10:¬(b0.toNat:Int)=244:=by omega
 refine z7 hmix tf_86 rfl ?_;by_cases hn:(l.length:Int)<2
 ·simp only[vcA,seval,I,S,e0,c0,hl0,hn,t0,t1,t2,t3,t4,t5,t6,t7,t8,t9,t10];exact sg (by unfold signN;(repeat' split)<;>omega)
 obtain⟨b1,e1⟩:=at_ (l:=l) (i:=1) (by omega);have hb1:=u8_lt b1;have g1:=getD_some e1;have c1:=cvi8 b1.toNat hb1;rw[g1];simp only[vcA,seval,I,S,e0,c0,e1,c1,hl0,hn,t0,t1,t2,t3,t4,t5,t6,t7,t8,t9,t10];refine⟨fun h1=>sg (by unfold signN;(repeat' split)<;>omega),fun h1=>⟨fun h2=>sg (by unfold signN;(repeat' split)<;>omega),fun h2=> ?_⟩⟩;refine z107 1 ?_;simp only[vcA,seval,I,S,v_unr,e1,wr3,wr4,wr5];exact sg (by unfold signN;(repeat' split)<;>omega)
theorem sign_d(g:Sh.Glob)(l:List UInt8)(b0:UInt8)(hl:0<l.length)(e0:l[0]?=some b0)(hc:b0.toNat=224):SCalls Tryz.prog g 51 [S (str l)] [] (I (signN l.length b0.toNat (l.getD 1 0).toNat (l.getD 2 0).toNat (l.getD 3 0).toNat:Nat)) []:=by
 have hb:=u8_lt b0;have c0:=cvi8 b0.toNat hb;have hl0:¬(l.length:Int)=0:=by omega

 refine z7 hmix tf_86 rfl ?_;have q0:(b0.toNat:Int)=224:=by omega
 have q1:IntKind.i64.wrap 224=224:=rfl;by_cases hn:(l.length:Int)<3
 ·simp only[vcA,seval,I,S,e0,c0,hl0,hn,q0,q1];exact sg (by unfold signN;(repeat' split)<;>omega)
 obtain⟨b1,e1⟩:=at_ (l:=l) (i:=1) (by omega);have hb1:=u8_lt b1;have g1:=getD_some e1;obtain⟨b2,e2⟩:=at_ (l:=l) (i:=2) (by omega);have hb2:=u8_lt b2;have g2:=getD_some e2;have c1:=cvi8 b1.toNat hb1;rw[g1,g2];simp only[vcA,seval,I,S,e0,c0,e1,c1,hl0,hn,q0,q1];refine⟨fun h1=>sg (by unfold signN;(repeat' split)<;>omega),fun h1=>⟨fun h2=>sg (by unfold signN;(repeat' split)<;>omega),fun h2=> ?_⟩⟩;refine z107 2 ?_;simp only[vcA,seval,I,S,v_unr,e1,e2,wr3,wr4,wr5]
 repeat' (first|(apply And.intro)|(intro _))
 all_goals exact sg (by unfold signN;(repeat' split)<;>omega)
theorem sign_e(g:Sh.Glob)(l:List UInt8)(b0:UInt8)(hl:0<l.length)(e0:l[0]?=some b0)(hc:225≤b0.toNat∧b0.toNat≤239∧b0.toNat≠237):SCalls Tryz.prog g 51 [S (str l)] [] (I (signN l.length b0.toNat (l.getD 1 0).toNat (l.getD 2 0).toNat (l.getD 3 0).toNat:Nat)) []:=by
 have hb:=u8_lt b0;have c0:=cvi8 b0.toNat hb;have hl0:¬(l.length:Int)=0:=by omega
 have t0:¬(b0.toNat:Int)<128:=by omega
 have t1:194≤(b0.toNat:Int):=by omega
 have t2:¬(b0.toNat:Int)≤223:=by omega
 have t3:224≤(b0.toNat:Int):=by omega
 have t4:(b0.toNat:Int)≤239:=by omega
 have t5:¬240≤(b0.toNat:Int):=by omega
 have t6:(b0.toNat:Int)≤244:=by omega
 have t7:¬(b0.toNat:Int)=224:=by omega
 have t8:¬(b0.toNat:Int)=237:=by omega
 have t9:¬(b0.toNat:Int)=240:=by omega
 have t10:¬(b0.toNat:Int)=244:=by omega
 refine z7 hmix tf_86 rfl ?_;by_cases hn:(l.length:Int)<3
 ·simp only[vcA,seval,I,S,e0,c0,hl0,hn,t0,t1,t2,t3,t4,t5,t6,t7,t8,t9,t10];exact sg (by unfold signN;(repeat' split)<;>omega)
 obtain⟨b1,e1⟩:=at_ (l:=l) (i:=1) (by omega);have hb1:=u8_lt b1;have g1:=getD_some e1;obtain⟨b2,e2⟩:=at_ (l:=l) (i:=2) (by omega);have hb2:=u8_lt b2;have g2:=getD_some e2;have c1:=cvi8 b1.toNat hb1;rw[g1,g2];simp only[vcA,seval,I,S,e0,c0,e1,c1,hl0,hn,t0,t1,t2,t3,t4,t5,t6,t7,t8,t9,t10];refine⟨fun h1=>sg (by unfold signN;(repeat' split)<;>omega),fun h1=>⟨fun h2=>sg (by unfold signN;(repeat' split)<;>omega),fun h2=> ?_⟩⟩;refine z107 2 ?_;simp only[vcA,seval,I,S,v_unr,e1,e2,wr3,wr4,wr5]
 repeat' (first|(apply And.intro)|(intro _))
 all_goals exact sg (by unfold signN;(repeat' split)<;>omega)
theorem sign_f(g:Sh.Glob)(l:List UInt8)(b0:UInt8)(hl:0<l.length)(e0:l[0]?=some b0)(hc:b0.toNat=237):SCalls Tryz.prog g 51 [S (str l)] [] (I (signN l.length b0.toNat (l.getD 1 0).toNat (l.getD 2 0).toNat (l.getD 3 0).toNat:Nat)) []:=by
 have hb:=u8_lt b0;have c0:=cvi8 b0.toNat hb;have hl0:¬(l.length:Int)=0:=by omega

 refine z7 hmix tf_86 rfl ?_;have q0:(b0.toNat:Int)=237:=by omega
 have q1:IntKind.i64.wrap 237=237:=rfl;by_cases hn:(l.length:Int)<3
 ·simp only[vcA,seval,I,S,e0,c0,hl0,hn,q0,q1];exact sg (by unfold signN;(repeat' split)<;>omega)
 obtain⟨b1,e1⟩:=at_ (l:=l) (i:=1) (by omega);have hb1:=u8_lt b1;have g1:=getD_some e1;obtain⟨b2,e2⟩:=at_ (l:=l) (i:=2) (by omega);have hb2:=u8_lt b2;have g2:=getD_some e2;have c1:=cvi8 b1.toNat hb1;rw[g1,g2];simp only[vcA,seval,I,S,e0,c0,e1,c1,hl0,hn,q0,q1];refine⟨fun h1=>sg (by unfold signN;(repeat' split)<;>omega),fun h1=>⟨fun h2=>sg (by unfold signN;(repeat' split)<;>omega),fun h2=> ?_⟩⟩;refine z107 2 ?_;simp only[vcA,seval,I,S,v_unr,e1,e2,wr3,wr4,wr5]
 repeat' (first|(apply And.intro)|(intro _))
 all_goals exact sg (by unfold signN;(repeat' split)<;>omega)
theorem sign_g(g:Sh.Glob)(l:List UInt8)(b0:UInt8)(hl:0<l.length)(e0:l[0]?=some b0)(hc:b0.toNat=240):SCalls Tryz.prog g 51 [S (str l)] [] (I (signN l.length b0.toNat (l.getD 1 0).toNat (l.getD 2 0).toNat (l.getD 3 0).toNat:Nat)) []:=by
 have hb:=u8_lt b0;have c0:=cvi8 b0.toNat hb;have hl0:¬(l.length:Int)=0:=by omega

 refine z7 hmix tf_86 rfl ?_;have q0:(b0.toNat:Int)=240:=by omega
 have q1:IntKind.i64.wrap 240=240:=rfl;by_cases hn:(l.length:Int)<4
 ·simp only[vcA,seval,I,S,e0,c0,hl0,hn,q0,q1];exact sg (by unfold signN;(repeat' split)<;>omega)
 obtain⟨b1,e1⟩:=at_ (l:=l) (i:=1) (by omega);have hb1:=u8_lt b1;have g1:=getD_some e1;obtain⟨b2,e2⟩:=at_ (l:=l) (i:=2) (by omega);have hb2:=u8_lt b2;have g2:=getD_some e2;obtain⟨b3,e3⟩:=at_ (l:=l) (i:=3) (by omega);have hb3:=u8_lt b3;have g3:=getD_some e3;have c1:=cvi8 b1.toNat hb1;rw[g1,g2,g3];simp only[vcA,seval,I,S,e0,c0,e1,c1,hl0,hn,q0,q1];refine⟨fun h1=>sg (by unfold signN;(repeat' split)<;>omega),fun h1=>⟨fun h2=>sg (by unfold signN;(repeat' split)<;>omega),fun h2=> ?_⟩⟩;refine z107 3 ?_;simp only[vcA,seval,I,S,v_unr,e1,e2,e3,wr3,wr4,wr5]
 repeat' (first|(apply And.intro)|(intro _))
 all_goals exact sg (by unfold signN;(repeat' split)<;>omega)
theorem sign_h(g:Sh.Glob)(l:List UInt8)(b0:UInt8)(hl:0<l.length)(e0:l[0]?=some b0)(hc:241≤b0.toNat∧b0.toNat≤243):SCalls Tryz.prog g 51 [S (str l)] [] (I (signN l.length b0.toNat (l.getD 1 0).toNat (l.getD 2 0).toNat (l.getD 3 0).toNat:Nat)) []:=by
 have hb:=u8_lt b0;have c0:=cvi8 b0.toNat hb;have hl0:¬(l.length:Int)=0:=by omega
 have t0:¬(b0.toNat:Int)<128:=by omega
 have t1:194≤(b0.toNat:Int):=by omega
 have t2:¬(b0.toNat:Int)≤223:=by omega
 have t3:224≤(b0.toNat:Int):=by omega
 have t4:¬(b0.toNat:Int)≤239:=by omega
 have t5:240≤(b0.toNat:Int):=by omega
 have t6:(b0.toNat:Int)≤244:=by omega
 have t7:¬(b0.toNat:Int)=224:=by omega
 have t8:¬(b0.toNat:Int)=237:=by omega
 have t9:¬(b0.toNat:Int)=240:=by omega
 have t10:¬(b0.toNat:Int)=244:=by omega
 refine z7 hmix tf_86 rfl ?_;by_cases hn:(l.length:Int)<4
 ·simp only[vcA,seval,I,S,e0,c0,hl0,hn,t0,t1,t2,t3,t4,t5,t6,t7,t8,t9,t10];exact sg (by unfold signN;(repeat' split)<;>omega)
 obtain⟨b1,e1⟩:=at_ (l:=l) (i:=1) (by omega);have hb1:=u8_lt b1;have g1:=getD_some e1;obtain⟨b2,e2⟩:=at_ (l:=l) (i:=2) (by omega);have hb2:=u8_lt b2;have g2:=getD_some e2;obtain⟨b3,e3⟩:=at_ (l:=l) (i:=3) (by omega);have hb3:=u8_lt b3;have g3:=getD_some e3;have c1:=cvi8 b1.toNat hb1;rw[g1,g2,g3];simp only[vcA,seval,I,S,e0,c0,e1,c1,hl0,hn,t0,t1,t2,t3,t4,t5,t6,t7,t8,t9,t10];refine⟨fun h1=>sg (by unfold signN;(repeat' split)<;>omega),fun h1=>⟨fun h2=>sg (by unfold signN;(repeat' split)<;>omega),fun h2=> ?_⟩⟩;refine z107 3 ?_;simp only[vcA,seval,I,S,v_unr,e1,e2,e3,wr3,wr4,wr5]
 repeat' (first|(apply And.intro)|(intro _))
 all_goals exact sg (by unfold signN;(repeat' split)<;>omega)
theorem sign_i(g:Sh.Glob)(l:List UInt8)(b0:UInt8)(hl:0<l.length)(e0:l[0]?=some b0)(hc:b0.toNat=244):SCalls Tryz.prog g 51 [S (str l)] [] (I (signN l.length b0.toNat (l.getD 1 0).toNat (l.getD 2 0).toNat (l.getD 3 0).toNat:Nat)) []:=by
 have hb:=u8_lt b0;have c0:=cvi8 b0.toNat hb;have hl0:¬(l.length:Int)=0:=by omega

 refine z7 hmix tf_86 rfl ?_;have q0:(b0.toNat:Int)=244:=by omega
 have q1:IntKind.i64.wrap 244=244:=rfl;by_cases hn:(l.length:Int)<4
 ·simp only[vcA,seval,I,S,e0,c0,hl0,hn,q0,q1];exact sg (by unfold signN;(repeat' split)<;>omega)
 obtain⟨b1,e1⟩:=at_ (l:=l) (i:=1) (by omega);have hb1:=u8_lt b1;have g1:=getD_some e1;obtain⟨b2,e2⟩:=at_ (l:=l) (i:=2) (by omega);have hb2:=u8_lt b2;have g2:=getD_some e2;obtain⟨b3,e3⟩:=at_ (l:=l) (i:=3) (by omega);have hb3:=u8_lt b3;have g3:=getD_some e3;have c1:=cvi8 b1.toNat hb1;rw[g1,g2,g3];simp only[vcA,seval,I,S,e0,c0,e1,c1,hl0,hn,q0,q1];refine⟨fun h1=>sg (by unfold signN;(repeat' split)<;>omega),fun h1=>⟨fun h2=>sg (by unfold signN;(repeat' split)<;>omega),fun h2=> ?_⟩⟩;refine z107 3 ?_;simp only[vcA,seval,I,S,v_unr,e1,e2,e3,wr3,wr4,wr5]
 repeat' (first|(apply And.intro)|(intro _))
 all_goals exact sg (by unfold signN;(repeat' split)<;>omega)
theorem sign_j(g:Sh.Glob)(l:List UInt8)(b0:UInt8)(hl:0<l.length)(e0:l[0]?=some b0)(hc:245≤b0.toNat):SCalls Tryz.prog g 51 [S (str l)] [] (I (signN l.length b0.toNat (l.getD 1 0).toNat (l.getD 2 0).toNat (l.getD 3 0).toNat:Nat)) []:=by
 have hb:=u8_lt b0;have c0:=cvi8 b0.toNat hb;have hl0:¬(l.length:Int)=0:=by omega
 have t0:¬(b0.toNat:Int)<128:=by omega
 have t1:194≤(b0.toNat:Int):=by omega
 have t2:¬(b0.toNat:Int)≤223:=by omega
 have t3:224≤(b0.toNat:Int):=by omega
 have t4:¬(b0.toNat:Int)≤239:=by omega
 have t5:240≤(b0.toNat:Int):=by omega
 have t6:¬(b0.toNat:Int)≤244:=by omega
 have t7:¬(b0.toNat:Int)=224:=by omega
 have t8:¬(b0.toNat:Int)=237:=by omega
 have t9:¬(b0.toNat:Int)=240:=by omega
 have t10:¬(b0.toNat:Int)=244:=by omega
 refine z7 hmix tf_86 rfl ?_;simp only[vcA,seval,I,S,e0,c0,hl0,t0,t1,t2,t3,t4,t5,t6,t7,t8,t9,t10];exact sg (by unfold signN;(repeat' split)<;>omega)
theorem sign_ok(g:Sh.Glob)(l:List UInt8):SCalls Tryz.prog g 51 [S (str l)] [] (I (signL l)) []:=by
 by_cases h0:l.length=0
 ·have:l=[]:=List.eq_nil_of_length_eq_zero h0;subst this;refine z7 hmix tf_86 rfl ?_;simp only[vcA,seval,I,S,Int.natCast_zero,List.length_nil];rfl
 have hl:0<l.length:=by omega
 obtain⟨b0,e0⟩:=at_ hl;rw[signL_eq hl,getD_some e0];have hb:=u8_lt b0;by_cases c0:b0.toNat<128
 ·exact sign_a g l b0 hl e0 c0
 by_cases c1:128≤b0.toNat∧b0.toNat≤193
 ·exact sign_b g l b0 hl e0 c1
 by_cases c2:194≤b0.toNat∧b0.toNat≤223
 ·exact sign_c g l b0 hl e0 c2
 by_cases c3:b0.toNat=224
 ·exact sign_d g l b0 hl e0 c3
 by_cases c4:225≤b0.toNat∧b0.toNat≤239∧b0.toNat≠237
 ·exact sign_e g l b0 hl e0 c4
 by_cases c5:b0.toNat=237
 ·exact sign_f g l b0 hl e0 c5
 by_cases c6:b0.toNat=240
 ·exact sign_g g l b0 hl e0 c6
 by_cases c7:241≤b0.toNat∧b0.toNat≤243
 ·exact sign_h g l b0 hl e0 c7
 by_cases c8:b0.toNat=244
 ·exact sign_i g l b0 hl e0 c8
 exact sign_j g l b0 hl e0 (by omega)
end Go.Proofs.YtmiokadmddjccaaGreatDoor
end

section
namespace Go.Proofs.YtmiokadmddjccaaGreatDoor
open Go Go.RowKit Go.Mor Go.Sh Go.Sh.Cd1
set_option maxRecDepth 100000
set_option maxHeartbeats 8000000
def isTextN:Nat→List UInt8→Bool
 |0,_=>true
 |n+1,l=>match l with
  |[]=>true
  |b::r=> !(signL (b::r)==0)&& !decide (b.toNat<32)&& !(b.toNat==127)&&isTextN n ((b::r).drop (signL (b::r)))
def isText(l:List UInt8):Bool:=isTextN l.length l
theorem isTextN_more:∀(n:Nat) (l:List UInt8),l.length≤n→isTextN n l=isText l:=by
 intro n
 induction n using Nat.strongRecOn with
 |_ n ih=>
  intro l hl;unfold isText;cases l with
  |nil=>cases n<;>rfl
  |cons b r=>
   obtain⟨m,rfl⟩:∃m,n=m+1:=⟨n-1,by simp at hl;omega⟩
   simp only[isTextN,List.length_cons];by_cases h0:signL (b::r)=0
   ·simp[h0]
   ·have h1:((b::r).drop (signL (b::r))).length≤r.length:=by simp;omega
    simp at hl;rw[ih m (by omega) _ (by omega)];by_cases he:r.length=m
    ·subst he;rw[ih r.length (by omega) _ h1]
    ·rw[ih r.length (by omega) _ h1]
theorem z142(b:UInt8)(r:List UInt8):isText (b::r)=(!(signL (b::r)==0)&& !decide (b.toNat<32)&& !(b.toNat==127)&&isText ((b::r).drop (signL (b::r)))):=by
 conv=>lhs;unfold isText
 simp only[isTextN,List.length_cons];by_cases h0:signL (b::r)=0
 ·simp[h0]
 ·rw[isTextN_more r.length _ (by simp;omega)]
theorem signL_le(l:List UInt8):signL l≤l.length∧signL l≤4:=by
 unfold signL;cases l with
 |nil=>simp
 |cons b r=>
  rw[if_neg (by simp)];unfold signN;simp only[List.length_cons]
  repeat' split
  all_goals omega
theorem str_drop(l:List UInt8)(a:Nat):(str l).extract a l.length=str (l.drop a):=by
 rw[str_extract,List.take_of_length_le (by simp)]
theorem isText_ok(g:Sh.Glob)(l:List UInt8)(hl:l.length≤9223372036854775807):SCalls Tryz.prog g 87 [S (str l)] [] (.pv (.v (.bool (isText l)))) []:=by
 refine z7 hmix tf_82 rfl ?_;obtain⟨r,hr⟩:∃r,isText l=r:=⟨_,rfl⟩
 rw[hr];simp only[vcA,seval,vV];refine v_loop (σ:={ i:Nat // i≤l.length∧r=isText (l.drop i) }) (fun i=>⟨[(0,S (str l)),(3,I (i.1:Int))],[],[],[]⟩) (fun i=>l.length-i.1) ⟨0,Nat.zero_le _,hr.symm⟩ ?_ ?_
 ·apply lw_of<;>simp[leL,lk,sv,Nat.beq,I,S,ES.kill,has,drp,nilT]
 rintro⟨i,hi,hT⟩;by_cases hlt:i<l.length
 ·have d1:(i:Int)<(l.length:Int):=by omega
  have hd:=str_drop l i;obtain⟨b,eb⟩:=at_ hlt;have hcons:l.drop i=b::l.drop (i+1):=by
   rw[List.drop_eq_getElem_cons hlt];congr 1;rw[List.getElem?_eq_getElem hlt]at eb;exact Option.some.inj eb
  have hs:=signL_le (l.drop i);have hb:=z142 b (l.drop (i+1));rw[←hcons,←hT]at hb;simp only[List.length_drop]at hs;have HS:=sign_ok g (l.drop i);simp only[vcA,seval,vV,d1,hd];refine⟨by omega,?_⟩;(with_reducible apply v_call);simp only[vcA,seval,vV];rfl;rfl;exact HS;(first|rfl|(simp only[vcA,seval];omega));simp only[vcA,seval,vV];rfl;generalize signL (l.drop i)=n at hs hb ⊢;by_cases h0:n=0
  ·have d2:(n:Int)=0:=by omega
   have hf:r=false:=by rw[hb];simp[h0]
   subst hf;simp only[vcA,seval,vV,d2]
  have d2:¬(n:Int)=0:=by omega
  by_cases h1:b.toNat<32
  ·have d3:(b.toNat:Int)<32:=by omega
   have hf:r=false:=by rw[hb];simp[h1]
   subst hf;simp only[vcA,seval,vV,d2,eb,d3]
  have d3:¬(b.toNat:Int)<32:=by omega
  by_cases h2:b.toNat=127
  ·have d4:(b.toNat:Int)=127:=by omega
   have hf:r=false:=by rw[hb];simp[h2]
   subst hf;simp only[vcA,seval,vV,d2,eb,d3,d4]
  have d4:¬(b.toNat:Int)=127:=by omega
  have w1:IntKind.i64.wrap ((i:Int)+(n:Int))=((i+n:Nat):Int):=by rw[wrap64 (by omega) (by omega)];omega
  have hT2:r=isText (l.drop (i+n)):=by rw[hb,List.drop_drop];simp[h0,h1,h2]
  simp only[vcA,seval,vV,d2,eb,d3,d4,w1];refine z10 ⟨i+n,by omega,hT2⟩ (by show l.length-(i+n)<l.length-i;omega) ?_;apply lw_of<;>simp[leL,lk,sv,Nat.beq,I,S,ES.kill,has,drp,nilT]
 ·have d1:¬(i:Int)<(l.length:Int):=by omega
  have hf:r=true:=by rw[hT,List.drop_eq_nil_of_le (by omega)];rfl
  subst hf;simp only[vcA,seval,vV,d1]
def stepN(l:List UInt8):Nat:=max (signL l) 1
def vtN:Nat→List UInt8→List UInt8→List UInt8
 |0,_,out=>out
 |n+1,l,out=>if l=[]∨17≤out.length then out else vtN n (l.drop (stepN l)) (if isText (l.take (stepN l))then out++l.take (stepN l)else out)
def vt(l out:List UInt8):List UInt8:=vtN l.length l out
def valText(l:List UInt8):List UInt8:=vt l []
theorem stepN_le{l:List UInt8}(h:0<l.length):1≤stepN l∧stepN l≤l.length∧stepN l≤4:=by
 have:=signL_le l;unfold stepN;omega
theorem vtN_more:∀(n:Nat) (l out:List UInt8),l.length≤n→vtN n l out=vt l out:=by
 intro n
 induction n using Nat.strongRecOn with
 |_ n ih=>
  intro l out hl;unfold vt;cases n with
  |zero=>
   have:l.length=0:=by omega
   rw[this]
  |succ m=>
   cases hm:l.length with
   |zero=>
    have:l=[]:=List.eq_nil_of_length_eq_zero hm;simp[vtN,this]
   |succ p=>
    simp only[vtN];split
    ·rfl
    ·have hs:=stepN_le (l:=l) (by omega);have h1:(l.drop (stepN l)).length≤p:=by simp;omega
     rw[ih m (by omega) _ _ (by omega),ih p (by omega) _ _ h1]
theorem vt_step(l out:List UInt8):vt l out=if l=[]∨17≤out.length then out else vt (l.drop (stepN l)) (if isText (l.take (stepN l))then out++l.take (stepN l)else out):=by
 conv=>lhs;unfold vt
 cases hm:l.length with
 |zero=>
  have:l=[]:=List.eq_nil_of_length_eq_zero hm;simp[vtN,this]
 |succ p=>
  have hs:=stepN_le (l:=l) (by omega);simp only[vtN];split
  ·rfl
  ·rw[vtN_more p _ _ (by simp;omega)]
theorem valText_ok(g:Sh.Glob)(l:List UInt8)(hl:l.length≤9223372036854775807):SCalls Tryz.prog g 37 [S (str l)] [] (S (str (valText l))) []:=by
 refine z7 hmix tf_63 rfl ?_;have e0:(⟨#[]⟩:ByteArray)=str []:=rfl;obtain⟨r,hr⟩:∃r,valText l=r:=⟨_,rfl⟩
 rw[hr];simp only[vcA,seval,vV];refine v_loop (σ:={ p:Nat×List UInt8 // p.1≤l.length∧p.2.length≤20∧r=vt (l.drop p.1) p.2 }) (fun p=>⟨[(0,S (str l)),(3,S (str p.1.2)),(4,I (p.1.1:Int))],[],[],[]⟩) (fun p=>l.length-p.1.1) ⟨(0,[]),Nat.zero_le _,Nat.zero_le _,hr.symm⟩ ?_ ?_
 ·apply lw_of<;>simp[leL,lk,sv,Nat.beq,I,S,ES.kill,has,drp,nilT,e0]
 rintro⟨⟨i,out⟩,hi,ho,hT⟩;simp only at hi ho hT;rw[vt_step]at hT;by_cases hlt:¬i<l.length
 ·have d1:¬(i:Int)<(l.length:Int):=by omega
  have hf:r=out:=by rw[hT,if_pos (.inl (List.drop_eq_nil_of_le (by omega)))]
  subst hf;simp only[vcA,seval,vV,d1]
 have d1:(i:Int)<(l.length:Int):=by omega
 by_cases h17:¬out.length<17
 ·have d2:¬(out.length:Int)<17:=by omega
  have hf:r=out:=by rw[hT,if_pos (.inr (by omega))]
  subst hf;simp only[vcA,seval,vV,d1,d2]
 have d2:(out.length:Int)<17:=by omega
 have hd:=str_drop l i;have hs:=stepN_le (l:=l.drop i) (by simp;omega);rw[if_neg (by rw[List.drop_eq_nil_iff];omega)]at hT;have hm:max (signL (l.drop i):Int) 1=((stepN (l.drop i):Nat):Int):=by unfold stepN;omega
 have HS:=sign_ok g (l.drop i);simp only[vcA,seval,vV,d1,d2,hd];refine⟨by omega,?_⟩;(with_reducible apply v_call);simp only[vcA,seval,vV];rfl;rfl;exact HS;(first|rfl|(simp only[vcA,seval];omega));simp only[vcA,seval,vV];rfl;simp only[vcA,seval,vV,hm];simp only[List.length_drop]at hs;obtain⟨n,hn⟩:∃n,n=stepN (l.drop i):=⟨_,rfl⟩
 rw[←hn]at hs hT ⊢;have w1:IntKind.i64.wrap ((i:Int)+(n:Int))=((i+n:Nat):Int):=by rw[wrap64 (by omega) (by omega)];omega
 have g1:i≤i+n:=by omega
 have g2:i+n≤l.length:=by omega
 have hx:(str l).extract i (i+n)=str ((l.drop i).take n):=by rw[str_extract];congr 2;omega
 have hlen:((l.drop i).take n).length=n:=by simp;omega
 have HT:=isText_ok g ((l.drop i).take n) (by omega);have hii:i+n-i=n:=by omega
 simp only[vcA,seval,vV,w1,hx,hii];refine⟨⟨by omega,by omega⟩,?_⟩;(with_reducible apply v_call);simp only[vcA,seval,vV];rfl;rfl;exact HT;(first|rfl|(simp only[vcA,seval];omega));simp only[vcA,seval,vV];rfl;by_cases hok:isText ((l.drop i).take n)=true
 ·rw[if_pos hok,List.drop_drop]at hT;simp only[vcA,seval,vV,hok,w1,hx,hii];refine⟨⟨by omega,by omega⟩,by omega,?_⟩;refine z10 ⟨(i+n,out++(l.drop i).take n),by omega,by simp;omega,hT⟩ (by show l.length-(i+n)<l.length-i;omega) ?_;apply lw_of<;>simp[leL,lk,sv,Nat.beq,I,S,ES.kill,has,drp,nilT]
 ·have hok':isText ((l.drop i).take n)=false:=by simpa using hok
  rw[if_neg hok,List.drop_drop]at hT;simp only[vcA,seval,vV,hok',w1];refine z10 ⟨(i+n,out),by omega,ho,hT⟩ (by show l.length-(i+n)<l.length-i;omega) ?_;apply lw_of<;>simp[leL,lk,sv,Nat.beq,I,S,ES.kill,has,drp,nilT]
theorem z101{c n:Int}(hn:0<n)(hc:I64 c):0≤pickI c n∧pickI c n<n:=by
 unfold pickI;obtain⟨h0,h1⟩:=hc;split
 ·exact⟨Int.tmod_nonneg n (by omega),Int.tmod_lt_of_pos _ hn⟩
 ·exact⟨Int.tmod_nonneg n (by omega),Int.tmod_lt_of_pos _ hn⟩
theorem pickI_ok(g:Sh.Glob)(c n:Int)(hc:I64 c)(hn:n≠0):SCalls Tryz.prog g 88 [I c,I n] [] (I (pickI c n)) []:=pick_ok g c n hc.1 hc.2 hn

def valOne(k n:Int)(s:List UInt8):V:=
 if k=1 then .mk 1 (if n< -1000000000000000∨1000000000000000<n then pickI n 1000000000000001 else n) [] []
 else if k=2 then .mk 2 0 (valText s) []
 else if k=3∨k=4 then .mk k (1+pickI n 100000) [] [] else V.nil
theorem valOne_ok(g:Sh.Glob)(k j n:Int)(s:List UInt8)(hn:I64 n)(hs:s.length≤9223372036854775807):SCalls Tryz.prog g 45 [I k,.agg [I j,I n,S (str s)]] [] (nv (valOne k n s)) []:=by
 refine z7 hmix tf_62 rfl ?_;have hp:=z101 (n:=100000) (by decide) hn;have w1:IntKind.i64.wrap (1+pickI n 100000)=1+pickI n 100000:=wrap64 (by omega) (by omega);unfold valOne;by_cases k1:k=1
 ·subst k1;rw[if_pos rfl];simp only[vcA,seval,I,S];refine⟨fun h=> ?_,fun h=>⟨fun h'=> ?_,fun h'=> ?_⟩⟩
  ·rw[if_pos (.inl h)];(with_reducible apply v_call);simp only[vcA,seval,I,S];rfl;rfl;exact pickI_ok g n 1000000000000001 hn (by decide);(first|rfl|(simp only[vcA,seval];omega));simp only[vcA,seval,I,S];rfl;simp only[vcA,seval,I,S];rfl
  ·rw[if_pos (.inr h')];(with_reducible apply v_call);simp only[vcA,seval,I,S];rfl;rfl;exact pickI_ok g n 1000000000000001 hn (by decide);(first|rfl|(simp only[vcA,seval];omega));simp only[vcA,seval,I,S];rfl;simp only[vcA,seval,I,S];rfl
  ·rw[if_neg (by omega)];rfl
 rw[if_neg k1];by_cases k2:k=2
 ·subst k2;rw[if_pos rfl];simp only[vcA,seval,I,S];(with_reducible apply v_call);simp only[vcA,seval,I,S];rfl;rfl;exact valText_ok g s hs;(first|rfl|(simp only[vcA,seval];omega));simp only[vcA,seval,I,S];rfl;simp only[vcA,seval,I,S];rfl
 rw[if_neg k2];by_cases k3:k=3∨k=4
 ·rw[if_pos k3];rcases k3 with rfl|rfl
  ·simp only[vcA,seval,I,S];(with_reducible apply v_call);simp only[vcA,seval,I,S];rfl;rfl;exact pickI_ok g n 100000 hn (by decide);(first|rfl|(simp only[vcA,seval];omega));simp only[vcA,seval,I,S];rfl;simp only[vcA,seval,I,S,w1];rfl
  ·simp only[vcA,seval,I,S];(with_reducible apply v_call);simp only[vcA,seval,I,S];rfl;rfl;exact pickI_ok g n 100000 hn (by decide);(first|rfl|(simp only[vcA,seval];omega));simp only[vcA,seval,I,S];rfl;simp only[vcA,seval,I,S,w1];rfl
 ·rw[if_neg k3];have k3':¬k=3:=fun h=>k3 (.inl h);have k4':¬k=4:=fun h=>k3 (.inr h);simp only[vcA,seval,I,S,k1,k2,k3',k4'];rfl
end Go.Proofs.YtmiokadmddjccaaGreatDoor
end

section
namespace Go.Sh.Cd2
open Go Go.Sh
set_option maxRecDepth 100000
abbrev c_81_0:SCode:=.reg [([],[oD 2 (.mov (.val (.string ⟨#[]⟩)))])] [2]
abbrev c_81_1:SCode:=.reg [([],[oM 4 0,oD 5 (.bin .lss 3 (.tmp 4) (vI 0))])] [4]
abbrev c_81_2:SCode:=.reg [([],[oM 6 0,oD 7 (.bin .leq 3 (.tmp 6) (.val (.int .i64 (-10))))])] [5,6]
abbrev c_81_3:SCode:=.reg [([2040,2041,2042,2043,2056,2057,2058,2059],[oM 8 0,oD 9 (.bin .quo 3 (.tmp 8) (vI 10)),oD 10 (.call 44 0 [.tmp 9]),oM 11 0,oD 12 (.bin .rem 3 (.tmp 11) (vI 10)),oD 13 (.un .neg (.tmp 12)),oD 14 (.call 44 0 [.tmp 13]),oD 15 (.bin .add 9 (.tmp 10) (.tmp 14)),oM 2 15])] [0,7,8,9,10,11,12,13,14,15]
abbrev c_81_4:SCode:=.reg [([2072,2073,2074,2075],[oM 16 0,oD 17 (.un .neg (.tmp 16)),oD 18 (.call 44 0 [.tmp 17]),oD 19 (.bin .add 9 (.val (.string ⟨#[45]⟩)) (.tmp 18)),oM 2 19])] [0,7,16,17,18,19]
abbrev c_81_5:SCode:=.reg [([],[oM 20 0,oD 21 (.bin .rem 3 (.tmp 20) (vI 10)),oM 22 0,oD 23 (.bin .rem 3 (.tmp 22) (vI 10)),oD 24 (.bin .add 3 (.tmp 23) (vI 1)),oD 25 (.ssub (.val (.string ⟨#[48,49,50,51,52,53,54,55,56,57]⟩)) (some (.tmp 21)) (some (.tmp 24))),oM 3 25])] [2,5,20,21,22,23,24,25]
abbrev c_81_6:SCode:=.reg [([],[oM 26 0,oD 27 (.bin .lss 3 (.tmp 26) (vI 10))])] [26]
abbrev c_81_7:SCode:=.reg [([],[oM 28 3,oM 2 28])] [0,3,27,28]
abbrev c_81_8:SCode:=.reg [([2124,2125,2126,2127],[oM 29 0,oD 30 (.bin .quo 3 (.tmp 29) (vI 10)),oD 31 (.call 44 0 [.tmp 30]),oM 32 3,oD 33 (.bin .add 9 (.tmp 31) (.tmp 32)),oM 2 33])] [0,3,27,29,30,31,32,33]
abbrev F_81:SFunc:=⟨34,(.seq c_81_0 (.seq (.seq c_81_1 (.cond (.tmp 5) (.seq (.seq c_81_2 (.cond (.tmp 7) (.seq c_81_3 .ret) .skip)) (.seq c_81_4 .ret)) .skip)) (.seq c_81_5 (.seq (.seq c_81_6 (.cond (.tmp 27) (.seq c_81_7 .ret) .skip)) (.seq c_81_8 .ret))))),[.tmp 2],false⟩
theorem tf_81:z6 Go.Proofs.Tryz.prog 44 (hintT [(10,0),(14,0),(18,0),(31,0)]) (fpT []) (killT (klN 0 F_81.code.kl)) false=some F_81:=by kernel_rfl
end Go.Sh.Cd2
end

section
namespace Go.Proofs.YtmiokadmddjccaaGreatDoor
open Go Go.RowKit Go.Mor Go.Sh Go.Sh.Cd1 Go.Sh.Cd2
set_option maxRecDepth 100000
set_option maxHeartbeats 4000000
theorem digs:(⟨#[48,49,50,51,52,53,54,55,56,57]⟩:ByteArray)=str [48,49,50,51,52,53,54,55,56,57]:=rfl
theorem dig_at:∀k,k<10→List.take (k+1-k) (List.drop k [48,49,50,51,52,53,54,55,56,57])=[UInt8.ofNat (48+k)]:=by decide
theorem q45:(⟨#[45]⟩:ByteArray)=str [45]:=rfl
theorem z141(u:Nat)(h:¬u<10):Lib.decDigits u=Lib.decDigits (u / 10)++[UInt8.ofNat (48+u%10)]:=by
 conv=>lhs;rw[Lib.decDigits]
 rw[dif_neg h]
theorem refDigitsN_ok(g:Sh.Glob):∀(f u:Nat),u≤f→u≤1000000000000000→SCalls Tryz.prog g 44 [I (u:Int)] [] (S (str (Lib.decDigits u))) []
 |f,u,hf,hu=>by
  have e1:(u:Int).tmod 10=((u%10:Nat):Int):=(Int.ofNat_tmod _ _).symm;have w1:IntKind.i64.wrap (((u%10:Nat):Int)+1)=((u%10+1:Nat):Int):=by rw[wrap64 (by omega) (by omega)];omega
  have d0:¬(u:Int)<0:=by omega
  have dk:=dig_at (u%10) (by omega);refine z7 hmix tf_81 rfl ?_;by_cases h10:u<10
  ·have d1:(u:Int)<10:=by omega
   simp only[vcA,seval,vV,d0,e1,w1,digs,d1,dk];refine⟨⟨by omega,by omega⟩,?_⟩;rw[Lib.decDigits_one h10,Nat.mod_eq_of_lt h10]
  ·have d1:¬(u:Int)<10:=by omega
   have w2:IntKind.i64.wrap ((u:Int).tdiv 10)=((u / 10:Nat):Int):=by
    rw[show(u:Int).tdiv 10=((u / 10:Nat):Int) from(Int.ofNat_tdiv _ _).symm,wrap64 (by omega) (by omega)]
   obtain⟨f',rfl⟩:∃f',f=f'+1:=⟨f-1,by omega⟩
   have HD:=refDigitsN_ok g f' (u / 10) (by omega) (by omega);have hl:=Lib.itoa_length_le (u / 10:Nat) (by omega) (by omega);rw[Lib.itoa_nonneg]at hl;rw[z141 u h10];simp only[vcA,seval,vV,d0,e1,w1,digs,d1,dk,w2];refine⟨⟨by omega,by omega⟩,?_⟩;(with_reducible apply v_call);simp only[vcA,seval,vV];rfl;rfl;exact HD;(first|rfl|(simp only[vcA,seval];omega));simp only[vcA,seval,vV];rfl;simp only[vcA,seval,vV];omega
theorem refDigits_ok(g:Sh.Glob)(n:Int)(h1: -1000000000000000≤n)(h2:n≤1000000000000000):SCalls Tryz.prog g 44 [I n] [] (S (str (Lib.itoa n))) []:=by
 by_cases hneg:n<0
 ·-- n = -u
  have key:∀(f u:Nat),u≤f→1≤u→u≤1000000000000000→SCalls Tryz.prog g 44 [I (-(u:Int))] [] (S (str (45::Lib.decDigits u))) []:=by
   intro f
   induction f with
   |zero=>intro u h1 h2;omega
   |succ f ih=>
    intro u hf hu1 hu;refine z7 hmix tf_81 rfl ?_;have d0:(-(u:Int))<0:=by omega
    by_cases h10:u<10
    ·have d1:¬(-(u:Int))≤ -10:=by omega
     have HD:=refDigitsN_ok g u u (Nat.le_refl _) hu;have w0:IntKind.i64.wrap (0 - -(u:Int))=(u:Int):=by rw[wrap64 (by omega) (by omega)];omega
     have hl:=Lib.itoa_length_le (u:Nat) (by omega) (by omega);rw[Lib.itoa_nonneg]at hl;simp only[vcA,seval,vV,d0,d1,w0];(with_reducible apply v_call);simp only[vcA,seval,vV];rfl;rfl;exact HD;(first|rfl|(simp only[vcA,seval];omega));simp only[vcA,seval,vV];rfl;simp only[vcA,seval,vV,q45];omega
    ·have d1:(-(u:Int))≤ -10:=by omega
     have e1:(-(u:Int)).tmod 10= -((u%10:Nat):Int):=by rw[Int.neg_tmod];congr 1
     have e2:(-(u:Int)).tdiv 10= -((u / 10:Nat):Int):=by rw[Int.neg_tdiv];congr 1
     have w1:IntKind.i64.wrap (-((u / 10:Nat):Int))= -((u / 10:Nat):Int):=wrap64 (by omega) (by omega);have w2:IntKind.i64.wrap (0 - -((u%10:Nat):Int))=((u%10:Nat):Int):=by rw[wrap64 (by omega) (by omega)];omega
     have HD:=ih (u / 10) (by omega) (by omega) (by omega);have HE:=refDigitsN_ok g (u%10) (u%10) (Nat.le_refl _) (by omega);rw[Lib.decDigits_one (show u%10<10 by omega)]at HE;have hl:=Lib.itoa_length_le (u / 10:Nat) (by omega) (by omega);rw[Lib.itoa_nonneg]at hl;rw[z141 u h10];simp only[vcA,seval,vV,d0,d1,e1,e2,w1];(with_reducible apply v_call);simp only[vcA,seval,vV];rfl;rfl;exact HD;(first|rfl|(simp only[vcA,seval];omega));simp only[vcA,seval,vV];rfl;simp only[vcA,seval,vV,e1,w2];(with_reducible apply v_call);simp only[vcA,seval,vV];rfl;rfl;exact HE;(first|rfl|(simp only[vcA,seval];omega));simp only[vcA,seval,vV];rfl;simp only[vcA,seval,vV];omega
  obtain⟨u,rfl⟩:∃u:Nat,n= -(u:Int):=⟨n.natAbs,by omega⟩
  rw[Lib.itoa_neg u (by omega)];exact key u u (Nat.le_refl _) (by omega) (by omega)
 ·obtain⟨u,rfl⟩:∃u:Nat,n=(u:Int):=⟨n.toNat,by omega⟩
  rw[Lib.itoa_nonneg];exact refDigitsN_ok g u u (Nat.le_refl _) (by omega)
end Go.Proofs.YtmiokadmddjccaaGreatDoor
end

section
namespace Go.Proofs.YtmiokadmddjccaaGreatDoor
open Go Go.RowKit Go.Mor
theorem byte_lt(l:List UInt8)(i:Nat):(l.getD i 0).toNat<256:=(l.getD i 0).toNat_lt
theorem signL_decode(b:UInt8)(t:List UInt8):signL (b::t)=if(Lib.decodeL (b::t)).1=65533∧(Lib.decodeL (b::t)).2=1 then 0 else(Lib.decodeL (b::t)).2:=by
 rw[Lib.decodeL_N,signL,if_neg (by simp)];exact signN_decode _ _ _ _ _ (byte_lt _ _) (byte_lt _ _) (byte_lt _ _) (byte_lt _ _)
theorem rune_lo(n b0 b1 b2 b3:Nat):(b0<128→(Lib.decodeN n b0 b1 b2 b3).1=b0)∧(128≤b0→128≤(Lib.decodeN n b0 b1 b2 b3).1):=by
 unfold Lib.decodeN;refine⟨fun h=>by rw[if_pos h],fun h=> ?_⟩;rw[if_neg (by omega)]
 (repeat' split)<;>simp only<;>omega
theorem plainR_lead(b:UInt8)(t:List UInt8):plainR (Lib.decodeL (b::t)).1=(!decide (b.toNat<32)&& !(b.toNat==127)):=by
 rw[Lib.decodeL_N];have h:=rune_lo (b::t).length ((b::t).getD 0 0).toNat ((b::t).getD 1 0).toNat ((b::t).getD 2 0).toNat ((b::t).getD 3 0).toNat;have e:(b::t).getD 0 0=b:=rfl;rw[e]at h ⊢;generalize(Lib.decodeN _ _ _ _ _).1=r at h ⊢;unfold plainR;rw[Bool.eq_iff_iff];rcases Nat.lt_or_ge b.toNat 128 with hb|hb
 ·rw[h.1 hb];simp
 ·have:=h.2 hb;simp;omega
theorem isText_eq:∀(n:Nat) (l:List UInt8),l.length≤n→isText l=(Lib.validD l&&plainD l):=by
 intro n
 induction n with
 |zero=>intro l hl;obtain rfl:=List.eq_nil_of_length_eq_zero (by omega:l.length=0);rfl
 |succ n ih=>
  intro l hl;cases l with
  |nil=>rfl
  |cons b t=>
   rw[z142,Lib.validD_step _ (by simp),z147 _ (by simp),plainR_lead,signL_decode];have hw:=Lib.decodeL_width (b::t);split
   ·simp
   ·rw[ih _ (by simp at hl ⊢;omega)];have h0:((Lib.decodeL (b::t)).2==0)=false:=by simp;omega
    rw[h0];generalize Lib.validD _=p;generalize plainD _=q;cases p<;>cases q<;>simp
theorem signL_app(a c:List UInt8)(h:signL a≠0):signL (a++c)=signL a:=by
 have hne:a≠[]:=by rintro rfl;exact h rfl
 have hl:=(signL_le a).1;unfold signL at*;rw[if_neg hne]at h hl ⊢;rw[if_neg (by simp[hne])];have g:∀i,i<a.length→(a++c).getD i 0=a.getD i 0:=fun i hi=>by
  simp only[List.getD_eq_getElem?_getD];rw[List.getElem?_append_left hi]
 have h0:0<a.length:=List.length_pos_iff.2 hne;rw[g 0 h0];simp only[List.length_append];generalize hB0:(a.getD 0 0).toNat=B0 at h hl ⊢;have g1:1<a.length→((a++c).getD 1 0).toNat=(a.getD 1 0).toNat:=fun h=>by rw[g 1 h]
 have g2:2<a.length→((a++c).getD 2 0).toNat=(a.getD 2 0).toNat:=fun h=>by rw[g 2 h]
 have g3:3<a.length→((a++c).getD 3 0).toNat=(a.getD 3 0).toNat:=fun h=>by rw[g 3 h]
 generalize((a++c).getD 1 0).toNat=C1 at g1 ⊢;generalize((a++c).getD 2 0).toNat=C2 at g2 ⊢;generalize((a++c).getD 3 0).toNat=C3 at g3 ⊢;generalize(a.getD 1 0).toNat=D1 at g1 h hl ⊢;generalize(a.getD 2 0).toNat=D2 at g2 h hl ⊢;generalize(a.getD 3 0).toNat=D3 at g3 h hl ⊢;unfold signN at*;by_cases c1:B0<128
 ·rw[if_pos c1,if_pos c1]
 rw[if_neg c1]at h hl ⊢;rw[if_neg c1];by_cases c2:194≤B0∧B0≤223
 ·rw[if_pos c2]at h hl ⊢;rw[if_pos c2];split at h
  ·contradiction
  ·rw[if_neg (by omega),if_neg (by assumption)]
 rw[if_neg c2]at h hl ⊢;rw[if_neg c2];by_cases c3:224≤B0∧B0≤239
 ·rw[if_pos c3]at h hl ⊢;rw[if_pos c3];generalize(if B0=224 then 160 else 128)=lo at*;generalize(if B0=237 then 159 else 191)=hi at*;split at h
  ·contradiction
  ·rw[if_neg (by omega),if_neg (by assumption)]
 rw[if_neg c3]at h hl ⊢;rw[if_neg c3];by_cases c4:240≤B0∧B0≤244
 ·rw[if_pos c4]at h hl ⊢;rw[if_pos c4];generalize(if B0=240 then 144 else 128)=lo at*;generalize(if B0=244 then 143 else 191)=hi at*;split at h
  ·contradiction
  ·rw[if_neg (by omega),if_neg (by assumption)]
 rw[if_neg c4]at h;contradiction
theorem isText_app:∀(n:Nat) (a c:List UInt8),a.length≤n→isText a=true→isText c=true→isText (a++c)=true:=by
 intro n
 induction n with
 |zero=>intro a c ha _ hc;obtain rfl:=List.eq_nil_of_length_eq_zero (by omega:a.length=0);exact hc
 |succ n ih=>
  intro a c hl ha hc;cases a with
  |nil=>exact hc
  |cons b t=>
   rw[z142]at ha;simp only[Bool.and_eq_true,Bool.not_eq_true',beq_eq_false_iff_ne]at ha;obtain⟨⟨⟨h1,h2⟩,h3⟩,h4⟩:=ha;have hs:=signL_app (b::t) c h1;have hle:=(signL_le (b::t)).1;rw[List.cons_append]at hs;rw[List.cons_append,z142,hs,←List.cons_append,List.drop_append_of_le_length hle];rw[ih _ c (by simp at hl ⊢;omega) h4 hc];simp[h1,h2,h3]
theorem vtN_right:∀(n:Nat) (l out:List UInt8),isText out=true→out.length≤20→isText (vtN n l out)=true∧(vtN n l out).length≤20:=by
 intro n
 induction n with
 |zero=>intro l out h1 h2;exact⟨h1,h2⟩
 |succ n ih=>
  intro l out h1 h2;simp only[vtN];split
  ·exact⟨h1,h2⟩
  ·rename_i hn;refine ih _ _ ?_ ?_
   ·split
    ·rename_i ht;exact isText_app _ _ _ (Nat.le_refl _) h1 ht
    ·exact h1
   ·split
    ·have hl:0<l.length:=List.length_pos_iff.2 (fun h=>hn (.inl h));have hs:=stepN_le hl;have:¬17≤out.length:=fun h=>hn (.inr h);simp only[List.length_append,List.length_take];omega
    ·exact h2
theorem z95(l:List UInt8):(valText l).length≤20∧isText (valText l)=true:=(vtN_right _ l [] rfl (by simp)).symm
theorem z159(l:List UInt8):z8 (valText l)=true:=by
 obtain⟨h1,h2⟩:=z95 l;rw[isText_eq _ _ (Nat.le_refl _)]at h2;unfold z8;simp only[Bool.and_eq_true]at h2 ⊢;exact⟨by simp;omega,h2⟩
end Go.Proofs.YtmiokadmddjccaaGreatDoor
end

section
namespace Go.Proofs.YtmiokadmddjccaaGreatDoor
open Go Go.RowKit Go.Mor Go.Sh Go.Sh.Cd1 Go.Sh.Cd6
set_option maxRecDepth 100000
set_option maxHeartbeats 8000000
theorem valOne_num{n:Int}(hn:I64 n):∃N,valOne 1 n []=.mk 1 N [] []∧Rg N:=by
 unfold valOne;rw[if_pos rfl];refine⟨_,rfl,?_⟩;split
 ·have:=z101 (n:=1000000000000001) (by decide) hn;exact⟨by omega,by omega⟩
 ·exact⟨by omega,by omega⟩
theorem signL_sgn{g:List UInt8}(h:Sgn g)(r:List UInt8):signL (g++r)=g.length:=by
 have hd:=h.dec r;have hok:=h.ok;obtain⟨b,g',rfl⟩:∃b g',g=b::g':=by
  cases g with
  |nil=>exact absurd rfl h.ne
  |cons b g'=>exact⟨b,g',rfl⟩
 rw[List.cons_append]at hd ⊢;rw[signL_decode,hd,if_neg hok]
end Go.Proofs.YtmiokadmddjccaaGreatDoor
end

section
namespace Go.Proofs.YtmiokadmddjccaaGreatDoor
open Go Go.RowKit Go.Mor Go.Sh Go.Sh.Cd1
set_option maxRecDepth 100000
set_option maxHeartbeats 4000000
def firstR(l:List UInt8):Int:=if l=[] then 0 else(Lib.decodeGo (str l)).1
theorem decodeRune_ok(m:Nat)(b:ByteArray):SCalls Tryz.prog (gl0 m) 182 [S b] [] (.tuple [.pv (.v (.int .i32 (Lib.decodeGo b).1)),I (Lib.decodeGo b).2]) []:=
 prim0_sound m _ _ _ _ _ (by simp[prim0,S,I,Nat.beq])
theorem first_ok(m:Nat)(l:List UInt8):SCalls Tryz.prog (gl0 m) 128 [S (str l)] [] (.pv (.v (.int .i32 (firstR l)))) []:=by
 refine z7 hmix tf_100 rfl ?_;have HD:=decodeRune_ok m (str l);have e0:(⟨#[]⟩:ByteArray)=str []:=rfl;unfold firstR;cases l with
 |nil=>
  simp only[vcA,seval,I,S,e0]
 |cons b r=>
  have hn:((b::r)==([]:List UInt8))=false:=rfl;simp only[vcA,seval,I,S,e0,hn];(with_reducible apply v_call);simp only[vcA,seval,I,S];rfl;rfl;exact HD;(first|rfl|(simp only[vcA,seval];omega));simp only[vcA,seval,I,S];rfl;simp only[vcA,seval,I,S]
def numGo(neg:Bool)(lo hi:Int):List UInt8→Int→Int→Nat→Nat→Int×Nat
 |[],_,best,size,_=>(best,size)
 |c::r,n,best,size,k=>
  if c.toNat<48∨57<c.toNat then(best,size)
  else if 1000000000000000<10*n+(c.toNat-48:Int)∨(neg=true∧10*n+(c.toNat-48:Int)=0)then(best,size)
  else if lo≤(if neg then -(10*n+(c.toNat-48:Int))else 10*n+(c.toNat-48:Int))∧(if neg then -(10*n+(c.toNat-48:Int))else 10*n+(c.toNat-48:Int))≤hi then
   (if 10*n+(c.toNat-48:Int)=0 then((if neg then -(10*n+(c.toNat-48:Int))else 10*n+(c.toNat-48:Int)),k+1)else numGo neg lo hi r (10*n+(c.toNat-48:Int)) (if neg then -(10*n+(c.toNat-48:Int))else 10*n+(c.toNat-48:Int)) (k+1) (k+1))
  else(if 10*n+(c.toNat-48:Int)=0 then(best,size)else numGo neg lo hi r (10*n+(c.toNat-48:Int)) best size (k+1))
def numV(lo hi:Int)(l:List UInt8):Int×Nat:=if firstR l=45 then numGo true lo hi (l.drop 1) 0 0 0 1 else numGo false lo hi l 0 0 0 0
def numSt(l:List UInt8)(lo hi:Int)(neg:Bool)(q:Int×Int×Nat×Nat):ES:=
 ⟨[(0,S (str l)),(1,I lo),(2,I hi),(8,I q.1),(9,I q.2.1),(10,I (q.2.2.1:Int)),(11,I (q.2.2.2:Int)),(12,I (if neg then 1 else 0))],[],[],[]⟩
theorem numLoop(g:Sh.Glob)(l:List UInt8)(lo hi:Int)(neg:Bool)(hl:l.length<9223372036854775807)(R:Int×Nat)(k0:Nat)(hR:R=numGo neg lo hi (l.drop k0) 0 0 0 k0):
  swp Tryz.prog g (.loop c_102_15) (blockW 0 (thenW (swp Tryz.prog g (.seq c_102_16 .ret) (Post0 [.tmp 6,.tmp 7] (.tuple [I R.1,I (R.2:Int)]))) (Post0 [.tmp 6,.tmp 7] (.tuple [I R.1,I (R.2:Int)])))) (numSt l lo hi neg (0,0,0,k0)):=by
 refine v_loop (σ:={ q:Int×Int×Nat×Nat // 0≤q.1∧q.1≤1000000000000000∧R=numGo neg lo hi (l.drop q.2.2.2) q.1 q.2.1 q.2.2.1 q.2.2.2 })
  (fun q=>numSt l lo hi neg q.1) (fun q=>l.length-q.1.2.2.2) ⟨(0,0,0,k0),Int.le_refl 0,by show(0:Int)≤1000000000000000;decide,hR⟩ (lw_eq rfl) ?_
 rintro⟨⟨n,best,size,k⟩,h0,h1,hd⟩;simp only at h0 h1 hd;unfold numSt;by_cases hk:k<l.length
 ·have d1:(k:Int)<(l.length:Int):=by omega
  obtain⟨c,ec⟩:∃c,l[k]?=some c:=⟨_,List.getElem?_eq_getElem hk⟩
  have hcons:l.drop k=c::l.drop (k+1):=by
   rw[List.drop_eq_getElem_cons hk];congr 1;rw[List.getElem?_eq_getElem hk]at ec;exact Option.some.inj ec
  rw[hcons,numGo]at hd;have hc:=c.toNat_lt;by_cases hdig:c.toNat<48∨57<c.toNat
  ·rw[if_pos hdig]at hd;by_cases q1:c.toNat<48
   ·have d2:¬(48:Int)≤(c.toNat:Int):=by omega
    simp only[vcA,seval,I,S,d1,d2,ec];rw[hd]
   ·have d2:(48:Int)≤(c.toNat:Int):=by omega
    have d3:¬(c.toNat:Int)≤57:=by omega
    simp only[vcA,seval,I,S,d1,d2,d3,ec];rw[hd]
  ·rw[if_neg hdig]at hd;have d2:(48:Int)≤(c.toNat:Int):=by omega
   have d3:(c.toNat:Int)≤57:=by omega
   have u1:IntKind.u8.wrap ((c.toNat:Int) - 48)=(c.toNat:Int) - 48:=by rw[IntKind.wrap_u8];omega
   have u2:IntKind.i64.wrap ((c.toNat:Int) - 48)=(c.toNat:Int) - 48:=wrap64 (by omega) (by omega);have u3:IntKind.i64.wrap (10*n)=10*n:=wrap64 (by omega) (by omega);have u4:IntKind.i64.wrap (10*n+((c.toNat:Int) - 48))=10*n+((c.toNat:Int) - 48):=wrap64 (by omega) (by omega);obtain⟨x,hx⟩:∃x,x=10*n+((c.toNat:Int) - 48):=⟨_,rfl⟩
   have hx0:0≤x:=by omega
   have hx1:x≤10000000000000009:=by omega
   rw[←hx]at hd u4;rw[hx]at u4;have w1:IntKind.i64.wrap ((k:Int)+1)=((k+1:Nat):Int):=by rw[wrap64 (by omega) (by omega)];omega
   have w2:IntKind.i64.wrap (0-x)= -x:=by rw[wrap64 (by omega) (by omega)];omega
   rw[hx]at w2;cases neg
   ·simp only[Bool.false_eq_true,if_false,false_and,or_false]at hd;simp only[vcA,seval,I,S,d1,d2,d3,ec,u1,u2,u3,u4,w1];rw[←hx]
    repeat' (first|(apply And.intro)|(intro _))
    all_goals first
     |(rw[hd];(repeat' split)<;>first|rfl|(exfalso;omega))
     |(refine z10 ⟨(x,x,k+1,k+1),hx0,?_,?_⟩ ?_ ?_;(· show x≤1000000000000000;omega);(· rw[hd];(repeat' split)<;>first|rfl|(exfalso;omega));(· show l.length-(k+1)<l.length-k;omega);(· apply lw_of<;>simp[leL,lk,sv,Nat.beq,I,S,ES.kill,has,drp,nilT]))
     |(refine z10 ⟨(x,best,size,k+1),hx0,?_,?_⟩ ?_ ?_;(· show x≤1000000000000000;omega);(· rw[hd];(repeat' split)<;>first|rfl|(exfalso;omega));(· show l.length-(k+1)<l.length-k;omega);(· apply lw_of<;>simp[leL,lk,sv,Nat.beq,I,S,ES.kill,has,drp,nilT]))
   ·simp only[if_true,true_and]at hd;simp only[vcA,seval,I,S,d1,d2,d3,ec,u1,u2,u3,u4,w1,w2];rw[←hx]
    repeat' (first|(apply And.intro)|(intro _))
    all_goals first
     |(rw[hd];(repeat' split)<;>first|rfl|(exfalso;omega))
     |(refine z10 ⟨(x, -x,k+1,k+1),hx0,?_,?_⟩ ?_ ?_;(· show x≤1000000000000000;omega);(· rw[hd];(repeat' split)<;>first|rfl|(exfalso;omega));(· show l.length-(k+1)<l.length-k;omega);(· apply lw_of<;>simp[leL,lk,sv,Nat.beq,I,S,ES.kill,has,drp,nilT]))
     |(refine z10 ⟨(x,best,size,k+1),hx0,?_,?_⟩ ?_ ?_;(· show x≤1000000000000000;omega);(· rw[hd];(repeat' split)<;>first|rfl|(exfalso;omega));(· show l.length-(k+1)<l.length-k;omega);(· apply lw_of<;>simp[leL,lk,sv,Nat.beq,I,S,ES.kill,has,drp,nilT]))
 ·have d1:¬(k:Int)<(l.length:Int):=by omega
  rw[List.drop_eq_nil_of_le (by omega),numGo]at hd;simp only[vcA,seval,I,S,d1];rw[hd]
theorem vnumber_ok(m:Nat)(l:List UInt8)(lo hi:Int)(hl:l.length<9223372036854775807):SCalls Tryz.prog (gl0 m) 131 [S (str l),I lo,I hi] [] (.tuple [I (numV lo hi l).1,I ((numV lo hi l).2:Int)]) []:=by
 refine z7 hmix tf_102 rfl ?_;have HF:=first_ok m l;unfold numV;by_cases h:firstR l=45
 ·have HL:=numLoop (gl0 m) l lo hi true hl _ 1 rfl;unfold numSt at HL;rw[if_pos h];simp only[vcA,seval,I,S];(with_reducible apply v_call);simp only[vcA,seval,I,S];rfl;rfl;exact HF;(first|rfl|(simp only[vcA,seval];omega));simp only[vcA,seval,I,S];rfl;simp only[vcA,seval,I,S,h];exact HL
 ·have HL:=numLoop (gl0 m) l lo hi false hl _ 0 rfl;unfold numSt at HL;rw[if_neg h];simp only[vcA,seval,I,S];(with_reducible apply v_call);simp only[vcA,seval,I,S];rfl;rfl;exact HF;(first|rfl|(simp only[vcA,seval];omega));simp only[vcA,seval,I,S];rfl;simp only[vcA,seval,I,S,h];exact HL
theorem decodeGo_L{l:List UInt8}(h:l≠[]):Lib.decodeGo (str l)=Lib.decodeL l:=by
 unfold Lib.decodeGo Lib.decodeL;rw[if_neg (by rw[str_size'];exact fun h0=>h (List.eq_nil_of_length_eq_zero h0))];rfl
theorem decode_low{b:UInt8}{t:List UInt8}(h:(Lib.decodeL (b::t)).1<128):(Lib.decodeL (b::t)).1=b.toNat∧(Lib.decodeL (b::t)).2=1:=by
 by_cases hb:b.toNat<128
 ·rw[Lib.decodeL_ascii b t hb];exact⟨rfl,rfl⟩
 ·rw[Lib.decodeL_N]at h;have:=(rune_lo (b::t).length ((b::t).getD 0 0).toNat ((b::t).getD 1 0).toNat ((b::t).getD 2 0).toNat ((b::t).getD 3 0).toNat).2 (by simp;omega);omega
theorem decodeL_le4(l:List UInt8):(Lib.decodeL l).2≤4:=by
 rw[Lib.decodeL_N];unfold Lib.decodeN
 (repeat' split)<;>simp
def quoGo:Nat→List UInt8→List UInt8→Nat→List UInt8×Nat
 |0,_,_,_=>([],0)
 |f+1,r,t,k=>
  if r=[]∨60<t.length then([],0)
  else if(Lib.decodeL r).1=34 then(if z8 t then(t,k+1)else([],0))
  else if(Lib.decodeL r).1=92 then(match r.drop 1 with
   |[]=>([],0)
   |c::r'=>if c.toNat=34∨c.toNat=92 then quoGo f r' (t++[c]) (k+2)else([],0))
  else quoGo f (r.drop (Lib.decodeL r).2) (t++r.take (Lib.decodeL r).2) (k+(Lib.decodeL r).2)
def quoV(l:List UInt8):List UInt8×Nat:=quoGo l.length (l.drop 1) [] 1
theorem quoGo_nil(f:Nat)(t:List UInt8)(k:Nat):quoGo f [] t k=([],0):=by cases f<;>simp[quoGo]
theorem quoted_ok(m:Nat)(l:List UInt8)(hl:l.length<1125899906842624)(h1:1≤l.length):SCalls Tryz.prog (gl0 m) 129 [S (str l)] [] (.tuple [S (str (quoV l).1),I ((quoV l).2:Int)]) []:=by
 refine z7 hmix tf_105 rfl ?_;have hm:maxLen=9223372036854775807:=rfl;simp only[vcA,seval,vV];refine v_loop (σ:={ q:Nat×List UInt8×Nat // q.1≤l.length∧1≤q.1∧q.2.1.length≤70∧l.length≤q.2.2+q.1∧quoV l=quoGo q.2.2 (l.drop q.1) q.2.1 q.1 })
  (fun q=>⟨[(0,S (str l)),(4,.own 3000 1 (byR q.1.2.1)),(5,I (q.1.1:Int))],[],[(3000,(5,1,q.1.2.1.length))],[]⟩)
  (fun q=>l.length-q.1.1) ⟨(1,[],l.length),h1,Nat.le_refl _,by simp,by simp,rfl⟩ ?_ ?_
 ·refine ES.Lw.trans ?_ (adT_lw (k:=4) (d:=3000) (e:=5) (W:=1) (.inr (by decide)) rfl);exact lw_eq rfl
 rintro⟨⟨k,t,f⟩,hk,hk1,ht,hf,hd⟩;simp only at hk hk1 ht hf hd;by_cases hlt:k<l.length
 ·have d1:(k:Int)<(l.length:Int):=by omega
  obtain⟨f',rfl⟩:∃f',f=f'+1:=⟨f-1,by omega⟩
  have hne:l.drop k≠[]:=by rw[Ne,List.drop_eq_nil_iff];omega
  have hle:=Lib.decodeL_le (l.drop k) hne;have hw:=Lib.decodeL_width (l.drop k);rw[quoGo]at hd;have tk:List.take (l.length-k) (l.drop k)=l.drop k:=List.take_of_length_le (by simp);have HD:=decodeRune_ok m (str (l.drop k));rw[decodeGo_L hne]at HD;have h4:=decodeL_le4 (l.drop k);have hlow:(Lib.decodeL (l.drop k)).1<128→(Lib.decodeL (l.drop k)).2=1:=by
   obtain⟨b,r,hbr⟩:∃b r,l.drop k=b::r:=List.exists_cons_of_ne_nil hne;rw[hbr];exact fun h=>(decode_low h).2
  rw[List.length_drop]at hle;by_cases h60:60<t.length
  ·rw[if_pos (.inr h60)]at hd;have d2:¬(t.length:Int)≤60:=by omega
   simp only[vcA,seval,vV,byP,byApp,byLen,bySeq,strMk,d1,d2];rw[hd];rfl
  have d2:(t.length:Int)≤60:=by omega
  rw[if_neg (by simp only[hne,h60,or_self,not_false_eq_true])]at hd;have HT:=rightText_ok0 m t (by omega);unfold B at HT;have n0:(0:Int)≤(k:Int):=by omega
  simp only[vcA,seval,vV,byP,byApp,byLen,bySeq,strMk,d1,d2,hk,tk];(with_reducible apply v_call);simp only[vcA,seval,vV,byP,byApp,byLen,bySeq,strMk];rfl;rfl;exact HD;(first|rfl|(simp only[vcA,seval];omega));simp only[vcA,seval,vV,byP,byApp,byLen,bySeq,strMk];rfl;generalize(Lib.decodeL (l.drop k)).1=R at hd hlow;generalize(Lib.decodeL (l.drop k)).2=Z at hd hlow hle hw h4;have w1:IntKind.i64.wrap ((k:Int)+1)=((k+1:Nat):Int):=by rw[wrap64 (by omega) (by omega)];omega
  by_cases r34:R=34
  ·rw[if_pos r34]at hd;have d3:(R:Int)=34:=by omega
   simp only[vcA,seval,vV,byP,byApp,byLen,bySeq,strMk,d3];(with_reducible apply v_call);simp only[vcA,seval,vV,byP,byApp,byLen,bySeq,strMk];rfl;rfl;exact HT;(first|rfl|(simp only[vcA,seval];omega));simp only[vcA,seval,vV,byP,byApp,byLen,bySeq,strMk];rfl;cases hr:z8 t
   ·rw[hr]at hd;simp only[vcA,seval,vV,byP,byApp,byLen,bySeq,strMk];rw[hd];rfl
   ·rw[hr]at hd;simp only[vcA,seval,vV,byP,byApp,byLen,bySeq,strMk,w1];rw[hd];rfl
  have d3:¬(R:Int)=34:=by omega
  rw[if_neg r34]at hd;by_cases r92:R=92
  ·rw[if_pos r92]at hd;have d4:(R:Int)=92:=by omega
   obtain rfl:Z=1:=hlow (by omega);rw[List.drop_drop]at hd;by_cases hend:k+1=l.length
   ·rw[List.drop_eq_nil_of_le (by omega)]at hd;have d5:((k+1:Nat):Int)=(l.length:Int):=by omega
    simp only[vcA,seval,vV,byP,byApp,byLen,bySeq,strMk,d4,w1,d5];rw[hd];rfl
   have d5:¬((k+1:Nat):Int)=(l.length:Int):=by omega
   obtain⟨c,ec⟩:∃c,l[k+1]?=some c:=⟨_,List.getElem?_eq_getElem (by omega)⟩
   have hcons:l.drop (k+1)=c::l.drop (k+2):=by
    rw[List.drop_eq_getElem_cons (by omega)];congr 1;rw[List.getElem?_eq_getElem (by omega)]at ec;exact Option.some.inj ec
   rw[hcons]at hd;simp only[]at hd;have w2:IntKind.i64.wrap (((k+1:Nat):Int)+((1:Nat):Int))=((k+2:Nat):Int):=by rw[wrap64 (by omega) (by omega)];omega
   have tk2:List.take (k+2-(k+1)) (c::l.drop (k+2))=[c]:=by rw[show k+2-(k+1)=1 by omega];rfl
   have g1:k+1≤k+2:=by omega
   have g2:k+2≤l.length:=by omega
   by_cases hc:c.toNat=34∨c.toNat=92
   ·rw[if_pos hc]at hd;by_cases c34:c.toNat=34
    ·have d6:(c.toNat:Int)=34:=by omega
     simp only[vcA,Nat.reduceLT,Int.reduceEq,Int.reduceAdd,Int.reduceSub,Nat.reduceBEq,Nat.reduceEqDiff,reduceCtorEq,Nat.reduceAdd,Nat.reduceSub,Nat.reduceMul,Nat.reduceLeDiff,Int.reduceToNat,Int.reduceLT,Int.reduceLE,Int.reduceNeg,reduceIte,vV,byP,byApp,byLen,bySeq,strMk,d4,w1,d5,ec,d6,w2,hcons,tk2,g1,g2];refine⟨⟨by omega,by omega⟩,z10 ⟨(k+2,t++[c],f'),g2,by show 1≤k+2;omega,by show(t++[c]).length≤70;simp;omega,by show l.length≤f'+(k+2);omega,hd⟩ (by show l.length-(k+2)<l.length-k;omega) ?_⟩;apply lw_of<;>simp[leL,lk,sv,Nat.beq,I,S,ES.kill,has,drp,nilT]
    ·have d6:¬(c.toNat:Int)=34:=by omega
     have d7:(c.toNat:Int)=92:=by omega
     simp only[vcA,Nat.reduceLT,Int.reduceEq,Int.reduceAdd,Int.reduceSub,Nat.reduceBEq,Nat.reduceEqDiff,reduceCtorEq,Nat.reduceAdd,Nat.reduceSub,Nat.reduceMul,Nat.reduceLeDiff,Int.reduceToNat,Int.reduceLT,Int.reduceLE,Int.reduceNeg,reduceIte,vV,byP,byApp,byLen,bySeq,strMk,d4,w1,d5,ec,d6,d7,w2,hcons,tk2,g1,g2];refine⟨⟨by omega,by omega⟩,z10 ⟨(k+2,t++[c],f'),g2,by show 1≤k+2;omega,by show(t++[c]).length≤70;simp;omega,by show l.length≤f'+(k+2);omega,hd⟩ (by show l.length-(k+2)<l.length-k;omega) ?_⟩;apply lw_of<;>simp[leL,lk,sv,Nat.beq,I,S,ES.kill,has,drp,nilT]
   ·rw[if_neg hc]at hd;have d6:¬(c.toNat:Int)=34:=by omega
    have d7:¬(c.toNat:Int)=92:=by omega
    simp only[vcA,seval,vV,byP,byApp,byLen,bySeq,strMk,d4,w1,d5,ec,d6,d7];rw[hd];rfl
  ·rw[if_neg r92,List.drop_drop]at hd;have d4:¬(R:Int)=92:=by omega
   have w2:IntKind.i64.wrap ((k:Int)+(Z:Int))=((k+Z:Nat):Int):=by rw[wrap64 (by omega) (by omega)];omega
   have tk2:List.take (k+Z-k) (l.drop k)=(l.drop k).take Z:=by rw[show k+Z-k=Z by omega]
   have g1:k≤k+Z:=by omega
   have g2:k+Z≤l.length:=by omega
   have hlen:((l.drop k).take Z).length=Z:=by rw[List.length_take,List.length_drop];omega
   generalize(l.drop k).take Z=u at*;simp only[vcA,seval,vV,byP,byApp,byLen,bySeq,strMk,d3,d4,w2,tk2,g1,g2,hlen];refine⟨⟨by omega,by omega⟩,z10 ⟨(k+Z,t++u,f'),g2,by show 1≤k+Z;omega,by show(t++u).length≤70;rw[List.length_append,hlen];omega,by show l.length≤f'+(k+Z);omega,hd⟩ (by show l.length-(k+Z)<l.length-k;omega) ?_⟩;apply lw_of<;>simp[leL,lk,sv,Nat.beq,I,S,ES.kill,has,drp,nilT,hlen]
 ·have d1:¬(k:Int)<(l.length:Int):=by omega
  rw[List.drop_eq_nil_of_le (by omega),quoGo_nil]at hd;simp only[vcA,seval,vV,byP,byApp,byLen,bySeq,strMk,d1];rw[hd];rfl
theorem numGo_le(neg:Bool)(lo hi:Int):∀(l:List UInt8) (n best:Int) (size k:Nat),(numGo neg lo hi l n best size k).2≤max size (k+l.length)
 |[],n,best,size,k=>by simp[numGo];omega
 |c::r,n,best,size,k=>by
  have h1:=numGo_le neg lo hi r (10*n+(c.toNat-48:Int)) (if neg then -(10*n+(c.toNat-48:Int))else 10*n+(c.toNat-48:Int)) (k+1) (k+1);have h2:=numGo_le neg lo hi r (10*n+(c.toNat-48:Int)) best size (k+1);rw[numGo];simp only[List.length_cons];by_cases q1:c.toNat<48∨57<c.toNat
  ·rw[if_pos q1];show size≤_;omega
  rw[if_neg q1];by_cases q2:1000000000000000<10*n+(c.toNat-48:Int)∨(neg=true∧10*n+(c.toNat-48:Int)=0)
  ·rw[if_pos q2];show size≤_;omega
  rw[if_neg q2];generalize(if neg then -(10*n+(c.toNat-48:Int))else 10*n+(c.toNat-48:Int))=v at*;by_cases q3:lo≤v∧v≤hi
  ·rw[if_pos q3];by_cases q4:10*n+(c.toNat-48:Int)=0
   ·rw[if_pos q4];show k+1≤_;omega
   ·rw[if_neg q4];omega
  ·rw[if_neg q3];by_cases q4:10*n+(c.toNat-48:Int)=0
   ·rw[if_pos q4];show size≤_;omega
   ·rw[if_neg q4];omega
theorem z62{l:List UInt8}(h:firstR l≠0):1≤l.length:=by
 cases l with
 |nil=>exact absurd rfl h
 |cons b t=>simp
theorem numV_le(lo hi:Int)(l:List UInt8):(numV lo hi l).2≤l.length:=by
 unfold numV;by_cases h:firstR l=45
 ·rw[if_pos h];have:=numGo_le true lo hi (l.drop 1) 0 0 0 1;have:=z62 (l:=l) (by omega);rw[List.length_drop]at*;omega
 ·rw[if_neg h];have:=numGo_le false lo hi l 0 0 0 0;omega
theorem quoGo_le:∀(f:Nat) (r t:List UInt8) (k:Nat),(quoGo f r t k).2≤k+r.length
 |0,r,t,k=>by simp[quoGo]
 |f+1,r,t,k=>by
  rw[quoGo];by_cases q1:r=[]∨60<t.length
  ·rw[if_pos q1];simp
  rw[if_neg q1];have hne:r≠[]:=fun h=>q1 (.inl h);have hle:=Lib.decodeL_le r hne;have hpos:0<r.length:=List.length_pos_iff.2 hne;by_cases q2:(Lib.decodeL r).1=34
  ·rw[if_pos q2];by_cases q3:z8 t=true
   ·rw[if_pos q3];show k+1≤_;omega
   ·rw[if_neg q3];simp
  rw[if_neg q2];by_cases q3:(Lib.decodeL r).1=92
  ·rw[if_pos q3];cases hr:r.drop 1 with
   |nil=>simp
   |cons c r'=>
    have hl:r.length=r'.length+2:=by
     have:=congrArg List.length hr;rw[List.length_drop,List.length_cons]at this;omega
    simp only[];by_cases q4:c.toNat=34∨c.toNat=92
    ·rw[if_pos q4];have:=quoGo_le f r' (t++[c]) (k+2);omega
    ·rw[if_neg q4];simp
  rw[if_neg q3];have:=quoGo_le f (r.drop (Lib.decodeL r).2) (t++r.take (Lib.decodeL r).2) (k+(Lib.decodeL r).2);rw[List.length_drop]at this;omega
def refV(l:List UInt8):Int×Nat:=if(numV (-20) 100000 (l.drop 1)).1=0 then(0,0)else((numV (-20) 100000 (l.drop 1)).1,(numV (-20) 100000 (l.drop 1)).2+1)
theorem reference_ok(m:Nat)(l:List UInt8)(hl:l.length<1125899906842624)(h1:1≤l.length):SCalls Tryz.prog (gl0 m) 130 [S (str l)] [] (.tuple [I (refV l).1,I ((refV l).2:Int)]) []:=by
 refine z7 hmix tf_108 rfl ?_;have HN:=vnumber_ok m (l.drop 1) (-20) 100000 (by simp;omega);have hz:=numV_le (-20) 100000 (l.drop 1);unfold refV;rw[List.length_drop]at hz;have tk:List.take (l.length-1) (l.drop 1)=l.drop 1:=List.take_of_length_le (by simp);simp only[vcA,seval,vV,h1,tk];(with_reducible apply v_call);simp only[vcA,seval,vV];rfl;rfl;exact HN;(first|rfl|(simp only[vcA,seval];omega));simp only[vcA,seval,vV];rfl;generalize numV (-20) 100000 (l.drop 1)=q at*;have w1:IntKind.i64.wrap ((q.2:Int)+1)=((q.2+1:Nat):Int):=by rw[wrap64 (by omega) (by omega)];omega
 by_cases h0:q.1=0
 ·rw[if_pos h0];simp only[vcA,seval,vV,h0];all_goals rfl
 ·rw[if_neg h0];simp only[vcA,seval,vV,h0,w1]
def i32(r:Int):TV:=.pv (.v (.int .i32 r))
def sgnS(r:Int)(l:List UInt8):Int:=if l≠[]∧firstR l=r then 1 else 0
theorem mkSign_ok(g:Sh.Glob)(r:Int):SCalls Tryz.prog g 132 [i32 r] [] (.fn (.func 183) [] [.ptr 1000 0]) [.box [i32 r]]:=by
 refine z15 hmix tf_112 rfl rfl rfl ?_;simp only[vcA,seval,vV,i32]
theorem sign1_ok(m:Nat)(l:List UInt8)(r:Int):SCalls Tryz.prog (gl0 m) 183 [S (str l),.ptr 1000 0] [.box [i32 r]] (.tuple [nv V.nil,I (sgnS r l)]) [.box [i32 r]]:=by
 refine z15 hmix tf_113 rfl rfl rfl ?_;have HF:=first_ok m l;have e0:(⟨#[]⟩:ByteArray)=str []:=rfl;unfold sgnS;cases l with
 |nil=>
  simp only[vcA,seval,vV,e0,i32,V.nil]
 |cons b t=>
  have hn:((b::t)==([]:List UInt8))=false:=rfl;simp only[vcA,seval,vV,e0,hn,i32,V.nil];(with_reducible apply v_call);simp only[vcA,seval,vV];rfl;rfl;exact HF;(first|rfl|(simp only[vcA,seval];omega));simp only[vcA,seval,vV];rfl;simp only[vcA,seval,vV];exact⟨fun h=>by rw[if_pos h];rfl,fun h=>by rw[if_neg h];rfl⟩
def partV(l:List UInt8):V×Nat:=
 if firstR l=34 then(.mk 2 0 (quoV l).1 [],(quoV l).2)
 else if firstR l=64 then(.mk 3 (refV l).1 [] [],(refV l).2)
 else if firstR l=126 then(.mk 4 (refV l).1 [] [],(refV l).2)
 else if firstR l=91 then(.mk 5 0 [] [],1)
 else if(numV (-1000000000000000) 1000000000000000 l).2=0 then(V.nil,if l≠[]∧firstR l=45 then 1 else 0)
 else(.mk 1 (numV (-1000000000000000) 1000000000000000 l).1 [] [],(numV (-1000000000000000) 1000000000000000 l).2)
theorem value_ok(m:Nat)(l:List UInt8)(hl:l.length<1125899906842624):SCalls Tryz.prog (gl0 m) 78 [S (str l)] [] (.tuple [nv (partV l).1,I ((partV l).2:Int)]) []:=by
 have HF:=first_ok m l;refine z7 hmix tf_114 rfl ?_;unfold partV;by_cases f34:firstR l=34
 ·have HQ:=quoted_ok m l hl (z62 (by omega));rw[if_pos f34];simp only[vcA,seval,vV];(with_reducible apply v_call);simp only[vcA,seval,vV];rfl;rfl;exact HF;(first|rfl|(simp only[vcA,seval];omega));simp only[vcA,seval,vV];rfl;simp only[vcA,seval,vV,f34];(with_reducible apply v_call);simp only[vcA,seval,vV];rfl;rfl;exact HQ;(first|rfl|(simp only[vcA,seval];omega));simp only[vcA,seval,vV];rfl;simp only[vcA,seval,vV]
 rw[if_neg f34];by_cases f64:firstR l=64
 ·have HQ:=reference_ok m l hl (z62 (by omega));rw[if_pos f64];simp only[vcA,seval,vV];(with_reducible apply v_call);simp only[vcA,seval,vV];rfl;rfl;exact HF;(first|rfl|(simp only[vcA,seval];omega));simp only[vcA,seval,vV];rfl;simp only[vcA,seval,vV,f64];(with_reducible apply v_call);simp only[vcA,seval,vV];rfl;rfl;exact HQ;(first|rfl|(simp only[vcA,seval];omega));simp only[vcA,seval,vV];rfl;simp only[vcA,seval,vV];rfl
 rw[if_neg f64];by_cases f126:firstR l=126
 ·have HQ:=reference_ok m l hl (z62 (by omega));rw[if_pos f126];simp only[vcA,seval,vV];(with_reducible apply v_call);simp only[vcA,seval,vV];rfl;rfl;exact HF;(first|rfl|(simp only[vcA,seval];omega));simp only[vcA,seval,vV];rfl;simp only[vcA,seval,vV,f126];(with_reducible apply v_call);simp only[vcA,seval,vV];rfl;rfl;exact HQ;(first|rfl|(simp only[vcA,seval];omega));simp only[vcA,seval,vV];rfl;simp only[vcA,seval,vV];rfl
 rw[if_neg f126];by_cases f91:firstR l=91
 ·rw[if_pos f91];simp only[vcA,seval,vV];(with_reducible apply v_call);simp only[vcA,seval,vV];rfl;rfl;exact HF;(first|rfl|(simp only[vcA,seval];omega));simp only[vcA,seval,vV];rfl;simp only[vcA,seval,vV,f91];rfl
 rw[if_neg f91];have HN:=vnumber_ok m l (-1000000000000000) 1000000000000000 (by omega);generalize numV (-1000000000000000) 1000000000000000 l=q at*;by_cases h0:q.2=0
 ·have d0:(q.2:Int)=0:=by omega
  have HM:=mkSign_ok (gl0 m) 45;have HS:=sign1_ok m l 45;rw[if_pos h0];unfold i32 at HM HS;simp only[vcA,seval,vV];(with_reducible apply v_call);simp only[vcA,seval,vV];rfl;rfl;exact HF;(first|rfl|(simp only[vcA,seval];omega));simp only[vcA,seval,vV];rfl;simp only[vcA,seval,vV,f34,f64,f126,f91];(with_reducible apply v_call);simp only[vcA,seval,vV];rfl;rfl;exact HN;(first|rfl|(simp only[vcA,seval];omega));simp only[vcA,seval,vV];rfl;simp only[vcA,seval,vV,d0];(with_reducible apply v_call);simp only[vcA,seval,vV];rfl;rfl;exact HM;(first|rfl|(simp only[vcA,seval];omega));simp only[vcA,seval,vV];rfl;simp only[vcA,seval,vV];unfold nv V.nil at HS;have hsg:sgnS 45 l=((if ¬l=[]∧firstR l=45 then 1 else 0:Nat):Int):=by unfold sgnS;split<;>rfl
  rw[hsg]at HS;(with_reducible apply z22);simp only[vcA,seval,vV];rfl;exact HS;rfl;simp only[vcA,seval,vV];rfl;simp only[vcA,seval,vV];rfl
 ·have d0:¬(q.2:Int)=0:=by omega
  rw[if_neg h0];simp only[vcA,seval,vV];(with_reducible apply v_call);simp only[vcA,seval,vV];rfl;rfl;exact HF;(first|rfl|(simp only[vcA,seval];omega));simp only[vcA,seval,vV];rfl;simp only[vcA,seval,vV,f34,f64,f126,f91];(with_reducible apply v_call);simp only[vcA,seval,vV];rfl;rfl;exact HN;(first|rfl|(simp only[vcA,seval];omega));simp only[vcA,seval,vV];rfl;simp only[vcA,seval,vV,d0];rfl
theorem reader_ok(g:Sh.Glob)(l:List UInt8)(a:Int):SCalls Tryz.prog g 77 [S (str l),I a] [] (.fn (.func 127) [] [.ptr 1000 0,.ptr 1001 0]) [.box [S (str l)],.box [I a]]:=by
 refine z15 hmix tf_106 rfl rfl rfl ?_;simp only[vcA,seval,vV]
theorem partV_le(l:List UInt8):(partV l).2≤l.length:=by
 have href:1≤l.length→(refV l).2≤l.length:=by
  intro h1;have:=numV_le (-20) 100000 (l.drop 1);rw[List.length_drop]at this;unfold refV;split
  ·simp
  ·show _+1≤_;omega
 unfold partV;by_cases f34:firstR l=34
 ·rw[if_pos f34];have h1:=z62 (l:=l) (by omega);have:=quoGo_le l.length (l.drop 1) [] 1;rw[List.length_drop]at this;show(quoV l).2≤_;unfold quoV;omega
 rw[if_neg f34];by_cases f64:firstR l=64
 ·rw[if_pos f64];exact href (z62 (by omega))
 rw[if_neg f64];by_cases f126:firstR l=126
 ·rw[if_pos f126];exact href (z62 (by omega))
 rw[if_neg f126];by_cases f91:firstR l=91
 ·rw[if_pos f91];exact z62 (by omega)
 rw[if_neg f91];have hn:=numV_le (-1000000000000000) 1000000000000000 l;by_cases h0:(numV (-1000000000000000) 1000000000000000 l).2=0
 ·rw[if_pos h0];show(if l≠[]∧firstR l=45 then 1 else 0)≤l.length;split
  ·rename_i h;exact z62 (by omega)
  ·simp
 ·rw[if_neg h0];exact hn
theorem takeV_ok(m:Nat)(l:List UInt8)(a:Nat)(hl:l.length<1125899906842624)(ha:a≤l.length):
  SCalls Tryz.prog (gl0 m) 127 [.pv (.v (.func (.func 78) #[] #[])),.ptr 1000 0,.ptr 1001 0] [.box [S (str l)],.box [I (a:Int)]]
   (.tuple [nv (partV (l.drop a)).1,I ((a+(partV (l.drop a)).2:Nat):Int),.pv (.v (.bool (decide (0<((partV (l.drop a)).2:Int)))))]) [.box [S (str l)],.box [I ((a+(partV (l.drop a)).2:Nat):Int)]]:=by
 have HV:=value_ok m (l.drop a) (by rw[List.length_drop];omega);have hle:=partV_le (l.drop a);rw[List.length_drop]at hle;generalize partV (l.drop a)=q at*;have tk:List.take (l.length-a) (l.drop a)=l.drop a:=List.take_of_length_le (by simp);have w1:IntKind.i64.wrap ((a:Int)+(q.2:Int))=((a+q.2:Nat):Int):=by rw[wrap64 (by omega) (by omega)];omega
 refine z15 hmix tf_107 rfl rfl rfl ?_;simp only[vcA,seval,vV,ha,tk];(with_reducible apply z22);simp only[vcA,seval,vV];rfl;exact HV;rfl;simp only[vcA,seval,vV];rfl;simp only[vcA,seval,vV,w1]
theorem partV_l(l:List UInt8):(partV l).1.l=[]:=by
 unfold partV;(repeat' split)<;>rfl
theorem wk_tuple3{a b c d:TV}(h:Wk a b):Wk (.tuple [a,c,d]) (.tuple [b,c,d]):=by
 intro w E r v hr;cases hr with
 |tuple cs vs hl hv=>
  refine .tuple _ vs (by simpa using hl) (fun j x v hd hv'=> ?_)
  match j with
  |0=>simp at hd;subst hd;exact h w E r v (hv 0 _ v rfl hv')
  |1=>simp at hd;subst hd;exact hv 1 _ v rfl hv'
  |2=>simp at hd;subst hd;exact hv 2 _ v rfl hv'
  |j+3=>simp at hd
theorem read1_ok(m:Nat)(l:List UInt8)(a:Nat)(hl:l.length<1125899906842624)(ha:a≤l.length)(h0:(partV (l.drop a)).2≠0)(hk:(partV (l.drop a)).1.k≠5):
  SCalls Tryz.prog (gl0 m) 26 [S (str l),I (a:Int)] [] (.tuple [tv (partV (l.drop a)).1,I ((a+(partV (l.drop a)).2:Nat):Int),I 0]) []:=by
 have HR:=reader_ok (gl0 m) l a;have HT:=takeV_ok m l a hl ha;have hle:=partV_le (l.drop a);have hnl:=partV_l (l.drop a);rw[List.length_drop]at hle;have l1:¬(a:Int)<0:=by omega
 have l2:¬(l.length:Int)<(a:Int):=by omega
 generalize partV (l.drop a)=q at*;have d1:(0:Int)<(q.2:Int):=by omega
 refine SCalls.out ?_ (wk_tuple3 (nv_tv hnl));refine z7 hmix tf_96 rfl ?_;simp only[vcA,seval,vV,l1,l2];(with_reducible apply v_call);simp only[vcA,seval,vV];rfl;rfl;exact HR;(first|rfl|(simp only[vcA,seval];omega));simp only[vcA,seval,vV];rfl;simp only[vcA,seval,vV];(with_reducible apply z22);simp only[vcA,seval,vV];rfl;exact HT;rfl;simp only[vcA,seval,vV];rfl;simp only[vcA,seval,vV,d1,hk]
end Go.Proofs.YtmiokadmddjccaaGreatDoor
end

section
namespace Go.Proofs.YtmiokadmddjccaaGreatDoor
open Go Go.Mor
def NoDigit(l:List UInt8):Prop:=∀c r,l=c::r→c.toNat<48∨57<c.toNat
theorem numGo_end(neg:Bool)(lo hi:Int){l:List UInt8}(h:NoDigit l)(n best:Int)(size k:Nat):numGo neg lo hi l n best size k=(best,size):=by
 cases l with
 |nil=>rfl
 |cons c r=>rw[numGo,if_pos (h c r rfl)]
def sv_(neg:Bool)(n:Int):Int:=if neg then -n else n
theorem numGo_step(neg:Bool)(lo hi:Int)(d:Nat)(hd:d<10)(r:List UInt8)(n best:Int)(size k:Nat)(h0:0≤n)(hx0:0<10*n+d)(hx1:10*n+d≤1000000000000000):
  ∃b s,numGo neg lo hi (UInt8.ofNat (48+d)::r) n best size k=numGo neg lo hi r (10*n+d) b s (k+1)∧(lo≤sv_ neg (10*n+d)→sv_ neg (10*n+d)≤hi→b=sv_ neg (10*n+d)∧s=k+1):=by
 have hc:(UInt8.ofNat (48+d)).toNat=48+d:=by rw[UInt8.toNat_ofNat'];omega
 have hx:10*n+((UInt8.ofNat (48+d)).toNat-48:Int)=10*n+d:=by rw[hc];omega
 rw[numGo,hx,if_neg (by rw[hc];omega),if_neg (by omega)];have hv:(if neg then -(10*n+(d:Int))else 10*n+d)=sv_ neg (10*n+d):=rfl;rw[hv];by_cases q:lo≤sv_ neg (10*n+d)∧sv_ neg (10*n+d)≤hi
 ·rw[if_pos q,if_neg (by omega)];exact⟨_,_,rfl,fun _ _=>⟨rfl,rfl⟩⟩
 ·rw[if_neg q,if_neg (by omega)];exact⟨_,_,rfl,fun h1 h2=>absurd ⟨h1,h2⟩ q⟩
theorem numGo_digits(neg:Bool)(lo hi:Int):∀(m:Nat),0<m→m≤1000000000000000→∀(r:List UInt8) (best:Int) (size k:Nat),
  ∃b s,numGo neg lo hi (Lib.decDigits m++r) 0 best size k=numGo neg lo hi r m b s (k+(Lib.decDigits m).length)∧(lo≤sv_ neg m→sv_ neg m≤hi→b=sv_ neg m∧s=k+(Lib.decDigits m).length):=by
 intro m
 induction m using Nat.strongRecOn with
 |_ m ih=>
  intro h0 h1 r best size k;by_cases hm:m<10
  ·rw[Lib.decDigits_one hm];obtain⟨b,s,e,hb⟩:=numGo_step neg lo hi m hm r 0 best size k (by omega) (by omega) (by omega);refine⟨b,s,?_,?_⟩
   ·simpa using e
   ·simpa using hb
  ·have e0:Lib.decDigits m=Lib.decDigits (m / 10)++[UInt8.ofNat (48+m%10)]:=by rw[Lib.decDigits,dif_neg hm]
   obtain⟨b1,s1,e1,_⟩:=ih (m / 10) (by omega) (by omega) (by omega) (UInt8.ofNat (48+m%10)::r) best size k;have hmm:10*((m / 10:Nat):Int)+((m%10:Nat):Int)=(m:Int):=by omega
   obtain⟨b,s,e2,hb⟩:=numGo_step neg lo hi (m%10) (by omega) r ((m / 10:Nat):Int) b1 s1 (k+(Lib.decDigits (m / 10)).length) (by omega) (by rw[hmm];omega) (by rw[hmm];omega);rw[hmm]at e2 hb;have hlen:k+(Lib.decDigits m).length=k+(Lib.decDigits (m / 10)).length+1:=by rw[e0];simp;omega
   refine⟨b,s,?_,?_⟩
   ·rw[hlen,←e2,←e1,e0];simp
   ·rw[hlen];exact hb
theorem z140(m:Nat):∃c r,Lib.decDigits m=c::r∧48≤c.toNat∧c.toNat≤57:=by
 induction m using Nat.strongRecOn with
 |_ m ih=>
  by_cases hm:m<10
  ·refine⟨UInt8.ofNat (48+m),[],Lib.decDigits_one hm,?_⟩;rw[UInt8.toNat_ofNat'];omega
  ·obtain⟨c,r,h1,h2⟩:=ih (m / 10) (by omega);exact⟨c,r++[UInt8.ofNat (48+m%10)],by rw[Lib.decDigits,dif_neg hm,h1];rfl,h2⟩
theorem z156{b:UInt8}{t:List UInt8}(h:b.toNat<128):firstR (b::t)=b.toNat:=by
 unfold firstR;rw[if_neg (by simp),decodeGo_L (by simp),Lib.decodeL_ascii b t h]
theorem numV_itoa{lo hi n:Int}(h1:lo≤n)(h2:n≤hi)(ha: -1000000000000000≤n)(hb:n≤1000000000000000){r:List UInt8}(hr:NoDigit r):numV lo hi (Lib.itoa n++r)=(n,(Lib.itoa n).length):=by
 unfold Lib.itoa;by_cases hn:n<0
 ·rw[if_pos hn];unfold numV;rw[List.cons_append,if_pos (by rw[z156 (by decide)];rfl)];obtain⟨b,s,e,hbs⟩:=numGo_digits true lo hi n.natAbs (by omega) (by omega) r 0 0 1;have hv:sv_ true (n.natAbs:Int)=n:=by show -(n.natAbs:Int)=n;omega
  rw[hv]at hbs;obtain⟨eb,es⟩:=hbs h1 h2;rw[show(45::(Lib.decDigits n.natAbs++r)).drop 1=Lib.decDigits n.natAbs++r from rfl,e,numGo_end _ _ _ hr,eb,es,List.length_cons,Nat.add_comm]
 ·rw[if_neg hn];obtain⟨c,t,hc,hc1,hc2⟩:=z140 n.toNat;unfold numV;rw[if_neg (by rw[hc,List.cons_append,z156 (by omega)];omega)];by_cases hz:n=0
  ·subst hz;rw[show(0:Int).toNat=0 from rfl,Lib.decDigits_one (by decide),List.singleton_append,numGo];simp[UInt8.toNat_ofNat'];omega
  ·obtain⟨b,s,e,hbs⟩:=numGo_digits false lo hi n.toNat (by omega) (by omega) r 0 0 0;have hv:sv_ false (n.toNat:Int)=n:=by show(n.toNat:Int)=n;omega
   rw[hv]at hbs;obtain⟨eb,es⟩:=hbs h1 h2;rw[e,numGo_end _ _ _ hr,eb,es,Nat.zero_add]
end Go.Proofs.YtmiokadmddjccaaGreatDoor
end

section
namespace Go.Proofs.YtmiokadmddjccaaGreatDoor
open Go Go.RowKit Go.Mor Go.Sh Go.Sh.Cd1 Go.Sh.Cd6
set_option maxRecDepth 100000
set_option maxHeartbeats 8000000
theorem itoa_pos(n:Int):0<(Lib.itoa n).length:=by
 unfold Lib.itoa;obtain⟨c,r,e,_⟩:=z140 n.toNat;split
 ·simp
 ·rw[e];simp
theorem partV_itoa{n:Int}(h:Rg n):partV (Lib.itoa n)=(.mk 1 n [] [],(Lib.itoa n).length):=by
 obtain⟨h0,h1⟩:=h;have hN:=numV_itoa (lo:= -1000000000000000) (hi:=1000000000000000) h0 h1 h0 h1 (r:=[]) (by intro c r e;cases e);rw[List.append_nil]at hN;have hne:=itoa_pos n;have hf:firstR (Lib.itoa n)=45∨(48≤firstR (Lib.itoa n)∧firstR (Lib.itoa n)≤57):=by
  unfold Lib.itoa;split
  ·left;rw[z156 (by decide)];rfl
  ·right;obtain⟨c,r,e,h2,h3⟩:=z140 n.toNat;rw[e,z156 (by omega)];omega
 unfold partV;rw[if_neg (by omega),if_neg (by omega),if_neg (by omega),if_neg (by omega),hN,if_neg (by show ¬(Lib.itoa n).length=0;omega)]
theorem cutA_p:parseV 60 [110,117,109,40,116,101,120,116,40,110,41,41]=some (Go.Mor.eC nNum [Go.Mor.eC nText [fn']],0,0):=by kernel_rfl
theorem cutB_p:parseV 60 [110,117,109,40,116,101,120,116,40,110,41,32,38,32,34,120,34,41]=some (Go.Mor.eC nNum [eO [38] (Go.Mor.eC nText [fn']) (eT [120])],0,0):=by kernel_rfl
theorem cutC_p:parseV 60 [116,32,38,32,40,116,32,38,32,40,116,32,38,32,116,41,41]=some (eO [38] ft' (eO [38] ft' (eO [38] ft' ft')),0,0):=by kernel_rfl
theorem evalCut_ok(m:Nat)(a:Int)(s:List UInt8)(ha:I64 a)(hs:s.length≤9223372036854775807):SCalls Tryz.prog (glE m) 12 [I a,S (str s)] [] (B true) []:=by
 have HA:=awake_ok m;have HO:=valOne_ok (glE m) 1 0 a [] ha (by simp);obtain⟨x,hx,rx⟩:=valOne_num ha;rw[hx]at HO;have HV:=valText_ok (glE m) s hs;obtain⟨lt,_⟩:=z95 s;have rt:=z159 s;obtain⟨gs,hg,ht,_⟩:=z103 rt;rw[←ht]at HV lt rt;clear ht;have A1:=isL_ok m cutA_p rx rt (by kernel_rfl) (.mk 1 x [] []) (cut_back rx) rfl;have A2:=isL_ok m cutB_p rx rt (by kernel_rfl) (.mk 1 0 [] []) (cut_none rx) rfl;have A3:=worthL_ok m cutC_p rx rt (by kernel_rfl);rw[cut_long hg lt]at A3;have hG:Txt (gs++(gs++(gs++gs))):=hg.app (hg.app (hg.app hg));have eG:(gs++(gs++(gs++gs))).flatten=gs.flatten++gs.flatten++gs.flatten++gs.flatten:=by simp
 obtain⟨k,c1,c2,c3,c4⟩:=cut_all hG;rw[c1]at A3;generalize gs++(gs++(gs++gs))=G at*;have hsp:(G.take k).flatten++(G.drop k).flatten=gs.flatten++gs.flatten++gs.flatten++gs.flatten:=by rw[←List.flatten_append,List.take_append_drop,eG]
 have rc:=txt_right (hG.take k) c3;have HS:=sign_ok (glE m) (G.drop k).flatten;have c5:(G.drop k).flatten=[]∨60<((G.take k).flatten.length:Int)+(signL (G.drop k).flatten:Int):=by
  rcases c4 with rfl|c4
  ·left;rw[List.drop_length];rfl
  ·right;by_cases hk:k<G.length
   ·have hdr:G.drop k=G[k]::G.drop (k+1):=List.drop_eq_getElem_cons hk;rw[hdr,List.flatten_cons,signL_sgn (hG _ (List.getElem_mem hk))];rw[List.take_add_one,List.getElem?_eq_getElem hk,List.flatten_append,List.length_append]at c4;have e3:((some G[k]).toList:List (List UInt8)).flatten.length=G[k].length:=by simp
    rw[e3]at c4;omega
   ·rw[List.take_of_length_le (by omega)]at c4;rw[List.take_of_length_le (by omega)]at c3;omega
 have HR:=sc_0E (rightV_ok0 m (.mk 2 0 (G.take k).flatten []) ⟨by unfold z78;simp only[Vs];omega,by simp[Vl]⟩);rw[fits_right (z87 rc)]at HR;generalize(G.take k).flatten=c at*;generalize(G.drop k).flatten=r at*;generalize gs.flatten=t at*;have hD:=refDigits_ok (glE m) x rx.1 rx.2;have l1:=z100 rx;have hp:=partV_itoa rx;have HN:=sc_0E (read1_ok m (120::Lib.itoa x) 1 (by simp;omega) (by simp) (by show(partV (Lib.itoa x)).2≠0;rw[hp];have:=itoa_pos x;show(Lib.itoa x).length≠0;omega) (by show(partV (Lib.itoa x)).1.k≠5;rw[hp];show(1:Int)≠5;decide));rw[show(120::Lib.itoa x).drop 1=Lib.itoa x from rfl,hp]at HN;have HC:=sample_ok (glE m);have HF:=refField_ok (glE m) sCls [110] (by decide);rw[show fieldT sCls.fs [110]=.tuple [I 0,B true] from rfl]at HF;have N0:=num6_ok (glE m) 0;have N1:=num6_ok (glE m) x;have q0:(⟨#[110,117,109,40,116,101,120,116,40,110,41,41]⟩:ByteArray)=str [110,117,109,40,116,101,120,116,40,110,41,41]:=rfl;have q1:(⟨#[110,117,109,40,116,101,120,116,40,110,41,32,38,32,34,120,34,41]⟩:ByteArray)=str [110,117,109,40,116,101,120,116,40,110,41,32,38,32,34,120,34,41]:=rfl
 have q2:(⟨#[116,32,38,32,40,116,32,38,32,40,116,32,38,32,116,41,41]⟩:ByteArray)=str [116,32,38,32,40,116,32,38,32,40,116,32,38,32,116,41,41]:=rfl;have q3:(⟨#[120]⟩:ByteArray)=str [120]:=rfl;have q4:(⟨#[110]⟩:ByteArray)=str [110]:=rfl;have hdt:=str_dropX (t++t++t++t) c.length;have hdt2:(t++t++t++t).drop c.length=r:=by rw[←hsp,List.drop_left]
 have htk:(t++t++t++t).take c.length=c:=by rw[←hsp,List.take_left]
 have hle:c.length+r.length=t.length+t.length+t.length+t.length:=by have:=congrArg List.length hsp;simpa only[List.length_append]using this
 rw[hdt2]at hdt;generalize Lib.itoa x=u at*;refine z7 hmix tf_65 rfl ?_;unfold B nv tv clT at*;simp only[vcA,seval,vV,cmV];(with_reducible apply v_call);simp only[vcA,seval,vV,cmV];rfl;rfl;exact HA;(first|rfl|(simp only[vcA,seval];omega));simp only[vcA,seval,vV,cmV];rfl;simp only[vcA,seval,vV,cmV];(with_reducible apply v_call);simp only[vcA,seval,vV,cmV];rfl;rfl;exact HO;(first|rfl|(simp only[vcA,seval];omega));simp only[vcA,seval,vV,cmV];rfl;simp only[vcA,seval,vV,cmV];(with_reducible apply v_call);simp only[vcA,seval,vV,cmV];rfl;rfl;exact HV;(first|rfl|(simp only[vcA,seval];omega));simp only[vcA,seval,vV,cmV];rfl;simp only[vcA,seval,vV,cmV,q0];(with_reducible apply v_call);simp only[vcA,seval,vV,cmV];rfl;rfl;exact N1;(first|rfl|(simp only[vcA,seval];omega));simp only[vcA,seval,vV,cmV];rfl;(with_reducible apply v_call);simp only[vcA,seval,vV,cmV];rfl;rfl;exact A1;(first|rfl|(simp only[vcA,seval];omega));simp only[vcA,seval,vV,cmV];rfl;simp only[vcA,seval,vV,cmV,q1];(with_reducible apply v_call);simp only[vcA,seval,vV,cmV];rfl;rfl;exact N0;(first|rfl|(simp only[vcA,seval];omega));simp only[vcA,seval,vV,cmV];rfl
 (with_reducible apply v_call);simp only[vcA,seval,vV,cmV];rfl;rfl;exact A2;(first|rfl|(simp only[vcA,seval];omega));simp only[vcA,seval,vV,cmV];rfl;simp only[vcA,seval,vV,cmV,q2];(with_reducible apply v_call);simp only[vcA,seval,vV,cmV];rfl;rfl;exact A3;(first|rfl|(simp only[vcA,seval];omega));simp only[vcA,seval,vV,cmV];rfl;have d1:¬(60:Int)<(c.length:Int):=by omega
 have d2:¬((t.length+t.length+t.length+t.length:Nat):Int)<(c.length:Int):=by omega
 have d3:(List.take c.length (t++t++t++t)==c)=true:=by rw[htk,beq_self_eq_true]
 have d4:List.take (t.length+t.length+t.length+t.length-c.length) (List.drop c.length (t++t++t++t))=r:=by rw[hdt2,List.take_of_length_le (by omega)]
 have w1:IntKind.i64.wrap (((t.length+t.length+t.length+t.length:Nat):Int) - (c.length:Int))=(r.length:Int):=by rw[wrap64 (by omega) (by omega)];omega
 have d5:max ((signL r:Nat):Int) 0=(signL r:Int):=by omega
 simp only[vcA,seval,vV,cmV,d1,d2,d3,d4,w1];refine⟨by omega,by omega,by omega,⟨by omega,by omega⟩,by omega,?_⟩;(with_reducible apply v_call);simp only[vcA,seval,vV,cmV];rfl;rfl;exact HS;(first|rfl|(simp only[vcA,seval];omega));simp only[vcA,seval,vV,cmV];rfl;simp only[vcA,seval,vV,cmV,d5];(with_reducible apply v_call);simp only[vcA,seval,vV,cmV];rfl;rfl;exact HR;(first|rfl|(simp only[vcA,seval];omega));simp only[vcA,seval,vV,cmV];rfl;simp only[vcA,seval,vV,cmV];(with_reducible apply v_call);simp only[vcA,seval,vV,cmV];rfl;rfl;exact hD;(first|rfl|(simp only[vcA,seval];omega));simp only[vcA,seval,vV,cmV];rfl;simp only[vcA,seval,vV,cmV,q3];refine⟨by omega,?_⟩;(with_reducible apply v_call);simp only[vcA,seval,vV,cmV];rfl;rfl;exact HN;(first|rfl|(simp only[vcA,seval];omega));simp only[vcA,seval,vV,cmV];rfl;simp only[vcA,seval,vV,cmV,q4];(with_reducible apply v_call);simp only[vcA,seval,vV,cmV];rfl;rfl;exact HC;(first|rfl|(simp only[vcA,seval];omega));simp only[vcA,seval,vV,cmV];rfl;(with_reducible apply v_call);simp only[vcA,seval,vV,cmV];rfl;rfl;exact HF;(first|rfl|(simp only[vcA,seval];omega));simp only[vcA,seval,vV,cmV];rfl;simp only[vcA,seval,vV,cmV]
 refine⟨fun _=>trivial,fun h=>⟨fun _=>trivial,fun h2=>absurd ?_ h2⟩⟩;rcases c5 with rfl|c5
 ·exact absurd rfl h
 ·have h3:=(signL_le r).1;rw[wrap64 (by omega) (by omega)];exact c5
end Go.Proofs.YtmiokadmddjccaaGreatDoor
end
