/- Merged texts: Cd1. No statement of the program is proved here. -/
import Derived.Test.YtcpaleaajdilgaaGreatDoorQ12
import Derived.KernelRfl
set_option linter.unusedSimpArgs false
set_option linter.unusedVariables false
set_option maxRecDepth 100000
set_option maxHeartbeats 8000000
section
namespace Go.Sh
abbrev oD(d:Nat)(x:SOp):SOper:=⟨some d,none,none,x⟩
abbrev oG(d g:Nat)(b:Bool)(x:SOp):SOper:=⟨some d,some (g,b),none,x⟩
abbrev oN(x:SOp):SOper:=⟨none,none,none,x⟩
abbrev vI(n:Int):Arg:=.val (.int .i64 n)
abbrev zV:List Value:=[.int .i64 0,.int .i64 0,.string ⟨#[]⟩,.slice none 0 0]
abbrev oM(d x:Nat):SOper:=⟨some d,none,none,.mov (.tmp x)⟩
abbrev oH(d g:Nat)(b:Bool)(x:Nat):SOper:=⟨some d,some (g,b),none,.mov (.tmp x)⟩
abbrev oP(d x y:Nat)(b:Bool):SOper:=⟨some d,none,none,.pick (.tmp x) (.tmp y) (.val (.bool b))⟩
abbrev oQ(d x y:Nat)(b:Bool):SOper:=⟨some d,none,none,.pick (.tmp x) (.val (.bool b)) (.tmp y)⟩
abbrev oL(d:Nat)(b:Bool)(n x:Nat):SOper:=⟨some d,none,none,.ld b n (.tmp x)⟩
def SCode.kl:SCode→List (List Nat)
  | .reg _ k=>[k]
  | .regq _ k=>[k]
  | .seq a b=>a.kl++b.kl
  | .cond _ a b=>a.kl++b.kl
  | .block _ a=>a.kl
  | .loop a=>a.kl
  |_=>[]
def klN:Nat→List (List Nat)→List (Nat×List Nat)
  |_,[]=>[]
  |n,k::r=>(n,k)::klN (n+1) r
end Go.Sh
namespace Go.Sh
abbrev kA(d o x:Nat):SOper:=⟨some d,none,none,.fldA o (.tmp x)⟩
abbrev kS(n x y:Nat):SOper:=⟨none,none,none,.st n (.tmp x) (.tmp y)⟩
abbrev kK(d:Nat)(o:BinOp)(t x:Nat)(n:Int):SOper:=⟨some d,none,none,.bin o t (.tmp x) (vI n)⟩
abbrev kB(d:Nat)(o:BinOp)(t x y:Nat):SOper:=⟨some d,none,none,.bin o t (.tmp x) (.tmp y)⟩
abbrev kT(d:Nat)(b:Bool):SOper:=⟨some d,none,none,.mov (.val (.bool b))⟩
abbrev kI(d:Nat)(n:Int):SOper:=⟨some d,none,none,.mov (vI n)⟩
abbrev kL(d g:Nat)(b a:Bool)(n x:Nat):SOper:=⟨some d,some (g,b),none,.ld a n (.tmp x)⟩
abbrev kF(d g:Nat)(b:Bool)(o x:Nat):SOper:=⟨some d,some (g,b),none,.fldA o (.tmp x)⟩
abbrev kG(d g:Nat)(b:Bool)(o:BinOp)(t x:Nat)(n:Int):SOper:=⟨some d,some (g,b),none,.bin o t (.tmp x) (vI n)⟩
abbrev kH(d g:Nat)(b:Bool)(o:BinOp)(t x y:Nat):SOper:=⟨some d,some (g,b),none,.bin o t (.tmp x) (.tmp y)⟩
abbrev kC(d f m x:Nat):SOper:=⟨some d,none,none,.call f m [.tmp x]⟩
abbrev kD(d f m x y:Nat):SOper:=⟨some d,none,none,.call f m [.tmp x,.tmp y]⟩
abbrev kE(d f m x y z:Nat):SOper:=⟨some d,none,none,.call f m [.tmp x,.tmp y,.tmp z]⟩
abbrev kX(d w x y:Nat):SOper:=⟨some d,none,none,.idxA w (.tmp x) (.tmp y)⟩
abbrev kY(d x i:Nat):SOper:=⟨some d,none,none,.ext (.tmp x) i⟩
abbrev kZ(d x:Nat):SOper:=⟨some d,none,none,.len (.tmp x)⟩
abbrev kO(d x:Nat):SOper:=⟨some d,none,none,.box (.tmp x)⟩
abbrev kN(d x:Nat):SOper:=⟨some d,none,none,.un .not (.tmp x)⟩
abbrev kQ(d x:Nat):SOper:=⟨some d,none,none,.nchk (.tmp x)⟩
abbrev kR(o:List SOper)(k:List Nat):SCode:=.reg [([],o)] k
abbrev kV(l:List Nat)(o:List SOper)(k:List Nat):SCode:=.reg [(l,o)] k
end Go.Sh
section
namespace Go.Sh
abbrev kU(n:Nat)(h:List (Nat×Nat))(f:List (Nat×List (List (Nat×Nat))))(F:SFunc):Prop:=z0e Go.Proofs.Tryz.prog n (z62 h) (fpT f) (z5l (klN 0 F.code.kl)) false=some F
end Go.Sh
end
namespace Go.Sh.Cd1
open Go Go.Sh
abbrev gQ(a:GA):Prop:=gT Go.Proofs.Tryz.prog a
theorem gK{a:GA}(h:gQ a:=by unfold gQ gT;kernel_rfl):gQ a:=h
theorem tf_162:gQ ⟨35,20,[],[],[[0],[3014],[1,15016],[1,15,17019]],[.cell true 4 2],false⟩:=gK
theorem tf_161:gQ ⟨48,76,[(73,1)],[],[[0,2],[3],[6],[1,4005,7013],[5,15],[1,4,14,16027],[14,29],[1,4,28,30043],[28,45],[46],[1,4,44,47053],[4,44,55],[1,54,56075],[1,54]],[.tmp 2],false⟩:=gK
theorem tf_158:gQ ⟨55,37,[(36,1)],[],[[1000001,4],[8012],[13],[2003,5,14015],[4005,14,16020],[21],[2003,6,22023],[4,6,22,24028],[29],[2003,7,30031],[2003,7,30,32036]],[.tmp 4],false⟩:=gK
theorem tf_159:gQ ⟨56,25,[(23,1)],[],[[1000001,4],[5018],[2003,19],[2003,19024]],[.tmp 4],false⟩:=gK
theorem tf_170:gQ ⟨73,27,[],[],[[0,2],[3004],[1,5013],[1,5,14026]],[.tmp 2],false⟩:=gK
theorem tf_122:gQ ⟨82,9,[],[],[[1000001,4],[2003,5008]],[.tmp 4],false⟩:=gK
theorem tf_163:gQ ⟨88,12,[],[],[[0,2],[1,3011]],[.tmp 2],false⟩:=gK
theorem tf_169:gQ ⟨89,21,[],[],[[2],[5011],[0,12],[0,2,12013],[],[15017],[4,18019],[14,20],[14]],[.tmp 2],false⟩:=gK
theorem tf_168:gQ ⟨90,17,[],[],[[2],[0,3016]],[.tmp 2],false⟩:=gK
theorem tf_153:gQ ⟨91,9,[(7,1)],[],[[4],[1000001,5008]],[.tmp 4],false⟩:=gK
theorem tf_165:gQ ⟨92,11,[],[],[[0,2],[1,3010]],[.tmp 2],false⟩:=gK
theorem tf_63:gQ ⟨106,20,[],[],[[4],[7008],[9010],[5],[1000001,6,11],[12],[12],[4,6,11],[1000001,13],[4,13015],[1000001,16],[1000001,4,16018],[19],[19]],[.tmp 4],false⟩:=gK
theorem tf_64:gQ ⟨107,20,[],[],[[4],[7008],[9010],[5],[1000001,6,11],[12],[12],[4,6,11],[1000001,13],[4,13015],[1000001,16],[1000001,4,16018],[19],[19]],[.tmp 4],false⟩:=gK
theorem tf_164:gQ ⟨108,36,[(26,1)],[],[[6],[9012],[],[15016],[7,17026],[27],[1000002,8,13014,28029],[6,8,28,30],[1000002,13014,31035]],[.tmp 6],false⟩:=gK
theorem tf_166:gQ ⟨109,22,[],[],[[0,4],[1002,5021]],[.tmp 4],false⟩:=gK
theorem tf_160:gQ ⟨110,9,[],[],[[0,3],[1002,4008]],[.tmp 3],false⟩:=gK
abbrev c_118_0:=kV [2,3] [kO 2 0,kO 3 1,kI 4 0] [0,1,4]
abbrev c_118_1:=kV [2044,2045,2046,2047] [kA 7 0 2,oL 8 false 1 7,kA 9 0 3,oL 10 false 1 9,kD 11 219 0 8 10,oM 5 11] [7,8,9,10,11]
abbrev c_118_2:=kR [oM 12 5,kK 13 .eql 3 12 0] [12]
abbrev c_118_3:=kV [2072,2073,2074,2075] [kA 14 1 2,oL 15 false 1 14,kA 16 1 3,oL 17 false 1 16,kD 18 219 0 15 17,oM 5 18] [13,14,15,16,17,18]
abbrev c_118_4:=kR [oM 19 5,kK 20 .eql 3 19 0,oM 21 20,kF 22 21 true 2 2,kL 23 21 true false 1 22,kF 24 21 true 2 3,kL 25 21 true false 1 24,kH 26 21 true .lss 9 23 25,oP 27 21 26 false] [13,19,20,21,22,23,24,25,26]
abbrev c_118_5:=kR [oD 5 (.mov (.val (.int .i64 (-1))))] [27]
abbrev c_118_6:=kR [oM 28 5,kK 29 .eql 3 28 0,oM 30 29,kF 31 30 true 2 2,kL 32 30 true false 1 31,kF 33 30 true 2 3,kL 34 30 true false 1 33,kH 35 30 true .gtr 9 32 34,oP 36 30 35 false] [27,28,29,30,31,32,33,34,35]
abbrev c_118_7:=kR [kI 5 1] [36]
abbrev c_118_8:=kR [kI 6 0] [36]
abbrev c_118_9:=kR [oM 37 5,kK 38 .eql 3 37 0,oM 39 38,oH 40 39 true 6,kF 41 39 true 3 2,kL 42 39 true false 1 41,oG 43 39 true (.len (.tmp 42)),kH 44 39 true .lss 3 40 43,oP 45 39 44 false,oM 46 45,oH 47 46 true 6,kF 48 46 true 3 3,kL 49 46 true false 1 48,oG 50 46 true (.len (.tmp 49)),kH 51 46 true .lss 3 47 50,oP 52 46 51 false] [37,38,39,40,41,42,43,44,45,46,47,48,49,50,51]
abbrev c_118_10:=kV [2260,2261,2262,2263] [kA 55 3 2,oL 56 false 1 55,oM 57 6,kX 58 4 56 57,oL 59 true 4 58,kA 60 3 3,oL 61 false 1 60,oM 62 6,kX 63 4 61 62,oL 64 true 4 63,kD 65 156 0 59 64,oM 5 65] [52,55,56,57,58,59,60,61,62,63,64,65]
abbrev c_118_11:=kR [oM 53 6,kK 54 .add 3 53 1,oM 6 54] [53,54]
abbrev c_118_12:SCode:=(.seq (.seq c_118_9 (.cond (.tmp 52) .skip (.exit 0))) (.seq (.block 1 c_118_10) c_118_11))
abbrev c_118_13:=kR [oM 66 5,kK 67 .eql 3 66 0] [6,66]
abbrev c_118_14:=kV [2296,2297,2298,2299] [kA 68 3 2,oL 69 false 1 68,kZ 70 69,kA 71 3 3,oL 72 false 1 71,kZ 73 72,kD 74 219 0 70 73,oM 4 74] [2,3,5,67,68,69,70,71,72,73,74]
abbrev c_118_15:=kR [oM 75 5,oM 4 75] [2,3,5,67,75]
abbrev F_118:SFunc:=⟨76,(.seq c_118_0 (.seq c_118_1 (.seq (.seq c_118_2 (.cond (.tmp 13) c_118_3 .skip)) (.seq (.seq c_118_4 (.cond (.tmp 27) c_118_5 .skip)) (.seq (.seq c_118_6 (.cond (.tmp 36) c_118_7 .skip)) (.seq (.seq c_118_8 (.block 0 (.loop c_118_12))) (.seq (.seq c_118_13 (.cond (.tmp 67) (.seq c_118_14 .ret) .skip)) (.seq c_118_15 .ret)))))))),[.tmp 4],false⟩
theorem tf_118:z0e Go.Proofs.Tryz.prog 156 (z62 [(11,0),(18,0),(65,0),(74,0)]) (fpT []) (z5l [(0,[0,1,4]),(1,[7,8,9,10,11]),(2,[12]),(3,[13,14,15,16,17,18]),(4,[13,19,20,21,22,23,24,25,26]),(5,[27]),(6,[27,28,29,30,31,32,33,34,35]),(7,[36]),(8,[36]),(9,[37,38,39,40,41,42,43,44,45,46,47,48,49,50,51]),(11,[52,55,56,57,58,59,60,61,62,63,64,65]),(10,[53,54]),(12,[6,66]),(13,[2,3,5,67,68,69,70,71,72,73,74]),(14,[2,3,5,67,75])]) false=some F_118:=by kernel_rfl
theorem tf_167:gQ ⟨159,9,[],[],[[2],[0,3008]],[.tmp 2],false⟩:=gK
theorem tf_156:gQ ⟨160,19,[(16,1)],[],[[4],[6],[],[9010],[11015],[1000001,5,7008,16017],[4005,16,18],[1000001,7008]],[.tmp 4],false⟩:=gK
theorem tf_65:gQ ⟨168,6,[],[],[[2],[0,3005]],[.tmp 2],false⟩:=gK
theorem tf_66:gQ ⟨169,6,[],[],[[2],[0,3005]],[.tmp 2],false⟩:=gK
theorem tf_120:gQ ⟨219,11,[],[],[[4],[5006],[1000001,7],[1000001,4,7009],[10],[10]],[.tmp 4],false⟩:=gK
theorem tf_119:gQ ⟨232,30,[],[],[[2],[],[5007],[8012],[13025],[0,3004,26],[2,4,26029],[0,3]],[.tmp 2],false⟩:=gK
theorem tf_123:gQ ⟨271,79,[],[],[[2],[8009],[0,10],[2,10013],[14],[0,3,15],[2,15],[],[],[16020],[21],[21026],[27],[27032],[33],[33040],[0,3006,41],[2003,41],[44],[42043],[43,46],[42,45],[45,48],[42,47],[42,47,50],[49],[5006,49,51061],[0,4,62],[2,62],[63064],[2,66067,77],[65,68076],[0,4,7,77],[0,4,7,78]],[.tmp 2],false⟩:=gK
noncomputable def funcs:Nat→Option SFunc
 |_=>none
end Go.Sh.Cd1
end
