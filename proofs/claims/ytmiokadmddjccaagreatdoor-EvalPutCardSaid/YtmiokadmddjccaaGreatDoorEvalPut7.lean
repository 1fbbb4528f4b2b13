/- Merged texts: S19 Cd6 Pe5 Pe6 Pe10 Zi1 Zi2 Zh8 Zi3. No statement of the program is proved here. -/
import Derived.Test.YtmiokadmddjccaaGreatDoorM1
import Derived.Test.YtmiokadmddjccaaGreatDoorM2
import Derived.Test.YtmiokadmddjccaaGreatDoorM3
import Derived.Test.YtmiokadmddjccaaGreatDoorM4
import Derived.Test.YtmiokadmddjccaaGreatDoorM5
import Derived.Test.YtmiokadmddjccaaGreatDoorM6
set_option linter.unusedSimpArgs false
set_option linter.unusedVariables false
section
namespace Go.Sh
open Go Go.RowKit
section
variable{P:Program}{g:Glob}{a b c:SCode}{Q:SExit→ES→Prop}{K:ES→Prop}{s s':ES}{l:List SOper}{A B:Prop}{o:SOper}
end
end Go.Sh
namespace Go.Sh
open Go Go.RowKit
section
variable(P:Program)(t:TypeId)(k:IntKind)(a b:Int)(x y:ByteArray)
end
end Go.Sh
namespace Go.Sh
open Go Go.RowKit
section
variable{B:Base}{s:FS}{a:Act}{w:World}{E:Env}
end
end Go.Sh
namespace Go.Sh
open Go
end Go.Sh
namespace Go.Sh
open Go
section
variable{P:Program}{C:Oracle}{d e W n:Nat}{x y:Arg}{s:FS}{z:List Value}
end
end Go.Sh
namespace Go.Sh
open Go Go.RowKit
end Go.Sh
namespace Go.Sh
open Go Go.RowKit
theorem pwk_last{W:Nat}{es:List (List PV)}{cs ds:List PV}(hl:cs.length=ds.length)(h:∀(j:Nat) c d,cs[j]?=some c→ds[j]?=some d→PWk c d):PWk (.sl W (es++[cs])) (.sl W (es++[ds])):=by
 refine pwk_sl (by simp) (fun i a b h1 h2=> ?_);by_cases hi:i<es.length
 ·rw[List.getElem?_append_left hi]at h1 h2;rw[h1]at h2;cases h2;exact⟨rfl,fun j c d h3 h4=>by rw[h3]at h4;cases h4;exact .refl c⟩
 ·rw[List.getElem?_append_right (by omega)]at h1 h2;have h0:i-es.length=0:=by
   have:=(gJ h1).1;simp at this;omega
  rw[h0]at h1 h2;simp at h1 h2;subst h1;subst h2;exact⟨hl,h⟩
end Go.Sh
namespace Go.Sh
open Go
section
variable{P:Program}{C:Oracle}{dst:Option Nat}{W l h:Nat}{x:Arg}{lo hi:Option Arg}{s:FS}{z:ByteArray}{es:List (List PV)}{c:Prop}[Decidable c]{o:Option Nat}
end
end Go.Sh
namespace Go.Sh
open Go
end Go.Sh
namespace Go.Sh
open Go
section
variable{P:Program}{C:Oracle}{dst:Option Nat}{x:Arg}{s:FS}{d p:Nat}{z:ByteArray}
end
end Go.Sh
namespace Go.Sh
open Go Go.RowKit
section
variable{P:Program}{C:Oracle}{dst:Option Nat}{x i:Arg}{s:FS}{b:Bool}{z:Value}
end
section
variable{P:Program}{g:Glob}{Q:SExit→ES→Prop}{K:ES→Prop}{s s':ES}{l:List SOper}{D:List Nat}{R:Value→ES→Prop}
end
end Go.Sh
namespace Go.Sh
open Go Go.RowKit
section
variable{P:Program}{g:Glob}{l:List SOper}{D:List Nat}{R:Value→ES→Prop}{s:ES}
end
end Go.Sh
end

section
namespace Go.Sh.Cd6
open Go Go.Sh
set_option maxRecDepth 100000
abbrev c_76_0:=kV [4] [kO 4 0,kT 8 false] [0,8]
abbrev c_76_1:=kV [2088,2089,2090,2091] [oD 22 (.call 31 0 []),oM 9 22] [22]
abbrev c_76_2:=kV [2096,2097,2098,2099,10] [oL 23 true 2 4,kC 24 21 0 23,oD 10 (.new [(.string ⟨#[]⟩),(.slice none 0 0)]),kS 2 10 24] [4,23,24]
abbrev c_76_3:=kV [2108,2109,2110,2111] [oL 25 true 2 10,oM 26 1,oD 27 (.call 22 0 [.tmp 25,.tmp 26,vI 9]),oM 11 27] [1,25,26,27]
abbrev c_76_4:=kR [kI 12 1] []
abbrev c_76_5:=kR [oM 28 3] [3]
abbrev c_76_6:=kR [kI 12 2] [28]
abbrev c_76_7:=kV [2128,2129,2130,2131,13] [oM 29 2,oL 30 true 2 10,oM 31 12,kE 32 32 0 29 30 31,oD 13 (.new zV),kS 4 13 32] [2,12,28,29,30,31,32]
abbrev c_76_8:=kV [2144,2145,2146,2147,14] [oL 33 true 4 13,oL 34 true 2 10,oM 35 11,kE 36 50 0 33 34 35,oD 14 (.new zV),kS 4 14 36] [33,34,35,36]
abbrev c_76_9:=kV [15] [oD 37 (.build [(.string ⟨#[]⟩),(.slice none 0 0)] [(0,1,(.val (.string ⟨#[98,97,114,101]⟩)))]),oD 15 (.new [(.string ⟨#[]⟩),(.slice none 0 0)]),kS 2 15 37] [37]
abbrev c_76_10:=kV [2164,2165,2166,2167] [oL 39 true 2 10,oM 40 11,kD 41 28 0 39 40,oM 38 41,kY 42 38 0,kY 43 38 1,oM 16 42,oM 17 43] [16,38,39,40,41,42,43]
abbrev c_76_11:=kV [2192,2193,2194,2195,18] [oL 45 true 4 13,oL 46 true 2 10,oM 47 11,kE 48 34 0 45 46 47,oM 44 48,kY 49 44 0,kY 50 44 1,oD 18 (.new zV),kS 4 18 49,oM 19 50] [10,11,13,44,45,46,47,48,49,50]
abbrev c_76_12:=kR [oM 51 17,kK 52 .neq 28 51 0,oM 53 52,oH 54 53 false 19,kG 55 53 false .neq 28 54 0,oQ 56 53 55 true] [17,19,51,52,53,54,55]
abbrev c_76_13:=kR [kT 8 false] [9,14,15,18,56]
abbrev c_76_14:=kV [2232,2233,2234,2235] [oL 57 true 4 14,kC 58 18 0 57,kN 59 58] [8,56,57,58]
abbrev c_76_15:=kR [oM 60 9,oM 8 60] [9,14,15,18,59,60]
abbrev c_76_16:=kV [2256,2257,2258,2259,20] [oL 62 true 4 14,oL 63 true 2 15,oD 64 (.call 34 0 [.tmp 62,.tmp 63,.val (.slice none 0 0)]),oM 61 64,kY 65 61 0,kY 66 61 1,oD 20 (.new zV),kS 4 20 65,oM 21 66] [8,14,15,59,61,62,63,64,65,66]
abbrev c_76_17:=kV [2300,2301,2302,2303] [oM 67 9,oM 68 67,oH 69 68 true 21,kG 70 68 true .eql 28 69 0,oP 71 68 70 false,oM 72 71,kL 73 72 true true 4 18,kL 74 72 true true 4 20,oG 75 72 true (.call 36 0 [.tmp 73,.tmp 74]),oP 76 72 75 false,oM 8 76] [9,18,20,21,67,68,69,70,71,72,73,74,75,76]
abbrev F_76:SFunc:=⟨77,(.seq c_76_0 (.seq c_76_1 (.seq c_76_2 (.seq c_76_3 (.seq c_76_4 (.seq (.seq c_76_5 (.cond (.tmp 28) c_76_6 .skip)) (.seq c_76_7 (.seq c_76_8 (.seq c_76_9 (.seq c_76_10 (.seq c_76_11 (.seq (.seq c_76_12 (.cond (.tmp 56) (.seq c_76_13 .ret) .skip)) (.seq (.seq c_76_14 (.cond (.tmp 59) (.seq c_76_15 .ret) .skip)) (.seq c_76_16 (.seq c_76_17 .ret))))))))))))))),[.tmp 8],false⟩
theorem tf_76:kU 11 [(22,0),(24,0),(27,0),(32,0),(36,0),(41,0),(48,0),(58,0),(64,0),(75,0)] [] F_76:=by unfold kU;kernel_rfl
abbrev c_83_0:=kV [3,4,6] [kO 3 0,kO 4 1,oD 6 (.new zV)] [0,1]
abbrev c_83_1:=kR [kA 12 0 3,oL 13 false 1 12,kK 14 .eql 3 13 3] [12,13]
abbrev c_83_2:=kV [2076,2077,2078,2079] [oL 16 true 2 4,kA 17 2 3,oL 18 false 1 17,kD 19 53 0 16 18,oM 15 19,kY 20 15 0,kY 21 15 1,oM 7 20,oM 8 21] [4,14,15,16,17,18,19,20,21]
abbrev c_83_3:=kR [oM 22 8,kN 23 22] [8,22]
abbrev c_83_4:=kR [oL 24 true 4 3,kS 4 6 24] [2,3,7,23,24]
abbrev c_83_5:=kV [2116,2117,2118,2119] [oM 25 2,oM 26 7,kX 27 4 25 26,oL 28 true 4 27,kC 29 89 0 28,kS 4 6 29] [2,3,7,23,25,26,27,28,29]
abbrev c_83_6:=kR [oD 9 (.mov (.val (.slice none 0 0)))] [14]
abbrev c_83_7:=kR [kI 10 0] []
abbrev c_83_8:=kR [oM 30 10,kA 31 3 3,oL 32 false 1 31,kZ 33 32,kB 34 .lss 3 30 33] [30,31,32,33]
abbrev c_83_9:=kV [2176,2177,2178,2179,11] [kA 37 3 3,oL 38 false 1 37,oM 39 10,kX 40 4 38 39,oL 41 true 4 40,oL 42 true 2 4,oM 43 2,kE 44 50 0 41 42 43,oD 11 (.new zV),kS 4 11 44] [34,37,38,39,40,41,42,43,44]
abbrev c_83_10:SCode:=.reg [([],[oM 45 9,oL 46 true 4 11,oD 47 (.bsl 4 [.tmp 46]),oD 48 (.app 26 4 56 (.tmp 45) (.tmp 47)),oM 9 48]),([48],[oM 45 9,oL 46 true 4 11,oD 47 (.bsl 4 [.tmp 46]),oD 48 (.appN 26 4 56 (.tmp 45) (.tmp 47)),oM 9 48])] [11,45,46,47,48]
abbrev c_83_11:=kR [oM 35 10,kK 36 .add 3 35 1,oM 10 36] [35,36]
abbrev c_83_12:SCode:=(.seq (.seq c_83_8 (.cond (.tmp 34) .skip (.exit 0))) (.seq (.block 1 (.seq c_83_9 c_83_10)) c_83_11))
abbrev c_83_13:=kR [oM 49 9,kA 50 3 3,kS 1 50 49] [2,4,9,10,49,50]
abbrev c_83_14:=kR [oL 51 true 4 3,kS 4 6 51] [3,51]
abbrev F_83:SFunc:=⟨52,(.seq c_83_0 (.seq (.seq c_83_1 (.cond (.tmp 14) (.seq c_83_2 (.seq (.seq c_83_3 (.cond (.tmp 23) (.seq c_83_4 .ret) .skip)) (.seq c_83_5 .ret))) .skip)) (.seq c_83_6 (.seq (.seq c_83_7 (.block 0 (.loop c_83_12))) (.seq c_83_13 (.seq c_83_14 .ret)))))),[.cell true 4 6],false⟩
theorem tf_83:z6 Go.Proofs.Tryz.prog 50 (hintT [(19,0),(29,0),(44,0),(47,0)]) (fpT []) (killT [(0,[0,1]),(1,[12,13]),(2,[4,14,15,16,17,18,19,20,21]),(3,[8,22]),(4,[2,3,7,23,24]),(5,[2,3,7,23,25,26,27,28,29]),(6,[14]),(8,[30,31,32,33]),(10,[34,37,38,39,40,41,42,43,44]),(11,[11,45,46,47,48]),(9,[35,36]),(12,[2,4,9,10,49,50]),(13,[3,51])]) false=some F_83:=by kernel_rfl
abbrev c_80_0:=kV [1,2] [kO 1 0,oD 2 (.new zV)] [0]
abbrev c_80_1:=kR [kA 3 0 1,oL 4 false 1 3,kK 5 .eql 3 4 2] [3,4]
abbrev c_80_2:=kR [kA 6 2 1,oL 7 false 1 6,oD 8 (.build zV [(0,1,(vI 2)),(2,1,(.tmp 7))]),kS 4 2 8] [1,5,6,7,8]
abbrev c_80_3:=kR [kA 9 1 1,oL 10 false 1 9,kK 11 .lss 3 10 0] [5,9,10]
abbrev c_80_4:=kR [kA 12 1 1,oL 13 false 1 12,oD 14 (.un .neg (.tmp 13)),oD 15 (.build zV [(0,1,(vI 1)),(1,1,(.tmp 14))]),oD 16 (.bsl 4 [.tmp 15]),oD 17 (.build zV [(0,1,(vI 5)),(2,1,(.val (.string ⟨#[45]⟩))),(3,1,(.tmp 16))]),kS 4 2 17] [1,11,12,13,14,15,16,17]
abbrev c_80_5:=kR [kA 18 1 1,oL 19 false 1 18,oD 20 (.build zV [(0,1,(vI 1)),(1,1,(.tmp 19))]),kS 4 2 20] [1,11,18,19,20]
abbrev F_80:SFunc:=⟨21,(.seq c_80_0 (.seq (.seq c_80_1 (.cond (.tmp 5) (.seq c_80_2 .ret) .skip)) (.seq (.seq c_80_3 (.cond (.tmp 11) (.seq c_80_4 .ret) .skip)) (.seq c_80_5 .ret)))),[.cell true 4 2],false⟩
theorem tf_80:kU 89 [(16,0)] [] F_80:=by unfold kU;kernel_rfl
end Go.Sh.Cd6
end

section
namespace Go.Mor
open Go
set_option maxHeartbeats 2000000
section
variable{l:List UInt8}{c:Cls}(hc:GoodC c)
end
theorem z118{fs:List Fld}{vals:List V}:∀{d:Nat} {e:V} (d':Nat),d≤d'→okE d e=true→worthV fs vals d' e=worthV fs vals d e
 |0,e,_,_,h=>by simp[okE]at h
 |d+1,e,0,hd,_=>by omega
 |d+1,e,d'+1,hd,h=>by
  rw[okE,Bool.and_eq_true,List.all_eq_true]at h;unfold worthV;rw[List.map_congr_left fun x hx=>z118 d' (by omega) (h.2 x hx)]
def litV(v:V):V:=if v.k=2 then .mk 2 0 v.s [] else if v.n<0 then .mk 5 0 [45] [.mk 1 (-v.n) [] []] else .mk 1 v.n [] []
def putV(fs:List Fld)(vals:List V):Nat→V→V
 |0,e=>e
 |d+1,e=>if e.k=3 then(if fieldAt fs e.s<0 then e else litV (vals.getD (fieldAt fs e.s).toNat V.nil))else .mk e.k e.n e.s (e.l.map (putV fs vals d))
theorem lit_type(v:V)(D:Nat):typeV [] (D+2) (litV v)=(if v.k=2 then(⟨2,0⟩,true)else(⟨1,0⟩,true)):=by
 unfold litV;by_cases h2:v.k=2
 ·rw[if_pos h2,if_pos h2];rfl
 ·rw[if_neg h2,if_neg h2];by_cases hn:v.n<0
  ·rw[if_pos hn];rfl
  ·rw[if_neg hn];rfl
theorem lit_text{v:V}(h:v.k=2∧v.n=0∧v.l=[]∧z10 v.s=true)(D:Nat):worthV [] [] (D+2) (litV v)=v:=by
 obtain⟨k,n,s,l⟩:=v;obtain⟨h1,h2,h3,h4⟩:=h;simp only[V.k,V.n,V.s,V.l]at h1 h2 h3 h4;subst h1 h2 h3;show V.mk 2 0 (cutT s) []=_;rw[cut_of_right h4]
theorem lit_num{v:V}(h:v.k=1∧ -1000000000000000≤v.n∧v.n≤1000000000000000∧v.s=[]∧v.l=[])(D:Nat):worthV [] [] (D+2) (litV v)=v:=by
 obtain⟨k,n,s,l⟩:=v;obtain⟨h1,h2,h3,h4,h5⟩:=h;simp only[V.k,V.n,V.s,V.l]at h1 h2 h3 h4 h5;subst h1 h4 h5;unfold litV;rw[if_neg (by simp[V.k])];by_cases hn:n<0
 ·rw[if_pos (show(V.mk 1 n [] []).n<0 from hn)];show V.mk 1 (cutN (-cutN (-n))) [] []=_;rw[cutN_id (n:= -n) (by omega) (by omega),cutN_id (by omega) (by omega),Int.neg_neg]
 ·rw[if_neg (show ¬(V.mk 1 n [] []).n<0 from hn)];show V.mk 1 (cutN n) [] []=_;rw[cutN_id (by omega) (by omega)]
theorem kidsT_map{t t':V→Ty×Bool}{g:V→V}:∀{l:List V},(∀x∈l,t' (g x)=t x)→kidsT t' (l.map g)=kidsT t l
 |[],_=>rfl
 |x::l,h=>by rw[List.map_cons];unfold kidsT;rw[h x (List.mem_cons_self ..),kidsT_map fun y hy=>h y (List.mem_cons_of_mem _ hy)]
theorem nodeT_ne{fs fs':List Fld}{e e':V}{ps:List Ty}(hk:e'.k=e.k)(hs:e'.s=e.s)(h:e.k≠3):nodeT fs' e' ps=nodeT fs e ps:=by
 unfold nodeT;rw[hk,hs];by_cases h2:e.k=2
 ·rw[if_pos h2,if_pos h2]
 ·rw[if_neg h2,if_neg h2,if_neg h,if_neg h]
theorem nodeW_ne{fs fs':List Fld}{vals vals':List V}{e e':V}{ws:List V}(hk:e'.k=e.k)(hn:e'.n=e.n)(hs:e'.s=e.s)(h:e.k≠3):nodeW fs' vals' e' ws=nodeW fs vals e ws:=by
 unfold nodeW;rw[hk,hs,hn];by_cases h2:e.k=2
 ·rw[if_pos h2,if_pos h2]
 ·rw[if_neg h2,if_neg h2,if_neg h,if_neg h]
theorem z126{fs:List Fld}{vals:List V}(hf:FitAll fs vals):∀(d D:Nat) (e:V),d+1≤D→okE d e=true→ntE fs d e→
  typeV [] D (putV fs vals d e)=typeV fs d e∧worthV [] [] D (putV fs vals d e)=worthV fs vals d e
 |0,D,e,_,h,_=>by simp[okE]at h
 |d+1,D,e,hD,h,hn=>by
  obtain⟨D,rfl⟩:∃g,D=g+1:=⟨D-1,by omega⟩
  rw[okE,Bool.and_eq_true,List.all_eq_true]at h;obtain⟨hn1,hn2⟩:=hn;unfold putV;by_cases h3:e.k=3
  ·obtain⟨i,f,e1,e2,e3,e4,e5⟩:=hn1 h3;obtain⟨f',v,q1,q2,q3,_⟩:=field_at hf (s:=e.s) (by rw[e1];omega);rw[e1,Int.toNat_natCast]at q1 q2;rw[e2]at q1;cases q1;have hl:e.l=[]:=(node3 h.1 h3).2.2;rw[if_pos h3,e1,if_neg (by omega),Int.toNat_natCast,z38 q2];obtain⟨D,rfl⟩:∃g,D=g+1:=⟨D-1,by omega⟩
   have ht:typeV fs (d+1) e=(f.t,true):=by
    rw[type_leaf hl];unfold nodeT;rw[if_neg (by omega),if_pos h3,e1,if_neg (by omega),Int.toNat_natCast,z38 e2]
   have hw:worthV fs vals (d+1) e=v:=by
    unfold worthV nodeW;rw[if_neg (by omega),if_pos h3,e1,Int.toNat_natCast,z38 q2]
   rw[ht,hw];rcases e5 with e5|e5
   ·have hv:=num_of q3 e5;refine⟨?_,lit_num hv D⟩;rw[lit_type,if_neg (by omega)];obtain⟨fn,⟨fk,fo⟩,fx⟩:=f;simp only at e4 e5;rw[e4,e5]
   ·have hv:=text_of q3 e5;refine⟨?_,lit_text hv D⟩;rw[lit_type,if_pos hv.1];obtain⟨fn,⟨fk,fo⟩,fx⟩:=f;simp only at e4 e5;rw[e4,e5]
  ·have ih:=fun x (hx:x∈e.l)=>z126 hf d D x (by omega) (h.2 x hx) (hn2 x hx);rw[if_neg h3];constructor
   ·unfold typeV;rw[show(V.mk e.k e.n e.s (e.l.map (putV fs vals d))).l=e.l.map (putV fs vals d) from rfl,kidsT_map fun x hx=>(ih x hx).1];cases kidsT (typeV fs d) e.l with
    |none=>rfl
    |some ps=>exact nodeT_ne rfl rfl h3
   ·unfold worthV;rw[show(V.mk e.k e.n e.s (e.l.map (putV fs vals d))).l=e.l.map (putV fs vals d) from rfl,List.map_map];have hm:e.l.map (worthV [] [] D∘putV fs vals d)=e.l.map (worthV fs vals d):=List.map_congr_left fun x hx=>(ih x hx).2;rw[hm];exact nodeW_ne rfl rfl rfl h3
end Go.Mor
end

section
namespace Go.Mor
open Go Go.RowKit
set_option maxHeartbeats 2000000
def bareN:List UInt8:=[98,97,114,101]
theorem put_eval{c:Cls}(h:GoodC c)(l:List UInt8){kind:Int}(hk:kind=1∨kind=2){vals:List V}(hf:FitAll c.fs vals)(hr:rightE (putV c.fs vals 4 (exprOf l c.fs kind))=true):
  evalA ⟨bareN,[]⟩ [] (putV c.fs vals 4 (exprOf l c.fs kind))=(worthV c.fs vals 8 (exprOf l c.fs kind),0):=by
 obtain⟨h1,h2,h3,h4⟩:=z57 h l hk;obtain⟨p1,p2⟩:=z126 hf 4 8 _ (by omega) h3 h4;have t4:=z135 (fs:=c.fs) 8 (by omega) h3;have w4:=z118 (fs:=c.fs) (vals:=vals) 8 (by omega) h3;have ht:typeA ⟨bareN,[]⟩ (putV c.fs vals 4 (exprOf l c.fs kind))=(⟨kind,0⟩,0):=by
  unfold typeA;rw[if_pos hr,if_pos (by decide),p1,←t4,h2];rfl
 unfold evalA;rw[ht,show check ⟨bareN,[]⟩ []=(0,0) by decide];show(worthV [] [] 8 _,(0:Int))=_;rw[p2,←w4]
end Go.Mor
end

section
namespace Go.Proofs.YtmiokadmddjccaaGreatDoor
open Go Go.RowKit Go.Mor Go.Sh
set_option maxHeartbeats 2000000
theorem lit_small{v:V}(h:v.s.length≤60):ESmall (litV v):=by
 unfold litV;split
 ·exact esm h (by simp) (by simp)
 ·split
  ·exact esm (by simp) (by simp) (fun y hy=>by rw[List.mem_singleton.1 hy];exact esm (by simp) (by simp) (by simp))
  ·exact esm (by simp) (by simp) (by simp)
theorem put_small{fs:List Fld}{vals:List V}(hv:∀i,(vals.getD i V.nil).s.length≤60):∀(d:Nat) (e:V),ESmall e→ESmall (putV fs vals d e)
 |0,e,h=>h
 |d+1,e,h=>by
  unfold putV;split
  ·split
   ·exact h
   ·exact lit_small (hv _)
  ·refine .mk (by rw[List.length_map];exact h.len) h.txt fun y hy=> ?_;obtain⟨x,hx,rfl⟩:=List.mem_map.1 hy;exact put_small hv d x (h.sub hx)
theorem vals_60{c:Cls}(h:GoodC c)(l:List Int){many:Int}(hm:many≤100000)(i:Nat):((mkVals c.fs l many).getD i V.nil).s.length≤60:=by
 rw[List.getD_eq_getElem?_getD];cases hg:(mkVals c.fs l many)[i]? with
 |none=>exact Nat.zero_le _
 |some v=>
  have hl:=(gJ hg).1;rw[z43]at hl;have hf:c.fs[i]?=some (c.fs[i]):=gE hl;rw[z151 hf]at hg;cases hg;exact(fits_mkVal _ _ _ (h.type (gM hf)) hm).2.1
end Go.Proofs.YtmiokadmddjccaaGreatDoor
end

section
namespace Go.Proofs.YtmiokadmddjccaaGreatDoor
open Go Go.RowKit Go.Mor Go.Sh Go.Sh.Cd1 Go.Sh.Cd6
set_option maxRecDepth 100000
set_option maxHeartbeats 8000000
theorem b_kind(b:Bool):∃kind:Int,(kind=1∨kind=2)∧b=decide (kind=2):=by
 cases b
 ·exact⟨1,.inl rfl,rfl⟩
 ·exact⟨2,.inr rfl,rfl⟩
theorem okE_sub{d:Nat}{e x:V}(h:okE (d+1) e=true)(hx:x∈e.l):okE d x=true:=by
 rw[okE,Bool.and_eq_true,List.all_eq_true]at h;exact h.2 x hx
theorem map_take{f:V→V}{l:List V}{i:Nat}{x:V}(h:l[i]?=some x):(l.take (i+1)).map f=(l.take i).map f++[f x]:=by
 rw[List.take_add_one,h,List.map_append];rfl
theorem pwk_row6(n:Int):PWk (.sl 4 (V.rows []++[[.v (.int .i64 1),.v (.int .i64 n),.v (.string ⟨#[]⟩),.v (.slice none 0 0)]])) (.sl 4 (V.rows ([]++[.mk 1 n [] []]))):=by
 rw[z39];refine pwk_last rfl (fun j c d h1 h2=> ?_)
 match j with
 |0=>simp at h1 h2;subst h1;subst h2;exact .refl _
 |1=>simp at h1 h2;subst h1;subst h2;exact .refl _
 |2=>simp at h1 h2;subst h1;subst h2;exact .refl _
 |3=>simp at h1 h2;subst h1;subst h2;exact pwk_nil 4
 |j+4=>simp at h1
theorem literal_ok(g:Sh.Glob)(v:V)(hn: -9223372036854775807≤v.n∧v.n≤9223372036854775807):SCalls Tryz.prog g 89 [tv v] [] (tv (litV v)) []:=by
 unfold litV;by_cases h2:v.k=2
 ·rw[if_pos h2];refine SCalls.out ?_ (nv_tv rfl);unfold nv;refine z7 hmix tf_80 rfl ?_;simp only[vcA,seval,vV,h2]
 ·rw[if_neg h2];by_cases h0:v.n<0
  ·rw[if_pos h0];have w1:IntKind.i64.wrap (0-v.n)= -v.n:=by rw[wrap64 (by omega) (by omega)];omega
   have w2:IntKind.i64.wrap (-v.n)= -v.n:=wrap64 (by omega) (by omega);refine SCalls.out ?_ (wk4 (wk_pv (pwk_row6 (-v.n))));refine z7 hmix tf_80 rfl ?_;simp only[vcA,seval,vV,h2,h0,w1,w2];rfl
  ·rw[if_neg h0];refine SCalls.out ?_ (nv_tv rfl);unfold nv;refine z7 hmix tf_80 rfl ?_;simp only[vcA,seval,vV,h2,h0];rfl
theorem put_ok(g:Sh.Glob)(c:Cls)(vals:List V)(hc:c.fs.length≤1000)(hv:vals.length=c.fs.length)(hb:∀v∈vals, -9223372036854775807≤v.n∧v.n≤9223372036854775807):
  ∀(d:Nat) (e:V),okE d e=true→ESmall e→SCalls Tryz.prog g 50 [tv e,clT c,.pv (.sl 4 (V.rows vals))] [] (tv (putV c.fs vals d e)) []:=by
 intro d
 induction d with
 |zero=>intro e h;simp[okE]at h
 |succ d ih=>
  intro e ho he;have hl:=(okE_key ho).1;have HD:=fun x hx=>ih x (okE_sub ho hx) (he.sub hx);have HF:=refField_ok g c e.s (by omega);unfold putV;unfold clT at*;unfold fieldT B at HF;by_cases hk:e.k=3
  ·rw[if_pos hk];by_cases hf:fieldAt c.fs e.s<0
   ·rw[if_pos hf]at HF ⊢;refine z7 hmix tf_83 rfl ?_;simp only[vcA,seval,vV,hk,clV];(with_reducible apply v_call);exact kv;rfl;exact HF;exact km;exact kv;simp only[vcA,seval,vV,hk]
   ·rw[if_neg hf]at HF ⊢;obtain⟨i,hi⟩:=Int.eq_ofNat_of_zero_le (show 0≤fieldAt c.fs e.s by omega);obtain⟨f,hf1,_⟩:=z158 (k:=i) _ _ hi;have hlt:=(gJ hf1).1;obtain⟨v,ev⟩:∃v,vals[i]?=some v:=⟨_,gE (by omega)⟩
    have HL:=literal_ok g v (hb v (gM ev));rw[hi]at HF ⊢;rw[show(i:Int).toNat=i from rfl,z38 ev];refine z7 hmix tf_83 rfl ?_;simp only[vcA,seval,vV,hk,clV];(with_reducible apply v_call);exact kv;rfl;exact HF;exact km;exact kv;simp only[vcA,seval,vV,ev];(with_reducible apply v_call);exact kv;rfl;exact HL;exact km;exact kv;simp only[vcA,seval,vV]
  ·rw[if_neg hk];refine call_of1 hmix tf_83 rfl rfl ?_;simp only[vcA,seval,vV,hk,clV];refine v_loop (σ:={i:Nat // i≤e.l.length}) (fun i=>⟨[(2,.pv (.sl 4 (V.rows vals))),(3,.ptr 3 0),(4,.ptr 4 0),(6,.ptr 6 0),(9,.own 3000 4 (V.rows ((e.l.take i.1).map (putV c.fs vals d)))),(10,I (i.1:Int))],
    [(3,[I e.k,I e.n,S (str e.s),.pv (.sl 4 (V.rows e.l))]),(4,[S (str c.n),.pv (.sl 4 (flR c.fs))]),(6,[I 0,I 0,S ⟨#[]⟩,nilT])],[(3000,(26,4,i.1))],[]⟩) (fun i=>e.l.length-i.1) ⟨0,Nat.zero_le _⟩ ?_ ?_
   ·refine ES.Lw.trans ?_ (adT_lw (k:=9) (d:=3000) (e:=26) (W:=4) (.inr (by decide)) rfl);exact lw_eq rfl
   rintro⟨i,hi⟩;have hlen:((e.l.take i).map (putV c.fs vals d)).length=i:=by rw[List.length_map,List.length_take];omega
   by_cases hlt:i<e.l.length
   ·have d1:(i:Int)<(e.l.length:Int):=by omega
    obtain⟨x,ex⟩:∃x,e.l[i]?=some x:=⟨_,gE hlt⟩
    have w1:IntKind.i64.wrap ((i:Int)+1)=((i+1:Nat):Int):=by rw[wrap64 (by omega) (by omega)];omega
    have HX:=HD x (gM ex);have hm:=map_take (f:=putV c.fs vals d) ex;simp only[vcA,seval,vV,d1,ex,nilT];(with_reducible apply v_call);exact kv;rfl;exact HX;exact km;exact kv;simp only[vcA,seval,vV,hlen,w1];refine⟨⟨by omega,by unfold maxLen;omega⟩,z11 ⟨i+1,hlt⟩ (by show e.l.length-(i+1)<e.l.length-i;omega) ?_⟩;simp only[hm,z39];apply lw_of<;>simp[leL,lk,sv,Nat.beq,I,S,ES.kill,has,drp,nilT]
   ·have d1:¬(i:Int)<(e.l.length:Int):=by omega
    obtain rfl:i=e.l.length:=by omega
    rw[List.take_length];simp only[vcA,seval,vV,d1,nilT]
theorem bareE_ok{m:Nat}{n:List UInt8}{e:V}{y:TV}(h:SCalls Tryz.prog (glE m) 34 [tv e,clT ⟨n,[]⟩,.pv (.sl 4 (V.rows []))] [] y []):
  SCalls Tryz.prog (glE m) 34 [tv e,.agg [S (str n),.pv (.v (.slice none 0 0))],.pv (.v (.slice none 0 0))] [] y []:=h.inp rfl (fun j c d hc hd=>by
  match j with
  |0=>cases hc;cases hd;exact .refl _
  |1=>
   cases hc;cases hd;refine wk_agg rfl (fun i p q hp hq=> ?_)
   match i with
   |0=>cases hp;cases hq;exact .refl _
   |1=>cases hp;cases hq;exact wk_nil 4
   |i+2=>simp at hp
  |2=>cases hc;cases hd;exact wk_nil 4
  |j+3=>simp at hc)
theorem mkVal_n(t:Ty)(n many:Int)(hm:1≤many∧many≤100000): -100≤(mkVal t n many).n∧(mkVal t n many).n≤100100:=by
 have key:∀k:Int, -100≤(mkVal1 k n many).n∧(mkVal1 k n many).n≤100100:=by
  intro k;have h1:=z26 n 41 (by decide);have h2:=z26 n many (by omega);unfold mkVal1
  repeat' split
  all_goals(simp only[Vn,V.nil];omega)
 unfold mkVal;split
 ·exact⟨by simp only[Vn];omega,by simp only[Vn];omega⟩
 ·exact key _
theorem vals_n{fs:List Fld}{l:List Int}{many:Int}(hm:1≤many∧many≤100000):∀v∈mkVals fs l many, -9223372036854775807≤v.n∧v.n≤9223372036854775807:=by
 intro v hv;obtain⟨i,hi⟩:=List.getElem?_of_mem hv;have hl:=(gJ hi).1;rw[z43]at hl;rw[z151 (gE hl)]at hi;cases hi;have:=mkVal_n (fs[i]).t (rawN l i) many hm;omega
theorem evalPut_ok(m:Nat)(x:Raw)(n:List Int)(l:List UInt8)(b:Bool)(hx:RawOk x)(hn:n.length≤9223372036854775807)(hl:l.length≤9223372036854775807):
  SCalls Tryz.prog (glE m) 11 [rawT x,.pv (.sl 1 (iiR n)),bysT l,.pv (.v (.bool b))] [] (.pv (.v (.bool true))) []:=by
 have HA:=awake_ok m;have HC:=classOf4_ok (glE m) x hx;have HV:=madeV_ok (glE m) x n 9 hn (by decide);obtain⟨kind,hk,rfl⟩:=b_kind b;have HE:=madeE_ok m x l hk hl;have hg:=z49 x;have hf:=made_fit x n (many:=9) (by decide);have hfew:=vals_few hg n (many:=9) (by decide);have hvl:(mkVals (z8 x).fs n 9).length≤4611686018427387904:=by have:=hg.len;rw[z43];omega
 have hw:=made_fits hg l hk hf;obtain⟨hr,_,ho4,_⟩:=z57 hg l hk;have hvc:=vals_check hg n (many:=9) (by decide);have hW:=made_eval hg l hk hvc;have hs:=z71 hr;have HK:=sc_0E (classCheck_ok m _ _ (good_ok hg) (fun v hv=>⟨(hfew v hv).2,by have:=(hfew v hv).1.len;unfold maxLen;omega⟩) hvl);rw[hvc]at HK;have HW:=evEval_ok m _ _ _ (good_ok hg) hs hfew hvl;rw[hW]at HW;obtain⟨wl,ws⟩:=fits_12 hk hw;have HP:=put_ok (glE m) (z8 x) (mkVals (z8 x).fs n 9) (by have:=hg.len;omega) (z43 ..) (vals_n (by decide)) 4 _ ho4 hs;have hps:=put_small (fs:=(z8 x).fs) (vals_60 hg n (many:=9) (by decide)) 4 _ hs;have HR:=sc_0E (exprRight_ok m _ hps);have HB:=fun(h:rightE (putV (z8 x).fs (mkVals (z8 x).fs n 9) 4 (exprOf l (z8 x).fs kind))=true)=>evEval_ok m ⟨bareN,[]⟩ _ [] ⟨by unfold Short;decide,by simp,by decide⟩ (z71 h) (by simp) (by decide);have hpe:=put_eval hg l hk hf;have HS:=refSame_ok (glE m) (worthV (z8 x).fs (mkVals (z8 x).fs n 9) 8 (exprOf l (z8 x).fs kind)) (worthV (z8 x).fs (mkVals (z8 x).fs n 9) 8 (exprOf l (z8 x).fs kind)) (few0 wl).small;rw[z132]at HS;generalize putV (z8 x).fs (mkVals (z8 x).fs n 9) 4 (exprOf l (z8 x).fs kind)=f at*;unfold checkT at HK;unfold evalT at HW HB
 simp only[if_true]at HW;generalize worthV (z8 x).fs (mkVals (z8 x).fs n 9) 8 (exprOf l (z8 x).fs kind)=w at*;generalize mkVals (z8 x).fs n 9=vals at*;generalize exprOf l (z8 x).fs kind=e at*;generalize z8 x=c at*;have qb:(⟨#[98,97,114,101]⟩:ByteArray)=str bareN:=rfl;cases hq:rightE f
 ·rw[hq]at HR;unfold B bysT rawT clT tv at*;refine z7 hmix tf_76 rfl ?_;rcases hk with rfl|rfl
  all_goals(
   simp only[vcA,seval,vV];(with_reducible apply v_call);exact kv;rfl;exact HA;exact km;exact kv;simp only[vcA,seval,vV];(with_reducible apply v_call);exact kv;rfl;exact HC;exact km;exact kv;simp only[vcA,seval,vV];(with_reducible apply v_call);exact kv;rfl;exact HV;exact km;exact kv;simp only[vcA,seval,vV];(with_reducible apply v_call);exact kv;rfl;exact HE;exact km;exact kv;simp only[vcA,seval,vV];(with_reducible apply v_call);exact kv;rfl;exact HP;exact km;exact kv;simp only[vcA,seval,vV,qb];(with_reducible apply v_call);exact kv;rfl;exact HK;exact km;exact kv;simp only[vcA,seval,vV];(with_reducible apply v_call);exact kv;rfl;exact HW;exact km;exact kv;simp only[vcA,seval,vV];(with_reducible apply v_call);exact kv;rfl;exact HR;exact km;exact kv;simp only[vcA,seval,vV])
 ·have HB':=HB hq;rw[hpe hq]at HB';simp only[if_true]at HB';have HB':=bareE_ok HB';rw[hq]at HR;unfold B bysT rawT clT tv at*;refine z7 hmix tf_76 rfl ?_;rcases hk with rfl|rfl
  all_goals(
   simp only[vcA,seval,vV];(with_reducible apply v_call);exact kv;rfl;exact HA;exact km;exact kv;simp only[vcA,seval,vV];(with_reducible apply v_call);exact kv;rfl;exact HC;exact km;exact kv;simp only[vcA,seval,vV];(with_reducible apply v_call);exact kv;rfl;exact HV;exact km;exact kv;simp only[vcA,seval,vV];(with_reducible apply v_call);exact kv;rfl;exact HE;exact km;exact kv;simp only[vcA,seval,vV];(with_reducible apply v_call);exact kv;rfl;exact HP;exact km;exact kv;simp only[vcA,seval,vV,qb];(with_reducible apply v_call);exact kv;rfl;exact HK;exact km;exact kv;simp only[vcA,seval,vV];(with_reducible apply v_call);exact kv;rfl;exact HW;exact km;exact kv;simp only[vcA,seval,vV];(with_reducible apply v_call);exact kv;rfl;exact HR;exact km;exact kv;simp only[vcA,seval,vV];(with_reducible apply v_call);exact kv;rfl;exact HB';exact km;exact kv;simp only[vcA,seval,vV];(with_reducible apply v_call);exact kv;rfl;exact HS;exact km;exact kv;simp only[vcA,seval,vV])
end Go.Proofs.YtmiokadmddjccaaGreatDoor
end
