/- Merged texts: Ze1 Cd5 Px2 Ze2 Ze3 Ze4 Cd4 Ze5 S21 S22 S23 S24 Ze10 Px5 Ze11. No statement of the program is proved here. -/
import Derived.Test.YtcpaleaajdilgaaGreatDoorM1
import Derived.Test.YtcpaleaajdilgaaGreatDoorM2
import Derived.OrdersIn
import Derived.RangeFuncWrites
set_option linter.unusedSimpArgs false
set_option linter.unusedVariables false
section
namespace Go.Proofs.YtcpaleaajdilgaaGreatDoor
open Go Go.RowKit Go.Mor Go.Sh
set_option maxRecDepth 100000
set_option maxHeartbeats 4000000
def bindL:List (List UInt8×Int):=[([42],4),([47],4),([37],4),([43],3),([45],3),([38],2),([61],1),([60,62],1),([60],1),([60,61],1),([62],1),([62,61],1)]
def bindKs:List Value:=bindL.map fun p=> .string (str p.1)
def bindM:TV:=.mp bindKs (bindL.map fun p=>I p.2)
theorem bindings_ok(g:Sh.Glob):SCalls Tryz.prog g 74 [] [] bindM []:=by
 refine⟨z40 (by kernel_rfl),fun w E us hG hm hX hl hr=> ?_⟩;obtain rfl:us=[]:=List.eq_nil_of_length_eq_zero hl.symm;refine calls_of_wp Tryz.func74 rfl ?_;refine wp_seq (wp_region ?_);show wpOps _ _ _ [0] _ _;rw[wpOps_cons];refine z89 rfl rfl (v:=.map none) (w':=w) rfl ?_;show(Code.seq _ _).wp _ _ { tmps:= #[.map none,undef,undef],defers:=[] } _;refine wp_seq (wp_region ?_);show wpOps _ _ _ (0::([1,2,3,4,5,6,7,8,9,10,11,12]++[13,14])) _ _;rw[wpOps_cons];refine z89 rfl rfl (v:=.map (some w.heap.size)) (w':=w.alloc (.map #[] 0)) rfl ?_;have hnew:(w.alloc (.map #[] 0)).heap[w.heap.size]?=some (.map #[] 0):=heap_alloc_new w _;refine wp_insAll (t:=133) (m:=1) (kt:=9) (et:=3) (text:=true) (b:=w.heap.size) (by kernel_rfl) (by kernel_rfl) rfl _ _ _ _ #[] 0 rfl hnew (by rfl) ?_;intro es clock w' hturn hb hks hvs;show wpOps _ _ _ [13,14] { tmps:= #[.map none,.map (some w.heap.size),undef],defers:=[] } _;rw[wpOps_cons];refine z89 rfl rfl (v:=.map (some w.heap.size)) (w':=w') rfl ?_;rw[wpOps_cons];refine z89 rfl rfl (v:=.map (some w.heap.size)) (w':=w') rfl ?_;show Code.ret.wp _ _ { tmps:= #[.map (some w.heap.size),.map (some w.heap.size),.map (some w.heap.size)],defers:=[] } _;refine wp_ret ?_
 have hbel:Below w.heap.size w w':=by
  refine⟨hturn.os,hturn.tape,hturn.output,by rw[hturn.size];exact(((Below.refl w.heap.size w)).alloc (Nat.le_refl _) (.map #[] 0)).size,fun k hk=> ?_⟩;rw[hturn.block k (by omega)];exact(((Below.refl w.heap.size w)).alloc (Nat.le_refl _) _).block k hk
 refine⟨rfl,.map (some w.heap.size),by simp[results,Tryz.results74],.map (some w.heap.size),E,rfl,?_,?_,⟨fun _ _ _=>rfl,fun _ _ _ _=>rfl,fun d e W n hd=>by obtain⟨j,_,hj⟩:=z24 hd;simp at hj⟩⟩
 ·exact MSim.ext (s:=⟨fun _=>none,objB [],objR [],fun _=>none⟩) hm hbel E (fun _ _ h=>h) (fun _ _ h=> .inl h) (fun _ _=>⟨rfl,rfl⟩) (fun _ _ _=>rfl) (fun _ _=>⟨rfl,rfl⟩)
 ·have hlen:es.toList.length=12:=by have:=congrArg List.length hks;simpa using this
  refine .mp bindKs _ w.heap.size es clock (fun j=>(es.toList.map MapEntry.val).getD j undef) hb hks rfl (fun j e he=>by simp[he]) (fun j x hx=> ?_);rw[hvs];have hj:j<12:=(gJ hx).1;simp only[bindL,List.getElem?_map]at hx
  match j,hj with
  |0,_|1,_|2,_|3,_|4,_|5,_|6,_|7,_|8,_|9,_|10,_|11,_=>cases hx;exact .pv (.v _)
theorem bm_m1(ids:List Nat):TV.m1 ids bindM=false:=rfl
theorem bm_m2(ids:List Nat):TV.m2 ids bindM=false:=rfl
theorem bm_m3(ids:List Nat):TV.m3 ids bindM=false:=rfl
theorem bm_ids1:TV.ids1 bindM=[]:=rfl
theorem bm_ids2:TV.ids2 bindM=[]:=rfl
theorem bm_ids3:TV.ids3 bindM=[]:=rfl
theorem bm_ren1(ρ:Nat→Option Nat):TV.ren1 ρ bindM=some bindM:=rfl
theorem bm_ren2(ρ:Nat→Option Nat):TV.ren2 ρ bindM=some bindM:=rfl
theorem bm_ren3(ρ:Nat→Option Nat):TV.ren3 ρ bindM=some bindM:=rfl
theorem bm_cells:TV.cells bindM=some [bindM]:=rfl
theorem same_str(a b:List UInt8):Instr.sameNow (kdOf true) (.string (str a)) (.string (str b))=some (a==b):=by
 have:(str a==str b)=(a==b):=by
  show(a.toArray==b.toArray)=(a==b)
  simp
 first
  |(simp[Instr.sameNow,kdOf,this];done)
  |(simp[Instr.sameNow,kdOf];exact this)
theorem bm_find(s:List UInt8):∀(l:List (List UInt8×Int)) (i:Nat),findKs (kdOf true) (.string (str s)) (l.map fun p=> .string (str p.1)) i=some ((l.findIdx? fun p=>s==p.1).map (·+i))
 |[],i=>rfl
 |p::l,i=>by
  rw[List.map_cons,findKs,same_str,List.findIdx?_cons];cases h:(s==p.1)with
  |true=>simp
  |false=>
   simp only[Bool.false_eq_true,if_false,bm_find s l (i+1),Option.map_map];congr 2;funext j;simp;omega
theorem bm_lk(s:List UInt8):lkpK true (.int .i64 0) (some bindM) (some (.string (str s)))=some (.pv (.v (.int .i64 (bindsV s))),.no):=by
 show lkpJ _ _ (findKs (kdOf true) (.string (str s)) bindKs 0)=_;unfold bindKs;rw[bm_find s bindL 0];simp only[bindL,List.findIdx?_cons,List.findIdx?_nil,bindsV];by_cases h1:s=[42];· subst h1;rfl
 by_cases h2:s=[47];· subst h2;rfl
 by_cases h3:s=[37];· subst h3;rfl
 by_cases h4:s=[43];· subst h4;rfl
 by_cases h5:s=[45];· subst h5;rfl
 by_cases h6:s=[38];· subst h6;rfl
 by_cases h7:s=[61];· subst h7;rfl
 by_cases h8:s=[60,62];· subst h8;rfl
 by_cases h9:s=[60];· subst h9;rfl
 by_cases h10:s=[60,61];· subst h10;rfl
 by_cases h11:s=[62];· subst h11;rfl
 by_cases h12:s=[62,61];· subst h12;rfl
 simp[h1,h2,h3,h4,h5,h6,h7,h8,h9,h10,h11,h12,lkpJ,zeroT]
theorem bmV:(type_of% @bm_m1)∧(type_of% @bm_m2)∧(type_of% @bm_m3)∧(type_of% @bm_ids1)∧(type_of% @bm_ids2)∧(type_of% @bm_ids3)∧(type_of% @bm_ren1)∧(type_of% @bm_ren2)∧(type_of% @bm_ren3)∧(type_of% @bm_cells)∧(type_of% @bm_lk):=⟨@bm_m1,@bm_m2,@bm_m3,@bm_ids1,@bm_ids2,@bm_ids3,@bm_ren1,@bm_ren2,@bm_ren3,@bm_cells,@bm_lk⟩
end Go.Proofs.YtcpaleaajdilgaaGreatDoor
end

section
namespace Go.Sh.Cd5
open Go Go.Sh
set_option maxRecDepth 100000
abbrev c_87_0:=kV [2,3,4] [oD 2 (.new zV),oD 3 (.new [(.int .i64 0)]),oD 4 (.new [(.int .i64 0)])] []
abbrev c_87_1:=kR [oM 10 0,oD 11 (.slen (.tmp 10)),kK 12 .gtr 3 11 200] [10,11]
abbrev c_87_2:=kR [oD 13 (.build zV []),kS 4 2 13,oN (.st 1 (.tmp 3) (vI 200)),oN (.st 1 (.tmp 4) (vI 50))] [0,12,13]
abbrev c_87_3:=kV [2068,2069,2070,2071,5] [oM 14 0,oD 15 (.slen (.tmp 14)),oD 16 (.build [(.slice none 0 0),(.int .i64 0),(.int .i64 0)] [(2,1,(.tmp 15))]),oD 17 (.call 74 0 []),oD 18 (.build [(.slice none 0 0),(.int .i64 0),(.int .i64 0),(.map none)] [(0,3,(.tmp 16)),(3,1,(.tmp 17))]),oD 5 (.new [(.slice none 0 0),(.int .i64 0),(.int .i64 0),(.map none)]),kS 4 5 18] [12,14,15,16,17,18]
abbrev c_87_4:=kV [2080,2081,2082,2083] [oM 19 0,kC 20 75 0 19] [0,19]
abbrev c_87_5:=kV [2148,2149,2150,2151,7] [kC 37 76 1 5,oM 36 37,kY 38 36 0,kY 39 36 1,kY 40 36 2,oD 7 (.new zV),kS 4 7 38,oM 8 39,oM 9 40] [5,20,36,37,38,39,40]
abbrev c_87_6:=kR [oM 41 9,kN 42 41] [9,41]
abbrev c_87_7:=kR [oD 43 (.build zV []),oM 44 8,kS 4 2 43,kS 1 3 44,oN (.st 1 (.tmp 4) (vI 50))] [7,8,42,43,44]
abbrev c_87_8:=kV [2184,2185,2186,2187] [oL 45 true 4 7,kC 46 77 0 45,kN 47 46] [8,42,45,46]
abbrev c_87_9:=kR [oD 48 (.build zV []),kS 4 2 48,oN (.st 1 (.tmp 3) (vI 0)),oN (.st 1 (.tmp 4) (vI 51))] [7,47,48]
abbrev c_87_10:=kR [oL 49 true 4 7,kS 4 2 49,oN (.st 1 (.tmp 3) (vI 0)),oN (.st 1 (.tmp 4) (vI 0))] [7,47,49]
noncomputable abbrev F_87:SFunc:=⟨50,(.seq c_87_0 (.seq (.seq c_87_1 (.cond (.tmp 12) (.seq c_87_2 .ret) .skip)) (.seq c_87_3 (.seq (.seq c_87_4 (.block 0 (.raw 50 (rawOf Go.Proofs.Tryz.prog 36 0)))) (.seq c_87_5 (.seq (.seq c_87_6 (.cond (.tmp 42) (.seq c_87_7 .ret) .skip)) (.seq (.seq c_87_8 (.cond (.tmp 47) (.seq c_87_9 .ret) .skip)) (.seq c_87_10 .ret)))))))),[.cell true 4 2,.cell false 1 3,.cell false 1 4],false⟩
theorem tf_87:z6 Go.Proofs.Tryz.prog 36 (hintT [(17,0),(20,0),(32,0),(37,1),(46,0)]) (fpT []) (killT [(1,[10,11]),(2,[0,12,13]),(3,[12,14,15,16,17,18]),(4,[0,19]),(9,[5,20,36,37,38,39,40]),(10,[9,41]),(11,[7,8,42,43,44]),(12,[8,42,45,46]),(13,[7,47,48]),(14,[7,47,49])]) false=some F_87:=by kernel_rfl
abbrev c_90_0:=kV [1] [kO 1 0,oD 2 (.mov (.val .nilFunc))] [0,2]
abbrev c_90_1:=kR [oD 3 (.mkf (.func 129) [] [.tmp 1]),oM 2 3] [1,3]
abbrev F_90:SFunc:=⟨4,(.seq c_90_0 (.seq c_90_1 .ret)),[.tmp 2],false⟩
theorem tf_90:kU 75 [] [] F_90:=by unfold kU;kernel_rfl
abbrev c_88_0:=kV [1] [kO 1 0,kT 2 false] [0,2]
abbrev c_88_1:=kV [2016,2017,2018,2019,3] [oD 4 (.call 74 0 []),oD 5 (.build [(.map none),(.int .i64 0)] [(0,1,(.tmp 4))]),oD 3 (.new [(.map none),(.int .i64 0)]),kS 2 3 5] [4,5]
abbrev c_88_2:=kV [2028,2029,2030,2031] [oL 6 true 4 1,oD 7 (.call 134 1 [.tmp 3,.tmp 6,vI 1]),oM 2 7] [1,3,6,7]
abbrev F_88:SFunc:=⟨8,(.seq c_88_0 (.seq c_88_1 (.seq c_88_2 .ret))),[.tmp 2],false⟩
theorem tf_88:kU 77 [(4,0),(7,1)] [] F_88:=by unfold kU;kernel_rfl
abbrev c_expr_pieces_1_0:=kR [kI 3 0] []
abbrev c_expr_pieces_1_1:=kR [oM 6 3,oL 7 false 1 1,oD 8 (.slen (.tmp 7)),kB 9 .lss 3 6 8,oM 10 9,kL 11 10 true false 1 1,oH 12 10 true 3,oG 13 10 true (.sidx (.tmp 11) (.tmp 12)),oG 14 10 true (.bin .eql 5 (.tmp 13) (.val (.int .u8 32))),oP 15 10 14 false] [6,7,8,9,10,11,12,13,14]
abbrev c_expr_pieces_1_2:=kR [oM 16 3,kK 17 .add 3 16 1,oM 3 17] [15,16,17]
abbrev c_expr_pieces_1_3:SCode:=(.seq (.seq c_expr_pieces_1_1 (.cond (.tmp 15) .skip (.exit 2))) (.block 3 c_expr_pieces_1_2))
abbrev c_expr_pieces_1_4:=kR [oM 18 3,oL 19 false 1 1,oD 20 (.slen (.tmp 19)),kB 21 .eql 3 18 20] [18,19,20]
abbrev c_expr_pieces_1_5:=kV [2104,2105,2106,2107,4] [oL 23 false 1 1,oM 24 3,oD 25 (.ssub (.tmp 23) (some (.tmp 24)) none),kC 26 130 0 25,oM 22 26,kY 27 22 0,kY 28 22 1,oD 4 (.new [(.int .i64 0),(.int .i64 0),(.string ⟨#[]⟩),(.int .i64 0)]),kS 4 4 27,oM 5 28] [21,22,23,24,25,26,27,28]
abbrev c_expr_pieces_1_6:=kR [oM 29 3,kA 30 3 4,kS 1 30 29] [29,30]
abbrev c_expr_pieces_1_8:=kR [oM 39 3,oM 40 5,kB 41 .add 3 39 40,oM 3 41] [5,38,39,40,41]
abbrev c_91_0:=kV [2] [oD 2 (.new [(.int .i64 0),(.int .i64 0),(.string ⟨#[]⟩),(.int .i64 0)]),kI 3 0] [3]
abbrev c_91_1:=kR [oM 6 0,oD 7 (.sidx (.tmp 6) (vI 0)),oM 4 7] [6,7]
abbrev c_91_2:=kR [oM 9 4,oD 10 (.bin .geq 5 (.tmp 9) (.val (.int .u8 48))),oM 11 10,oH 12 11 true 4,oG 13 11 true (.bin .leq 5 (.tmp 12) (.val (.int .u8 57))),oP 14 11 13 false,oM 8 14] [9,10,11,12,13,14]
abbrev c_91_3:=kV [2064,2065,2066,2067] [oM 15 0,kC 16 204 0 15,kY 17 16 0,kY 18 16 1,kS 4 2 17,oM 3 18] [0,4,8,15,16,17,18]
abbrev c_91_4:=kR [oM 20 4,oD 21 (.bin .geq 5 (.tmp 20) (.val (.int .u8 97))),oM 22 21,oH 23 22 true 4,oG 24 22 true (.bin .leq 5 (.tmp 23) (.val (.int .u8 122))),oP 25 22 24 false,oM 19 25] [8,20,21,22,23,24,25]
abbrev c_91_5:=kV [2108,2109,2110,2111] [oM 26 0,kC 27 205 0 26,kY 28 27 0,kY 29 27 1,kS 4 2 28,oM 3 29] [0,4,19,26,27,28,29]
abbrev c_91_6:=kR [oM 31 4,oD 32 (.bin .eql 5 (.tmp 31) (.val (.int .u8 34))),oM 30 32] [4,19,31,32]
abbrev c_91_7:=kV [2136,2137,2138,2139] [oM 33 0,kC 34 206 0 33,kY 35 34 0,kY 36 34 1,kS 4 2 35,oM 3 36] [0,30,33,34,35,36]
abbrev c_91_8:=kV [2156,2157,2158,2159] [oM 37 0,oD 38 (.bsl 1 [.val (.string ⟨#[61]⟩),.val (.string ⟨#[60,62]⟩),.val (.string ⟨#[60]⟩),.val (.string ⟨#[60,61]⟩),.val (.string ⟨#[62]⟩),.val (.string ⟨#[62,61]⟩),.val (.string ⟨#[38]⟩),.val (.string ⟨#[43]⟩),.val (.string ⟨#[45]⟩),.val (.string ⟨#[42]⟩),.val (.string ⟨#[47]⟩),.val (.string ⟨#[37]⟩),.val (.string ⟨#[40]⟩),.val (.string ⟨#[41]⟩),.val (.string ⟨#[44]⟩)]),kD 39 207 0 37 38,oM 5 39] [0,3,30,37,38,39]
abbrev c_91_9:=kR [oM 40 5,oD 41 (.bin .eql 9 (.tmp 40) (.val (.string ⟨#[]⟩)))] [40]
abbrev c_91_10:=kR [oD 42 (.build [(.int .i64 0),(.int .i64 0),(.string ⟨#[]⟩),(.int .i64 0)] []),kS 4 2 42,kI 3 0] [5,41,42]
abbrev c_91_11:=kR [oM 43 5,oD 44 (.build [(.int .i64 0),(.int .i64 0),(.string ⟨#[]⟩),(.int .i64 0)] [(0,1,(vI 4)),(2,1,(.tmp 43))]),oM 45 5,oD 46 (.slen (.tmp 45)),kS 4 2 44,oM 3 46] [5,41,43,44,45,46]
abbrev F_91:SFunc:=⟨47,(.seq c_91_0 (.seq (.seq c_91_1 (.block 0 (.seq c_91_2 (.cond (.tmp 8) (.seq c_91_3 .ret) (.seq c_91_4 (.cond (.tmp 19) (.seq c_91_5 .ret) (.seq c_91_6 (.cond (.tmp 30) (.seq c_91_7 .ret) .skip)))))))) (.seq c_91_8 (.seq (.seq c_91_9 (.cond (.tmp 41) (.seq c_91_10 .ret) .skip)) (.seq c_91_11 .ret))))),[.cell true 4 2,.tmp 3],false⟩
theorem tf_91:kU 130 [(16,0),(27,0),(34,0),(38,0),(39,0)] [] F_91:=by unfold kU;kernel_rfl
abbrev c_24_0:=kV [4] [oD 4 (.new zV)] []
abbrev c_24_1:SCode:=.regq [([2036,2037,2038,2039,5],[oM 8 0,kC 9 208 3 8,oD 5 (.new zV),kS 4 5 9])] [8,9,9999]
abbrev c_24_2:=kV [2052,2053,2054,2055,6] [oM 10 0,kQ 11 10,kA 12 0 11,kC 13 133 1 12,oD 6 (.new [(.int .i64 0),(.int .i64 0),(.string ⟨#[]⟩),(.int .i64 0)]),kS 4 6 13] [10,11,12,13]
abbrev c_24_3:=kR [oM 14 0,kQ 15 14,kA 16 3 15,oL 17 false 1 16,kA 18 2 6,oL 19 false 1 18,oD 20 (.lkp true (.int .i64 0) (.tmp 17) (.tmp 19)),oM 7 20] [14,15,16,17,18,19,20]
abbrev c_24_4:=kR [kA 21 0 6,oL 22 false 1 21,kK 23 .neq 3 22 4,oM 24 23,oH 25 24 false 7,oH 26 24 false 1,kH 27 24 false .lss 3 25 26,oQ 28 24 27 true] [21,22,23,24,25,26,27]
abbrev c_24_5:=kR [oL 29 true 4 5,kS 4 4 29] [0,1,5,6,7,28,29]
abbrev c_24_6:=kR [oM 30 0,kQ 31 30,kA 32 0 31,kA 33 1 32,oL 34 false 1 33,kK 35 .add 3 34 1,kQ 36 30,kA 37 0 36,kA 38 1 37,kS 1 38 35] [28,30,31,32,33,34,35,36,37,38]
abbrev c_24_7:SCode:=.regq [([2180,2181,2182,2183],[kA 39 2 6,⟨(some 40),none,(some 6),.ld false 1 (.tmp 39)⟩,⟨(some 41),none,(some 5),.ld true 4 (.tmp 5)⟩,oM 42 0,oM 43 7,kK 44 .add 3 43 1,⟨(some 45),none,(some 1000),.call 132 3 [.tmp 42,.tmp 44]⟩,oD 46 (.bsl 4 [.tmp 41,.tmp 45]),oD 47 (.build zV [(0,1,(vI 4)),(2,1,(.tmp 40)),(3,1,(.tmp 46))]),⟨none,none,(some 5),.st 4 (.tmp 5) (.tmp 47)⟩])] [6,7,39,40,41,42,43,44,45,46,47,9999]
abbrev c_24_8:SCode:=(.block 1 (.seq c_24_2 (.seq c_24_3 (.seq (.seq c_24_4 (.cond (.tmp 28) (.seq c_24_5 .ret) .skip)) (.seq c_24_6 c_24_7)))))
abbrev F_24:SFunc:=⟨48,(.seq c_24_0 (.seq c_24_1 (.block 0 (.loop c_24_8)))),[.cell true 4 4],false⟩
theorem tf_24:kU 132 [(9,3),(13,1),(45,3),(46,0)] [(7,[[(1,6),(2,5),(9,5),(6,1000)]])] F_24:=by unfold kU;kernel_rfl
abbrev c_28_0:=kV [2] [oD 2 (.new [(.int .i64 0),(.int .i64 0),(.string ⟨#[]⟩),(.int .i64 0)])] []
abbrev c_28_1:=kR [oM 3 0,kQ 4 3,kA 5 1 4,oL 6 false 1 5,oM 7 0,kQ 8 7,kA 9 0 8,oL 10 false 1 9,kZ 11 10,kB 12 .lss 3 6 11] [3,4,5,6,7,8,9,10,11]
abbrev c_28_2:=kR [oM 13 0,kQ 14 13,kA 15 0 14,oL 16 false 1 15,oM 17 0,kQ 18 17,kA 19 1 18,oL 20 false 1 19,kX 21 4 16 20,oL 22 true 4 21,kS 4 2 22] [0,12,13,14,15,16,17,18,19,20,21,22]
abbrev c_28_3:=kR [oM 23 0,kQ 24 23,kA 25 2 24,oL 26 false 1 25,oD 27 (.build [(.int .i64 0),(.int .i64 0),(.string ⟨#[]⟩),(.int .i64 0)] [(3,1,(.tmp 26))]),kS 4 2 27] [0,12,23,24,25,26,27]
abbrev F_28:SFunc:=⟨28,(.seq c_28_0 (.seq (.seq c_28_1 (.cond (.tmp 12) (.seq c_28_2 .ret) .skip)) (.seq c_28_3 .ret))),[.cell true 4 2],false⟩
theorem tf_28:kU 133 [] [] F_28:=by unfold kU;kernel_rfl
abbrev c_23_0:=kV [4] [kO 4 1,kT 6 false] [1,6]
abbrev c_23_1:=kR [oM 9 0,kQ 10 9,kA 11 1 10,oL 12 false 1 11,kK 13 .add 3 12 1,kQ 14 9,kA 15 1 14,kS 1 15 13] [9,10,11,12,13,14,15]
abbrev c_23_2:=kV [2112,2113,2114,2115] [oM 16 2,kK 17 .gtr 3 16 8,oM 18 17,oH 19 18 false 0,oG 20 18 false (.nchk (.tmp 19)),kF 21 18 false 1 20,kL 22 18 false false 1 21,kG 23 18 false .gtr 3 22 40,oQ 24 18 23 true,oM 25 24,oH 26 25 false 0,kL 27 25 false true 4 4,oG 28 25 false (.call 209 1 [.tmp 26,.tmp 27]),oG 29 25 false (.un .not (.tmp 28)),oQ 30 25 29 true] [16,17,18,19,20,21,22,23,24,25,26,27,28,29]
abbrev c_23_3:=kR [kT 6 false] [0,2,4,30]
abbrev c_23_4:=kR [kA 31 3 4,oL 32 false 1 31,kZ 33 32,kI 34 0] [4,6,30,31]
abbrev c_23_5:=kR [kB 35 .lss 3 34 33] []
abbrev c_23_6:=kV [8] [kX 36 4 32 34,oL 37 true 4 36,oD 8 (.new zV),kS 4 8 37] [35,36,37]
abbrev c_23_7:=kV [2168,2169,2170,2171] [oM 38 0,oL 39 true 4 8,oM 40 2,kK 41 .add 3 40 1,kE 42 134 1 38 39 41,kN 43 42] [8,38,39,40,41,42]
abbrev c_23_8:=kR [kT 6 false] [0,2,32,33,34,43]
abbrev c_23_9:=kR [kK 44 .add 3 34 1,oM 34 44] [6,43,44]
abbrev c_23_10:SCode:=(.seq c_23_5 (.seq (.cond (.tmp 35) .skip (.exit 0)) (.seq (.block 1 (.seq c_23_6 (.seq c_23_7 (.cond (.tmp 43) (.seq c_23_8 .ret) .skip)))) c_23_9)))
abbrev c_23_11:=kR [kT 6 true] [0,2,32,33,34]
abbrev F_23:SFunc:=⟨45,(.seq c_23_0 (.seq c_23_1 (.seq (.seq c_23_2 (.cond (.tmp 30) (.seq c_23_3 .ret) .skip)) (.seq (.seq c_23_4 (.block 0 (.loop c_23_10))) (.seq c_23_11 .ret))))),[.tmp 6],false⟩
theorem tf_23:kU 134 [(28,1),(42,1)] [] F_23:=by unfold kU;kernel_rfl
abbrev c_93_0:=kV [2] [oD 2 (.new [(.int .i64 0),(.int .i64 0),(.string ⟨#[]⟩),(.int .i64 0)]),kI 3 0] [3]
abbrev c_93_1:=kR [kI 4 0,kI 5 0] []
abbrev c_93_2:=kR [oM 6 5,oM 7 0,oD 8 (.slen (.tmp 7)),kB 9 .lss 3 6 8,oM 10 9,oH 11 10 true 0,oH 12 10 true 5,oG 13 10 true (.sidx (.tmp 11) (.tmp 12)),oG 14 10 true (.bin .geq 5 (.tmp 13) (.val (.int .u8 48))),oP 15 10 14 false,oM 16 15,oH 17 16 true 0,oH 18 16 true 5,oG 19 16 true (.sidx (.tmp 17) (.tmp 18)),oG 20 16 true (.bin .leq 5 (.tmp 19) (.val (.int .u8 57))),oP 21 16 20 false] [6,7,8,9,10,11,12,13,14,15,16,17,18,19,20]
abbrev c_93_3:=kR [oM 22 4,oD 23 (.bin .mul 3 (vI 10) (.tmp 22)),oM 24 0,oM 25 5,oD 26 (.sidx (.tmp 24) (.tmp 25)),oD 27 (.bin .sub 5 (.tmp 26) (.val (.int .u8 48))),oD 28 (.cvi .i64 (.tmp 27)),kB 29 .add 3 23 28,oD 30 (.imm false (.tmp 29) (vI 1000000000000001)),oM 4 30] [21,22,23,24,25,26,27,28,29,30]
abbrev c_93_4:=kR [oM 31 5,kK 32 .add 3 31 1,oM 5 32] [31,32]
abbrev c_93_5:SCode:=(.seq (.seq c_93_2 (.cond (.tmp 21) .skip (.exit 0))) (.block 1 (.seq c_93_3 c_93_4)))
abbrev c_93_6:=kR [oM 33 4,kK 34 .gtr 3 33 1000000000000000] [0,33]
abbrev c_93_7:=kR [oD 35 (.build [(.int .i64 0),(.int .i64 0),(.string ⟨#[]⟩),(.int .i64 0)] []),kS 4 2 35,kI 3 0] [4,5,34,35]
abbrev c_93_8:=kR [oM 36 4,oD 37 (.build [(.int .i64 0),(.int .i64 0),(.string ⟨#[]⟩),(.int .i64 0)] [(0,1,(vI 1)),(1,1,(.tmp 36))]),oM 38 5,kS 4 2 37,oM 3 38] [4,5,34,36,37,38]
abbrev F_93:SFunc:=⟨39,(.seq c_93_0 (.seq c_93_1 (.seq (.block 0 (.loop c_93_5)) (.seq (.seq c_93_6 (.cond (.tmp 34) (.seq c_93_7 .ret) .skip)) (.seq c_93_8 .ret))))),[.cell true 4 2,.tmp 3],false⟩
theorem tf_93:kU 204 [] [] F_93:=by unfold kU;kernel_rfl
abbrev c_92_0:=kV [2] [oD 2 (.new [(.int .i64 0),(.int .i64 0),(.string ⟨#[]⟩),(.int .i64 0)]),kI 3 0] [3]
abbrev c_92_1:=kR [kI 4 0] []
abbrev c_92_2:=kR [oM 5 4,oM 6 0,oD 7 (.slen (.tmp 6)),kB 8 .lss 3 5 7,oM 9 8,oH 10 9 true 0,oH 11 9 true 4,oG 12 9 true (.sidx (.tmp 10) (.tmp 11)),oG 13 9 true (.bin .geq 5 (.tmp 12) (.val (.int .u8 97))),oH 14 9 true 13,oH 15 14 true 0,oH 16 14 true 4,oG 17 14 true (.sidx (.tmp 15) (.tmp 16)),oG 18 14 true (.bin .leq 5 (.tmp 17) (.val (.int .u8 122))),oG 19 9 true (.pick (.tmp 14) (.tmp 18) (.val (.bool false))),oH 20 9 true 19,oH 21 20 false 0,oH 22 20 false 4,oG 23 20 false (.sidx (.tmp 21) (.tmp 22)),oG 24 20 false (.bin .geq 5 (.tmp 23) (.val (.int .u8 48))),oH 25 20 false 24,oH 26 25 true 0,oH 27 25 true 4,oG 28 25 true (.sidx (.tmp 26) (.tmp 27)),oG 29 25 true (.bin .leq 5 (.tmp 28) (.val (.int .u8 57))),oG 30 20 false (.pick (.tmp 25) (.tmp 29) (.val (.bool false))),oG 31 9 true (.pick (.tmp 20) (.val (.bool true)) (.tmp 30)),oH 32 9 true 31,oH 33 32 false 0,oH 34 32 false 4,oG 35 32 false (.sidx (.tmp 33) (.tmp 34)),oG 36 32 false (.bin .eql 5 (.tmp 35) (.val (.int .u8 95))),oG 37 9 true (.pick (.tmp 32) (.val (.bool true)) (.tmp 36)),oP 38 9 37 false] [5,6,7,8,9,10,11,12,13,14,15,16,17,18,19,20,21,22,23,24,25,26,27,28,29,30,31,32,33,34,35,36,37]
abbrev c_92_3:=kR [oM 39 4,kK 40 .add 3 39 1,oM 4 40] [38,39,40]
abbrev c_92_4:SCode:=(.seq (.seq c_92_2 (.cond (.tmp 38) .skip (.exit 0))) (.block 1 c_92_3))
abbrev c_92_5:=kV [2176,2177,2178,2179] [oM 41 0,oM 42 4,oD 43 (.ssub (.tmp 41) none (some (.tmp 42))),kC 44 244 0 43,kN 45 44] [41,42,43,44]
abbrev c_92_6:=kR [oD 46 (.build [(.int .i64 0),(.int .i64 0),(.string ⟨#[]⟩),(.int .i64 0)] []),kS 4 2 46,kI 3 0] [0,4,45,46]
abbrev c_92_7:=kR [oM 47 0,oM 48 4,oD 49 (.ssub (.tmp 47) none (some (.tmp 48))),oD 50 (.build [(.int .i64 0),(.int .i64 0),(.string ⟨#[]⟩),(.int .i64 0)] [(0,1,(vI 3)),(2,1,(.tmp 49))]),oM 51 4,kS 4 2 50,oM 3 51] [0,4,45,47,48,49,50,51]
abbrev F_92:SFunc:=⟨52,(.seq c_92_0 (.seq c_92_1 (.seq (.block 0 (.loop c_92_4)) (.seq (.seq c_92_5 (.cond (.tmp 45) (.seq c_92_6 .ret) .skip)) (.seq c_92_7 .ret))))),[.cell true 4 2,.tmp 3],false⟩
theorem tf_92:kU 205 [(44,0)] [] F_92:=by unfold kU;kernel_rfl
abbrev c_94_0:=kV [2] [oD 2 (.new [(.int .i64 0),(.int .i64 0),(.string ⟨#[]⟩),(.int .i64 0)]),kI 3 0] [3]
abbrev c_94_1:=kR [oD 4 (.mov (.val (.slice none 0 0)))] []
abbrev c_94_2:=kR [kI 5 1] []
abbrev c_94_3:=kR [oM 6 5,oM 7 0,oD 8 (.slen (.tmp 7)),kB 9 .lss 3 6 8] [6,7,8]
abbrev c_94_4:=kR [oM 12 0,oM 13 5,oD 14 (.sidx (.tmp 12) (.tmp 13))] [9,12,13]
abbrev c_94_5:=kR [oD 16 (.bin .eql 5 (.tmp 14) (.val (.int .u8 34))),oM 15 16] [16]
abbrev c_94_6:=kV [2076,2077,2078,2079] [oM 17 4,oD 18 (.b2s (.tmp 17)),kC 19 245 0 18,kN 20 19] [0,14,15,17,18,19]
abbrev c_94_7:=kR [oD 21 (.build [(.int .i64 0),(.int .i64 0),(.string ⟨#[]⟩),(.int .i64 0)] []),kS 4 2 21,kI 3 0] [4,5,20,21]
abbrev c_94_8:=kR [oM 22 4,oD 23 (.b2s (.tmp 22)),oD 24 (.build [(.int .i64 0),(.int .i64 0),(.string ⟨#[]⟩),(.int .i64 0)] [(0,1,(vI 2)),(2,1,(.tmp 23))]),oM 25 5,kK 26 .add 3 25 1,kS 4 2 24,oM 3 26] [4,5,20,22,23,24,25,26]
abbrev c_94_9:=kR [oD 28 (.bin .eql 5 (.tmp 14) (.val (.int .u8 92))),oM 27 28] [14,15,28]
abbrev c_94_10:=kR [oM 29 5,kK 30 .add 3 29 1,oM 5 30] [27,29,30]
abbrev c_94_11:=kR [oM 31 5,oM 32 0,oD 33 (.slen (.tmp 32)),kB 34 .eql 3 31 33,oM 35 34,oH 36 35 false 0,oH 37 35 false 5,oG 38 35 false (.sidx (.tmp 36) (.tmp 37)),oG 39 35 false (.bin .neq 5 (.tmp 38) (.val (.int .u8 34))),oH 40 35 false 39,oH 41 40 true 0,oH 42 40 true 5,oG 43 40 true (.sidx (.tmp 41) (.tmp 42)),oG 44 40 true (.bin .neq 5 (.tmp 43) (.val (.int .u8 92))),oG 45 35 false (.pick (.tmp 40) (.tmp 44) (.val (.bool false))),oQ 46 35 45 true] [31,32,33,34,35,36,37,38,39,40,41,42,43,44,45]
abbrev c_94_12:=kR [oD 47 (.build [(.int .i64 0),(.int .i64 0),(.string ⟨#[]⟩),(.int .i64 0)] []),kS 4 2 47,kI 3 0] [0,4,5,46,47]
abbrev c_94_13:SCode:=.reg [([],[oM 48 4,oM 49 0,oM 50 5,oD 51 (.sidx (.tmp 49) (.tmp 50)),oD 52 (.bsl 1 [.tmp 51]),oD 53 (.app 5 1 1 (.tmp 48) (.tmp 52)),oM 4 53]),([53],[oM 48 4,oM 49 0,oM 50 5,oD 51 (.sidx (.tmp 49) (.tmp 50)),oD 52 (.bsl 1 [.tmp 51]),oD 53 (.appN 5 1 1 (.tmp 48) (.tmp 52)),oM 4 53])] [3,27,46,48,49,50,51,52,53]
abbrev c_94_14:=kR [oM 10 5,kK 11 .add 3 10 1,oM 5 11] [10,11]
abbrev c_94_15:SCode:=(.seq (.seq c_94_3 (.cond (.tmp 9) .skip (.exit 0))) (.seq (.block 1 (.seq (.seq c_94_4 (.block 2 (.seq c_94_5 (.cond (.tmp 15) (.seq (.seq c_94_6 (.cond (.tmp 20) (.seq c_94_7 .ret) .skip)) (.seq c_94_8 .ret)) (.seq c_94_9 (.cond (.tmp 27) (.seq c_94_10 (.seq c_94_11 (.cond (.tmp 46) (.seq c_94_12 .ret) .skip))) .skip)))))) c_94_13)) c_94_14))
abbrev c_94_16:=kR [oD 54 (.build [(.int .i64 0),(.int .i64 0),(.string ⟨#[]⟩),(.int .i64 0)] []),kS 4 2 54,kI 3 0] [0,4,5,54]
abbrev F_94:SFunc:=⟨55,(.seq c_94_0 (.seq c_94_1 (.seq (.seq c_94_2 (.block 0 (.loop c_94_15))) (.seq c_94_16 .ret)))),[.cell true 4 2,.tmp 3],false⟩
theorem tf_94:z6 Go.Proofs.Tryz.prog 206 (hintT [(19,0),(52,0)]) (fpT []) (killT [(0,[3]),(3,[6,7,8]),(5,[9,12,13]),(6,[16]),(7,[0,14,15,17,18,19]),(8,[4,5,20,21]),(9,[4,5,20,22,23,24,25,26]),(10,[14,15,28]),(11,[27,29,30]),(12,[31,32,33,34,35,36,37,38,39,40,41,42,43,44,45]),(13,[0,4,5,46,47]),(14,[3,27,46,48,49,50,51,52,53]),(4,[10,11]),(15,[0,4,5,54])]) false=some F_94:=by kernel_rfl
abbrev c_89_0:=kR [oD 4 (.mov (.val (.string ⟨#[]⟩)))] [4]
abbrev c_89_1:=kR [oD 5 (.mov (.val (.string ⟨#[]⟩)))] []
abbrev c_89_2:=kR [oM 8 1,kZ 9 8,kI 10 0] [1]
abbrev c_89_3:=kR [kB 11 .lss 3 10 9] []
abbrev c_89_4:=kR [kX 12 1 8 10,oL 13 false 1 12,oM 7 13] [11,12,13]
abbrev c_89_5:=kV [2064,2065,2066,2067] [oM 14 0,oM 15 7,kD 16 246 0 14 15,oM 17 16,oH 18 17 true 7,oG 19 17 true (.slen (.tmp 18)),oH 20 17 true 5,oG 21 17 true (.slen (.tmp 20)),kH 22 17 true .gtr 3 19 21,oP 23 17 22 false] [14,15,16,17,18,19,20,21,22]
abbrev c_89_6:=kR [oM 24 7,oM 5 24] [7,23,24]
abbrev c_89_7:=kR [kK 25 .add 3 10 1,oM 10 25] [7,23,25]
abbrev c_89_8:SCode:=(.seq c_89_3 (.seq (.cond (.tmp 11) .skip (.exit 0)) (.seq (.block 1 (.seq c_89_4 (.seq c_89_5 (.cond (.tmp 23) c_89_6 .skip)))) c_89_7)))
abbrev c_89_9:=kR [oM 26 5,oM 4 26] [0,5,8,9,10,26]
abbrev F_89:SFunc:=⟨27,(.seq c_89_0 (.seq c_89_1 (.seq (.seq c_89_2 (.block 0 (.loop c_89_8))) (.seq c_89_9 .ret)))),[.tmp 4],false⟩
theorem tf_89:kU 207 [(16,0)] [] F_89:=by unfold kU;kernel_rfl
abbrev c_26_0:=kV [2] [oD 2 (.new zV)] []
abbrev c_26_1:=kV [2036,2037,2038,2039] [oM 6 0,kQ 7 6,kA 8 0 7,oD 9 (.call 247 1 [.tmp 8,.val (.string ⟨#[40]⟩)])] [6,7,8]
abbrev c_26_2:SCode:=.regq [([2044,2045,2046,2047,3],[oM 10 0,oD 11 (.call 132 3 [.tmp 10,vI 1]),oD 3 (.new zV),kS 4 3 11])] [9,10,11,9999]
abbrev c_26_3:SCode:=.regq [([2060,2061,2062,2063],[oM 12 0,kQ 13 12,kA 14 0 13,oD 15 (.call 248 3 [.tmp 14,.val (.string ⟨#[41]⟩)])])] [0,12,13,14,15,9999]
abbrev c_26_4:=kR [oL 16 true 4 3,kS 4 2 16] [3,16]
abbrev c_26_5:=kV [2080,2081,2082,2083] [oM 17 0,kQ 18 17,kA 19 0 18,oD 20 (.call 247 1 [.tmp 19,.val (.string ⟨#[45]⟩)])] [9,17,18,19]
abbrev c_26_6:SCode:=.regq [([2088,2089,2090,2091],[oM 21 0,kC 22 208 3 21,oD 23 (.bsl 4 [.tmp 22]),oD 24 (.build zV [(0,1,(vI 5)),(2,1,(.val (.string ⟨#[45]⟩))),(3,1,(.tmp 23))]),kS 4 2 24])] [0,20,21,22,23,24,9999]
abbrev c_26_7:=kV [2112,2113,2114,2115,4] [oM 25 0,kQ 26 25,kA 27 0 26,kC 28 133 1 27,oD 4 (.new [(.int .i64 0),(.int .i64 0),(.string ⟨#[]⟩),(.int .i64 0)]),kS 4 4 28] [20,25,26,27,28]
abbrev c_26_8:=kR [oM 29 0,kQ 30 29,kA 31 0 30,kA 32 1 31,oL 33 false 1 32,kK 34 .add 3 33 1,kQ 35 29,kA 36 0 35,kA 37 1 36,kS 1 37 34] [29,30,31,32,33,34,35,36,37]
abbrev c_26_9:=kR [kA 38 0 4,oL 39 false 1 38] [38]
abbrev c_26_10:=kR [kK 41 .eql 3 39 1,oM 40 41] [41]
abbrev c_26_11:=kR [kA 42 1 4,oL 43 false 1 42,oD 44 (.build zV [(0,1,(vI 1)),(1,1,(.tmp 43))]),kS 4 2 44] [0,4,39,40,42,43,44]
abbrev c_26_12:=kR [kK 46 .eql 3 39 2,oM 45 46] [40,46]
abbrev c_26_13:=kR [kA 47 2 4,oL 48 false 1 47,oD 49 (.build zV [(0,1,(vI 2)),(2,1,(.tmp 48))]),kS 4 2 49] [0,4,39,45,47,48,49]
abbrev c_26_14:=kR [kK 51 .eql 3 39 3,oM 50 51] [39,45,51]
abbrev c_26_15:=kV [2216,2217,2218,2219] [kA 52 2 4,oL 53 false 1 52,kC 54 249 0 53,oM 5 54] [50,52,53,54]
abbrev c_26_16:=kV [2244,2245,2246,2247] [oM 55 5,kK 56 .gtr 3 55 0,oM 57 56,oH 58 57 true 0,oG 59 57 true (.nchk (.tmp 58)),kF 60 57 true 0 59,oG 61 57 true (.call 247 1 [.tmp 60,.val (.string ⟨#[40]⟩)]),oP 62 57 61 false] [55,56,57,58,59,60,61]
abbrev c_26_17:SCode:=.regq [([2268,2269,2270,2271],[kA 63 2 4,⟨(some 64),none,(some 4),.ld false 1 (.tmp 63)⟩,oM 65 0,oM 66 5,⟨(some 67),none,(some 1000),.call 250 3 [.tmp 65,.tmp 66]⟩,oD 68 (.build zV [(0,1,(vI 6)),(2,1,(.tmp 64)),(3,1,(.tmp 67))]),⟨none,none,(some 2),.st 4 (.tmp 2) (.tmp 68)⟩])] [0,4,5,62,63,64,65,66,67,68,9999]
abbrev c_26_18:=kR [kA 69 2 4,oL 70 false 1 69,oD 71 (.build zV [(0,1,(vI 3)),(2,1,(.tmp 70))]),kS 4 2 71] [0,4,5,62,69,70,71]
abbrev c_26_19:SCode:=.regq [([],[kA 72 3 4,oL 73 false 1 72,oD 74 (.mkI 212 (.tmp 73)),oN (.pan (.tmp 74))])] [0,4,50,72,73,74,9999]
abbrev F_26:SFunc:=⟨75,(.seq c_26_0 (.seq (.seq c_26_1 (.cond (.tmp 9) (.seq c_26_2 (.seq c_26_3 (.seq c_26_4 .ret))) .skip)) (.seq (.seq c_26_5 (.cond (.tmp 20) (.seq c_26_6 .ret) .skip)) (.seq c_26_7 (.seq c_26_8 (.seq (.seq c_26_9 (.block 0 (.seq c_26_10 (.cond (.tmp 40) (.seq c_26_11 .ret) (.seq c_26_12 (.cond (.tmp 45) (.seq c_26_13 .ret) (.seq c_26_14 (.cond (.tmp 50) (.seq (.seq c_26_15 (.seq c_26_16 (.cond (.tmp 62) (.seq c_26_17 .ret) .skip))) (.seq c_26_18 .ret)) .skip)))))))) c_26_19)))))),[.cell true 4 2],false⟩
theorem tf_26:kU 208 [(9,1),(11,3),(15,3),(20,1),(22,3),(23,0),(28,1),(54,0),(61,1),(67,3)] [(17,[[(1,4),(6,2),(4,1000)]])] F_26:=by unfold kU;kernel_rfl
abbrev c_22_0:=kV [3] [kO 3 1,kT 4 false] [1,4]
abbrev c_22_1:=kR [kA 5 0 3,oL 6 false 1 5,kK 7 .neq 3 6 1,oM 8 7,kF 9 8 true 1 3,kL 10 8 true false 1 9,kG 11 8 true .neq 3 10 0,oP 12 8 11 false] [5,6,7,8,9,10,11]
abbrev c_22_2:=kR [kT 4 false] [0,3,12]
abbrev c_22_3:=kR [kA 13 0 3,oL 14 false 1 13] [4,12,13]
abbrev c_22_4:=kR [kK 16 .eql 3 14 1,oM 15 16] [16]
abbrev c_22_5:=kR [kA 17 1 3,oL 18 false 1 17,kK 19 .geq 3 18 0,oM 20 19,kF 21 20 true 1 3,kL 22 20 true false 1 21,kG 23 20 true .leq 3 22 1000000000000000,oP 24 20 23 false,oM 25 24,kF 26 25 true 2 3,kL 27 25 true false 1 26,oG 28 25 true (.bin .eql 9 (.tmp 27) (.val (.string ⟨#[]⟩))),oP 29 25 28 false,oM 30 29,kF 31 30 true 3 3,kL 32 30 true false 1 31,oG 33 30 true (.len (.tmp 32)),kG 34 30 true .eql 3 33 0,oP 35 30 34 false,oM 4 35] [0,3,14,15,17,18,19,20,21,22,23,24,25,26,27,28,29,30,31,32,33,34,35]
abbrev c_22_6:=kR [kK 37 .eql 3 14 2,oM 36 37] [15,37]
abbrev c_22_7:=kV [2160,2161,2162,2163] [kA 38 2 3,oL 39 false 1 38,kC 40 245 0 39,oM 41 40,kF 42 41 true 3 3,kL 43 41 true false 1 42,oG 44 41 true (.len (.tmp 43)),kG 45 41 true .eql 3 44 0,oP 46 41 45 false,oM 4 46] [0,3,14,36,38,39,40,41,42,43,44,45,46]
abbrev c_22_8:=kR [kK 48 .eql 3 14 3,oM 47 48] [36,48]
abbrev c_22_9:=kV [2204,2205,2206,2207] [kA 49 2 3,oL 50 false 1 49,kC 51 244 0 50,oM 52 51,kF 53 52 true 3 3,kL 54 52 true false 1 53,oG 55 52 true (.len (.tmp 54)),kG 56 52 true .eql 3 55 0,oP 57 52 56 false,oM 4 57] [0,3,14,47,49,50,51,52,53,54,55,56,57]
abbrev c_22_10:=kR [kK 59 .eql 3 14 4,oM 58 59] [47,59]
abbrev c_22_11:=kR [oM 60 0,kQ 61 60,kA 62 0 61,oL 63 false 1 62,kA 64 2 3,oL 65 false 1 64,oD 66 (.lkp true (.int .i64 0) (.tmp 63) (.tmp 65)),kK 67 .gtr 3 66 0,oM 68 67,kF 69 68 true 3 3,kL 70 68 true false 1 69,oG 71 68 true (.len (.tmp 70)),kG 72 68 true .eql 3 71 2,oP 73 68 72 false,oM 4 73] [0,3,14,58,60,61,62,63,64,65,66,67,68,69,70,71,72,73]
abbrev c_22_12:=kR [kK 75 .eql 3 14 5,oM 74 75] [0,58,75]
abbrev c_22_13:=kR [kA 76 2 3,oL 77 false 1 76,oD 78 (.bin .eql 9 (.tmp 77) (.val (.string ⟨#[45]⟩))),oM 79 78,kF 80 79 true 3 3,kL 81 79 true false 1 80,oG 82 79 true (.len (.tmp 81)),kG 83 79 true .eql 3 82 1,oP 84 79 83 false,oM 4 84] [3,14,74,76,77,78,79,80,81,82,83,84]
abbrev c_22_14:=kR [kK 86 .eql 3 14 6,oM 85 86] [14,74,86]
abbrev c_22_15:=kV [2356,2357,2358,2359,2388,2389,2390,2391] [kA 87 2 3,oL 88 false 1 87,kC 89 249 0 88,kK 90 .gtr 3 89 0,oM 91 90,kF 92 91 true 3 3,kL 93 91 true false 1 92,oG 94 91 true (.len (.tmp 93)),kF 95 91 true 2 3,kL 96 91 true false 1 95,oG 97 91 true (.call 249 0 [.tmp 96]),kH 98 91 true .eql 3 94 97,oP 99 91 98 false,oM 4 99] [3,85,87,88,89,90,91,92,93,94,95,96,97,98,99]
abbrev c_22_16:=kR [kT 4 false] [3,85]
abbrev F_22:SFunc:=⟨100,(.seq c_22_0 (.seq (.seq c_22_1 (.cond (.tmp 12) (.seq c_22_2 .ret) .skip)) (.seq (.seq c_22_3 (.block 0 (.seq c_22_4 (.cond (.tmp 15) (.seq c_22_5 .ret) (.seq c_22_6 (.cond (.tmp 36) (.seq c_22_7 .ret) (.seq c_22_8 (.cond (.tmp 47) (.seq c_22_9 .ret) (.seq c_22_10 (.cond (.tmp 58) (.seq c_22_11 .ret) (.seq c_22_12 (.cond (.tmp 74) (.seq c_22_13 .ret) (.seq c_22_14 (.cond (.tmp 85) (.seq c_22_15 .ret) .skip)))))))))))))) (.seq c_22_16 .ret)))),[.tmp 4],false⟩
theorem tf_22:kU 209 [(40,0),(51,0),(89,0),(97,0)] [] F_22:=by unfold kU;kernel_rfl
abbrev c_95_0:=kR [kT 2 false] [2]
abbrev c_95_1:=kV [2020,2021,2022,2023] [oM 3 0,oD 4 (.build [(.string ⟨#[]⟩),(.slice none 0 0)] [(0,1,(.tmp 3))]),kC 5 33 0 4,oM 2 5] [0,3,4,5]
abbrev F_95:SFunc:=⟨6,(.seq c_95_0 (.seq c_95_1 .ret)),[.tmp 2],false⟩
theorem tf_95:kU 244 [(5,0)] [] F_95:=by unfold kU;kernel_rfl
abbrev c_96_0:=kR [kT 2 false] [2]
abbrev c_96_1:=kV [2020,2021,2022,2023] [oM 3 0,oD 4 (.build zV [(0,1,(vI 2)),(2,1,(.tmp 3))]),kC 5 48 0 4,oM 2 5] [0,3,4,5]
abbrev F_96:SFunc:=⟨6,(.seq c_96_0 (.seq c_96_1 .ret)),[.tmp 2],false⟩
theorem tf_96:kU 245 [(5,0)] [] F_96:=by unfold kU;kernel_rfl
abbrev c_117_0:=kR [kT 4 false] [4]
abbrev c_117_1:=kV [2028,2029,2030,2031] [oM 5 0,oM 6 1,kD 7 282 0 5 6,oM 4 7] [0,1,5,6,7]
abbrev F_117:SFunc:=⟨8,(.seq c_117_0 (.seq c_117_1 .ret)),[.tmp 4],false⟩
theorem tf_117:kU 246 [(7,0)] [] F_117:=by unfold kU;kernel_rfl
abbrev c_29_0:=kR [kT 4 false] [4]
abbrev c_29_1:=kV [2028,2029,2030,2031,5] [oM 6 0,kC 7 133 1 6,oD 5 (.new [(.int .i64 0),(.int .i64 0),(.string ⟨#[]⟩),(.int .i64 0)]),kS 4 5 7] [6,7]
abbrev c_29_2:=kR [kA 8 0 5,oL 9 false 1 8,kK 10 .neq 3 9 4,oM 11 10,kF 12 11 false 2 5,kL 13 11 false false 1 12,oH 14 11 false 1,kH 15 11 false .neq 9 13 14,oQ 16 11 15 true] [1,5,8,9,10,11,12,13,14,15]
abbrev c_29_3:=kR [kT 4 false] [0,16]
abbrev c_29_4:=kR [oM 17 0,kQ 18 17,kA 19 1 18,oL 20 false 1 19,kK 21 .add 3 20 1,kQ 22 17,kA 23 1 22,kS 1 23 21] [0,4,16,17,18,19,20,21,22,23]
abbrev c_29_5:=kR [kT 4 true] []
abbrev F_29:SFunc:=⟨24,(.seq c_29_0 (.seq (.seq c_29_1 (.seq c_29_2 (.cond (.tmp 16) (.seq c_29_3 .ret) .skip))) (.seq c_29_4 (.seq c_29_5 .ret)))),[.tmp 4],false⟩
theorem tf_29:kU 247 [(7,1)] [] F_29:=by unfold kU;kernel_rfl
abbrev c_27_0:=kV [2024,2025,2026,2027] [oM 4 0,oM 5 1,kD 6 247 1 4 5,kN 7 6] [1,4,5,6]
abbrev c_27_1:SCode:=.regq [([2036,2037,2038,2039],[oM 8 0,kC 9 133 1 8,oD 10 (.fld false 3 1 (.tmp 9)),oD 11 (.mkI 212 (.tmp 10)),oN (.pan (.tmp 11))])] [0,7,8,9,10,11,9999]
abbrev F_27:SFunc:=⟨12,(.seq c_27_0 (.cond (.tmp 7) c_27_1 .skip)),[],false⟩
theorem tf_27:kU 248 [(6,1),(9,1)] [] F_27:=by unfold kU;kernel_rfl
abbrev c_97_0:=kR [kI 2 0] [2]
abbrev c_97_1:=kR [oM 3 0] [0]
abbrev c_97_2:=kR [oD 5 (.bin .eql 9 (.tmp 3) (.val (.string ⟨#[108,101,110]⟩))),oM 4 5] [5]
abbrev c_97_3:=kR [oD 6 (.bin .eql 9 (.tmp 3) (.val (.string ⟨#[116,101,120,116]⟩))),oM 4 6] [6]
abbrev c_97_4:=kR [oD 7 (.bin .eql 9 (.tmp 3) (.val (.string ⟨#[110,117,109]⟩))),oM 4 7] [7]
abbrev c_97_5:=kR [kI 2 1] [3,4]
abbrev c_97_6:=kR [oD 9 (.bin .eql 9 (.tmp 3) (.val (.string ⟨#[108,101,102,116]⟩))),oM 8 9] [4,9]
abbrev c_97_7:=kR [oD 10 (.bin .eql 9 (.tmp 3) (.val (.string ⟨#[114,105,103,104,116]⟩))),oM 8 10] [10]
abbrev c_97_8:=kR [oD 11 (.bin .eql 9 (.tmp 3) (.val (.string ⟨#[102,114,111,109]⟩))),oM 8 11] [11]
abbrev c_97_9:=kR [oD 12 (.bin .eql 9 (.tmp 3) (.val (.string ⟨#[102,105,110,100]⟩))),oM 8 12] [12]
abbrev c_97_10:=kR [oD 13 (.bin .eql 9 (.tmp 3) (.val (.string ⟨#[109,105,110]⟩))),oM 8 13] [13]
abbrev c_97_11:=kR [oD 14 (.bin .eql 9 (.tmp 3) (.val (.string ⟨#[109,97,120]⟩))),oM 8 14] [14]
abbrev c_97_12:=kR [kI 2 2] [3,8]
abbrev c_97_13:=kR [oD 16 (.bin .eql 9 (.tmp 3) (.val (.string ⟨#[105,102]⟩))),oM 15 16] [3,8,16]
abbrev c_97_14:=kR [kI 2 3] [15]
abbrev c_97_15:=kR [kI 2 0] [15]
abbrev F_97:SFunc:=⟨17,(.seq c_97_0 (.seq (.seq c_97_1 (.block 0 (.seq (.seq c_97_2 (.cond (.tmp 4) .skip (.seq c_97_3 (.cond (.tmp 4) .skip c_97_4)))) (.cond (.tmp 4) (.seq c_97_5 .ret) (.seq (.seq c_97_6 (.cond (.tmp 8) .skip (.seq c_97_7 (.cond (.tmp 8) .skip (.seq c_97_8 (.cond (.tmp 8) .skip (.seq c_97_9 (.cond (.tmp 8) .skip (.seq c_97_10 (.cond (.tmp 8) .skip c_97_11)))))))))) (.cond (.tmp 8) (.seq c_97_12 .ret) (.seq c_97_13 (.cond (.tmp 15) (.seq c_97_14 .ret) .skip)))))))) (.seq c_97_15 .ret))),[.tmp 2],false⟩
theorem tf_97:kU 249 [] [] F_97:=by unfold kU;kernel_rfl
abbrev c_25_0:=kR [oD 4 (.mov (.val (.slice none 0 0)))] [4]
abbrev c_25_1:=kR [oD 5 (.mov (.val (.slice none 0 0)))] []
abbrev c_25_2:=kR [oM 7 1,kI 8 0] [1]
abbrev c_25_3:=kR [kB 9 .lss 3 8 7] []
abbrev c_25_4:=kR [oM 10 8,oM 6 10] [9,10]
abbrev c_25_5:=kR [oM 11 6,kK 12 .gtr 3 11 0] [6,11]
abbrev c_25_6:SCode:=.regq [([2064,2065,2066,2067],[oM 13 0,kQ 14 13,kA 15 0 14,oD 16 (.call 248 3 [.tmp 15,.val (.string ⟨#[44]⟩)])])] [12,13,14,15,16,9999]
abbrev c_25_7:SCode:=.regq [([2076,2077,2078,2079],[oM 17 5,oM 18 0,oD 19 (.call 132 3 [.tmp 18,vI 1]),oD 20 (.bsl 4 [.tmp 19]),oD 21 (.app 76 4 56 (.tmp 17) (.tmp 20)),oM 5 21]),([2076,2077,2078,2079,21],[oM 17 5,oM 18 0,oD 19 (.call 132 3 [.tmp 18,vI 1]),oD 20 (.bsl 4 [.tmp 19]),oD 21 (.appN 76 4 56 (.tmp 17) (.tmp 20)),oM 5 21])] [12,17,18,19,20,21,9999]
abbrev c_25_8:=kR [kK 22 .add 3 8 1,oM 8 22] [22]
abbrev c_25_9:SCode:=(.seq c_25_3 (.seq (.cond (.tmp 9) .skip (.exit 0)) (.seq (.block 1 (.seq c_25_4 (.seq (.seq c_25_5 (.cond (.tmp 12) c_25_6 .skip)) c_25_7))) c_25_8)))
abbrev c_25_10:SCode:=.regq [([2104,2105,2106,2107],[oM 23 0,kQ 24 23,kA 25 0 24,oD 26 (.call 248 3 [.tmp 25,.val (.string ⟨#[41]⟩)])])] [0,7,8,23,24,25,26,9999]
abbrev c_25_11:=kR [oM 27 5,oM 4 27] [5,27]
abbrev F_25:SFunc:=⟨28,(.seq c_25_0 (.seq c_25_1 (.seq (.seq c_25_2 (.block 0 (.loop c_25_9))) (.seq c_25_10 (.seq c_25_11 .ret))))),[.tmp 4],false⟩
theorem tf_25:kU 250 [(16,3),(19,3),(20,0),(26,3)] [] F_25:=by unfold kU;kernel_rfl
abbrev c_98_0:=kR [kT 4 false] [4]
abbrev c_98_1:=kR [oM 5 0,oD 6 (.slen (.tmp 5)),oM 7 1,oD 8 (.slen (.tmp 7)),kB 9 .geq 3 6 8,oM 10 9,oH 11 10 true 0,oH 12 10 true 1,oG 13 10 true (.slen (.tmp 12)),oG 14 10 true (.ssub (.tmp 11) none (some (.tmp 13))),oH 15 10 true 1,kH 16 10 true .eql 9 14 15,oP 17 10 16 false,oM 4 17] [0,1,5,6,7,8,9,10,11,12,13,14,15,16,17]
abbrev F_98:SFunc:=⟨18,(.seq c_98_0 (.seq c_98_1 .ret)),[.tmp 4],false⟩
theorem tf_98:kU 282 [] [] F_98:=by unfold kU;kernel_rfl
noncomputable def funcs:Nat→Option SFunc
 |_=>none
end Go.Sh.Cd5
end

section
namespace Go.Mor
open Go
set_option maxHeartbeats 2000000
abbrev T3:=Int×Int×List UInt8
def er(q:Pc):T3:=(q.k,q.n,q.s)
def sg(s:List UInt8):T3:=(4,0,s)
def LexP(t:List UInt8)(ts:List T3)(post:List UInt8):Prop:=
 ∀(f a:Nat) (acc:List Pc),t.length+post.length<f→∃f' L,post.length<f'∧L.map er=ts∧lexG f (t++post) a acc=lexG f' post (a+t.length) (acc++L)
theorem LexP.nil(post:List UInt8):LexP [] [] post:=fun f a acc h=>⟨f,[],by simpa using h,rfl,by simp⟩
theorem LexP.app{t1 t2:List UInt8}{ts1 ts2:List T3}{post:List UInt8}(h1:LexP t1 ts1 (t2++post))(h2:LexP t2 ts2 post):LexP (t1++t2) (ts1++ts2) post:=by
 intro f a acc hf;obtain⟨f1,L1,a1,a2,a3⟩:=h1 f a acc (by simp only[List.length_append]at hf ⊢;omega);obtain⟨f2,L2,b1,b2,b3⟩:=h2 f1 (a+t1.length) (acc++L1) (by simpa using a1);refine⟨f2,L1++L2,b1,by rw[List.map_append,a2,b2],?_⟩;rw[List.append_assoc,a3,b3,List.append_assoc,List.length_append,Nat.add_assoc]
theorem LexP.one{t:List UInt8}{q:T3}{post:List UInt8}{b:UInt8}{r:List UInt8}(ht:t=b::r)(hb:b≠32)(h:∀a,∃p,readP (t++post) a=some (p,t.length)∧er p=q):LexP t [q] post:=by
 intro f a acc hf;obtain⟨f,rfl⟩:∃g,f=g+1:=⟨f-1,by omega⟩
 obtain⟨p,h1,h2⟩:=h a;refine⟨f,[p],by subst ht;simp at hf;omega,by simp[h2],?_⟩;subst ht;rw[List.cons_append]at h1 ⊢;rw[lexG];simp only[if_neg hb,h1];congr 1;rw[←List.cons_append,List.drop_left' rfl]
theorem digC(d:Nat)(hd:d<10):(UInt8.ofNat (48+d)).toNat=48+d:=by rw[UInt8.toNat_ofNat'];omega
theorem quoG_34(post acc:List UInt8)(k:Nat):quoG (34::post) acc k=if z15 acc then some (acc,k+1)else none:=by
 rw[quoG.eq_def];rfl
theorem quoG_92(c:UInt8)(r acc:List UInt8)(k:Nat):quoG (92::c::r) acc k=if c=34∨c=92 then quoG r (acc++[c]) (k+2)else none:=by
 rw[quoG.eq_def];rfl
theorem quoG_c{b:UInt8}(h1:b≠34)(h2:b≠92)(r acc:List UInt8)(k:Nat):quoG (b::r) acc k=quoG r (acc++[b]) (k+1):=by
 rw[quoG.eq_def];simp only[if_neg h1,if_neg h2]
theorem binds_cases{s:List UInt8}(h:0<bindsV s):s=[42]∨s=[47]∨s=[37]∨s=[43]∨s=[45]∨s=[38]∨s=[61]∨s=[60,62]∨s=[60]∨s=[60,61]∨s=[62]∨s=[62,61]:=by
 unfold bindsV at h;split at h
 ·rename_i h1;rcases h1 with h1|h1|h1<;>simp[h1]
 split at h
 ·rename_i h1;rcases h1 with h1|h1<;>simp[h1]
 split at h
 ·rename_i h1;simp[h1]
 split at h
 ·rename_i h1;rcases h1 with h1|h1|h1|h1|h1|h1<;>simp[h1]
 ·omega
theorem ok_kids{d:Nat}{e:V}(h:okE (d+1) e=true):nodeE e=true∧∀x∈e.l,okE d x=true:=by
 rw[okE,Bool.and_eq_true]at h;exact⟨h.1,fun x hx=>List.all_eq_true.1 h.2 x hx⟩
theorem node1{e:V}(h:nodeE e=true)(hk:e.k=1):0≤e.n∧e.n≤1000000000000000∧e.s=[]∧e.l=[]:=by
 unfold nodeE at h;rw[if_neg (by simp[hk]),if_pos hk]at h;simp only[Bool.and_eq_true,decide_eq_true_eq,beq_iff_eq,List.length_eq_zero_iff]at h;exact⟨h.1.1.1,h.1.1.2,h.1.2,h.2⟩
theorem node0{e:V}(h:nodeE e=true)(hk:e.k≠1):e.n=0:=by
 unfold nodeE at h;split at h
 ·cases h
 ·rename_i hh;simpa [hk]using hh
theorem node2{e:V}(h:nodeE e=true)(hk:e.k=2):e.n=0∧z15 e.s=true∧e.l=[]:=by
 have h0:=node0 h (by omega);unfold nodeE at h;rw[if_neg (by simp[h0]),if_neg (by omega),if_pos hk]at h;simp only[Bool.and_eq_true,beq_iff_eq,List.length_eq_zero_iff]at h;exact⟨h0,h⟩
theorem node3{e:V}(h:nodeE e=true)(hk:e.k=3):e.n=0∧z13 e.s=true∧e.l=[]:=by
 have h0:=node0 h (by omega);unfold nodeE at h;rw[if_neg (by simp[h0]),if_neg (by omega),if_neg (by omega),if_pos hk]at h;simp only[Bool.and_eq_true,beq_iff_eq,List.length_eq_zero_iff]at h;exact⟨h0,h⟩
theorem node4{e:V}(h:nodeE e=true)(hk:e.k=4):e.n=0∧0<bindsV e.s∧∃a b,e.l=[a,b]:=by
 have h0:=node0 h (by omega);unfold nodeE at h;rw[if_neg (by simp[h0]),if_neg (by omega),if_neg (by omega),if_neg (by omega),if_pos hk]at h;simp only[Bool.and_eq_true,decide_eq_true_eq,beq_iff_eq]at h;refine⟨h0,h.1,?_⟩
 match hl:e.l,h.2 with
 |[a,b],_=>exact⟨a,b,rfl⟩
theorem node5{e:V}(h:nodeE e=true)(hk:e.k=5):e.n=0∧e.s=[45]∧∃a,e.l=[a]:=by
 have h0:=node0 h (by omega);unfold nodeE at h;rw[if_neg (by simp[h0]),if_neg (by omega),if_neg (by omega),if_neg (by omega),if_neg (by omega),if_pos hk]at h;simp only[Bool.and_eq_true,beq_iff_eq]at h;refine⟨h0,h.1,?_⟩
 match hl:e.l,h.2 with
 |[a],_=>exact⟨a,rfl⟩
theorem node6{e:V}(h:nodeE e=true)(hk:e.k=6):e.n=0∧0<takesV e.s∧(e.l.length:Int)=takesV e.s:=by
 have h0:=node0 h (by omega);unfold nodeE at h;rw[if_neg (by simp[h0]),if_neg (by omega),if_neg (by omega),if_neg (by omega),if_neg (by omega),if_neg (by omega),if_pos hk]at h;simp only[Bool.and_eq_true,decide_eq_true_eq]at h;exact⟨h0,h⟩
theorem z156{e:V}(h:nodeE e=true):e.k=1∨e.k=2∨e.k=3∨e.k=4∨e.k=5∨e.k=6:=by
 unfold nodeE at h;split at h
 ·cases h
 repeat(split at h;· simp[*])
 cases h
end Go.Mor
end

section
namespace Go.Proofs.YtcpaleaajdilgaaGreatDoor
open Go Go.RowKit Go.Mor Go.Sh Go.Sh.Cd1 Go.Sh.Cd5
set_option maxRecDepth 100000
set_option maxHeartbeats 4000000
def pcR(q:Pc):List PV:=[.v (.int .i64 q.k),.v (.int .i64 q.n),.v (.string (str q.s)),.v (.int .i64 (q.p:Int))]
def pcT(q:Pc):TV:=.agg [I q.k,I q.n,S (str q.s),I (q.p:Int)]
def pcs(L:List Pc):TV:=.pv (.sl 4 (L.map pcR))
def pB(L:List Pc)(p sz:Nat):List TV:=[pcs L,I (p:Int),I (sz:Int),bindM]
theorem peek_ok(g:Sh.Glob)(L:List Pc)(p sz:Nat)(hL:L.length≤maxLen):SCalls Tryz.prog g 133 [.ptr 1000 0] [.box (pB L p sz)] (pcT (pkP L sz p)) [.box (pB L p sz)]:=by
 refine z17 hmix tf_28 rfl rfl rfl ?_;unfold pB pcs pcT;by_cases hlt:p<L.length
 ·have d1:(p:Int)<(L.length:Int):=by omega
  obtain⟨q,eq⟩:∃q,L[p]?=some q:=⟨_,gE hlt⟩
  have hq:pkP L sz p=q:=by simp[pkP,eq]
  rw[hq];simp only[vW,seval,d1,eq,pcR,bmV]
 ·have d1:¬(p:Int)<(L.length:Int):=by omega
  have hq:pkP L sz p=⟨0,0,[],sz⟩:=by simp[pkP,List.getElem?_eq_none (Nat.le_of_not_lt hlt)]
  rw[hq];simp only[vW,seval,d1,bmV];rfl
theorem take_ok(g:Sh.Glob)(L:List Pc)(p sz:Nat)(t:List UInt8)(hL:L.length≤maxLen)(hp:p<maxLen):SCalls Tryz.prog g 247 [.ptr 1000 0,S (str t)] [.box (pB L p sz)] (B (isSg (pkP L sz p) t)) [.box (pB L (if isSg (pkP L sz p) t then p+1 else p) sz)]:=by
 refine z17 hmix tf_29 rfl rfl rfl ?_;have HP:=peek_ok g L p sz hL;have w1:IntKind.i64.wrap ((p:Int)+1)=((p+1:Nat):Int):=by unfold maxLen at hp;rw[wrap64 (by omega) (by omega)];omega
 unfold isSg at*;generalize pkP L sz p=q at*;unfold pB pcs pcT B at*;by_cases hk:q.k=4
 ·have hb:(q.k==4)=true:=by simp[hk]
  cases ht:q.s==t
  ·simp only[vW,seval];(with_reducible apply v_call);simp only[vW,seval,bmV];rfl;rfl;exact HP;exact km;simp only[vW,seval,bmV];rfl;simp only[vW,seval,bmV,hk,hb,ht]
  ·simp only[vW,seval];(with_reducible apply v_call);simp only[vW,seval,bmV];rfl;rfl;exact HP;exact km;simp only[vW,seval,bmV];rfl;simp only[vW,seval,bmV,hk,hb,ht,w1]
 ·have hb:(q.k==4)=false:=by simp[hk]
  simp only[vW,seval];(with_reducible apply v_call);simp only[vW,seval,bmV];rfl;rfl;exact HP;exact km;simp only[vW,seval,bmV];rfl;simp only[vW,seval,bmV,hk,hb]
def wrongV(a:Nat):Value:=.iface 212 (.int .i64 (a:Int))
theorem need_ok(g:Sh.Glob)(L:List Pc)(p sz:Nat)(t:List UInt8)(hL:L.length≤maxLen)(hp:p<maxLen)(h:isSg (pkP L sz p) t=true):SCalls Tryz.prog g 248 [.ptr 1000 0,S (str t)] [.box (pB L p sz)] (.tuple []) [.box (pB L (p+1) sz)]:=by
 refine z17 hmix tf_27 rfl rfl rfl ?_;have HT:=take_ok g L p sz t hL hp;rw[h,if_pos rfl]at HT;unfold pB pcs B at*;simp only[vW,seval];(with_reducible apply v_call);simp only[vW,seval,bmV];rfl;rfl;exact HT;exact km;simp only[vW,seval,bmV];rfl;simp only[vW,seval,bmV]
theorem need_pan(g:Sh.Glob)(L:List Pc)(p sz:Nat)(t:List UInt8)(hL:L.length≤maxLen)(hp:p<maxLen)(h:isSg (pkP L sz p) t=false):SPan Tryz.prog g 248 [.ptr 1000 0,S (str t)] [.box (pB L p sz)] (wrongV (pkP L sz p).p) [.box (pB L p sz)]:=by
 refine pan_of hmix tf_27 rfl rfl rfl ?_;have HT:=take_ok g L p sz t hL hp;have HP:=peek_ok g L p sz hL;rw[h,if_neg (by simp)]at HT;unfold pB pcs B pcT wrongV at*;simp only[vW,seval];(with_reducible apply v_call);simp only[vW,seval,bmV];rfl;rfl;exact HT;exact km;simp only[vW,seval,bmV];rfl;simp only[vW,seval,bmV];(with_reducible apply vq_p);simp only[vW,seval];(with_reducible apply vp_ret);(· simp only[vW,seval,bmV];with_reducible rfl);(· rfl);(· exact HP);(· first|rfl|(simp only[vcA,seval];omega));(· simp only[vW,seval,bmV];with_reducible rfl);simp only[vW,seval,bmV]
theorem takes_ok(g:Sh.Glob)(s:List UInt8):SCalls Tryz.prog g 249 [S (str s)] [] (I (takesV s)) []:=by
 refine z7 hmix tf_97 rfl ?_;have q1:(⟨#[108,101,110]⟩:ByteArray)=str [108,101,110]:=rfl;have q2:(⟨#[116,101,120,116]⟩:ByteArray)=str [116,101,120,116]:=rfl;have q3:(⟨#[110,117,109]⟩:ByteArray)=str [110,117,109]:=rfl;have q4:(⟨#[108,101,102,116]⟩:ByteArray)=str [108,101,102,116]:=rfl;have q5:(⟨#[114,105,103,104,116]⟩:ByteArray)=str [114,105,103,104,116]:=rfl;have q6:(⟨#[102,114,111,109]⟩:ByteArray)=str [102,114,111,109]:=rfl;have q7:(⟨#[102,105,110,100]⟩:ByteArray)=str [102,105,110,100]:=rfl;have q8:(⟨#[109,105,110]⟩:ByteArray)=str [109,105,110]:=rfl;have q9:(⟨#[109,97,120]⟩:ByteArray)=str [109,97,120]:=rfl;have q10:(⟨#[105,102]⟩:ByteArray)=str [105,102]:=rfl;have hb:∀t:List UInt8,(s==t)=decide (s=t):=fun t=>by rw[Bool.eq_iff_iff];simp
 unfold takesV;simp only[vW,seval,q1,q2,q3,q4,q5,q6,q7,q8,q9,q10,hb]
 repeat' (first|(apply And.intro)|(intro _))
 all_goals simp_all
section
variable(g:Sh.Glob)(L:List Pc)(sz:Nat)
def EOk(f:Nat):Prop:=∀(least:Int) (p:Nat) (e:V) (p':Nat),0≤least→least≤5→p≤L.length→pE L sz f least p=some (.ok e p')→SCalls Tryz.prog g 132 [.ptr 1000 0,I least] [.box (pB L p sz)] (tv e) [.box (pB L p' sz)]
def EBad(f:Nat):Prop:=∀(least:Int) (p a p':Nat),0≤least→least≤5→p≤L.length→pE L sz f least p=some (.bad a p')→SPan Tryz.prog g 132 [.ptr 1000 0,I least] [.box (pB L p sz)] (wrongV a) [.box (pB L p' sz)]
def TOk(f:Nat):Prop:=∀(p:Nat) (e:V) (p':Nat),p≤L.length→pT L sz f p=some (.ok e p')→SCalls Tryz.prog g 208 [.ptr 1000 0] [.box (pB L p sz)] (tv e) [.box (pB L p' sz)]
def TBad(f:Nat):Prop:=∀(p a p':Nat),p≤L.length→pT L sz f p=some (.bad a p')→SPan Tryz.prog g 208 [.ptr 1000 0] [.box (pB L p sz)] (wrongV a) [.box (pB L p' sz)]
theorem pk_in{q:Pc}{p:Nat}(h:pkP L sz p=q)(hk:q.k≠0):p<L.length:=by
 rcases Nat.lt_or_ge p L.length with h1|h1
 ·exact h1
 ·rw[pkP,List.getElem?_eq_none h1]at h;subst h;exact absurd rfl hk
theorem z57{p:Nat}{t:List UInt8}(h:isSg (pkP L sz p) t=true):p<L.length:=by
 refine pk_in L sz rfl ?_;unfold isSg at h;simp only[Bool.and_eq_true,beq_iff_eq]at h;rw[h.1];decide
theorem binds_rng(s:List UInt8):0≤bindsV s∧bindsV s≤4:=by
 unfold bindsV
 repeat' split
 all_goals omega
theorem takes_rng(s:List UInt8):0≤takesV s∧takesV s≤3:=by
 unfold takesV
 repeat' split
 all_goals omega
theorem p_le:∀f,(∀least p e p',p≤L.length→pE L sz f least p=some (.ok e p')→p'≤L.length)∧(∀least e0 p e p',p≤L.length→pL L sz f least e0 p=some (.ok e p')→p'≤L.length)∧
  (∀p e p',p≤L.length→pT L sz f p=some (.ok e p')→p'≤L.length)∧(∀n k p acc l p',p≤L.length→pH L sz f n k p acc=some (.ok l p')→p'≤L.length)
 |0=>⟨fun _ _ _ _ _ h=>by simp[pE]at h,fun _ _ _ _ _ _ h=>by simp[pL]at h,fun _ _ _ _ h=>by simp[pT]at h,fun _ _ _ _ _ _ _ h=>by simp[pH]at h⟩
 |f+1=>by
  obtain⟨h1,h2,h3,h4⟩:=p_le f;refine⟨fun least p e p' hp h=> ?_,fun least e0 p e p' hp h=> ?_,fun p e p' hp h=> ?_,fun n k p acc l p' hp h=> ?_⟩
  ·rw[pE]at h;split at h
   ·rename_i e1 p1 ht;exact h2 _ _ _ _ _ (h3 _ _ _ hp ht) h
   ·cases h
   ·cases h
  ·rw[pL]at h;split at h
   ·cases h;exact hp
   ·rename_i hk;rw[not_or]at hk;have hlt:=pk_in L sz (p:=p) rfl (by have:=hk.1;simp only[ne_eq,Decidable.not_not]at this;rw[this];decide);split at h
    ·rename_i e2 p2 he;exact h2 _ _ _ _ _ (h1 _ _ _ _ hlt he) h
    ·cases h
    ·cases h
  ·rw[pT]at h;split at h
   ·rename_i hs;have hlt:=z57 L sz hs;split at h
    ·rename_i e1 p1 he;split at h
     ·rename_i hs2;cases h;exact z57 L sz hs2
     ·cases h
    ·cases h
    ·cases h
   split at h
   ·rename_i hs;have hlt:=z57 L sz hs;split at h
    ·rename_i e1 p1 he;cases h;exact h3 _ _ _ hlt he
    ·cases h
    ·cases h
   split at h
   ·rename_i hk;cases h;exact pk_in L sz rfl (by rw[hk];decide)
   split at h
   ·rename_i hk;cases h;exact pk_in L sz rfl (by rw[hk];decide)
   split at h
   ·rename_i hk;have hlt:=pk_in L sz (p:=p) rfl (by rw[hk];decide);split at h
    ·rename_i ht;have hlt2:=z57 L sz ht.2;split at h
     ·rename_i l p1 he;cases h;exact h4 _ _ _ _ _ _ hlt2 he
     ·cases h
     ·cases h
    ·cases h;exact hlt
   ·cases h
  ·rw[pH]at h;split at h
   ·split at h
    ·cases h
    ·rename_i hk hs;have hp2:(if 0<k then p+1 else p)≤L.length:=by
      split
      ·rename_i h0;refine z57 L sz (t:=[44]) ?_;cases hh:isSg (pkP L sz p) [44]with
       |true=>rfl
       |false=>exact absurd ⟨h0,hh⟩ hs
      ·exact hp
     split at h
     ·rename_i e1 p1 he;exact h4 _ _ _ _ _ _ (h1 _ _ _ _ hp2 he) h
     ·cases h
     ·cases h
   ·split at h
    ·rename_i hs;cases h;exact z57 L sz hs
    ·cases h
variable{g L sz}
theorem expr_ok_of{f:Nat}(hL:L.length≤4611686018427387904)(ih:∀f',f'<f→EOk g L sz f'∧EBad g L sz f'∧TOk g L sz f'∧TBad g L sz f'):EOk g L sz f:=by
 intro least p e p' h0 h5 hp h;cases f with
 |zero=>simp[pE]at h
 |succ f=>
 rw[pE]at h;cases ht:pT L sz f p with
 |none=>rw[ht]at h;cases h
 |some r=>
 cases r with
 |bad a q=>rw[ht]at h;cases h
 |ok e1 p1=>
 rw[ht]at h;simp only at h;have HT:=(ih f (Nat.lt_succ_self f)).2.2.1 p e1 p1 hp ht;have hp1:=(p_le L sz f).2.2.1 p e1 p1 hp ht;refine z17 hmix tf_24 rfl rfl rfl ?_;have hml:L.length≤maxLen:=by unfold maxLen;omega
 unfold pB pcs at HT ⊢;simp only[vW,seval,bmV];(with_reducible apply vq_n);simp only[vW,seval,bmV];(with_reducible apply v_call);simp only[vW,seval,bmV];rfl;rfl;exact HT;exact km;simp only[vW,seval,bmV];rfl;simp only[vW,seval,bmV];refine v_loop (σ:={x:Nat×V×Nat // x.1≤f∧x.2.2≤L.length∧pL L sz x.1 least x.2.1 x.2.2=some (.ok e p')})
  (fun x=>⟨[(0,.ptr 1000 0),(1,I least),(4,.ptr 4 0),(5,.ptr 5 0)],[(1000,[.pv (.sl 4 (L.map pcR)),I (x.1.2.2:Int),I (sz:Int),bindM]),(4,[I 0,I 0,S ⟨#[]⟩,.pv (.v (.slice none 0 0))]),
   (5,[I x.1.2.1.k,I x.1.2.1.n,S (str x.1.2.1.s),.pv (.sl 4 (V.rows x.1.2.1.l))])],[],[]⟩) (fun x=>x.1.1) ⟨(f,e1,p1),Nat.le_refl _,hp1,h⟩ (lw_eq rfl) ?_
 rintro⟨⟨f1,e2,p2⟩,hf1,hp2,hl⟩;simp only at hf1 hp2 hl;cases f1 with
 |zero=>simp[pL]at hl
 |succ f1=>
 have HP:=peek_ok g L p2 sz hml;rw[pL]at hl;generalize hq:pkP L sz p2=q at HP hl;obtain⟨b0,b4⟩:=binds_rng q.s;unfold pB pcs pcT at HP;simp only[vW,seval,bmV];(with_reducible apply v_call);simp only[vW,seval,bmV];rfl;rfl;exact HP;exact km;simp only[vW,seval,bmV];rfl;by_cases hk:q.k=4
 ·by_cases hb:bindsV q.s<least
  ·rw[if_pos (.inr hb)]at hl;cases hl;simp only[vW,seval,bmV,hk,hb]
  ·rw[if_neg (by rw[not_or];exact⟨by simpa using hk,hb⟩)]at hl;have hlt:=pk_in L sz hq (by rw[hk];decide);cases he:pE L sz f1 (bindsV q.s+1) (p2+1)with
   |none=>rw[he]at hl;cases hl
   |some r=>
   cases r with
   |bad a q'=>rw[he]at hl;cases hl
   |ok e3 p3=>
   rw[he]at hl;simp only at hl;have HE:=(ih f1 (by omega)).1 (bindsV q.s+1) (p2+1) e3 p3 (by omega) (by omega) hlt he;have hp3:=(p_le L sz f1).1 _ _ _ _ hlt he;have w1:IntKind.i64.wrap ((p2:Int)+1)=((p2+1:Nat):Int):=by rw[wrap64 (by omega) (by omega)];omega
   have w2:IntKind.i64.wrap (bindsV q.s+1)=bindsV q.s+1:=wrap64 (by omega) (by omega);unfold pB pcs at HE;simp only[vW,seval,bmV,hk,hb,w1];(with_reducible apply vq_n);simp only[vW,seval,bmV,w2];(with_reducible apply v_call);simp only[vW,seval,bmV,w2];rfl;rfl;exact HE;exact km;simp only[vW,seval,bmV,w2];rfl;simp only[vW,seval,bmV];refine z10 ⟨(f1,.mk 4 0 q.s [e2,e3],p3),by omega,hp3,hl⟩ (Nat.lt_succ_self f1) ?_;apply lw_of<;>simp[leL,lk,sv,Nat.beq,I,S,ES.kill,has,drp,nilT,bmV]
   exact⟨rfl,rfl,rfl,by rw[Vl,show V.rows [e2,e3]=[V.row e2,V.row e3] from rfl,row4,row4]⟩
 ·rw[if_pos (.inl hk)]at hl;cases hl;simp only[vW,seval,bmV,hk]
theorem expr_bad_of{f:Nat}(hL:L.length≤4611686018427387904)(ih:∀f',f'<f→EOk g L sz f'∧EBad g L sz f'∧TOk g L sz f'∧TBad g L sz f'):EBad g L sz f:=by
 intro least p a p' h0 h5 hp h;cases f with
 |zero=>simp[pE]at h
 |succ f=>
 have hml:L.length≤maxLen:=by unfold maxLen;omega
 rw[pE]at h;cases ht:pT L sz f p with
 |none=>rw[ht]at h;cases h
 |some r=>
 cases r with
 |bad a q=>
  rw[ht]at h;cases h;have HT:=(ih f (Nat.lt_succ_self f)).2.2.2 p a p' hp ht;refine pan_of hmix tf_24 rfl rfl rfl ?_;unfold pB pcs at HT ⊢;unfold wrongV at*;simp only[vW,seval,bmV];(with_reducible apply vq_p);simp only[vW,seval,bmV];(with_reducible apply z97);(· rfl);(· simp only[vW,seval,bmV];with_reducible rfl);(· exact HT);(· first|rfl|(simp only[vcA,seval];omega));(· simp only[vW,seval,bmV];with_reducible rfl);simp only[vW,seval,bmV]
 |ok e1 p1=>
 rw[ht]at h;simp only at h;have HT:=(ih f (Nat.lt_succ_self f)).2.2.1 p e1 p1 hp ht;have hp1:=(p_le L sz f).2.2.1 p e1 p1 hp ht;refine pan_of hmix tf_24 rfl rfl rfl ?_;unfold pB pcs at HT ⊢;unfold wrongV;simp only[vW,seval,bmV];(with_reducible apply vq_n);simp only[vW,seval,bmV];(with_reducible apply v_call);simp only[vW,seval,bmV];rfl;rfl;exact HT;exact km;simp only[vW,seval,bmV];rfl;simp only[vW,seval,bmV];refine v_loop (σ:={x:Nat×V×Nat // x.1≤f∧x.2.2≤L.length∧pL L sz x.1 least x.2.1 x.2.2=some (.bad a p')})
  (fun x=>⟨[(0,.ptr 1000 0),(1,I least),(4,.ptr 4 0),(5,.ptr 5 0)],[(1000,[.pv (.sl 4 (L.map pcR)),I (x.1.2.2:Int),I (sz:Int),bindM]),(4,[I 0,I 0,S ⟨#[]⟩,.pv (.v (.slice none 0 0))]),
   (5,[I x.1.2.1.k,I x.1.2.1.n,S (str x.1.2.1.s),.pv (.sl 4 (V.rows x.1.2.1.l))])],[],[]⟩) (fun x=>x.1.1) ⟨(f,e1,p1),Nat.le_refl _,hp1,h⟩ (lw_eq rfl) ?_
 rintro⟨⟨f1,e2,p2⟩,hf1,hp2,hl⟩;simp only at hf1 hp2 hl;cases f1 with
 |zero=>simp[pL]at hl
 |succ f1=>
 have HP:=peek_ok g L p2 sz hml;rw[pL]at hl;generalize hq:pkP L sz p2=q at HP hl;obtain⟨b0,b4⟩:=binds_rng q.s;unfold pB pcs pcT at HP;simp only[vW,seval,bmV];(with_reducible apply v_call);simp only[vW,seval,bmV];rfl;rfl;exact HP;exact km;simp only[vW,seval,bmV];rfl;by_cases hk:q.k=4
 ·by_cases hb:bindsV q.s<least
  ·rw[if_pos (.inr hb)]at hl;cases hl
  ·rw[if_neg (by rw[not_or];exact⟨by simpa using hk,hb⟩)]at hl;have hlt:=pk_in L sz hq (by rw[hk];decide);have w1:IntKind.i64.wrap ((p2:Int)+1)=((p2+1:Nat):Int):=by rw[wrap64 (by omega) (by omega)];omega
   have w2:IntKind.i64.wrap (bindsV q.s+1)=bindsV q.s+1:=wrap64 (by omega) (by omega);cases he:pE L sz f1 (bindsV q.s+1) (p2+1)with
   |none=>rw[he]at hl;cases hl
   |some r=>
   cases r with
   |bad a2 q'=>
    rw[he]at hl;cases hl;have HE:=(ih f1 (by omega)).2.1 (bindsV q.s+1) (p2+1) a p' (by omega) (by omega) hlt he;unfold pB pcs wrongV at HE;simp only[vW,seval,bmV,hk,hb,w1];(with_reducible apply vq_p);simp only[vW,seval,bmV,w2];(with_reducible apply z97);(· rfl);(· simp only[vW,seval,bmV,w2];with_reducible rfl);(· exact HE);(· first|rfl|(simp only[vcA,seval];omega));(· simp only[vW,seval,bmV,w2];with_reducible rfl);simp only[vW,seval,bmV,w2]
   |ok e3 p3=>
   rw[he]at hl;simp only at hl;have HE:=(ih f1 (by omega)).1 (bindsV q.s+1) (p2+1) e3 p3 (by omega) (by omega) hlt he;have hp3:=(p_le L sz f1).1 _ _ _ _ hlt he;unfold pB pcs at HE;simp only[vW,seval,bmV,hk,hb,w1];(with_reducible apply vq_n);simp only[vW,seval,bmV,w2];(with_reducible apply v_call);simp only[vW,seval,bmV,w2];rfl;rfl;exact HE;exact km;simp only[vW,seval,bmV,w2];rfl;simp only[vW,seval,bmV];refine z10 ⟨(f1,.mk 4 0 q.s [e2,e3],p3),by omega,hp3,hl⟩ (Nat.lt_succ_self f1) ?_;apply lw_of<;>simp[leL,lk,sv,Nat.beq,I,S,ES.kill,has,drp,nilT,bmV]
   exact⟨rfl,rfl,rfl,by rw[Vl,show V.rows [e2,e3]=[V.row e2,V.row e3] from rfl,row4,row4]⟩
 ·rw[if_pos (.inl hk)]at hl;cases hl
theorem z86(l:List V)(x:V):V.rows (l++[x])=V.rows l++[[.v (.int .i64 x.k),.v (.int .i64 x.n),.v (.string (str x.s)),.sl 4 (V.rows x.l)]]:=by rw[z50,z50,List.map_append,List.map_cons,List.map_nil,row4]
theorem things_ok_of{f:Nat}(hL:L.length≤4611686018427387904)(ih:∀f',f'<f→EOk g L sz f')(n p:Nat)(l:List V)(p':Nat)(hn0:0<n)(hn:n≤3)(hp:p≤L.length)(h:pH L sz f n 0 p []=some (.ok l p')):
  SCalls Tryz.prog g 250 [.ptr 1000 0,I (n:Int)] [.box (pB L p sz)] (.pv (.sl 4 (V.rows l))) [.box (pB L p' sz)]:=by
 have hml:L.length<maxLen:=by unfold maxLen;omega
 refine z17 hmix tf_25 rfl rfl rfl ?_;unfold pB pcs at*;simp only[vW,seval,bmV];refine v_loop (σ:={x:Nat×Nat×Nat×List V // x.1≤f∧x.2.1≤n∧x.2.2.1≤L.length∧x.2.2.2.length=x.2.1∧pH L sz x.1 n x.2.1 x.2.2.1 x.2.2.2=some (.ok l p')})
  (fun x=>⟨[(0,.ptr 1000 0),(5,.own 3000 4 (V.rows x.1.2.2.2)),(7,I (n:Int)),(8,I (x.1.2.1:Int))],[(1000,[.pv (.sl 4 (L.map pcR)),I (x.1.2.2.1:Int),I (sz:Int),bindM])],[(3000,(76,4,x.1.2.1))],[]⟩) (fun x=>x.1.1) ⟨(f,0,p,[]),Nat.le_refl _,Nat.zero_le _,hp,rfl,h⟩ ?_ ?_
 ·refine ES.Lw.trans ?_ (adT_lw (k:=5) (d:=3000) (e:=76) (W:=4) (.inr (by decide)) rfl);exact lw_eq rfl
 rintro⟨⟨f1,k,p1,acc⟩,hf1,hk,hp1,hacc,hl⟩;simp only at hf1 hk hp1 hacc hl;cases f1 with
 |zero=>simp[pH]at hl
 |succ f1=>
 rw[pH]at hl;by_cases hkn:k<n
 ·rw[if_pos hkn]at hl;have d1:(k:Int)<(n:Int):=by omega
  split at hl
  ·cases hl
  rename_i hcom;cases he:pE L sz f1 1 (if 0<k then p1+1 else p1)with
  |none=>rw[he]at hl;cases hl
  |some r=>
  cases r with
  |bad a q'=>rw[he]at hl;cases hl
  |ok e3 p3=>
  rw[he]at hl;simp only at hl;have wk:IntKind.i64.wrap ((k:Int)+1)=((k+1:Nat):Int):=by rw[wrap64 (by omega) (by omega)];omega
  have hacc':(V.rows acc).length=k:=by rw[z58,hacc]
  by_cases h0:0<k
  ·rw[if_pos h0]at he;have hs:isSg (pkP L sz p1) [44]=true:=by
    cases hh:isSg (pkP L sz p1) [44]with
    |true=>rfl
    |false=>exact absurd ⟨h0,hh⟩ hcom
   have hlt:=z57 L sz hs;have HN:=need_ok g L p1 sz [44] (by omega) (by omega) hs;have HE:=ih f1 (by omega) 1 (p1+1) e3 p3 (by omega) (by omega) hlt he;have hp3:=(p_le L sz f1).1 _ _ _ _ hlt he;have d0:(0:Int)<(k:Int):=by omega
   have q44:(⟨#[44]⟩:ByteArray)=str [44]:=rfl;unfold pB pcs at HN HE;simp only[vW,seval,bmV,d1,d0];(with_reducible apply vq_n);simp only[vW,seval,bmV,q44];(with_reducible apply v_call);simp only[vW,seval,bmV];rfl;rfl;exact HN;exact km;simp only[vW,seval,bmV];rfl;simp only[vW,seval,bmV];(with_reducible apply vq_n);simp only[vW,seval,bmV];(with_reducible apply v_call);simp only[vW,seval,bmV];rfl;rfl;exact HE;exact km;simp only[vW,seval,bmV];rfl;simp only[vW,seval,bmV,hacc',wk];refine⟨⟨by omega,by unfold maxLen;omega⟩,z10 ⟨(f1,k+1,p3,acc++[e3]),by omega,hkn,hp3,by simp[hacc],hl⟩ (Nat.lt_succ_self f1) ?_⟩;refine lw_eq ?_;simp only[z86,I]
  ·rw[if_neg h0]at he;obtain rfl:k=0:=by omega
   have HE:=ih f1 (by omega) 1 p1 e3 p3 (by omega) (by omega) hp1 he;have hp3:=(p_le L sz f1).1 _ _ _ _ hp1 he;have d2:(0:Int)<(n:Int):=by omega
   have w01:IntKind.i64.wrap 1=1:=by decide
   unfold pB pcs at HE;simp only[vW,seval,bmV,d2];(with_reducible apply vq_n);simp only[vW,seval,bmV];(with_reducible apply v_call);simp only[vW,seval,bmV];rfl;rfl;exact HE;exact km;simp only[vW,seval,bmV];rfl;simp only[vW,seval,bmV,hacc',w01];refine⟨by unfold maxLen;omega,z10 ⟨(f1,1,p3,acc++[e3]),by omega,hkn,hp3,by simp[hacc],hl⟩ (Nat.lt_succ_self f1) ?_⟩;refine lw_eq ?_;simp only[z86,I];rfl
 ·rw[if_neg hkn]at hl;have d1:¬(k:Int)<(n:Int):=by omega
  split at hl
  ·rename_i hs;cases hl;have hlt:=z57 L sz hs;have HN:=need_ok g L p1 sz [41] (by omega) (by omega) hs;have q41:(⟨#[41]⟩:ByteArray)=str [41]:=rfl;unfold pB pcs at HN;simp only[vW,seval,bmV,d1];(with_reducible apply vq_n);simp only[vW,seval,bmV,q41];(with_reducible apply v_call);simp only[vW,seval,bmV];rfl;rfl;exact HN;exact km;simp only[vW,seval,bmV];rfl;simp only[vW,seval,bmV]
  ·cases hl
theorem things_bad_of{f:Nat}(hL:L.length≤4611686018427387904)(ih:∀f',f'<f→EOk g L sz f')(ihb:∀f',f'<f→EBad g L sz f')(n p a p':Nat)(hn0:0<n)(hn:n≤3)(hp:p≤L.length)(h:pH L sz f n 0 p []=some (.bad a p')):
  SPan Tryz.prog g 250 [.ptr 1000 0,I (n:Int)] [.box (pB L p sz)] (wrongV a) [.box (pB L p' sz)]:=by
 have hml:L.length<maxLen:=by unfold maxLen;omega
 refine pan_of hmix tf_25 rfl rfl rfl ?_;unfold pB pcs wrongV at*;simp only[vW,seval,bmV];refine v_loop (σ:={x:Nat×Nat×Nat×List V // x.1≤f∧x.2.1≤n∧x.2.2.1≤L.length∧x.2.2.2.length=x.2.1∧pH L sz x.1 n x.2.1 x.2.2.1 x.2.2.2=some (.bad a p')})
  (fun x=>⟨[(0,.ptr 1000 0),(5,.own 3000 4 (V.rows x.1.2.2.2)),(7,I (n:Int)),(8,I (x.1.2.1:Int))],[(1000,[.pv (.sl 4 (L.map pcR)),I (x.1.2.2.1:Int),I (sz:Int),bindM])],[(3000,(76,4,x.1.2.1))],[]⟩) (fun x=>x.1.1) ⟨(f,0,p,[]),Nat.le_refl _,Nat.zero_le _,hp,rfl,h⟩ ?_ ?_
 ·refine ES.Lw.trans ?_ (adT_lw (k:=5) (d:=3000) (e:=76) (W:=4) (.inr (by decide)) rfl);exact lw_eq rfl
 rintro⟨⟨f1,k,p1,acc⟩,hf1,hk,hp1,hacc,hl⟩;simp only at hf1 hk hp1 hacc hl;cases f1 with
 |zero=>simp[pH]at hl
 |succ f1=>
 rw[pH]at hl;by_cases hkn:k<n
 ·rw[if_pos hkn]at hl;have d1:(k:Int)<(n:Int):=by omega
  by_cases hcom:0<k∧isSg (pkP L sz p1) [44]=false
  ·rw[if_pos hcom]at hl;cases hl;have HN:=need_pan g L p' sz [44] (by omega) (by omega) hcom.2;have d0:(0:Int)<(k:Int):=by omega
   have q44:(⟨#[44]⟩:ByteArray)=str [44]:=rfl;unfold pB pcs wrongV at HN;simp only[vW,seval,bmV,d1,d0];(with_reducible apply vq_p);simp only[vW,seval,bmV,q44];(with_reducible apply z97);(· rfl);(· simp only[vW,seval,bmV];with_reducible rfl);(· exact HN);(· first|rfl|(simp only[vcA,seval];omega));(· simp only[vW,seval,bmV];with_reducible rfl);simp only[vW,seval,bmV]
  rw[if_neg hcom]at hl;have wk:IntKind.i64.wrap ((k:Int)+1)=((k+1:Nat):Int):=by rw[wrap64 (by omega) (by omega)];omega
  have hacc':(V.rows acc).length=k:=by rw[z58,hacc]
  by_cases h0:0<k
  ·rw[if_pos h0]at hl;have hs:isSg (pkP L sz p1) [44]=true:=by
    cases hh:isSg (pkP L sz p1) [44]with
    |true=>rfl
    |false=>exact absurd ⟨h0,hh⟩ hcom
   have hlt:=z57 L sz hs;have HN:=need_ok g L p1 sz [44] (by omega) (by omega) hs;have d0:(0:Int)<(k:Int):=by omega
   have q44:(⟨#[44]⟩:ByteArray)=str [44]:=rfl;unfold pB pcs at HN;simp only[vW,seval,bmV,d1,d0];(with_reducible apply vq_n);simp only[vW,seval,bmV,q44];(with_reducible apply v_call);simp only[vW,seval,bmV];rfl;rfl;exact HN;exact km;simp only[vW,seval,bmV];rfl;simp only[vW,seval,bmV];cases he:pE L sz f1 1 (p1+1)with
   |none=>rw[he]at hl;cases hl
   |some r=>
   cases r with
   |bad a2 q'=>
    rw[he]at hl;cases hl;have HE:=ihb f1 (by omega) 1 (p1+1) a p' (by omega) (by omega) hlt he;unfold pB pcs wrongV at HE;(with_reducible apply vq_p);simp only[vW,seval,bmV];(with_reducible apply z97);(· rfl);(· simp only[vW,seval,bmV];with_reducible rfl);(· exact HE);(· first|rfl|(simp only[vcA,seval];omega));(· simp only[vW,seval,bmV];with_reducible rfl);simp only[vW,seval,bmV]
   |ok e3 p3=>
   rw[he]at hl;simp only at hl;have HE:=ih f1 (by omega) 1 (p1+1) e3 p3 (by omega) (by omega) hlt he;have hp3:=(p_le L sz f1).1 _ _ _ _ hlt he;unfold pB pcs at HE;(with_reducible apply vq_n);simp only[vW,seval,bmV];(with_reducible apply v_call);simp only[vW,seval,bmV];rfl;rfl;exact HE;exact km;simp only[vW,seval,bmV];rfl;simp only[vW,seval,bmV,hacc',wk];refine⟨⟨by omega,by unfold maxLen;omega⟩,z10 ⟨(f1,k+1,p3,acc++[e3]),by omega,hkn,hp3,by simp[hacc],hl⟩ (Nat.lt_succ_self f1) ?_⟩;refine lw_eq ?_;simp only[z86,I]
  ·rw[if_neg h0]at hl;obtain rfl:k=0:=by omega
   have d2:(0:Int)<(n:Int):=by omega
   have w01:IntKind.i64.wrap 1=1:=by decide
   simp only[vW,seval,bmV,d2];cases he:pE L sz f1 1 p1 with
   |none=>rw[he]at hl;cases hl
   |some r=>
   cases r with
   |bad a2 q'=>
    rw[he]at hl;cases hl;have HE:=ihb f1 (by omega) 1 p1 a p' (by omega) (by omega) hp1 he;unfold pB pcs wrongV at HE;(with_reducible apply vq_p);simp only[vW,seval,bmV];(with_reducible apply z97);(· rfl);(· simp only[vW,seval,bmV];with_reducible rfl);(· exact HE);(· first|rfl|(simp only[vcA,seval];omega));(· simp only[vW,seval,bmV];with_reducible rfl);simp only[vW,seval,bmV]
   |ok e3 p3=>
   rw[he]at hl;simp only at hl;have HE:=ih f1 (by omega) 1 p1 e3 p3 (by omega) (by omega) hp1 he;have hp3:=(p_le L sz f1).1 _ _ _ _ hp1 he;unfold pB pcs at HE;(with_reducible apply vq_n);simp only[vW,seval,bmV];(with_reducible apply v_call);simp only[vW,seval,bmV];rfl;rfl;exact HE;exact km;simp only[vW,seval,bmV];rfl;simp only[vW,seval,bmV,hacc',w01];refine⟨by unfold maxLen;omega,z10 ⟨(f1,1,p3,acc++[e3]),by omega,hkn,hp3,by simp[hacc],hl⟩ (Nat.lt_succ_self f1) ?_⟩;refine lw_eq ?_;simp only[z86,I];rfl
 ·rw[if_neg hkn]at hl;have d1:¬(k:Int)<(n:Int):=by omega
  split at hl
  ·cases hl
  ·rename_i hs;cases hl;have HN:=need_pan g L p' sz [41] (by omega) (by omega) (by simpa using hs);have q41:(⟨#[41]⟩:ByteArray)=str [41]:=rfl;unfold pB pcs wrongV at HN;simp only[vW,seval,bmV,d1];(with_reducible apply vq_p);simp only[vW,seval,bmV,q41];(with_reducible apply z97);(· rfl);(· simp only[vW,seval,bmV];with_reducible rfl);(· exact HN);(· first|rfl|(simp only[vcA,seval];omega));(· simp only[vW,seval,bmV];with_reducible rfl);simp only[vW,seval,bmV]
theorem nv_out(k n:Int)(t:List UInt8):Wk (nv (.mk k n t [])) (tv (.mk k n t [])):=nv_tv rfl
theorem tight_ok_of{f:Nat}(hL:L.length≤4611686018427387904)(ih:∀f',f'<f→EOk g L sz f'∧EBad g L sz f'∧TOk g L sz f'∧TBad g L sz f'):TOk g L sz f:=by
 intro p e p' hp h;have hml:L.length<maxLen:=by unfold maxLen;omega
 cases f with
 |zero=>simp[pT]at h
 |succ f=>
 have T40:=take_ok g L p sz [40] (by omega) (by omega);have T45:=take_ok g L p sz [45] (by omega) (by omega);have q40:(⟨#[40]⟩:ByteArray)=str [40]:=rfl;have q41:(⟨#[41]⟩:ByteArray)=str [41]:=rfl;have q45:(⟨#[45]⟩:ByteArray)=str [45]:=rfl;rw[pT]at h;by_cases h40:isSg (pkP L sz p) [40]=true
 ·rw[if_pos h40]at h;rw[h40,if_pos rfl]at T40;have hlt:=z57 L sz h40;cases he:pE L sz f 1 (p+1)with
  |none=>rw[he]at h;cases h
  |some r=>
  cases r with
  |bad a q'=>rw[he]at h;cases h
  |ok e1 p1=>
  rw[he]at h;simp only at h;split at h
  ·rename_i h41;cases h;have HE:=(ih f (Nat.lt_succ_self f)).1 1 (p+1) e p1 (by omega) (by omega) hlt he;have hp1:=(p_le L sz f).1 _ _ _ _ hlt he;have HN:=need_ok g L p1 sz [41] (by omega) (by omega) h41;refine z17 hmix tf_26 rfl rfl rfl ?_;unfold pB pcs B at*;simp only[vW,seval,bmV,q40];(with_reducible apply v_call);simp only[vW,seval,bmV];rfl;rfl;exact T40;exact km;simp only[vW,seval,bmV];rfl;simp only[vW,seval,bmV];(with_reducible apply vq_n);simp only[vW,seval,bmV];(with_reducible apply v_call);simp only[vW,seval,bmV];rfl;rfl;exact HE;exact km;simp only[vW,seval,bmV];rfl;simp only[vW,seval,bmV];(with_reducible apply vq_n);simp only[vW,seval,bmV,q41];(with_reducible apply v_call);simp only[vW,seval,bmV];rfl;rfl;exact HN;exact km;simp only[vW,seval,bmV];rfl;simp only[vW,seval,bmV]
  ·cases h
 have h40:isSg (pkP L sz p) [40]=false:=by simpa using h40
 rw[h40,if_neg (by simp)]at T40;rw[if_neg (by simp[h40])]at h;by_cases h45:isSg (pkP L sz p) [45]=true
 ·rw[if_pos h45]at h;rw[h45,if_pos rfl]at T45;have hlt:=z57 L sz h45;cases he:pT L sz f (p+1)with
  |none=>rw[he]at h;cases h
  |some r=>
  cases r with
  |bad a q'=>rw[he]at h;cases h
  |ok e1 p1=>
  rw[he]at h;cases h;have HE:=(ih f (Nat.lt_succ_self f)).2.2.1 (p+1) e1 p' hlt he;refine z17 hmix tf_26 rfl rfl rfl ?_;unfold pB pcs B at*;simp only[vW,seval,bmV,q40];(with_reducible apply v_call);simp only[vW,seval,bmV];rfl;rfl;exact T40;exact km;simp only[vW,seval,bmV];rfl;simp only[vW,seval,bmV,q45];(with_reducible apply v_call);simp only[vW,seval,bmV];rfl;rfl;exact T45;exact km;simp only[vW,seval,bmV];rfl;simp only[vW,seval,bmV];(with_reducible apply vq_n);simp only[vW,seval,bmV];(with_reducible apply v_call);simp only[vW,seval,bmV];rfl;rfl;exact HE;exact km;simp only[vW,seval,bmV];rfl;simp only[vW,seval,bmV,q45];rw[show V.rows [e1]=[V.row e1] from rfl,row4]
 have h45:isSg (pkP L sz p) [45]=false:=by simpa using h45
 rw[h45,if_neg (by simp)]at T45;rw[if_neg (by simp[h45])]at h;have HP:=peek_ok g L p sz (by omega);have w1:IntKind.i64.wrap ((p:Int)+1)=((p+1:Nat):Int):=by unfold maxLen at hml;rw[wrap64 (by omega) (by omega)];omega
 have hin:=fun hk=>pk_in L sz (p:=p) rfl hk;generalize hq:pkP L sz p=q at*;by_cases k1:q.k=1
 ·rw[if_pos k1]at h;cases h;refine SCalls.out ?_ (nv_out 1 q.n []);refine z17 hmix tf_26 rfl rfl rfl ?_;unfold pB pcs B pcT at*;simp only[vW,seval,bmV,q40];(with_reducible apply v_call);simp only[vW,seval,bmV];rfl;rfl;exact T40;exact km;simp only[vW,seval,bmV];rfl;simp only[vW,seval,bmV,q45];(with_reducible apply v_call);simp only[vW,seval,bmV];rfl;rfl;exact T45;exact km;simp only[vW,seval,bmV];rfl;simp only[vW,seval,bmV];(with_reducible apply v_call);simp only[vW,seval,bmV];rfl;rfl;exact HP;exact km;simp only[vW,seval,bmV];rfl;simp only[vW,seval,bmV,k1,w1];rfl
 rw[if_neg k1]at h;by_cases k2:q.k=2
 ·rw[if_pos k2]at h;cases h;refine SCalls.out ?_ (nv_out 2 0 q.s);refine z17 hmix tf_26 rfl rfl rfl ?_;unfold pB pcs B pcT at*;simp only[vW,seval,bmV,q40];(with_reducible apply v_call);simp only[vW,seval,bmV];rfl;rfl;exact T40;exact km;simp only[vW,seval,bmV];rfl;simp only[vW,seval,bmV,q45];(with_reducible apply v_call);simp only[vW,seval,bmV];rfl;rfl;exact T45;exact km;simp only[vW,seval,bmV];rfl;simp only[vW,seval,bmV];(with_reducible apply v_call);simp only[vW,seval,bmV];rfl;rfl;exact HP;exact km;simp only[vW,seval,bmV];rfl;simp only[vW,seval,bmV,k2,w1]
 rw[if_neg k2]at h;by_cases k3:q.k=3
 ·rw[if_pos k3]at h;have hlt:=hin (by rw[k3];decide);have HK:=takes_ok g q.s;obtain⟨t0,t3⟩:=takes_rng q.s;have T2:=take_ok g L (p+1) sz [40] (by omega) (by omega);have hin2:isSg (pkP L sz (p+1)) [40]=true→p+1<L.length:=fun h=>z57 L sz h;generalize isSg (pkP L sz (p+1)) [40]=b at*;generalize ht:takesV q.s=t at*;by_cases hc:0<t∧b=true
  ·rw[if_pos hc]at h;obtain⟨hc1,rfl⟩:=hc;rw[if_pos rfl]at T2;cases he:pH L sz f t.toNat 0 (p+2) []with
   |none=>rw[he]at h;cases h
   |some r=>
   cases r with
   |bad a q'=>rw[he]at h;cases h
   |ok l p1=>
   rw[he]at h;cases h;have HH:=things_ok_of hL (fun f' hf'=>(ih f' (by omega)).1) t.toNat (p+2) l p' (by omega) (by omega) (hin2 rfl) he;have ht2:((t.toNat:Nat):Int)=t:=by omega
   rw[ht2]at HH;refine z17 hmix tf_26 rfl rfl rfl ?_;unfold pB pcs B pcT at*;simp only[vW,seval,bmV,q40];(with_reducible apply v_call);simp only[vW,seval,bmV];rfl;rfl;exact T40;exact km;simp only[vW,seval,bmV];rfl;simp only[vW,seval,bmV,q45];(with_reducible apply v_call);simp only[vW,seval,bmV];rfl;rfl;exact T45;exact km;simp only[vW,seval,bmV];rfl;simp only[vW,seval,bmV];(with_reducible apply v_call);simp only[vW,seval,bmV];rfl;rfl;exact HP;exact km;simp only[vW,seval,bmV];rfl;simp only[vW,seval,bmV,k3,w1];(with_reducible apply v_call);exact kv;rfl;exact HK;exact km;exact kv;simp only[vW,seval,bmV,hc1,q40];(with_reducible apply v_call);simp only[vW,seval,bmV];rfl;rfl;exact T2;exact km;simp only[vW,seval,bmV];rfl;simp only[vW,seval,bmV];(with_reducible apply vq_n);simp only[vW,seval,bmV];(with_reducible apply v_call);simp only[vW,seval,bmV];rfl;rfl;exact HH;exact km;simp only[vW,seval,bmV];rfl;simp only[vW,seval,bmV]
  ·rw[if_neg hc]at h;cases h;refine SCalls.out ?_ (nv_out 3 0 q.s);refine z17 hmix tf_26 rfl rfl rfl ?_;unfold pB pcs B pcT at*;simp only[vW,seval,bmV,q40];(with_reducible apply v_call);simp only[vW,seval,bmV];rfl;rfl;exact T40;exact km;simp only[vW,seval,bmV];rfl;simp only[vW,seval,bmV,q45];(with_reducible apply v_call);simp only[vW,seval,bmV];rfl;rfl;exact T45;exact km;simp only[vW,seval,bmV];rfl;simp only[vW,seval,bmV];(with_reducible apply v_call);simp only[vW,seval,bmV];rfl;rfl;exact HP;exact km;simp only[vW,seval,bmV];rfl;simp only[vW,seval,bmV,k3,w1];(with_reducible apply v_call);exact kv;rfl;exact HK;exact km;exact kv;by_cases hc1:0<t
   ·have hb:b=false:=by simpa [hc1]using hc
    rw[hb,if_neg (by simp)]at T2;simp only[vW,seval,bmV,hc1,q40];(with_reducible apply v_call);simp only[vW,seval,bmV];rfl;rfl;exact T2;exact km;simp only[vW,seval,bmV];rfl;simp only[vW,seval,bmV]
   ·simp only[vW,seval,bmV,hc1]
 rw[if_neg k3]at h;cases h
theorem tight_bad_of{f:Nat}(hL:L.length≤4611686018427387904)(ih:∀f',f'<f→EOk g L sz f'∧EBad g L sz f'∧TOk g L sz f'∧TBad g L sz f'):TBad g L sz f:=by
 intro p a p' hp h;have hml:L.length<maxLen:=by unfold maxLen;omega
 cases f with
 |zero=>simp[pT]at h
 |succ f=>
 have T40:=take_ok g L p sz [40] (by omega) (by omega);have T45:=take_ok g L p sz [45] (by omega) (by omega);have q40:(⟨#[40]⟩:ByteArray)=str [40]:=rfl;have q41:(⟨#[41]⟩:ByteArray)=str [41]:=rfl;have q45:(⟨#[45]⟩:ByteArray)=str [45]:=rfl;rw[pT]at h;refine pan_of hmix tf_26 rfl rfl rfl ?_;by_cases h40:isSg (pkP L sz p) [40]=true
 ·rw[if_pos h40]at h;rw[h40,if_pos rfl]at T40;have hlt:=z57 L sz h40;unfold pB pcs B wrongV at*;simp only[vW,seval,bmV,q40];(with_reducible apply v_call);simp only[vW,seval,bmV];rfl;rfl;exact T40;exact km;simp only[vW,seval,bmV];rfl;simp only[vW,seval,bmV];cases he:pE L sz f 1 (p+1)with
  |none=>rw[he]at h;cases h
  |some r=>
  cases r with
  |bad a q'=>
   rw[he]at h;cases h;have HE:=(ih f (Nat.lt_succ_self f)).2.1 1 (p+1) a p' (by omega) (by omega) hlt he;unfold pB pcs wrongV at HE;(with_reducible apply vq_p);simp only[vW,seval,bmV];(with_reducible apply z97);(· rfl);(· simp only[vW,seval,bmV];with_reducible rfl);(· exact HE);(· first|rfl|(simp only[vcA,seval];omega));(· simp only[vW,seval,bmV];with_reducible rfl);simp only[vW,seval,bmV]
  |ok e1 p1=>
  rw[he]at h;simp only at h;have HE:=(ih f (Nat.lt_succ_self f)).1 1 (p+1) e1 p1 (by omega) (by omega) hlt he;have hp1:=(p_le L sz f).1 _ _ _ _ hlt he;unfold pB pcs at HE;(with_reducible apply vq_n);simp only[vW,seval,bmV];(with_reducible apply v_call);simp only[vW,seval,bmV];rfl;rfl;exact HE;exact km;simp only[vW,seval,bmV];rfl;simp only[vW,seval,bmV];split at h
  ·cases h
  ·rename_i h41;cases h;have HN:=need_pan g L p' sz [41] (by omega) (by omega) (by simpa using h41);unfold pB pcs wrongV at HN;(with_reducible apply vq_p);simp only[vW,seval,bmV,q41];(with_reducible apply z97);(· rfl);(· simp only[vW,seval,bmV];with_reducible rfl);(· exact HN);(· first|rfl|(simp only[vcA,seval];omega));(· simp only[vW,seval,bmV];with_reducible rfl);simp only[vW,seval,bmV]
 have h40:isSg (pkP L sz p) [40]=false:=by simpa using h40
 rw[h40,if_neg (by simp)]at T40;rw[if_neg (by simp[h40])]at h;by_cases h45:isSg (pkP L sz p) [45]=true
 ·rw[if_pos h45]at h;rw[h45,if_pos rfl]at T45;have hlt:=z57 L sz h45;unfold pB pcs B wrongV at*;simp only[vW,seval,bmV,q40];(with_reducible apply v_call);simp only[vW,seval,bmV];rfl;rfl;exact T40;exact km;simp only[vW,seval,bmV];rfl;simp only[vW,seval,bmV,q45];(with_reducible apply v_call);simp only[vW,seval,bmV];rfl;rfl;exact T45;exact km;simp only[vW,seval,bmV];rfl;simp only[vW,seval,bmV];cases he:pT L sz f (p+1)with
  |none=>rw[he]at h;cases h
  |some r=>
  cases r with
  |ok e1 q'=>rw[he]at h;cases h
  |bad a q'=>
  rw[he]at h;cases h;have HE:=(ih f (Nat.lt_succ_self f)).2.2.2 (p+1) a p' hlt he;unfold pB pcs wrongV at HE;(with_reducible apply vq_p);simp only[vW,seval,bmV];(with_reducible apply z97);(· rfl);(· simp only[vW,seval,bmV];with_reducible rfl);(· exact HE);(· first|rfl|(simp only[vcA,seval];omega));(· simp only[vW,seval,bmV];with_reducible rfl);simp only[vW,seval,bmV]
 have h45:isSg (pkP L sz p) [45]=false:=by simpa using h45
 rw[h45,if_neg (by simp)]at T45;rw[if_neg (by simp[h45])]at h;have HP:=peek_ok g L p sz (by omega);have w1:IntKind.i64.wrap ((p:Int)+1)=((p+1:Nat):Int):=by unfold maxLen at hml;rw[wrap64 (by omega) (by omega)];omega
 have hin:=fun hk=>pk_in L sz (p:=p) rfl hk;have HK:=takes_ok g (pkP L sz p).s;have T2:=take_ok g L (p+1) sz [40] (by omega);have hin2:isSg (pkP L sz (p+1)) [40]=true→p+1<L.length:=fun h=>z57 L sz h;generalize isSg (pkP L sz (p+1)) [40]=b at*;generalize hq:pkP L sz p=q at*;unfold pB pcs B pcT wrongV at*;simp only[vW,seval,bmV,q40];(with_reducible apply v_call);simp only[vW,seval,bmV];rfl;rfl;exact T40;exact km;simp only[vW,seval,bmV];rfl;simp only[vW,seval,bmV,q45];(with_reducible apply v_call);simp only[vW,seval,bmV];rfl;rfl;exact T45;exact km;simp only[vW,seval,bmV];rfl;simp only[vW,seval,bmV];(with_reducible apply v_call);simp only[vW,seval,bmV];rfl;rfl;exact HP;exact km;simp only[vW,seval,bmV];rfl;by_cases k1:q.k=1
 ·rw[if_pos k1]at h;cases h
 rw[if_neg k1]at h;by_cases k2:q.k=2
 ·rw[if_pos k2]at h;cases h
 rw[if_neg k2]at h;by_cases k3:q.k=3
 ·rw[if_pos k3]at h;have hlt:=hin (by rw[k3];decide);obtain⟨t0,t3⟩:=takes_rng q.s;have T2:=T2 (by omega);generalize ht:takesV q.s=t at*;by_cases hc:0<t∧b=true
  ·rw[if_pos hc]at h;obtain⟨hc1,rfl⟩:=hc;rw[if_pos rfl]at T2;cases he:pH L sz f t.toNat 0 (p+2) []with
   |none=>rw[he]at h;cases h
   |some r=>
   cases r with
   |ok l p1=>rw[he]at h;cases h
   |bad a q'=>
   rw[he]at h;cases h;have HH:=things_bad_of hL (fun f' hf'=>(ih f' (by omega)).1) (fun f' hf'=>(ih f' (by omega)).2.1) t.toNat (p+2) a p' (by omega) (by omega) (hin2 rfl) he;have ht2:((t.toNat:Nat):Int)=t:=by omega
   rw[ht2]at HH;unfold pB pcs wrongV at HH;simp only[vW,seval,bmV,k3,w1];(with_reducible apply v_call);exact kv;rfl;exact HK;exact km;exact kv;simp only[vW,seval,bmV,hc1,q40];(with_reducible apply v_call);simp only[vW,seval,bmV];rfl;rfl;exact T2;exact km;simp only[vW,seval,bmV];rfl;simp only[vW,seval,bmV];(with_reducible apply vq_p);simp only[vW,seval,bmV];(with_reducible apply z97);(· rfl);(· simp only[vW,seval,bmV];with_reducible rfl);(· exact HH);(· first|rfl|(simp only[vcA,seval];omega));(· simp only[vW,seval,bmV];with_reducible rfl);simp only[vW,seval,bmV]
  ·rw[if_neg hc]at h;cases h
 rw[if_neg k3]at h;cases h;simp only[vW,seval,bmV,k1,k2,k3,w1];(with_reducible apply vq_p);simp only[vW,seval,bmV]
theorem parser_ok(hL:L.length≤4611686018427387904)(f:Nat):EOk g L sz f∧EBad g L sz f∧TOk g L sz f∧TBad g L sz f:=by
 induction f using Nat.strongRecOn with
 |_ f ih=>exact⟨expr_ok_of hL ih,expr_bad_of hL ih,tight_ok_of hL ih,tight_bad_of hL ih⟩
end
end Go.Proofs.YtcpaleaajdilgaaGreatDoor
end

section
namespace Go.Sh.Cd4
open Go Go.Sh
set_option maxRecDepth 100000
abbrev c_99_0:=kV [1,2] [kO 1 0,oD 2 (.new [(.string ⟨#[]⟩),(.slice none 0 0)])] [0]
abbrev c_99_1:=kR [oD 10 (.bsl 1 [.val (.string ⟨#[97]⟩),.val (.string ⟨#[98,50]⟩),.val (.string ⟨#[110,97,109,101]⟩),.val (.string ⟨#[110,101,120,116,95,111,110,101]⟩),.val (.string ⟨#[107,105,100,115]⟩),.val (.string ⟨#[120]⟩)]),oM 3 10] [10]
abbrev c_99_2:=kV [2056,2057,2058,2059,4] [oD 11 (.bsl 1 [.val (.string ⟨#[110,111,100,101]⟩),.val (.string ⟨#[105,116,101,109]⟩),.val (.string ⟨#[117,115,101,114]⟩),.val (.string ⟨#[112,97,103,101,95,49]⟩),.val (.string ⟨#[108,101,97,102]⟩),.val (.string ⟨#[113]⟩)]),kA 12 0 1,oL 13 false 1 12,oD 14 (.call 45 0 [.tmp 13,vI 6]),kX 15 1 11 14,oL 16 false 1 15,oD 17 (.build [(.string ⟨#[]⟩),(.slice none 0 0)] [(0,1,(.tmp 16))]),oD 4 (.new [(.string ⟨#[]⟩),(.slice none 0 0)]),kS 2 4 17] [11,12,13,14,15,16,17]
abbrev c_99_3:=kR [kI 5 0] []
abbrev c_99_4:=kR [oM 18 5,kA 19 1 1,oL 20 false 1 19,kZ 21 20,kB 22 .lss 3 18 21,oM 23 22,oH 24 23 true 5,kG 25 23 true .lss 3 24 6,oP 26 23 25 false] [18,19,20,21,22,23,24,25]
abbrev c_99_5:=kV [6] [kA 29 1 1,oL 30 false 1 29,oM 31 5,kX 32 4 30 31,oL 33 true 4 32,oD 6 (.new [(.int .i64 0),(.int .i64 0),(.int .i64 0),(.bool false)]),kS 4 6 33] [26,29,30,31,32,33]
abbrev c_99_6:=kV [2148,2149,2150,2151,2168,2169,2170,2171,7] [oM 34 3,kA 35 0 6,oL 36 false 1 35,oD 37 (.call 45 0 [.tmp 36,vI 6]),kX 38 1 34 37,oL 39 false 1 38,kA 40 1 6,oL 41 false 1 40,oD 42 (.call 45 0 [.tmp 41,vI 5]),oD 43 (.bin .add 3 (vI 1) (.tmp 42)),oD 44 (.build [(.int .i64 0),(.int .i64 0)] [(0,1,(.tmp 43))]),oD 45 (.build [(.string ⟨#[]⟩),(.int .i64 0),(.int .i64 0),(.bool false)] [(0,1,(.tmp 39)),(1,2,(.tmp 44))]),oD 7 (.new [(.string ⟨#[]⟩),(.int .i64 0),(.int .i64 0),(.bool false)]),kS 4 7 45] [34,35,36,37,38,39,40,41,42,43,44,45]
abbrev c_99_7:=kR [kA 46 1 7,kA 47 0 46,oL 48 false 1 47,kK 49 .eql 3 48 5] [46,47,48]
abbrev c_99_8:=kV [2208,2209,2210,2211] [kA 50 2 6,oL 51 false 1 50,oD 52 (.call 45 0 [.tmp 51,vI 4]),oD 53 (.bin .add 3 (vI 1) (.tmp 52)),kA 54 1 7,kA 55 1 54,kS 1 55 53] [49,50,51,52,53,54,55]
abbrev c_99_9:=kR [kA 56 3 6,oL 57 false 1 56,oM 58 57,kF 59 58 true 1 7,kF 60 58 true 0 59,kL 61 58 true false 1 60,kG 62 58 true .leq 3 61 3,oP 63 58 62 false,kA 64 3 7,kS 1 64 63] [6,49,56,57,58,59,60,61,62,63,64]
abbrev c_99_10:=kV [2276,2277,2278,2279] [oL 66 true 2 4,kA 67 0 7,oL 68 false 1 67,kD 69 46 0 66 68,oM 65 69,kY 70 65 0,kY 71 65 1,oM 8 70,oM 9 71] [8,65,66,67,68,69,70,71]
abbrev c_99_11:=kR [oM 72 9,kN 73 72] [9,72]
abbrev c_99_12:SCode:=.reg [([],[kA 74 1 4,oL 75 false 1 74,oL 76 true 4 7,oD 77 (.bsl 4 [.tmp 76]),oD 78 (.app 55 4 40 (.tmp 75) (.tmp 77)),kA 79 1 4,kS 1 79 78]),([78],[kA 74 1 4,oL 75 false 1 74,oL 76 true 4 7,oD 77 (.bsl 4 [.tmp 76]),oD 78 (.appN 55 4 40 (.tmp 75) (.tmp 77)),kA 79 1 4,kS 1 79 78])] [7,73,74,75,76,77,78,79]
abbrev c_99_13:=kR [oM 27 5,kK 28 .add 3 27 1,oM 5 28] [7,27,28,73]
abbrev c_99_14:SCode:=(.seq (.seq c_99_4 (.cond (.tmp 26) .skip (.exit 0))) (.seq (.block 1 (.seq c_99_5 (.seq c_99_6 (.seq (.seq c_99_7 (.cond (.tmp 49) c_99_8 .skip)) (.seq c_99_9 (.seq c_99_10 (.seq c_99_11 (.cond (.tmp 73) c_99_12 .skip)))))))) c_99_13))
abbrev c_99_15:=kR [oL 80 true 2 4,kS 2 2 80] [1,3,4,5,80]
abbrev F_99:SFunc:=⟨81,(.seq c_99_0 (.seq c_99_1 (.seq c_99_2 (.seq (.seq c_99_3 (.block 0 (.loop c_99_14))) (.seq c_99_15 .ret))))),[.cell true 2 2],false⟩
theorem tf_99:z6 Go.Proofs.Tryz.prog 12 (hintT [(10,0),(11,0),(14,0),(37,0),(42,0),(52,0),(69,0),(77,0)]) (fpT []) (killT [(0,[0]),(1,[10]),(2,[11,12,13,14,15,16,17]),(4,[18,19,20,21,22,23,24,25]),(6,[26,29,30,31,32,33]),(7,[34,35,36,37,38,39,40,41,42,43,44,45]),(8,[46,47,48]),(9,[49,50,51,52,53,54,55]),(10,[6,49,56,57,58,59,60,61,62,63,64]),(11,[8,65,66,67,68,69,70,71]),(12,[9,72]),(13,[7,73,74,75,76,77,78,79]),(5,[7,27,28,73]),(14,[1,3,4,5,80])]) false=some F_99:=by kernel_rfl
abbrev c_101_0:=kV [3] [kO 3 0,oD 6 (.mov (.val (.slice none 0 0)))] [0,6]
abbrev c_101_1:=kR [oD 7 (.mov (.val (.slice none 0 0)))] []
abbrev c_101_2:=kR [kI 8 0] []
abbrev c_101_3:=kR [oM 10 8,kA 11 1 3,oL 12 false 1 11,kZ 13 12,kB 14 .lss 3 10 13] [10,11,12,13]
abbrev c_101_4:=kR [oM 17 8,oM 9 17] [14,17]
abbrev c_101_5:=kR [oM 18 1,kZ 19 18,kK 20 .gtr 3 19 0] [18,19]
abbrev c_101_6:=kR [oM 21 1,oM 22 8,oM 23 1,kZ 24 23,kB 25 .rem 3 22 24,kX 26 1 21 25,oL 27 false 1 26,oM 28 8,kB 29 .add 3 27 28,oM 9 29] [20,21,22,23,24,25,26,27,28,29]
abbrev c_101_7:SCode:=.reg [([2156,2157,2158,2159],[oM 30 7,kA 31 1 3,oL 32 false 1 31,oM 33 8,kX 34 4 32 33,kA 35 1 34,oL 36 true 2 35,oM 37 9,oM 38 2,kE 39 47 0 36 37 38,oD 40 (.bsl 4 [.tmp 39]),oD 41 (.app 37 4 56 (.tmp 30) (.tmp 40)),oM 7 41]),([2156,2157,2158,2159,41],[oM 30 7,kA 31 1 3,oL 32 false 1 31,oM 33 8,kX 34 4 32 33,kA 35 1 34,oL 36 true 2 35,oM 37 9,oM 38 2,kE 39 47 0 36 37 38,oD 40 (.bsl 4 [.tmp 39]),oD 41 (.appN 37 4 56 (.tmp 30) (.tmp 40)),oM 7 41])] [9,20,30,31,32,33,34,35,36,37,38,39,40,41]
abbrev c_101_8:=kR [oM 15 8,kK 16 .add 3 15 1,oM 8 16] [15,16]
abbrev c_101_9:SCode:=(.seq (.seq c_101_3 (.cond (.tmp 14) .skip (.exit 0))) (.seq (.block 1 (.seq c_101_4 (.seq (.seq c_101_5 (.cond (.tmp 20) c_101_6 .skip)) c_101_7))) c_101_8))
abbrev c_101_10:=kR [oM 42 7,oM 6 42] [1,2,3,7,8,42]
abbrev F_101:SFunc:=⟨43,(.seq c_101_0 (.seq c_101_1 (.seq (.seq c_101_2 (.block 0 (.loop c_101_9))) (.seq c_101_10 .ret)))),[.tmp 6],false⟩
theorem tf_101:z6 Go.Proofs.Tryz.prog 13 (hintT [(39,0),(40,0)]) (fpT []) (killT [(0,[0,6]),(3,[10,11,12,13]),(5,[14,17]),(6,[18,19]),(7,[20,21,22,23,24,25,26,27,28,29]),(8,[9,20,30,31,32,33,34,35,36,37,38,39,40,41]),(4,[15,16]),(9,[1,2,3,7,8,42])]) false=some F_101:=by kernel_rfl
abbrev c_46_0:=kV [2] [kO 2 0,kI 4 0,kI 5 0] [0,4,5]
abbrev c_46_1:=kV [2036,2037,2038,2039] [oL 8 true 2 2,kC 9 33 0 8,kN 10 9] [8,9]
abbrev c_46_2:=kR [kI 4 0,kI 5 40] [1,2,10]
abbrev c_46_3:=kR [oM 11 1,kZ 12 11,kA 13 1 2,oL 14 false 1 13,kZ 15 14,kB 16 .neq 3 12 15] [4,5,10,11,12,13,14,15]
abbrev c_46_4:=kR [oM 17 1,kZ 18 17,kA 19 1 2,oL 20 false 1 19,kZ 21 20,oD 22 (.imm false (.tmp 18) (.tmp 21)),oM 4 22,kI 5 42] [1,2,16,17,18,19,20,21,22]
abbrev c_46_5:=kR [kA 23 1 2,oL 24 false 1 23,kZ 25 24,kI 26 0] [2,4,5,16,23]
abbrev c_46_6:=kR [kB 27 .lss 3 26 25] []
abbrev c_46_7:=kV [7] [oM 28 26,kX 29 4 24 26,oL 30 true 4 29,oD 7 (.new [(.string ⟨#[]⟩),(.int .i64 0),(.int .i64 0),(.bool false)]),oM 6 28,kS 4 7 30] [27,28,29,30]
abbrev c_46_8:=kV [2148,2149,2150,2151] [oM 31 1,oM 32 6,kX 33 4 31 32,oL 34 true 4 33,kA 35 1 7,oL 36 true 2 35,kD 37 56 0 34 36,kN 38 37] [7,31,32,33,34,35,36,37]
abbrev c_46_9:=kR [oM 39 6,oM 4 39,kI 5 42] [1,6,24,25,26,38,39]
abbrev c_46_10:=kR [kK 40 .add 3 26 1,oM 26 40] [4,5,6,38,40]
abbrev c_46_11:SCode:=(.seq c_46_6 (.seq (.cond (.tmp 27) .skip (.exit 0)) (.seq (.block 1 (.seq c_46_7 (.seq c_46_8 (.cond (.tmp 38) (.seq c_46_9 .ret) .skip)))) c_46_10)))
abbrev c_46_12:=kR [kI 4 0,kI 5 0] [1,24,25,26]
abbrev F_46:SFunc:=⟨41,(.seq c_46_0 (.seq (.seq c_46_1 (.cond (.tmp 10) (.seq c_46_2 .ret) .skip)) (.seq (.seq c_46_3 (.cond (.tmp 16) (.seq c_46_4 .ret) .skip)) (.seq (.seq c_46_5 (.block 0 (.loop c_46_11))) (.seq c_46_12 .ret))))),[.tmp 4,.tmp 5],false⟩
theorem tf_46:kU 19 [(9,0),(37,0)] [] F_46:=by unfold kU;kernel_rfl
abbrev c_49_0:=kV [1] [kO 1 0,kT 2 false] [0,2]
abbrev c_49_1:=kV [2036,2037,2038,2039] [kA 7 0 1,oL 8 false 1 7,kC 9 69 0 8,kN 10 9,oM 11 10,kF 12 11 false 1 1,kL 13 11 false false 1 12,oG 14 11 false (.len (.tmp 13)),kG 15 11 false .gtr 3 14 8,oQ 16 11 15 true] [7,8,9,10,11,12,13,14,15]
abbrev c_49_2:=kR [kT 2 false] [1,16]
abbrev c_49_3:=kR [kA 17 1 1,oL 18 false 1 17,kZ 19 18,kI 20 0] [2,16,17]
abbrev c_49_4:=kR [kB 21 .lss 3 20 19] []
abbrev c_49_5:=kV [4] [oM 22 20,kX 23 4 18 20,oL 24 true 4 23,oD 4 (.new [(.string ⟨#[]⟩),(.int .i64 0),(.int .i64 0),(.bool false)]),oM 3 22,kS 4 4 24] [21,22,23,24]
abbrev c_49_6:=kV [2104,2105,2106,2107] [oL 25 true 4 4,kC 26 70 0 25,kN 27 26] [25,26]
abbrev c_49_7:=kR [kT 2 false] [1,3,4,18,19,20,27]
abbrev c_49_8:=kV [2128,2129,2130,2131] [oL 29 true 2 1,kA 30 0 4,oL 31 false 1 30,kD 32 34 0 29 31,oM 28 32,kY 33 28 0,kY 34 28 1,oM 5 33,oM 6 34] [2,4,6,27,28,29,30,31,32,33,34]
abbrev c_49_9:=kR [oM 35 5,oM 36 3,kB 37 .neq 3 35 36] [3,5,35,36]
abbrev c_49_10:=kR [kT 2 false] [1,18,19,20,37]
abbrev c_49_11:=kR [kK 38 .add 3 20 1,oM 20 38] [2,37,38]
abbrev c_49_12:SCode:=(.seq c_49_4 (.seq (.cond (.tmp 21) .skip (.exit 0)) (.seq (.block 1 (.seq c_49_5 (.seq (.seq c_49_6 (.cond (.tmp 27) (.seq c_49_7 .ret) .skip)) (.seq c_49_8 (.seq c_49_9 (.cond (.tmp 37) (.seq c_49_10 .ret) .skip)))))) c_49_11)))
abbrev c_49_13:=kR [kT 2 true] [1,18,19,20]
abbrev F_49:SFunc:=⟨39,(.seq c_49_0 (.seq (.seq c_49_1 (.cond (.tmp 16) (.seq c_49_2 .ret) .skip)) (.seq (.seq c_49_3 (.block 0 (.loop c_49_12))) (.seq c_49_13 .ret)))),[.tmp 2],false⟩
theorem tf_49:kU 33 [(9,0),(26,0),(32,0)] [] F_49:=by unfold kU;kernel_rfl
abbrev c_47_0:=kV [2,3] [kO 2 0,kO 3 1,kI 4 0,kT 5 false] [0,1,4,5]
abbrev c_47_1:=kV [2040,2041,2042,2043] [kA 7 1 2,oL 8 false 1 7,oD 9 (.mkf (.func 72) [] [.tmp 3]),kD 10 71 1 8 9,oM 6 10] [2,3,7,8,9,10]
abbrev c_47_2:=kR [oM 11 6,kK 12 .lss 3 11 0] [11]
abbrev c_47_3:=kR [kI 4 0,kT 5 false] [6,12]
abbrev c_47_4:=kR [oM 13 6,oM 4 13,kT 5 true] [6,12,13]
abbrev F_47:SFunc:=⟨14,(.seq c_47_0 (.seq c_47_1 (.seq (.seq c_47_2 (.cond (.tmp 12) (.seq c_47_3 .ret) .skip)) (.seq c_47_4 .ret)))),[.tmp 4,.tmp 5],false⟩
theorem tf_47:kU 34 [(10,1)] [] F_47:=by unfold kU;kernel_rfl
abbrev c_51_0:=kV [2,3] [kO 2 0,kO 3 1,kT 4 false] [0,1,4]
abbrev c_51_1:=kV [2060,2061,2062,2063] [kA 5 0 2,oL 6 false 1 5,kA 7 0 3,oL 8 false 1 7,kB 9 .eql 9 6 8,oM 10 9,kF 11 10 true 1 2,kL 12 10 true false 1 11,kF 13 10 true 1 3,kL 14 10 true false 1 13,oG 15 10 true (.call 81 0 [.tmp 12,.tmp 14]),oP 16 10 15 false,oM 4 16] [2,3,5,6,7,8,9,10,11,12,13,14,15,16]
abbrev F_51:SFunc:=⟨17,(.seq c_51_0 (.seq c_51_1 .ret)),[.tmp 4],false⟩
theorem tf_51:kU 38 [(15,0)] [] F_51:=by unfold kU;kernel_rfl
abbrev c_109_0:=kV [2,3] [kO 2 0,kO 3 1,kT 4 false] [0,1,4]
abbrev c_109_1:=kR [kA 6 0 2,oL 7 false 1 6,kA 8 0 3,oL 9 false 1 8,kB 10 .neq 9 7 9,oM 11 10,kF 12 11 false 1 2,kL 13 11 false false 1 12,oG 14 11 false (.len (.tmp 13)),kF 15 11 false 1 3,kL 16 11 false false 1 15,oG 17 11 false (.len (.tmp 16)),kH 18 11 false .neq 3 14 17,oQ 19 11 18 true] [6,7,8,9,10,11,12,13,14,15,16,17,18]
abbrev c_109_2:=kR [kT 4 false] [2,3,19]
abbrev c_109_3:=kR [kI 5 0] [4,19]
abbrev c_109_4:=kR [oM 20 5,kA 21 1 2,oL 22 false 1 21,kZ 23 22,kB 24 .lss 3 20 23] [20,21,22,23]
abbrev c_109_5:=kR [kA 27 1 2,oL 28 false 1 27,oM 29 5,kX 30 4 28 29,oL 31 true 4 30,kA 32 1 3,oL 33 false 1 32,oM 34 5,kX 35 4 33 34,oL 36 true 4 35,kB 37 .neq 55 31 36] [24,27,28,29,30,31,32,33,34,35,36]
abbrev c_109_6:=kR [kT 4 false] [2,3,5,37]
abbrev c_109_7:=kR [oM 25 5,kK 26 .add 3 25 1,oM 5 26] [4,25,26,37]
abbrev c_109_8:SCode:=(.seq (.seq c_109_4 (.cond (.tmp 24) .skip (.exit 0))) (.seq (.block 1 (.seq c_109_5 (.cond (.tmp 37) (.seq c_109_6 .ret) .skip))) c_109_7))
abbrev c_109_9:=kR [kT 4 true] [2,3,5]
abbrev F_109:SFunc:=⟨38,(.seq c_109_0 (.seq (.seq c_109_1 (.cond (.tmp 19) (.seq c_109_2 .ret) .skip)) (.seq (.seq c_109_3 (.block 0 (.loop c_109_8))) (.seq c_109_9 .ret)))),[.tmp 4],false⟩
theorem tf_109:z6 Go.Proofs.Tryz.prog 43 (hintT []) (fpT []) (killT [(0,[0,1,4]),(1,[6,7,8,9,10,11,12,13,14,15,16,17,18]),(2,[2,3,19]),(3,[4,19]),(4,[20,21,22,23]),(6,[24,27,28,29,30,31,32,33,34,35,36]),(7,[2,3,5,37]),(5,[4,25,26,37]),(8,[2,3,5])]) false=some F_109:=by kernel_rfl
abbrev c_50_0:=kV [1] [kO 1 0,kT 2 false] [0,2]
abbrev c_50_1:=kR [kA 3 0 1,oL 4 false 1 3,kK 5 .eql 3 4 5] [3,4]
abbrev c_50_2:=kR [kA 6 1 1,oL 7 false 1 6,kK 8 .geq 3 7 1,oM 9 8,kF 10 9 true 1 1,kL 11 9 true false 1 10,kG 12 9 true .leq 3 11 4,oP 13 9 12 false,oM 2 13] [1,5,6,7,8,9,10,11,12,13]
abbrev c_50_3:=kR [kA 14 0 1,oL 15 false 1 14,kK 16 .geq 3 15 1,oM 17 16,kF 18 17 true 0 1,kL 19 17 true false 1 18,kG 20 17 true .leq 3 19 4,oP 21 17 20 false,oM 22 21,kF 23 22 true 1 1,kL 24 22 true false 1 23,kG 25 22 true .eql 3 24 0,oP 26 22 25 false,oM 2 26] [1,5,14,15,16,17,18,19,20,21,22,23,24,25,26]
abbrev F_50:SFunc:=⟨27,(.seq c_50_0 (.seq (.seq c_50_1 (.cond (.tmp 5) (.seq c_50_2 .ret) .skip)) (.seq c_50_3 .ret))),[.tmp 2],false⟩
theorem tf_50:kU 44 [] [] F_50:=by unfold kU;kernel_rfl
abbrev c_102_0:=kR [kI 4 0] [4]
abbrev c_102_1:=kR [oM 5 0,kK 6 .lss 3 5 0] [5]
abbrev c_102_2:=kR [oM 7 0,kK 8 .add 3 7 1,oD 9 (.un .neg (.tmp 8)),oM 0 9] [6,7,8,9]
abbrev c_102_3:=kR [oM 10 0,oM 11 1,kB 12 .rem 3 10 11,oM 4 12] [0,1,6,10,11,12]
abbrev F_102:SFunc:=⟨13,(.seq c_102_0 (.seq (.seq c_102_1 (.cond (.tmp 6) c_102_2 .skip)) (.seq c_102_3 .ret))),[.tmp 4],false⟩
theorem tf_102:kU 45 [] [] F_102:=by unfold kU;kernel_rfl
abbrev c_108_0:=kV [2] [kO 2 0,kI 4 0,kT 5 false] [0,4,5]
abbrev c_108_1:=kR [kI 6 0] []
abbrev c_108_2:=kR [oM 7 6,kA 8 1 2,oL 9 false 1 8,kZ 10 9,kB 11 .lss 3 7 10] [7,8,9,10]
abbrev c_108_3:=kR [kA 14 1 2,oL 15 false 1 14,oM 16 6,kX 17 4 15 16,kA 18 0 17,oL 19 false 1 18,oM 20 1,kB 21 .eql 9 19 20] [11,14,15,16,17,18,19,20]
abbrev c_108_4:=kR [oM 22 6,oM 4 22,kT 5 true] [1,2,6,21,22]
abbrev c_108_5:=kR [oM 12 6,kK 13 .add 3 12 1,oM 6 13] [4,5,12,13,21]
abbrev c_108_6:SCode:=(.seq (.seq c_108_2 (.cond (.tmp 11) .skip (.exit 0))) (.seq (.block 1 (.seq c_108_3 (.cond (.tmp 21) (.seq c_108_4 .ret) .skip))) c_108_5))
abbrev c_108_7:=kR [kI 4 0,kT 5 false] [1,2,6]
abbrev F_108:SFunc:=⟨23,(.seq c_108_0 (.seq (.seq c_108_1 (.block 0 (.loop c_108_6))) (.seq c_108_7 .ret))),[.tmp 4,.tmp 5],false⟩
theorem tf_108:z6 Go.Proofs.Tryz.prog 46 (hintT []) (fpT []) (killT [(0,[0,4,5]),(2,[7,8,9,10]),(4,[11,14,15,16,17,18,19,20]),(5,[1,2,6,21,22]),(3,[4,5,12,13,21]),(6,[1,2,6])]) false=some F_108:=by kernel_rfl
abbrev c_100_0:=kV [3,6] [kO 3 0,oD 6 (.new zV)] [0]
abbrev c_100_1:=kR [oD 10 (.bsl 1 [.val (.string ⟨#[]⟩),.val (.string ⟨#[97]⟩),.val (.string ⟨#[98,99]⟩),.val (.string ⟨#[195,169,116,195,169]⟩),.val (.string ⟨#[97,32,98]⟩),.val (.string ⟨#[122,122,32,116,111,112]⟩),.val (.string ⟨#[48]⟩),.val (.string ⟨#[45,55]⟩)]),oM 7 10] [10]
abbrev c_100_2:=kR [kA 11 0 3,oL 12 false 1 11] [11]
abbrev c_100_3:=kR [kK 14 .eql 3 12 1,oM 13 14] [14]
abbrev c_100_4:=kV [2064,2065,2066,2067] [oM 15 1,oD 16 (.call 45 0 [.tmp 15,vI 41]),kK 17 .sub 3 16 20,oD 18 (.build zV [(0,1,(vI 1)),(1,1,(.tmp 17))]),kS 4 6 18] [1,2,3,7,12,13,15,16,17,18]
abbrev c_100_5:=kR [kK 20 .eql 3 12 2,oM 19 20] [13,20]
abbrev c_100_6:=kV [2092,2093,2094,2095] [oM 21 7,oM 22 1,oD 23 (.call 45 0 [.tmp 22,vI 8]),kX 24 1 21 23,oL 25 false 1 24,oD 26 (.build zV [(0,1,(vI 2)),(2,1,(.tmp 25))]),kS 4 6 26] [1,2,3,7,12,19,21,22,23,24,25,26]
abbrev c_100_7:=kR [kK 28 .eql 3 12 3,oM 27 28] [7,19,28]
abbrev c_100_8:=kR [kK 29 .eql 3 12 4,oM 27 29] [12,29]
abbrev c_100_9:=kV [2136,2137,2138,2139] [oM 30 2,kK 31 .lss 3 30 1,oM 32 31,oH 33 32 false 1,oG 34 32 false (.call 45 0 [.tmp 33,vI 5]),kG 35 32 false .eql 3 34 4,oQ 36 32 35 true] [12,27,30,31,32,33,34,35]
abbrev c_100_10:=kR [oD 37 (.build zV []),kS 4 6 37] [1,2,3,36,37]
abbrev c_100_11:=kV [2168,2169,2170,2171] [kA 38 0 3,oL 39 false 1 38,oM 40 1,oM 41 2,kD 42 45 0 40 41,oD 43 (.bin .add 3 (vI 1) (.tmp 42)),oD 44 (.build zV [(0,1,(.tmp 39)),(1,1,(.tmp 43))]),kS 4 6 44] [1,2,3,36,38,39,40,41,42,43,44]
abbrev c_100_12:=kV [8] [oD 45 (.build zV [(0,1,(vI 5))]),oD 8 (.new zV),kS 4 8 45] [12,27,45]
abbrev c_100_13:=kR [kI 9 0] []
abbrev c_100_14:=kV [2192,2193,2194,2195] [oM 46 9,oM 47 1,oD 48 (.call 45 0 [.tmp 47,vI 4]),kB 49 .lss 3 46 48] [46,47,48]
abbrev c_100_15:SCode:=.reg [([2248,2249,2250,2251],[kA 52 3 8,oL 53 false 1 52,kA 54 1 3,oL 55 false 1 54,oD 56 (.build [(.int .i64 0),(.int .i64 0)] [(0,1,(.tmp 55))]),oM 57 1,kK 58 .quo 3 57 4,oM 59 9,kB 60 .add 3 58 59,oM 61 2,kE 62 47 0 56 60 61,oD 63 (.bsl 4 [.tmp 62]),oD 64 (.app 37 4 56 (.tmp 53) (.tmp 63)),kA 65 3 8,kS 1 65 64]),([2248,2249,2250,2251,64],[kA 52 3 8,oL 53 false 1 52,kA 54 1 3,oL 55 false 1 54,oD 56 (.build [(.int .i64 0),(.int .i64 0)] [(0,1,(.tmp 55))]),oM 57 1,kK 58 .quo 3 57 4,oM 59 9,kB 60 .add 3 58 59,oM 61 2,kE 62 47 0 56 60 61,oD 63 (.bsl 4 [.tmp 62]),oD 64 (.appN 37 4 56 (.tmp 53) (.tmp 63)),kA 65 3 8,kS 1 65 64])] [49,52,53,54,55,56,57,58,59,60,61,62,63,64,65]
abbrev c_100_16:=kR [oM 50 9,kK 51 .add 3 50 1,oM 9 51] [50,51]
abbrev c_100_17:SCode:=(.seq (.seq c_100_14 (.cond (.tmp 49) .skip (.exit 1))) (.seq (.block 2 c_100_15) c_100_16))
abbrev c_100_18:=kR [oL 66 true 4 8,kS 4 6 66] [1,2,3,8,9,66]
abbrev F_100:SFunc:=⟨67,(.seq c_100_0 (.seq c_100_1 (.seq (.seq c_100_2 (.block 0 (.seq c_100_3 (.cond (.tmp 13) (.seq c_100_4 .ret) (.seq c_100_5 (.cond (.tmp 19) (.seq c_100_6 .ret) (.seq (.seq c_100_7 (.cond (.tmp 27) .skip c_100_8)) (.cond (.tmp 27) (.seq (.seq c_100_9 (.cond (.tmp 36) (.seq c_100_10 .ret) .skip)) (.seq c_100_11 .ret)) .skip)))))))) (.seq c_100_12 (.seq (.seq c_100_13 (.block 1 (.loop c_100_17))) (.seq c_100_18 .ret)))))),[.cell true 4 6],false⟩
theorem tf_100:z6 Go.Proofs.Tryz.prog 47 (hintT [(10,0),(16,0),(23,0),(34,0),(42,0),(48,0),(62,0),(63,0)]) (fpT []) (killT [(0,[0]),(1,[10]),(2,[11]),(3,[14]),(4,[1,2,3,7,12,13,15,16,17,18]),(5,[13,20]),(6,[1,2,3,7,12,19,21,22,23,24,25,26]),(7,[7,19,28]),(8,[12,29]),(9,[12,27,30,31,32,33,34,35]),(10,[1,2,3,36,37]),(11,[1,2,3,36,38,39,40,41,42,43,44]),(12,[12,27,45]),(14,[46,47,48]),(16,[49,52,53,54,55,56,57,58,59,60,61,62,63,64,65]),(15,[50,51]),(17,[1,2,3,8,9,66])]) false=some F_100:=by kernel_rfl
abbrev c_53_0:=kR [kT 2 false] [2]
abbrev c_53_1:=kV [2060,2061,2062,2063] [oM 4 0,oD 5 (.slen (.tmp 4)),kK 6 .lss 3 5 1,oM 7 6,oH 8 7 false 0,oG 9 7 false (.slen (.tmp 8)),kG 10 7 false .gtr 3 9 20,oQ 11 7 10 true,oM 12 11,oH 13 12 false 0,oG 14 12 false (.sidx (.tmp 13) (vI 0)),oG 15 12 false (.call 128 0 [.tmp 14]),oG 16 12 false (.un .not (.tmp 15)),oQ 17 12 16 true] [4,5,6,7,8,9,10,11,12,13,14,15,16]
abbrev c_53_2:=kR [kT 2 false] [0,17]
abbrev c_53_3:=kR [oM 18 0,oD 19 (.slen (.tmp 18)),kI 20 0] [2,17,18]
abbrev c_53_4:=kR [kB 21 .lss 3 20 19] []
abbrev c_53_5:=kR [oM 22 20,oM 3 22] [21,22]
abbrev c_53_6:=kV [2104,2105,2106,2107] [oM 23 0,oM 24 3,oD 25 (.sidx (.tmp 23) (.tmp 24)),kC 26 128 0 25,kN 27 26,oM 28 27,oH 29 28 true 0,oH 30 28 true 3,oG 31 28 true (.sidx (.tmp 29) (.tmp 30)),oG 32 28 true (.bin .lss 5 (.tmp 31) (.val (.int .u8 48))),oH 33 28 true 32,oH 34 33 false 0,oH 35 33 false 3,oG 36 33 false (.sidx (.tmp 34) (.tmp 35)),oG 37 33 false (.bin .gtr 5 (.tmp 36) (.val (.int .u8 57))),oG 38 28 true (.pick (.tmp 33) (.val (.bool true)) (.tmp 37)),oP 39 28 38 false,oM 40 39,oH 41 40 true 0,oH 42 40 true 3,oG 43 40 true (.sidx (.tmp 41) (.tmp 42)),oG 44 40 true (.bin .neq 5 (.tmp 43) (.val (.int .u8 95))),oP 45 40 44 false] [3,23,24,25,26,27,28,29,30,31,32,33,34,35,36,37,38,39,40,41,42,43,44]
abbrev c_53_7:=kR [kT 2 false] [0,19,20,45]
abbrev c_53_8:=kR [kK 46 .add 3 20 1,oM 20 46] [2,45,46]
abbrev c_53_9:SCode:=(.seq c_53_4 (.seq (.cond (.tmp 21) .skip (.exit 0)) (.seq (.block 1 (.seq c_53_5 (.seq c_53_6 (.cond (.tmp 45) (.seq c_53_7 .ret) .skip)))) c_53_8)))
abbrev c_53_10:=kR [kT 2 true] [0,19,20]
abbrev F_53:SFunc:=⟨47,(.seq c_53_0 (.seq (.seq c_53_1 (.cond (.tmp 17) (.seq c_53_2 .ret) .skip)) (.seq (.seq c_53_3 (.block 0 (.loop c_53_9))) (.seq c_53_10 .ret)))),[.tmp 2],false⟩
theorem tf_53:kU 69 [(15,0),(26,0)] [] F_53:=by unfold kU;kernel_rfl
abbrev c_52_0:=kV [1] [kO 1 0,kT 2 false] [0,2]
abbrev c_52_1:=kV [2020,2021,2022,2023,2040,2041,2042,2043] [kA 3 0 1,oL 4 false 1 3,kC 5 69 0 4,kN 6 5,oM 7 6,kF 8 7 false 1 1,kL 9 7 false true 2 8,oG 10 7 false (.call 44 0 [.tmp 9]),oG 11 7 false (.un .not (.tmp 10)),oQ 12 7 11 true] [3,4,5,6,7,8,9,10,11]
abbrev c_52_2:=kR [kT 2 false] [1,12]
abbrev c_52_3:=kR [kA 13 3 1,oL 14 false 1 13,kN 15 14,oM 16 15,kF 17 16 false 1 1,kF 18 16 false 0 17,kL 19 16 false false 1 18,kG 20 16 false .leq 3 19 3,oQ 21 16 20 true,oM 2 21] [1,12,13,14,15,16,17,18,19,20,21]
abbrev F_52:SFunc:=⟨22,(.seq c_52_0 (.seq (.seq c_52_1 (.cond (.tmp 12) (.seq c_52_2 .ret) .skip)) (.seq c_52_3 .ret))),[.tmp 2],false⟩
theorem tf_52:kU 70 [(5,0),(10,0)] [] F_52:=by unfold kU;kernel_rfl
abbrev c_115_0:=kR [kI 4 0] [4]
abbrev c_115_1:=kR [oM 6 0,kZ 7 6,kI 8 0] [6]
abbrev c_115_2:=kR [kB 9 .lss 3 8 7] []
abbrev c_115_3:=kR [oM 10 8,oM 5 10] [9,10]
abbrev c_115_4:=kV [2064,2065,2066,2067] [oM 11 1,oM 12 0,oM 13 5,kX 14 4 12 13,oL 15 true 4 14,oD 16 (.callv (.tmp 11) 1 [.tmp 15])] [11,12,13,14,15]
abbrev c_115_5:=kR [oM 17 5,oM 4 17] [0,1,5,7,8,16,17]
abbrev c_115_6:=kR [kK 18 .add 3 8 1,oM 8 18] [4,5,16,18]
abbrev c_115_7:SCode:=(.seq c_115_2 (.seq (.cond (.tmp 9) .skip (.exit 0)) (.seq (.block 1 (.seq c_115_3 (.seq c_115_4 (.cond (.tmp 16) (.seq c_115_5 .ret) .skip)))) c_115_6)))
abbrev c_115_8:=kR [oD 4 (.mov (.val (.int .i64 (-1))))] [0,1,7,8]
abbrev F_115:SFunc:=⟨19,(.seq c_115_0 (.seq (.seq c_115_1 (.block 0 (.loop c_115_7))) (.seq c_115_8 .ret))),[.tmp 4],false⟩
theorem tf_115:kU 71 [(16,1)] [] F_115:=by unfold kU;kernel_rfl
abbrev c_48_0:=kV [2] [kO 2 0,kT 3 false] [0,3]
abbrev c_48_1:=kR [kA 4 0 2,oL 5 false 1 4,oL 6 false 1 1,kB 7 .eql 9 5 6,oM 3 7] [1,2,4,5,6,7]
abbrev F_48:SFunc:=⟨8,(.seq c_48_0 (.seq c_48_1 .ret)),[.tmp 3],false⟩
theorem tf_48:kU 72 [] [] F_48:=by unfold kU;kernel_rfl
abbrev c_114_0:=kR [kT 4 false] [4]
abbrev c_114_1:=kR [oM 6 0,kZ 7 6,oM 8 1,kZ 9 8,kB 10 .neq 3 7 9] [6,7,8,9]
abbrev c_114_2:=kR [kT 4 false] [0,1,10]
abbrev c_114_3:=kR [oM 11 0,kZ 12 11,kI 13 0] [4,10,11]
abbrev c_114_4:=kR [kB 14 .lss 3 13 12] []
abbrev c_114_5:=kR [oM 15 13,oM 5 15] [14,15]
abbrev c_114_6:=kR [oM 16 0,oM 17 5,kX 18 4 16 17,oL 19 true 4 18,oM 20 1,oM 21 5,kX 22 4 20 21,oL 23 true 4 22,kB 24 .neq 55 19 23] [5,16,17,18,19,20,21,22,23]
abbrev c_114_7:=kR [kT 4 false] [0,1,12,13,24]
abbrev c_114_8:=kR [kK 25 .add 3 13 1,oM 13 25] [4,24,25]
abbrev c_114_9:SCode:=(.seq c_114_4 (.seq (.cond (.tmp 14) .skip (.exit 0)) (.seq (.block 1 (.seq c_114_5 (.seq c_114_6 (.cond (.tmp 24) (.seq c_114_7 .ret) .skip)))) c_114_8)))
abbrev c_114_10:=kR [kT 4 true] [0,1,12,13]
abbrev F_114:SFunc:=⟨26,(.seq c_114_0 (.seq (.seq c_114_1 (.cond (.tmp 10) (.seq c_114_2 .ret) .skip)) (.seq (.seq c_114_3 (.block 0 (.loop c_114_9))) (.seq c_114_10 .ret)))),[.tmp 4],false⟩
theorem tf_114:kU 81 [] [] F_114:=by unfold kU;kernel_rfl
abbrev c_54_0:=kR [kT 2 false] [2]
abbrev c_54_1:=kR [oM 3 0,oD 4 (.bin .geq 5 (.tmp 3) (.val (.int .u8 97))),oM 5 4,oH 6 5 true 0,oG 7 5 true (.bin .leq 5 (.tmp 6) (.val (.int .u8 122))),oP 8 5 7 false,oM 2 8] [0,3,4,5,6,7,8]
abbrev F_54:SFunc:=⟨9,(.seq c_54_0 (.seq c_54_1 .ret)),[.tmp 2],false⟩
theorem tf_54:kU 128 [] [] F_54:=by unfold kU;kernel_rfl
end Go.Sh.Cd4
end

section
namespace Go.Proofs.YtcpaleaajdilgaaGreatDoor
open Go Go.RowKit Go.Mor Go.Sh Go.Sh.Cd1 Go.Sh.Cd4 Go.Sh.Cd5
set_option maxRecDepth 100000
set_option maxHeartbeats 4000000
theorem z82{l:List UInt8}{k:Nat}{c:UInt8}(h:l[k]?=some c):l.drop k=c::l.drop (k+1):=by
 obtain⟨hk,he⟩:=gJ h;rw[List.drop_eq_getElem_cons hk,he]
def p0T(r:Option (Pc×Nat)):TV:=match r with
 |some (q,z)=> .tuple [.agg [I q.k,I q.n,S (str q.s),I 0],I (z:Int)]
 |none=> .tuple [.agg [I 0,I 0,S (str []),I 0],I 0]
def numP(l:List UInt8):Option (Pc×Nat):=if 1000000000000000<(numG l 0 0).1 then none else some (⟨1,(numG l 0 0).1,[],0⟩,(numG l 0 0).2)
theorem readNumber_ok(g:Sh.Glob)(l:List UInt8)(hl:l.length<4611686018427387904):SCalls Tryz.prog g 204 [S (str l)] [] (p0T (numP l)) []:=by
 unfold numP;generalize hR:numG l 0 0=R;refine z7 hmix tf_93 rfl ?_;simp only[vW,seval];refine v_loop (σ:={ q:Int×Nat // 0≤q.1∧q.1≤1000000000000001∧q.2≤l.length∧numG (l.drop q.2) q.1 q.2=R })
  (fun q=>⟨[(0,S (str l)),(2,.ptr 2 0),(4,I q.1.1),(5,I (q.1.2:Int))],[(2,[I 0,I 0,S ⟨#[]⟩,I 0])],[],[]⟩) (fun q=>l.length-q.1.2) ⟨(0,0),by decide,by decide,Nat.zero_le _,hR⟩ ?_ ?_
 ·apply lw_of<;>simp[leL,lk,sv,Nat.beq,I,S,ES.kill,has,drp,nilT]
 rintro⟨⟨n,z⟩,h0,h1,hz,hd⟩;simp only at h0 h1 hz hd;by_cases hk:z<l.length
 ·have d1:(z:Int)<(l.length:Int):=by omega
  obtain⟨c,ec⟩:∃c,l[z]?=some c:=⟨_,gE hk⟩
  rw[z82 ec,numG]at hd;have hc:=c.toNat_lt;by_cases q1:48≤c.toNat
  ·have d2:(48:Int)≤(c.toNat:Int):=by omega
   by_cases q2:c.toNat≤57
   ·have d3:(c.toNat:Int)≤57:=by omega
    rw[if_pos (by unfold digB;simp[q1,q2])]at hd;have w0:IntKind.i64.wrap (10*n)=10*n:=wrap64 (by omega) (by omega);have w1:IntKind.u8.wrap ((c.toNat:Int) - 48)=(c.toNat:Int) - 48:=by rw[IntKind.wrap_u8];omega
    have w2:IntKind.i64.wrap ((c.toNat:Int) - 48)=(c.toNat:Int) - 48:=wrap64 (by omega) (by omega);have w3:IntKind.i64.wrap (10*n+((c.toNat:Int) - 48))=10*n+((c.toNat:Int) - 48):=wrap64 (by omega) (by omega);have w4:IntKind.i64.wrap ((z:Int)+1)=((z+1:Nat):Int):=by rw[wrap64 (by omega) (by omega)];omega
    simp only[vW,seval,d1,d2,d3,ec,w0,w1,w2,w3,w4];refine z10 ⟨(min (10*n+((c.toNat:Int) - 48)) 1000000000000001,z+1),by omega,by omega,hk,hd⟩ (by show l.length-(z+1)<l.length-z;omega) ?_;apply lw_of<;>simp[leL,lk,sv,Nat.beq,I,S,ES.kill,has,drp,nilT]
   ·have d3:¬(c.toNat:Int)≤57:=by omega
    rw[if_neg (by unfold digB;simp[q2])]at hd;subst hd;by_cases hn:1000000000000000<n
    ·simp only[vW,seval,d1,d2,d3,ec,hn,p0T];rfl
    ·simp only[vW,seval,d1,d2,d3,ec,hn,p0T];rfl
  ·have d2:¬(48:Int)≤(c.toNat:Int):=by omega
   rw[if_neg (by unfold digB;simp[q1])]at hd;subst hd;by_cases hn:1000000000000000<n
   ·simp only[vW,seval,d1,d2,ec,hn,p0T];rfl
   ·simp only[vW,seval,d1,d2,ec,hn,p0T];rfl
 ·have d1:¬(z:Int)<(l.length:Int):=by omega
  rw[List.drop_eq_nil_of_le (by omega),numG]at hd;subst hd;by_cases hn:1000000000000000<n
  ·simp only[vW,seval,d1,hn,p0T];rfl
  ·simp only[vW,seval,d1,hn,p0T];rfl
theorem small_ok(g:Sh.Glob)(b:UInt8):SCalls Tryz.prog g 128 [.pv (.v (.int .u8 (b.toNat:Int)))] [] (B (small b)) []:=by
 refine z7 hmix tf_54 rfl ?_;unfold small B;by_cases q1:97≤b.toNat
 ·have d1:(97:Int)≤(b.toNat:Int):=by omega
  have q2:decide ((b.toNat:Int)≤122)=decide (b.toNat≤122):=by rw[Bool.eq_iff_iff];simp;omega
  simp only[vW,seval,d1,q2,q1];first|done|simp
 ·have d1:¬(97:Int)≤(b.toNat:Int):=by omega
  simp only[vW,seval,d1,q1];first|done|simp
theorem rightName_ok(g:Sh.Glob)(l:List UInt8)(hl:l.length<4611686018427387904):SCalls Tryz.prog g 69 [S (str l)] [] (B (z13 l)) []:=by
 refine z7 hmix tf_53 rfl ?_;by_cases h1:1≤l.length
 ·have d1:¬(l.length:Int)<1:=by omega
  by_cases h20:l.length≤20
  ·have d2:¬(20:Int)<(l.length:Int):=by omega
   obtain⟨c,r,rfl⟩:∃c r,l=c::r:=List.exists_cons_of_ne_nil (by rintro rfl;simp at h1);have HS:=small_ok g c;unfold B at HS ⊢;have e0:(c::r)[0]?=some c:=rfl;have hR:z13 (c::r)=(small c&&(c::r).all nameB):=by
    unfold z13;rw[decide_eq_true ⟨h1,h20⟩];simp
   rw[hR];generalize hL:c::r=l at*;simp only[vW,seval,d1,d2,e0];(with_reducible apply v_call);exact kv;rfl;exact HS;exact km;exact kv;cases hs:small c
   ·simp only[vW,seval]
   simp only[vW,seval,d1,d2];refine v_loop (σ:={ k:Nat // k≤l.length∧(l.drop k).all nameB=l.all nameB })
    (fun k=>⟨[(0,S (str l)),(19,I (l.length:Int)),(20,I (k.1:Int))],[],[],[]⟩) (fun k=>l.length-k.1) ⟨0,Nat.zero_le _,rfl⟩ ?_ ?_
   ·apply lw_of<;>simp[leL,lk,sv,Nat.beq,I,S,ES.kill,has,drp,nilT]
   rintro⟨k,hk,hd⟩;by_cases hlt:k<l.length
   ·have d3:(k:Int)<(l.length:Int):=by omega
    obtain⟨b,eb⟩:∃b,l[k]?=some b:=⟨_,gE hlt⟩
    rw[z82 eb,List.all_cons]at hd;have hbn:=b.toNat_lt;have HB:=small_ok g b;unfold B at HB;have w4:IntKind.i64.wrap ((k:Int)+1)=((k+1:Nat):Int):=by rw[wrap64 (by omega) (by omega)];omega
    simp only[vW,seval,d3,eb];(with_reducible apply v_call);exact kv;rfl;exact HB;exact km;exact kv;cases hsb:small b
    ·by_cases q1:b.toNat<48
     ·have d4:(b.toNat:Int)<48:=by omega
      have d6:¬(b.toNat:Int)=95:=by omega
      have hn:nameB b=false:=by unfold nameB;rw[hsb];simp;omega
      rw[hn,Bool.false_and]at hd;simp only[vW,seval,d3,eb,d4,d6];rw[←hd]
     ·have d4:¬(b.toNat:Int)<48:=by omega
      by_cases q2:57<b.toNat
      ·have d5:(57:Int)<(b.toNat:Int):=by omega
       by_cases q3:b.toNat=95
       ·have d6:(b.toNat:Int)=95:=by omega
        have hn:nameB b=true:=by unfold nameB;simp[q3]
        rw[hn,Bool.true_and]at hd;simp only[vW,seval,d3,eb,d4,d5,d6,w4];refine z10 ⟨k+1,hlt,hd⟩ (by show l.length-(k+1)<l.length-k;omega) ?_;apply lw_of<;>simp[leL,lk,sv,Nat.beq,I,S,ES.kill,has,drp,nilT]
       ·have d6:¬(b.toNat:Int)=95:=by omega
        have hn:nameB b=false:=by unfold nameB;rw[hsb];simp;omega
        rw[hn,Bool.false_and]at hd;simp only[vW,seval,d3,eb,d4,d5,d6];rw[←hd]
      ·have d5:¬(57:Int)<(b.toNat:Int):=by omega
       have hn:nameB b=true:=by unfold nameB;simp;omega
       rw[hn,Bool.true_and]at hd;simp only[vW,seval,d3,eb,d4,d5,w4];refine z10 ⟨k+1,hlt,hd⟩ (by show l.length-(k+1)<l.length-k;omega) ?_;apply lw_of<;>simp[leL,lk,sv,Nat.beq,I,S,ES.kill,has,drp,nilT]
    ·have hn:nameB b=true:=by unfold nameB;rw[hsb];rfl
     rw[hn,Bool.true_and]at hd;simp only[vW,seval,d3,eb,w4];refine z10 ⟨k+1,hlt,hd⟩ (by show l.length-(k+1)<l.length-k;omega) ?_;apply lw_of<;>simp[leL,lk,sv,Nat.beq,I,S,ES.kill,has,drp,nilT]
   ·have d3:¬(k:Int)<(l.length:Int):=by omega
    rw[List.drop_eq_nil_of_le (by omega)]at hd;simp only[vW,seval,d3];rw[←hd];rfl
  ·have d2:(20:Int)<(l.length:Int):=by omega
   have hR:z13 l=false:=by unfold z13;rw[decide_eq_false (by omega)];rfl
   rw[hR];unfold B;simp only[vW,seval,d1,d2]
 ·have d1:(l.length:Int)<1:=by omega
  have hR:z13 l=false:=by unfold z13;rw[decide_eq_false (by omega)];rfl
  rw[hR];unfold B;simp only[vW,seval,d1]
theorem classRight0_ok(g:Sh.Glob)(l:List UInt8)(hl:l.length<4611686018427387904):SCalls Tryz.prog g 33 [.agg [S (str l),.pv (.v (.slice none 0 0))]] [] (B (z13 l)) []:=by
 refine z7 hmix tf_49 rfl ?_;have HR:=rightName_ok g l hl;unfold B at*;simp only[vW,seval];(with_reducible apply v_call);exact kv;rfl;exact HR;exact km;exact kv;cases z13 l
 ·simp only[vW,seval]
 simp only[vW,seval];refine v_loop (σ:=Unit) (fun _=>⟨[(19,I 0),(20,I 0)],[],[],[]⟩) (fun _=>0) () ?_ ?_
 ·apply lw_of<;>simp[leL,lk,sv,Nat.beq,I,S,ES.kill,has,drp,nilT]
 rintro⟨⟩;simp only[vW,seval]
theorem eRightName_ok(g:Sh.Glob)(l:List UInt8)(hl:l.length<4611686018427387904):SCalls Tryz.prog g 244 [S (str l)] [] (B (z13 l)) []:=by
 refine z7 hmix tf_95 rfl ?_;have HR:=classRight0_ok g l hl;unfold B at*;simp only[vW,seval];(with_reducible apply v_call);exact kv;rfl;exact HR;exact km;exact kv;simp only[vW,seval]
theorem eRightText_ok(m:Nat)(l:List UInt8)(hl:l.length<4611686018427387904):SCalls Tryz.prog (gl0 m) 245 [S (str l)] [] (B (z15 l)) []:=by
 refine z7 hmix tf_96 rfl ?_;have HR:=rightV_ok0 m (.mk 2 0 l []) ⟨by unfold z106 V.s;simp only;omega,by simp[V.l]⟩;have hk:rightV (.mk 2 0 l [])=z15 l:=by unfold rightV right1;simp[V.k,V.n,V.l,V.s]
 rw[hk]at HR;have HR:=HR.inp (xs:=[nv (.mk 2 0 l [])]) rfl (fun j c d hc hd=>by
  match j with
  |0=>simp at hc hd;subst hc;subst hd;exact nv_tv rfl
  |j+1=>simp at hc)
 unfold B nv at*;simp only[vW,seval];(with_reducible apply v_call);exact kv;rfl;exact HR;exact km;exact kv;simp only[vW,seval]
end Go.Proofs.YtcpaleaajdilgaaGreatDoor
end

section
namespace Go.Sh
open Go Go.RowKit
set_option maxHeartbeats 4000000
section
variable{P:Program}{g:Glob}
theorem start_sim{w:World}{E:Env}{os:List MO}{N:Nat}{xs:List TV}{vs:List Value}(hn:xs.length≤N)(hm:MSim (start w E os 0) (objB os) (objR os) w E)(hl:xs.length=vs.length)(hxs:∀(j:Nat) x v,xs[j]?=some x→vs[j]?=some v→RelT w E (objR os) x v):
  Sim (start w E os N) (startE xs os).fs { tmps:=vs.toArray++Array.replicate (N-vs.toArray.size) undef,defers:=[] } w E:=by
 have hmB:MSim (start w E os N) (objB os) (objR os) w E:=⟨hm.box,hm.row,hm.bb,hm.br,hm.rr,hm.lt,hm.low,hm.keep,hm.knew,⟨hm.pas.β,hm.pas.γ,hm.pas.row⟩⟩
 have hfs:(startE xs os).fs=⟨fun k=>xs[k]?,objB os,objR os,fun _=>none⟩:=by
  refine FS.ext' (fun k=> ?_) (fun k=> ?_) (fun k=> ?_) (fun k=>rfl)
  ·show lk (numT 0 xs) k=_;rw[lk_numT];simp
  ·show lk (numB 1000 os) k=_;rw[lk_numB];rfl
  ·show lk (numR 1000 os) k=_;rw[lk_numR];rfl
 have hsize:(vs.toArray++Array.replicate (N-vs.toArray.size) undef).size=N:=by
  have:xs.length≤N:=hn;simp;omega
 rw[hfs];refine⟨rfl,hsize,fun k x hx=> ?_,hmB,fun d z p hd=>(by cases hd),fun d d' q q' hd=>(by cases hd)⟩;have hk:k<xs.length:=(gJ hx).1;refine⟨Nat.lt_of_lt_of_le hk hn,?_⟩;have hkv:k<vs.length:=by omega
 have hv:(vs.toArray++Array.replicate (N-vs.toArray.size) undef).getD k undef=vs[k]:=by
  rw[Array.getD_eq_getD_getElem?,Array.getElem?_append_left (by simpa using hkv)];simp[hkv]
 show RelT w E (objR os) x ((vs.toArray++Array.replicate (N-vs.toArray.size) undef).getD k undef);rw[hv];exact hxs k x _ hx (gE hkv)
theorem fin_of{fn:Func}{rs:List SRes}{keep:Bool}{w w':World}{E E':Env}{os os':List MO}{N:Nat}{ds:List Deferred}{a':Act}{s':ES}{y:TV}{F:SFunc}(hF1:F.res=rs)(hF2:F.keep=keep)(hrs:seqO (z60 P) fn.results.toList=some rs)(hmo:moOk os os'=true)
  (hS':Sim { start w E os N with ds:=ds } s'.fs a' w' E') (hex:exitF F os.length s'=some (y,os')):
  ∃v,(results fn a'.tmps).run P w'=.ok v w'∧(∃v_1 E'_1,Ending.returned v=Ending.returned v_1∧MSim (start w E os 0) (objB os') (objR os') w' E'_1∧RelT w' E'_1 (objR os') y v_1∧Left E os E'_1 os'):=by
 subst hF1;subst hF2;unfold exitF at hex;split at hex<;>try(cases hex;done)
 rename_i y0 hy0;obtain⟨v,hrun,hrel⟩:=results_run (fn:=fn) hrs hS' hy0;refine⟨v,hrun,v,?_⟩;simp only[]at hex;obtain⟨i1,i2,i3⟩:=z124 os.length 1000;generalize hal:reach s'.fs F.keep 64 (y0.ids3++(idsFrom 1000 os.length).flatMap fun d=>match s'.fs.b d with|some cs=>cs.flatMap TV.ids1|none=>[]) (idsFrom 1000 os.length)=al at hex;obtain⟨hnd,t,hpre⟩:=z64 (s:=s'.fs) (rows:=F.keep) 64 (y0.ids3++(idsFrom 1000 os.length).flatMap fun d=>match s'.fs.b d with|some cs=>cs.flatMap TV.ids1|none=>[]) _ i1;rw[hal]at hnd hpre;split at hex<;>try(cases hex;done)
 rename_i y1 os1 hren hmos;cases hex;have hpas:∀j,j<os.length→al[j]?=some (1000+j):=fun j hj=>by
  rw[hpre,List.getElem?_append_left (by omega),z123,if_pos hj]
 have hM:=z100 hS' hnd hmos;obtain⟨hlen,hBx,hRx⟩:=handed hmos;have hβ:∀{i j},al[j]?=some i→(envIn E' al).β (1000+j)=E'.β i:=fun hj=>by simp only[envIn];rw[z30 hj]
 have hγ:∀{i j},al[j]?=some i→(envIn E' al).γ (1000+j)=E'.γ i:=fun hj=>by simp only[envIn];rw[z30 hj]
 have hXs:∀{i j b},al[j]?=some i→objX E os i b→objX E os (1000+j) b:=by
  intro i j b hj hx;have hi:∃q,i=1000+q∧q<os.length:=by
   rcases hx with⟨cs,h1,_⟩|⟨⟨e,W,n⟩,cap,h1,_⟩
   ·obtain⟨q,rfl,hq⟩:=z38 h1;exact⟨q,rfl,(gJ hq).1⟩
   ·obtain⟨q,rfl,hq⟩:=z24 h1;exact⟨q,rfl,(gJ hq).1⟩
  obtain⟨q,rfl,hq⟩:=hi;have a1:=z66 hnd hj;have a2:=z66 hnd (hpas q hq);rw[a1]at a2;obtain rfl:j=q:=Option.some.inj a2;exact hx
 have hM':MSim (start w E os 0) (objB os') (objR os') w' (envIn E' al):=by
  refine⟨fun d cs' hd=> ?_,fun d e W n hd=> ?_,hM.bb,hM.br,hM.rr,hM.lt,hS'.mem.low,hS'.mem.keep,hS'.mem.knew,⟨fun d ho=> ?_,fun d ho h0=> ?_,fun d e W n ho hd=> ?_⟩⟩
  ·refine⟨(hM.box d cs' hd).1,?_⟩;obtain⟨j,rfl,hj⟩:=z38 hd;obtain⟨i,cs,q1,q2,_⟩:=hBx j cs' hj;rw[hβ q1];rcases(hS'.mem.box i cs q2).2 with h1|h1
   ·exact .inl h1
   ·exact .inr (hXs q1 h1)
  ·obtain⟨j,rfl,hj⟩:=z24 hd;obtain⟨i,q1,q2,q3⟩:=hRx j e W n hj;rw[hγ q1];rcases hS'.mem.row i e W n q3 with h1|⟨k,cap,h1,h2,h3⟩
   ·exact .inl h1
   ·exact .inr ⟨k,cap,h1,h2.imp id (hXs q1),h3.cells,h3.le,h3.max,h3.out⟩
  ·obtain⟨q,rfl⟩:∃q,d=1000+q:=⟨d-1000,by have:=ho.1;omega⟩
   have hq:q<os.length:=by have:=ho.2;have h2:1000+q<1000+os.length:=this;omega
   rw[hβ (hpas q hq)];exact hS'.mem.pas.β _ ho
  ·obtain⟨q,rfl⟩:∃q,d=1000+q:=⟨d-1000,by have:=ho.1;omega⟩
   have hq:q<os.length:=by have:=ho.2;have h2:1000+q<1000+os.length:=this;omega
   rw[hγ (hpas q hq)];exact hS'.mem.pas.γ _ ho h0
  ·obtain⟨q,rfl⟩:∃q,d=1000+q:=⟨d-1000,by have:=ho.1;omega⟩
   have hq:q<os.length:=by have:=ho.2;have h2:1000+q<1000+os.length:=this;omega
   obtain⟨j,hj0,hj⟩:=z24 hd;obtain rfl:q=j:=by omega
   obtain⟨i,q1,q2,q3⟩:=hRx q e W n hj;rw[hpas q hq]at q1;cases q1;rw[hγ (hpas q hq)];exact hS'.mem.pas.row _ e W n ho q3
 refine⟨envIn E' al,rfl,hM',z129 (renIn hmos) (fun _ _ _ h _=>h) hrel hren,⟨fun d h1 h2=>hM'.pas.β d ⟨h1,h2⟩,fun d h1 h2 h0=>hM'.pas.γ d ⟨h1,h2⟩ h0,fun d e W n hd=> ?_⟩⟩;obtain⟨q,rfl,hq⟩:=z24 hd;have hql:q<os.length:=(gJ hq).1;obtain⟨n',h1,h2⟩:=(z99 hmo).2.2.2 q e W n hq;obtain⟨n0,h3,h4,h5⟩:=hM'.pas.row (1000+q) e W n' ⟨by omega,by show 1000+q<1000+os.length;omega⟩ (z42 h1);have h3:objR os (1000+q)=some (e,W,n0):=h3;rw[hd]at h3;cases h3;exact⟨n',z42 h1,h4,h5⟩
def exitY(y0:TV)(keep:Bool)(n:Nat)(s:ES):Option (TV×List MO):=
 let I0:=idsFrom 1000 n
 let al:=reach s.fs keep 64 (y0.ids3++I0.flatMap fun d=>match s.fs.b d with|some cs=>cs.flatMap TV.ids1|none=>[]) I0
 match y0.ren3 (rhoIn al),seqO (fun d=>(s.fs.mo d).bind (MO.ren (rhoIn al))) al with
 |some y,some os'=>some (y,os')
 |_,_=>none
theorem fin_y{keep:Bool}{w w':World}{E E':Env}{os os':List MO}{N:Nat}{ds:List Deferred}{a':Act}{s':ES}{y0 y:TV}{v:Value}(hmo:moOk os os'=true)
  (hS':Sim { start w E os N with ds:=ds } s'.fs a' w' E') (hrel:RelT w' E' s'.fs.r y0 v) (hex:exitY y0 keep os.length s'=some (y,os')):
  ∃E'_1,MSim (start w E os 0) (objB os') (objR os') w' E'_1∧RelT w' E'_1 (objR os') y v∧Left E os E'_1 os':=by
 unfold exitY at hex;simp only[]at hex;obtain⟨i1,i2,i3⟩:=z124 os.length 1000;generalize hal:reach s'.fs keep 64 (y0.ids3++(idsFrom 1000 os.length).flatMap fun d=>match s'.fs.b d with|some cs=>cs.flatMap TV.ids1|none=>[]) (idsFrom 1000 os.length)=al at hex;obtain⟨hnd,t,hpre⟩:=z64 (s:=s'.fs) (rows:=keep) 64 (y0.ids3++(idsFrom 1000 os.length).flatMap fun d=>match s'.fs.b d with|some cs=>cs.flatMap TV.ids1|none=>[]) _ i1;rw[hal]at hnd hpre;split at hex<;>try(cases hex;done)
 rename_i y1 os1 hren hmos;cases hex;have hpas:∀j,j<os.length→al[j]?=some (1000+j):=fun j hj=>by
  rw[hpre,List.getElem?_append_left (by omega),z123,if_pos hj]
 have hM:=z100 hS' hnd hmos;obtain⟨hlen,hBx,hRx⟩:=handed hmos;have hβ:∀{i j},al[j]?=some i→(envIn E' al).β (1000+j)=E'.β i:=fun hj=>by simp only[envIn];rw[z30 hj]
 have hγ:∀{i j},al[j]?=some i→(envIn E' al).γ (1000+j)=E'.γ i:=fun hj=>by simp only[envIn];rw[z30 hj]
 have hXs:∀{i j b},al[j]?=some i→objX E os i b→objX E os (1000+j) b:=by
  intro i j b hj hx;have hi:∃q,i=1000+q∧q<os.length:=by
   rcases hx with⟨cs,h1,_⟩|⟨⟨e,W,n⟩,cap,h1,_⟩
   ·obtain⟨q,rfl,hq⟩:=z38 h1;exact⟨q,rfl,(gJ hq).1⟩
   ·obtain⟨q,rfl,hq⟩:=z24 h1;exact⟨q,rfl,(gJ hq).1⟩
  obtain⟨q,rfl,hq⟩:=hi;have a1:=z66 hnd hj;have a2:=z66 hnd (hpas q hq);rw[a1]at a2;obtain rfl:j=q:=Option.some.inj a2;exact hx
 have hM':MSim (start w E os 0) (objB os') (objR os') w' (envIn E' al):=by
  refine⟨fun d cs' hd=> ?_,fun d e W n hd=> ?_,hM.bb,hM.br,hM.rr,hM.lt,hS'.mem.low,hS'.mem.keep,hS'.mem.knew,⟨fun d ho=> ?_,fun d ho h0=> ?_,fun d e W n ho hd=> ?_⟩⟩
  ·refine⟨(hM.box d cs' hd).1,?_⟩;obtain⟨j,rfl,hj⟩:=z38 hd;obtain⟨i,cs,q1,q2,_⟩:=hBx j cs' hj;rw[hβ q1];rcases(hS'.mem.box i cs q2).2 with h1|h1
   ·exact .inl h1
   ·exact .inr (hXs q1 h1)
  ·obtain⟨j,rfl,hj⟩:=z24 hd;obtain⟨i,q1,q2,q3⟩:=hRx j e W n hj;rw[hγ q1];rcases hS'.mem.row i e W n q3 with h1|⟨k,cap,h1,h2,h3⟩
   ·exact .inl h1
   ·exact .inr ⟨k,cap,h1,h2.imp id (hXs q1),h3.cells,h3.le,h3.max,h3.out⟩
  ·obtain⟨q,rfl⟩:∃q,d=1000+q:=⟨d-1000,by have:=ho.1;omega⟩
   have hq:q<os.length:=by have:=ho.2;have h2:1000+q<1000+os.length:=this;omega
   rw[hβ (hpas q hq)];exact hS'.mem.pas.β _ ho
  ·obtain⟨q,rfl⟩:∃q,d=1000+q:=⟨d-1000,by have:=ho.1;omega⟩
   have hq:q<os.length:=by have:=ho.2;have h2:1000+q<1000+os.length:=this;omega
   rw[hγ (hpas q hq)];exact hS'.mem.pas.γ _ ho h0
  ·obtain⟨q,rfl⟩:∃q,d=1000+q:=⟨d-1000,by have:=ho.1;omega⟩
   have hq:q<os.length:=by have:=ho.2;have h2:1000+q<1000+os.length:=this;omega
   obtain⟨j,hj0,hj⟩:=z24 hd;obtain rfl:q=j:=by omega
   obtain⟨i,q1,q2,q3⟩:=hRx q e W n hj;rw[hpas q hq]at q1;cases q1;rw[hγ (hpas q hq)];exact hS'.mem.pas.row _ e W n ho q3
 refine⟨envIn E' al,hM',z129 (renIn hmos) (fun _ _ _ h _=>h) hrel hren,⟨fun d h1 h2=>hM'.pas.β d ⟨h1,h2⟩,fun d h1 h2 h0=>hM'.pas.γ d ⟨h1,h2⟩ h0,fun d e W n hd=> ?_⟩⟩;obtain⟨q,rfl,hq⟩:=z24 hd;have hql:q<os.length:=(gJ hq).1;obtain⟨n',h1,h2⟩:=(z99 hmo).2.2.2 q e W n hq;obtain⟨n0,h3,h4,h5⟩:=hM'.pas.row (1000+q) e W n' ⟨by omega,by show 1000+q<1000+os.length;omega⟩ (z42 h1);have h3:objR os (1000+q)=some (e,W,n0):=h3;rw[hd]at h3;cases h3;exact⟨n',z42 h1,h4,h5⟩
def boxIds(s:FS)(d:Nat):List Nat:=match s.b d with|some cs=>cs.flatMap TV.ids1|none=>[]
def backB(y0:TV)(s:FS)(al:List Nat):Option (TV×List MO):=match y0.ren3 (rhoIn al),seqO (fun d=>(s.mo d).bind (MO.ren (rhoIn al))) al with
 |some y,some os'=>some (y,os')
 |_,_=>none
def exitB(y0:TV)(keep:Bool)(n:Nat)(s:FS):Option (TV×List MO):=backB y0 s (reach s keep 64 (y0.ids3++(idsFrom 1000 n).flatMap (boxIds s)) (idsFrom 1000 n))
theorem exitR_B{res:List SRes}{keep:Bool}{n:Nat}{s:ES}{y0:TV}(h:resT s.fs res=some y0):exitR res keep n s=exitB y0 keep n s.fs:=by
 unfold exitR exitF;rw[h];rfl
end
abbrev Fw(ro:Option Nat):Fence:={ Fence.wide with round:=ro }
section
variable{P:Program}{ops:Array Oper}{Q:Exit→Act→World→Prop}{ro:Option Nat}{n:Nat}
theorem opIn{o:Oper}(hd:∀c,o.op≠ .defer c){a:Act}{w:World}{K:Act→World→Prop}(h:o.wp P a w K Q):o.wpIn (Fw ro) n P a w K Q:=by
 unfold Oper.wpIn;refine⟨fun _ _=>trivial,?_⟩;rw[Oper.semAt_eq _ _ _ hd];unfold Oper.wp at h;generalize(execOp a.eval o).run P w=r at*;cases r with
 |ok x w'=>
  cases x with
  |value v=>exact h
  |skip=>exact h
  |defer d=>exact h
  |enter f args=>exact⟨fun h=>(by cases h),callsIn_wide.2 h⟩
  |row r args=>exact⟨fun h=>(by cases h),fun c cs _=>let⟨v,w',r,s⟩:=h c cs;⟨v,w',r,stepsIn_wide.2 s⟩⟩
  |_=>exact(h:False).elim
 |halt x w'=>cases x<;>first|exact h|exact(h:False).elim
theorem opsIn_one{i:Nat}(hd:∀o:Oper,ops[i]?=some o→∀c,o.op≠Op.defer c)(hQ:¬LetsOut Q){a:Act}{w:World}{K:Act→World→Prop}(h:wpOp P ops Q i K a w):wpOpIn (Fw ro) n P ops Q i K a w:=by
 unfold wpOp at h;unfold wpOpIn;cases ho:ops[i]? with
 |none=>rw[ho]at h;exact h
 |some o=>
  rw[ho]at h;simp only[]at h ⊢;split at h
  ·rename_i hw;rw[if_pos hw];rcases h with h|h
   ·exact opIn (hd o ho) h
   ·exact absurd h.2 hQ
  ·rename_i hw;rw[if_neg hw];exact⟨fun _ _=>trivial,h⟩
theorem opsIn(hd:∀(i:Nat) (o:Oper),ops[i]?=some o→∀c,o.op≠Op.defer c)(hQ:¬LetsOut Q):∀(is:List Nat) (a:Act) (w:World),wpOps P ops Q is a w→wpOpsIn (Fw ro) n P ops Q is a w
 |[],a,w,h=>h
 |i::is,a,w,h=>by
  rw[wpOps_cons]at h;rw[wpOpsIn_cons];refine wpOpIn_mono (fun a w h=>opsIn hd hQ is a w h) (opsIn_one (hd i) hQ h)
theorem anyIn(hd:∀(i:Nat) (o:Oper),ops[i]?=some o→∀c,o.op≠Op.defer c)(hQ:¬LetsOut Q):∀(fuel:Nat) (li:Array Bool) (a:Act) (w:World),wpAny P .any ops Q fuel li a w→wpAnyIn (Fw ro) n P .any ops Q fuel li a w
 |0,li,a,w,h=>h
 |fuel+1,li,a,w,h=>⟨h.1,fun i hi=>wpOpIn_mono (fun a w h=>anyIn hd hQ fuel _ a w h) (opsIn_one (hd i) hQ (h.2 i hi))⟩
theorem noDefer{N:Nat}{H:Option Nat→Nat}{fp:Option Nat}{o:Oper}{so:SOper}(ht:z72 P N H fp ops o=some so):∀c,o.op≠ .defer c:=by
 intro c hc;unfold z72 at ht;split at ht<;>try(cases ht;done)
 rename_i hop;unfold z16 at hop;rw[hc]at hop;simp at hop
end
section
variable{P:Program}{H:Option Nat→Nat}{ops:Array Oper}{B:Base}{sops:List SOper}{g:Glob}{draw:Bool}{id:Nat}{ro:Option Nat}{n:Nat}
theorem region_soundIn(hmix:P.follows .mixedOrders=true)(hm0:B.m≤1000)(hN:B.N≤1000)(hG:g.G B.w0)(hX:∀d b,B.X d b→g.n≤b){fps:Nat→Option Nat}(htr:z34 P B.N H fps ops draw=some sops){s:ES}{K:ES→Prop}
  (hf:∀d∈sops.flatMap SOper.news,Fresh s.fs d) (h:opsW P g sops K s) {a:Act} {w:World} {E:Env} (hS:Sim B s.fs a w E) {Q:Exit→Act→World→Prop} (hLO:¬LetsOut Q) (hQ:∀s' a' w' E',K s'→Sim B s'.fs a' w' E'→Q .normal a' w'):
  (Code.region id ops draw).wpIn (Fw ro) n P Q a w:=by
 unfold z34 at htr;split at htr<;>try(cases htr;done)
 rename_i sops' hseq;split at htr<;>try(cases htr;done)
 rename_i hok;cases htr;obtain⟨s',hrun,hK⟩:=z169 (sops:=sops) (l:=sops) (j:=0) rfl h;obtain⟨hlen,hspec⟩:=z68 hseq;have hlen':ops.size=sops.length:=by simpa using hlen
 have hdf:∀(i:Nat) (o:Oper),ops[i]?=some o→∀c,o.op≠Op.defer c:=fun i o ho=>by
  obtain⟨so,_,hto⟩:=hspec i o (by simpa using ho);exact noDefer hto
 have hfi:∀l,FreshI sops l s.fs:=fun l i _ o ho d hd=>hf d (List.mem_flatMap.2 ⟨o,gM ho,hd⟩);have hmk:=mkAll_of hok;rw[←List.range_eq_range',←hlen']at hrun;cases draw with
 |false=>
  refine wpIn_region (opsIn hdf hLO _ _ _ ?_);have key:∀(l:List Nat) (s:FS) (a:Act) (w:World) (E:Env),l.Nodup→Sim B s a w E→FreshI sops l s→RunI P g sops l s s'.fs→wpOps P ops Q l a w:=by
   intro l
   induction l with
   |nil=>intro s a w E _ hS _ hr;have hr:s=s'.fs:=hr;subst hr;exact hQ s' a w E hK hS
   |cons i l ih=>
    intro s a w E hnd hS hf hr;obtain⟨o,s1,ho,⟨C,hC,hst⟩,hr⟩:=hr;have hil:i<ops.size:=by rw[hlen'];exact(gJ ho).1
    have hoi:ops[i]?=some ops[i]:=Array.getElem?_eq_getElem hil;obtain⟨so,hso,hto⟩:=hspec i ops[i] (by simp[hil]);rw[ho]at hso;cases hso;rw[wpOps_cons];refine sim_step hm0 hN hG hX hC hS hoi hto (hf i (List.mem_cons_self ..) o ho) hst (fun a' w' E' hS'=> ?_);exact ih s1 a' w' E' (List.nodup_cons.1 hnd).2 hS' (z90 hmk ho (List.nodup_cons.1 hnd).1 (fun j hj=>hf j (List.mem_cons_of_mem _ hj)) ⟨C,hC,hst⟩) hr
  exact key _ s.fs a w E List.nodup_range hS (hfi _) hrun
 |true=>
  refine wpIn_region_any hmix (anyIn hdf hLO _ _ _ _ ?_);have hrest:rest ops.size (Array.replicate ops.size false)=List.range ops.size:=by
   unfold rest;rw[List.filter_eq_self];intro i hi;have:i<ops.size:=by simpa using hi
   simp[Array.getD,this]
  refine any_sound hm0 hN hG hX hseq hok (sf:=s'.fs) (fun a w E hS=>hQ s' a w E hK hS) ops.size _ s.fs a _ E (by simp) (fun i o ho hl=> ?_) (hS.same (Below.refl _ _).drew) (hfi _) (by rw[hrest];exact hrun) (by rw[hrest];simp);have hil:=(gA ho).1;simp[Array.getD,hil]at hl
theorem runI_of_opsW'{P:Program}{g:Glob}{sops:List SOper}{K:ES→Prop}:∀{l:List SOper} {j:Nat} {s:ES},(∀(i:Nat) o,l[i]?=some o→sops[j+i]?=some o)→opsW P g l K s→∃s',RunI P g sops (List.range' j l.length) s.fs s'.fs∧K s'
 |[],j,s,_,h=>⟨s,rfl,h⟩
 |o::l,j,s,hd,h=>by
  obtain⟨C,hC,e,he,h⟩:=h;have hj:sops[j]?=some o:=hd 0 o rfl;obtain⟨s',h1,h2⟩:=runI_of_opsW' (j:=j+1) (fun i o ho=>by rw[show j+1+i=j+(i+1) by omega];exact hd (i+1) o ho) h;refine⟨s',⟨o,s.fs.after o e,hj,⟨C,hC,by unfold step;rw[he];rfl⟩,?_⟩,h2⟩;rw[←ES.after_fs];exact h1
theorem region_yield{N:Nat}{H:Option Nat→Nat}{fps:Nat→Option Nat}{ops:Array Oper}{sops:List SOper}(htr:z34 P N H fps ops false=some sops)(k:Nat)(hk:k<sops.length)(hm0:B.m≤1000)(hN:B.N=N)(hN2:N≤1000)(hG:g.G B.w0)(hX:∀d b,B.X d b→g.n≤b)
  {g2:Glob} {s:ES} {K1:ES→Prop} (hf:∀d∈sops.flatMap SOper.news,Fresh s.fs d) (h:opsW P g (sops.take k) K1 s) {a:Act} {w:World} {E:Env} (hS:Sim B s.fs a w E) {Q:Exit→Act→World→Prop} (hLO:¬LetsOut Q) (K2:Act→World→Prop)
  (hmid:∀s1 a w E,K1 s1→Sim B s1.fs a w E→wpOpIn (Fw ro) n P ops Q k K2 a w)
  (hpost:∀a w,K2 a w→∃(B2:Base) (s2:ES) (E2:Env) (K3:ES→Prop),B2.m≤1000∧B2.N=N∧g2.G B2.w0∧(∀d b,B2.X d b→g2.n≤b)∧Sim B2 s2.fs a w E2∧(∀d∈sops.flatMap SOper.news,Fresh s2.fs d)∧opsW P g2 (sops.drop (k+1)) K3 s2∧∀s3 a' w' E',K3 s3→Sim B2 s3.fs a' w' E'→Q .normal a' w'):
  (Code.region id ops false).wpIn (Fw ro) n P Q a w:=by
 unfold z34 at htr;split at htr<;>try(cases htr;done)
 rename_i sops' hseq;split at htr<;>try(cases htr;done)
 rename_i hok;cases htr;subst hN;obtain⟨hlen,hspec⟩:=z68 hseq;have hlen':ops.size=sops.length:=by simpa using hlen
 have hdf:∀(i:Nat) (o:Oper),ops[i]?=some o→∀c,o.op≠Op.defer c:=fun i o ho=>by
  obtain⟨so,_,hto⟩:=hspec i o (by simpa using ho);exact noDefer hto
 have hfi:∀l (s:ES),(∀d∈sops.flatMap SOper.news,Fresh s.fs d)→FreshI sops l s.fs:=fun l s hf i _ o ho d hd=>hf d (List.mem_flatMap.2 ⟨o,gM ho,hd⟩);have hmk:=mkAll_of hok;have key:∀(g:Glob) (B':Base),B'.m≤1000→B'.N=B.N→g.G B'.w0→(∀d b,B'.X d b→g.n≤b)→∀(r:List Nat) (sf:FS),(∀a w E,Sim B' sf a w E→wpOpsIn (Fw ro) n P ops Q r a w)→∀(l:List Nat) (s:FS) (a:Act) (w:World) (E:Env),l.Nodup→Sim B' s a w E→FreshI sops l s→RunI P g sops l s sf→wpOpsIn (Fw ro) n P ops Q (l++r) a w:=by
  intro g B' hm' hN' hG' hX' r sf hr0 l
  induction l with
  |nil=>intro s a w E _ hS _ hr;have hr:s=sf:=hr;subst hr;exact hr0 a w E hS
  |cons i l ih=>
   intro s a w E hnd hS hf hr;obtain⟨o,s1,ho,⟨C,hC,hst⟩,hr⟩:=hr;have hil:i<ops.size:=by rw[hlen'];exact(gJ ho).1
   have hoi:ops[i]?=some ops[i]:=Array.getElem?_eq_getElem hil;obtain⟨so,hso,hto⟩:=hspec i ops[i] (by simp[hil]);rw[ho]at hso;cases hso;rw[←hN']at hto;rw[List.cons_append,wpOpsIn_cons];refine opsIn_one (hdf i) hLO (sim_step hm' (by rw[hN'];exact hN2) hG' hX' hC hS hoi hto (hf i (List.mem_cons_self ..) o ho) hst (fun a' w' E' hS'=> ?_));exact ih s1 a' w' E' (List.nodup_cons.1 hnd).2 hS' (z90 hmk ho (List.nodup_cons.1 hnd).1 (fun j hj=>hf j (List.mem_cons_of_mem _ hj)) ⟨C,hC,hst⟩) hr
 refine wpIn_region ?_;have hsplit:List.range ops.size=List.range' 0 k++k::List.range' (k+1) (sops.length-(k+1)):=by
  rw[hlen',List.range_eq_range',←List.range'_succ,show sops.length=k+(sops.length-(k+1)+1) by omega,←List.range'_append];simp;omega
 rw[hsplit];have hrun1:∃s',RunI P g sops (List.range' 0 k) s.fs s'.fs∧K1 s':=by
  have:=runI_of_opsW' (sops:=sops) (j:=0) (fun i o ho=>by rw[Nat.zero_add];rw[List.getElem?_take]at ho;split at ho;exact ho;cases ho) h
  rwa [List.length_take,Nat.min_eq_left (by omega)]at this
 obtain⟨s1,hrun1,hK1⟩:=hrun1;refine key g B hm0 rfl hG hX _ s1.fs (fun a1 w1 E1 hS1=> ?_) _ s.fs a w E List.nodup_range' hS (hfi _ s hf) hrun1;rw[wpOpsIn_cons];refine wpOpIn_mono (fun a2 w2 h2=> ?_) (hmid s1 a1 w1 E1 hK1 hS1);obtain⟨B2,s2,E2,K3,p1,p2,p3,p4,p5,p6,p7,p8⟩:=hpost a2 w2 h2;have hrun3:∃s',RunI P g2 sops (List.range' (k+1) (sops.length-(k+1))) s2.fs s'.fs∧K3 s':=by
  have:=runI_of_opsW' (sops:=sops) (j:=k+1) (fun i o ho=>by rwa [List.getElem?_drop]at ho) p7
  rwa [List.length_drop]at this
 obtain⟨s3,hrun3,hK3⟩:=hrun3;have:=key g2 B2 p1 p2 p3 p4 [] s3.fs (fun a3 w3 E3 hS3=>p8 s3 a3 w3 E3 hK3 hS3) _ s2.fs a2 w2 E2 List.nodup_range' p5 (hfi _ s2 p6) hrun3
 rwa [List.append_nil]at this
end
def noRaw:SCode→Bool
 | .skip| .ret| .exit _| .reg _ _=>true
 | .seq a b=>noRaw a&&noRaw b
 | .cond _ a b=>noRaw a&&noRaw b
 | .block _ a=>noRaw a
 |_=>false
section
variable{P:Program}{H:Nat→Option Nat→Nat}{Fp:Nat→List (Nat→Option Nat)}{K:Nat→List Nat}{B:Base}{g:Glob}{ro:Option Nat}{n:Nat}
theorem letsOut_not{B:Base}{Q:SExit→ES→Prop}:¬LetsOut (fun x a' w'=>∃e s' E',x=SExit.to e∧Q e s'∧Sim B s'.fs a' w' E'):=by
 rintro⟨a,w,e,s',E',h,_⟩;cases e<;>cases h
theorem swpIn_sound(hmix:P.follows .mixedOrders=true)(hm0:B.m≤1000)(hN:B.N≤1000)(hG:g.G B.w0)(hX:∀d b,B.X d b→g.n≤b):∀{c:Code} {sc:SCode},z8 P B.N H Fp K c=some sc→noRaw sc=true→∀{Q:SExit→ES→Prop} {s:ES},swp P g sc Q s→∀{a:Act} {w:World} {E:Env},Sim B s.fs a w E→
  c.wpIn (Fw ro) n P (fun x a' w'=>∃e s' E',x=SExit.to e∧Q e s'∧Sim B s'.fs a' w' E') a w:=by
 intro c
 induction c with
 |skip=>
  intro sc h hnr Q s hs a w E hS;simp only[z8]at h;cases h;exact wpIn_skip ⟨.normal,s,E,rfl,hs,hS⟩
 |exit id=>
  intro sc h hnr Q s hs a w E hS;simp only[z8]at h;cases h;exact wpIn_exit ⟨.exit id,s,E,rfl,hs,hS⟩
 |ret=>
  intro sc h hnr Q s hs a w E hS;simp only[z8]at h;cases h;exact wpIn_ret ⟨.ret,s,E,rfl,hs,hS⟩
 |region id ops draw=>
  intro sc h hnr Q s hs a w E hS;simp only[z8]at h;split at h
  ·cases h;cases hnr
  ·split at h
   ·cases h;cases hnr
   cases h;obtain⟨al,hal,hs⟩:=hs;have key:∀(Hs:List ((Option Nat→Nat)×(Nat→Option Nat))),al∈z88 P B.N ops draw Hs→∃H,∃F:Nat→Option Nat,z34 P B.N H F ops draw=some al.2∧al.1=al.2.flatMap SOper.news:=by
    intro Hs
    induction Hs with
    |nil=>simp[z88]
    |cons H r ih=>
     intro hm;simp only[z88]at hm;split at hm
     ·rename_i l hl;rcases List.mem_cons.1 hm with rfl|hm
      ·exact⟨H.1,H.2,hl,rfl⟩
      ·exact ih hm
     ·exact ih hm
   obtain⟨H',F',htr,hn⟩:=key _ hal;refine region_soundIn hmix hm0 hN hG hX htr (s:=s.fgt al.1) (fun d hd=>z47 s (by rw[hn];exact hd)) hs (z70 hS al.1) letsOut_not (fun s' a' w' E' hK hS'=>⟨.normal,s'.kill _,E',rfl,hK,z165 hS' _⟩)
 |seq a b iha ihb=>
  intro sc h hnr Q s hs ac w E hS;simp only[z8]at h;split at h<;>try(cases h;done)
  rename_i a' b' ha hb;cases h;simp only[noRaw,Bool.and_eq_true]at hnr;refine wpIn_seq (wpIn_mono (iha ha hnr.1 hs hS) ?_);rintro x a2 w2 ⟨e,s2,E2,rfl,hq,hS2⟩;cases e with
  |normal=>exact ihb hb hnr.2 hq hS2
  |exit id=>exact⟨.exit id,s2,E2,rfl,hq,hS2⟩
  |ret=>exact⟨.ret,s2,E2,rfl,hq,hS2⟩
  |pan z=>exact⟨.pan z,s2,E2,rfl,hq,hS2⟩
 |cond cnd a b iha ihb=>
  intro sc h hnr Q s hs ac w E hS;simp only[z8]at h;split at h<;>try(cases h;done)
  rename_i a' b' ha hb;cases h;simp only[noRaw,Bool.and_eq_true]at hnr;obtain⟨t,h1,h2⟩:=hs;have hv:=val_rel (y:=.bool t) (z11 hS h1) rfl;refine wpIn_cond hv ?_;cases t with
  |true=>exact iha ha hnr.1 h2 hS
  |false=>exact ihb hb hnr.2 h2 hS
 |block id a ih=>
  intro sc h hnr Q s hs ac w E hS;simp only[z8]at h;obtain⟨a',ha,rfl⟩:=gO h;refine wpIn_block (wpIn_mono (ih ha hnr hs hS) ?_);rintro x a2 w2 ⟨e,s2,E2,rfl,hq,hS2⟩;cases e with
  |normal=>exact⟨.normal,s2,E2,rfl,hq,hS2⟩
  |ret=>exact⟨.ret,s2,E2,rfl,hq,hS2⟩
  |pan z=>exact⟨.pan z,s2,E2,rfl,hq,hS2⟩
  |exit j=>
   simp only[SExit.to,Exit.inBlock];simp only[blockW]at hq;split
   ·rename_i hj;simp only[hj,if_true]at hq;exact⟨.normal,s2,E2,rfl,hq,hS2⟩
   ·rename_i hj;simp only[hj,if_false]at hq;exact⟨.exit j,s2,E2,rfl,hq,hS2⟩
 |loop a ih=>
  intro sc h hnr;simp only[z8]at h;obtain⟨a',ha,rfl⟩:=gO h;cases hnr
 |rangeFunc x y c d ih1 ih2=>
  intro sc h hnr;simp only[z8]at h;cases h;cases hnr
 |_=>intro sc h;simp[z8]at h
end
def TV.flat(x:TV):Prop:=(∃p,x=.pv p)∨∃d W es,x=.own d W es
theorem RelT.still{w w':World}{E:Env}{r:Rows}{x:TV}{v:Value}(hx:x.flat)(h:RelT w E r x v)(hk:∀b o u,E.K b o→w.cell? ⟨b,o,none⟩=some u→E.K b o∧w'.cell? ⟨b,o,none⟩=some u):RelT w' E r x v:=by
 rcases hx with⟨p,rfl⟩|⟨d,W,es,rfl⟩
 ·cases h with|pv h=>exact .pv (h.mono hk)
 ·cases h with|own _ _ _ _ h h2=>exact .own d W es v (h.mono hk) h2
theorem z172{w w':World}{b o:Nat}(h:w'.heap[b]?=w.heap[b]?):w'.frozen? ⟨b,o,none⟩=w.frozen? ⟨b,o,none⟩:=by
 simp only[World.frozen?,h]
theorem z81{w:World}{b o:Nat}{u:Value}(h:w.cell? ⟨b,o,none⟩=some u):∃ob:Obj,w.heap[b]?=some ob∧ob.isCells=true:=by
 unfold World.cell? at h;simp only[]at h;split at h
 ·rename_i c e z hb;exact⟨_,hb,rfl⟩
 ·cases h
section
variable{B:Base}{b:Nat→Option (List TV)}{r:Rows}{w w':World}{E:Env}{row:Option Nat}
theorem MSim.grown(h:MSim B b r w E)(hfl:∀d cs,b d=some cs→∀x∈cs,x.flat)(hg:w.grownBy w' row)(hr:∀k,row=some k→B.w0.heap.size≤k∧∃o:Obj,w.heap[k]?=some o∧o.isCells=false):MSim B b r w' E:=by
 have hcs:∀(k:Nat) (o:Obj),w.heap[k]?=some o→o.isCells=true→w'.heap[k]?=w.heap[k]?:=fun k o hk ho=>by
  refine hg.block k (gA hk).1 (fun he=> ?_);obtain⟨o',ho',hc⟩:=(hr k he.symm).2;rw[hk]at ho';cases ho';rw[ho]at hc;cases hc
 have hce:∀(k o:Nat) (u:Value),w.cell? ⟨k,o,none⟩=some u→w'.cell? ⟨k,o,none⟩=some u:=fun k o u hu=>by
  obtain⟨ob,h1,h2⟩:=z81 hu;exact(World.cell?_of_block (w:=w) (a:=⟨k,o,none⟩) (hcs k ob h1 h2)).trans hu
 have hk:∀b o u,E.K b o→w.cell? ⟨b,o,none⟩=some u→E.K b o∧w'.cell? ⟨b,o,none⟩=some u:=fun b o u h1 h2=>⟨h1,hce b o u h2⟩
 refine⟨fun d cs hd=> ?_,fun d e W n hd=> ?_,h.bb,h.br,h.rr,fun k o hk=>Nat.lt_of_lt_of_le (h.lt k o hk) hg.size,?_,fun k o u h1 h2=>⟨(h.keep k o u h1 h2).1,hce _ _ _ (h.keep k o u h1 h2).2⟩,h.knew,h.pas⟩
 ·obtain⟨⟨lt,⟨c,e,z,hob⟩,fz,cell,out⟩,hq⟩:=h.box d cs hd;have hs:=hcs _ _ hob rfl;refine⟨⟨Nat.lt_of_lt_of_le lt hg.size,⟨c,e,z,hs.trans hob⟩,fun o=>(z172 hs).trans (fz o),fun j c hj=> ?_,out⟩,hq⟩;obtain⟨v,h1,h2,h3⟩:=cell j c hj;exact⟨v,hce _ _ _ h1,h2,h3.still (hfl d cs hd c (gM hj)) hk⟩
 ·rcases h.row d e W n hd with h1|⟨k,cap,h1,h2,⟨⟨cur,h3,h4⟩,h5,h6,h7⟩⟩
  ·exact .inl h1
  ·exact .inr ⟨k,cap,h1,h2,⟨⟨cur,(hcs _ _ h3 rfl).trans h3,h4⟩,h5,h6,h7⟩⟩
 ·exact⟨hg.os.trans h.low.os,hg.tape.trans h.low.tape,hg.output.trans h.low.output,Nat.le_trans h.low.size hg.size,fun k hk hX=>(hg.block k (Nat.lt_of_lt_of_le hk h.low.size) (fun he=>by have:=(hr k he.symm).1;omega)).trans (h.low.block k hk hX)⟩
end
def EK(K:Nat→Nat→Prop):Env:=⟨K,fun _=>0,fun _=>none,fun _=>0⟩
theorem simT{W:World}{K:Nat→Nat→Prop}(hK:∀b o,K b o→b<W.heap.size){N:Nat}{a:Act}(hsz:a.tmps.size=N)(hd:a.defers=[])(ts:List (Nat×TV))(ht:∀k x,(k,x)∈ts→k<N∧RelT W (EK K) (fun _=>none) x (a.tmps.getD k undef)):
  Sim (start W (EK K) [] N) (ES.fs ⟨ts,[],[],[]⟩) a W (EK K):=by
 have hmem:∀{k:Nat} {x:TV},lk ts k=some x→(k,x)∈ts:=by
  intro k x h;clear ht
  induction ts with
  |nil=>cases h
  |cons y l ih=>
   obtain⟨j,y⟩:=y;simp only[lk]at h;split at h
   ·rename_i hb;rw[Nat.eq_of_beq_eq_true hb]at*;cases h;exact List.mem_cons_self ..
   ·exact List.mem_cons_of_mem _ (ih h)
 have ho:∀d,¬(start W (EK K) [] N).old d:=fun d h=>by have h1:=h.1;have h2:d<1000+0:=h.2;omega
 refine⟨hd,hsz,fun k x hx=>ht k x (hmem hx),⟨fun d cs h=>(by cases h),fun d e W n h=>(by cases h),fun d d' cs cs' h=>(by cases h),fun d d' cs q k cap h=>(by cases h),fun d d' q q' k cap cap' h=>(by cases h),fun k o h=>hK k o h,⟨rfl,rfl,rfl,Nat.le_refl _,fun _ _ _=>rfl⟩,fun k o u h1 h2=>⟨h1,h2⟩,fun k o h=> .inl h,⟨fun d h=>absurd h (ho d),fun d h=>absurd h (ho d),fun d e W n h=>absurd h (ho d)⟩⟩,fun d z p h=>(by cases h),fun d d' q q' h=>(by cases h)⟩
theorem grown_of{W W':World}{K:Nat→Nat→Prop}{N:Nat}{s:FS}{a:Act}{E:Env}(h:Sim (start W (EK K) [] N) s a W' E):W.grownBy W' none:=by
 have hl:=h.mem.low;refine⟨hl.os,hl.tape,hl.output,hl.size,fun k hk _=>hl.block k hk fun d hx=> ?_⟩;rcases hx with⟨cs,h1,_⟩|⟨q,cap,h1,_⟩
 ·simp[objB]at h1
 ·simp[objR]at h1
def g00:Glob:=⟨fun _=>True,0,fun _ _ _ _=>trivial,fun _ _=>Nat.zero_le _⟩
theorem startX{W:World}{K:Nat→Nat→Prop}{N n:Nat}:∀d b,(start W (EK K) [] N).X d b→n≤b:=by
 intro d b hx;rcases hx with⟨cs,h1,_⟩|⟨q,cap,h1,_⟩
 ·simp[objB]at h1
 ·simp[objR]at h1
def rbOf(β:Nat)(W:World)(k:Nat):Prop:=∃p n c,W.cell? ⟨β,0,none⟩=some (.slice (some p) n c)∧p.block=k
structure Kp(O:List Nat)(β n:Nat)(W W':World):Prop where
 size:W.heap.size≤W'.heap.size
 same:∀(k:Nat) (o:Obj),W.heap[k]?=some o→o.isCells=true→k∉O→¬rbOf β W k→W'.heap[k]?=some o
 rb:∀k,rbOf β W' k→rbOf β W k∨W.heap.size≤k
 lt:(∀k,rbOf β W k→k<W.heap.size)→∀k,rbOf β W' k→k<W'.heap.size
 glob:∀k,k<n→W'.heap[k]?=W.heap[k]?
theorem Kp.refl{O:List Nat}{β n:Nat}(W:World):Kp O β n W W:=⟨Nat.le_refl _,fun _ _ h _ _ _=>h,fun _ h=> .inl h,fun h=>h,fun _ _=>rfl⟩
theorem Kp.trans{O:List Nat}{β n:Nat}{A B C:World}(h:Kp O β n A B)(k:Kp O β n B C):Kp O β n A C:=by
 refine⟨Nat.le_trans h.size k.size,fun j o h1 h2 h3 h4=>k.same j o (h.same j o h1 h2 h3 h4) h2 h3 (fun h5=> ?_),fun j h1=> ?_,fun h1=>k.lt (h.lt h1),fun j hj=>(k.glob j hj).trans (h.glob j hj)⟩
 ·rcases h.rb j h5 with h6|h6
  ·exact h4 h6
  ·have:=(gA h1).1;omega
 ·rcases k.rb j h1 with h2|h2
  ·exact h.rb j h2
  ·have:=h.size;exact .inr (by omega)
theorem z111{β:Nat}{W W':World}(h:W'.heap[β]?=W.heap[β]?)(k:Nat):rbOf β W' k ↔ rbOf β W k:=by
 unfold rbOf;rw[World.cell?_of_block (w:=W) (w':=W') (a:=⟨β,0,none⟩) h]
theorem Kp.put{O:List Nat}{β n m:Nat}(hβ:β<m)(hn:n≤m)(W:World)(l:Nat)(o o':Obj)(hl:m≤l)(ho:W.heap[l]?=some o)(hc:o.isCells=false):Kp O β n W (W.putObj l o'):=by
 have hne:∀k,k≠l→(W.putObj l o').heap[k]?=W.heap[k]?:=fun k hk=>World.putObj_heap_other hk;refine⟨by simp,fun k ob h1 h2 _ _=>(hne k (fun he=> ?_)).trans h1,fun k h=> .inl ((z111 (hne β (by omega)) k).1 h),fun h k h1=> ?_,fun k hk=>hne k (by omega)⟩
 ·rw[he,ho]at h1;cases h1;rw[hc]at h2;cases h2
 ·have:=h k ((z111 (hne β (by omega)) k).1 h1);simpa using this
section
variable{B:Base}{s:FS}{a:Act}{w w':World}{E:Env}{I:List Nat}{N:Nat}
theorem inner_sim(hS:Sim B s a w E)(hI:I.Nodup){os:List MO}(hos:seqO (fun d=>(s.mo d).bind (MO.ren (rhoIn I))) I=some os){a2:Act}{ds:List Deferred}(hsz:a2.tmps.size=N)(hd:a2.defers=ds)(ts:List (Nat×TV))
  (hts:∀k x',(k,x')∈ts→k<N∧((∃x,x.ren3 (rhoIn I)=some x'∧RelT w E s.r x (a2.tmps.getD k undef))∨∀W E r,RelT W E r x' (a2.tmps.getD k undef))):
  Sim { start w (envIn E I) os N with ds:=ds } (ES.fs ⟨ts,numB 1000 os,numR 1000 os,[]⟩) a2 w (envIn E I):=by
 have hMp:=z100 hS hI hos;have hb:(ES.fs ⟨ts,numB 1000 os,numR 1000 os,[]⟩).b=objB os:=by funext d;show lk (numB 1000 os) d=_;rw[lk_numB];rfl
 have hr:(ES.fs ⟨ts,numB 1000 os,numR 1000 os,[]⟩).r=objR os:=by funext d;show lk (numR 1000 os) d=_;rw[lk_numR];rfl
 have hmem:∀{k:Nat} {x:TV},lk ts k=some x→(k,x)∈ts:=by
  intro k x h;clear hts hb hr
  induction ts with
  |nil=>cases h
  |cons y l ih=>
   obtain⟨j,y⟩:=y;simp only[lk]at h;split at h
   ·rename_i hb;rw[Nat.eq_of_beq_eq_true hb]at*;cases h;exact List.mem_cons_self ..
   ·exact List.mem_cons_of_mem _ (ih h)
 refine⟨hd,hsz,fun k x hx=> ?_,?_,fun d z p h=>(by cases h),fun d d' q q' h=>(by cases h)⟩
 ·obtain⟨h1,h2⟩:=hts k x (hmem hx);refine⟨h1,?_⟩;rcases h2 with⟨y,h4,h5⟩|h2
  ·rw[hr];exact z129 (renIn hos) (fun _ _ _ h _=>h) h5 h4
  ·exact h2 _ _ _
 ·rw[hb,hr];exact⟨hMp.box,hMp.row,hMp.bb,hMp.br,hMp.rr,hMp.lt,hMp.low,hMp.keep,hMp.knew,⟨hMp.pas.β,hMp.pas.γ,hMp.pas.row⟩⟩
theorem inner_back(hS:Sim B s a w E)(hI:I.Nodup)(hIm:∀i∈I,s.ment i)(hm0:B.m≤1000){k:Nat}(hfr:∀q<4,Fresh s (newId k q)){os os':List MO}(hos:seqO (fun d=>(s.mo d).bind (MO.ren (rhoIn I))) I=some os)
  (hok:moOk os os'=true) {us:List (Nat×MO)} (hus:outs (rhoOut I k) 0 os'=some us) {ds:List Deferred} {s':ES} {a':Act} {E':Env} (hS':Sim { start w (envIn E I) os N with ds:=ds } s'.fs a' w' E') {y0 y y2:TV} {v:Value} (hrel:RelT w' E' s'.fs.r y0 v)
  (hex:exitY y0 false os.length s'=some (y,os')) (hy2:y.ren3 (rhoOut I k)=some y2):
  ∃E2,Sim B (s.upd none (.mem us)) a w' E2∧RelT w' E2 (s.upd none (.mem us)).r y2 v:=by
 obtain⟨E1,m1,r1,l1⟩:=fin_y hok hS' hrel hex;obtain⟨h1,h2⟩:=z153 hS hI hIm hm0 hfr hos hok hus m1 l1 none;exact⟨_,h1,z129 h2 (fun _ _ _ h _=>h) r1 hy2⟩
theorem Sim.grown{row:Option Nat}(h:Sim B s a w E)(hts:∀k x,s.t k=some x→x.flat∨∃d o,x=.ptr d o)(hi:∀d,s.i d=none)(hfl:∀d cs,s.b d=some cs→∀x∈cs,x.flat)(hg:w.grownBy w' row)(hr:∀k,row=some k→B.w0.heap.size≤k∧∃o:Obj,w.heap[k]?=some o∧o.isCells=false):Sim B s a w' E:=by
 refine⟨h.defers,h.size,fun k x hx=>⟨(h.tmp k x hx).1,?_⟩,h.mem.grown hfl hg hr,fun d z p hd=>(by rw[hi]at hd;cases hd),h.ii⟩;rcases hts k x hx with hf|⟨d,o,rfl⟩
 ·refine(h.tmp k x hx).2.still hf (fun b o u h1 h2=>⟨h1,?_⟩);obtain⟨ob,e1,e2⟩:=z81 h2;refine(World.cell?_of_block (w:=w) (a:=⟨b,o,none⟩) (hg.block b (gA e1).1 (fun he=> ?_))).trans h2;obtain⟨o',e3,e4⟩:=(hr b he.symm).2;rw[e1]at e3;cases e3;rw[e2]at e4;cases e4
 ·have:=(h.tmp k _ hx).2;generalize a.tmps.getD k undef=v at this;cases this;exact .ptr d o
theorem Sim.freeze0(h:Sim B s a w E){d:Nat}{ps:List PV}(hd:s.b d=some (ps.map TV.pv)):
  ∃K',Sim B { s with b:=fun e=>if e=d then none else s.b e } a w { E with K:=K' }∧RelT w { E with K:=K' } s.r (.pv (.el ps)) (.pointer (some ⟨E.β d,0,none⟩))∧∀b o,E.K b o→K' b o:=by
 obtain⟨hbx,hq⟩:=h.mem.box d _ hd;have hk:∀b o u,E.K b o→w.cell? ⟨b,o,none⟩=some u→(E.K b o∨(b=E.β d∧o<ps.length))∧w.cell? ⟨b,o,none⟩=some u:=fun b o u h1 h2=>⟨.inl h1,h2⟩
 have hmono:∀{x:TV} {v:Value},RelT w E s.r x v→RelT w { E with K:=fun b o=>E.K b o∨(b=E.β d∧o<ps.length) } s.r x v:=fun hx=>hx.mono hk (fun _ _=>⟨rfl,rfl⟩) (fun _ _ _ _ _ hd=> .inl ⟨hd,rfl⟩) (Maps.refl w);have hb':∀{e:Nat} {cs:List TV},(if e=d then none else s.b e)=some cs→e≠d∧s.b e=some cs:=fun {e cs} he=>by
  by_cases hed:e=d
  ·simp[hed]at he
  ·rw[if_neg hed]at he;exact⟨hed,he⟩
 refine⟨fun b o=>E.K b o∨(b=E.β d∧o<ps.length),⟨h.defers,h.size,fun k x hx=>⟨(h.tmp k x hx).1,hmono (h.tmp k x hx).2⟩,⟨fun e cs he=> ?_,fun e ty W n he=> ?_,fun e e' c c' h1 h2 h3=>h.mem.bb e e' c c' (hb' h1).2 (hb' h2).2 h3,fun e e' c q k cap h1 h2 h3=>h.mem.br e e' c q k cap (hb' h1).2 h2 h3,h.mem.rr,fun k o ho=> ?_,h.mem.low,fun k o u h1 h2=>⟨.inl (h.mem.keep k o u h1 h2).1,(h.mem.keep k o u h1 h2).2⟩,fun k o ho=> ?_,⟨h.mem.pas.β,h.mem.pas.γ,h.mem.pas.row⟩⟩,h.itr,h.ii⟩,?_,fun _ _ h=> .inl h⟩
 ·obtain⟨hed,he⟩:=hb' he;obtain⟨h1,h2⟩:=h.mem.box e cs he;refine⟨⟨h1.lt,h1.obj,h1.fz,fun j c hj=> ?_,fun o ho=> ?_⟩,h2⟩
  ·obtain⟨v,c1,c2,c3⟩:=h1.cell j c hj;exact⟨v,c1,c2,hmono c3⟩
  ·rcases ho with ho|⟨ho,_⟩
   ·exact h1.out o ho
   ·exact hed (h.mem.bb e d _ _ he hd ho)
 ·rcases h.mem.row e ty W n he with h1|⟨k,cap,h1,h2,h3⟩
  ·exact .inl h1
  ·refine .inr ⟨k,cap,h1,h2,⟨h3.cells,h3.le,h3.max,fun o ho=> ?_⟩⟩;rcases ho with ho|⟨ho,_⟩
   ·exact h3.out o ho
   ·exact absurd ho.symm (h.mem.br d e _ _ k cap hd he h1)
 ·rcases ho with ho|⟨rfl,_⟩
  ·exact h.mem.lt k o ho
  ·exact hbx.lt
 ·rcases ho with ho|⟨rfl,_⟩
  ·exact h.mem.knew k o ho
  ·rcases hq with hq|hq
   ·exact .inr (.inl hq)
   ·exact .inr (.inr ⟨d,hq⟩)
 ·have hcell:∀(j:Nat) c,ps[j]?=some c→∃v,w.cell? ⟨E.β d,j,none⟩=some v∧one v∧RelV w E.K c v:=fun j c hj=>by
   obtain⟨v,c1,c2,c3⟩:=hbx.cell j (.pv c) (by rw[List.getElem?_map,hj];rfl);cases c3 with|pv c3=>exact⟨v,c1,c2,c3⟩
  refine .pv (.el ps (E.β d) 0 (fun j=>(w.cell? ⟨E.β d,j,none⟩).getD undef) (fun j c hj=> ?_) (fun j c hj=> ?_))
  ·obtain⟨v,c1,c2,c3⟩:=hcell j c hj;refine⟨.inr ⟨rfl,?_⟩,?_,?_⟩
   ·rw[Nat.zero_add];exact(gJ hj).1
   ·rw[Nat.zero_add,c1];rfl
   ·rw[c1];exact c2
  ·obtain⟨v,c1,c2,c3⟩:=hcell j c hj;rw[c1];exact c3.mono hk
theorem Sim.freeze(h:Sim B s a w E)(hold:∀d,s.b d≠none→True){d:Nat}{ps:List PV}(hd:s.b d=some (ps.map TV.pv))(hnm:∀k x,s.t k=some x→¬Ment d x)(hnb:∀e cs x,s.b e=some cs→e≠d→x∈cs→¬Ment d x):
  ∃K',Sim B { s with b:=fun e=>if e=d then none else s.b e } a w { E with K:=K' }∧RelT w { E with K:=K' } s.r (.pv (.el ps)) (.pointer (some ⟨E.β d,0,none⟩))∧∀b o,E.K b o→K' b o:=h.freeze0 hd
theorem inner_X{n:Nat}(hS:Sim B s a w E){os:List MO}(hos:seqO (fun d=>(s.mo d).bind (MO.ren (rhoIn I))) I=some os)(hn:n≤B.w0.heap.size)(hX:∀d b,B.X d b→n≤b):∀d b,objX (envIn E I) os d b→n≤b:=by
 intro d b hx;obtain⟨hlen,hB,hR⟩:=handed hos;rcases hx with⟨cs,e1,e2⟩|⟨⟨e,W,m⟩,cap,e1,e2⟩
 ·obtain⟨j,rfl,hj⟩:=z38 e1;obtain⟨i,c,b1,b2,_⟩:=hB j cs hj;have e3:E.β i=b:=by rw[←e2];simp only[envIn];rw[z30 b1]
  rcases(hS.mem.box i c b2).2 with e4|e4
  ·rw[e3]at e4;exact Nat.le_trans hn e4
  ·rw[e3]at e4;exact hX _ _ e4
 ·obtain⟨j,rfl,hj⟩:=z24 e1;obtain⟨i,b1,b2,b3⟩:=hR j e W m hj;have e3:E.γ i=some (b,cap):=by rw[←e2];simp only[envIn];rw[z30 b1]
  rcases hS.mem.row i e W m b3 with⟨e4,_⟩|⟨k,cap',e4,e5,_⟩
  ·rw[e3]at e4;cases e4
  ·rw[e3]at e4;cases e4;rcases e5 with e5|e5
   ·exact Nat.le_trans hn e5
   ·exact hX _ _ e5
theorem Sim.act(h:Sim B s a w E){a2:Act}(hsz:a2.tmps.size=B.N)(hd:a2.defers=B.ds)(ht:∀k x,s.t k=some x→RelT w E s.r x (a2.tmps.getD k undef)):Sim B s a2 w E:=
 ⟨hd,hsz,fun k x hx=>⟨(h.tmp k x hx).1,ht k x hx⟩,h.mem,h.itr,h.ii⟩
theorem inner_cells(hS:Sim B s a w E)(hI:I.Nodup){os:List MO}(hos:seqO (fun d=>(s.mo d).bind (MO.ren (rhoIn I))) I=some os){d k:Nat}(hx:objX (envIn E I) os d k):∃c e z,w.heap[k]?=some (.cells c e z):=by
 have hMp:=z100 hS hI hos;rcases hx with⟨cs,e1,e2⟩|⟨⟨e,W,m⟩,cap,e1,e2⟩
 ·have:=(hMp.box d cs e1).1.obj
  rwa [e2]at this
 ·rcases hMp.row d e W m e1 with⟨e4,_⟩|⟨k',cap',e4,e5,h6⟩
  ·rw[e2]at e4;cases e4
  ·rw[e2]at e4;cases e4;obtain⟨cur,h7,_⟩:=h6.cells;exact⟨_,_,_,h7⟩
theorem inner_keeps(hS:Sim B s a w E)(hI:I.Nodup){os:List MO}(hos:seqO (fun d=>(s.mo d).bind (MO.ren (rhoIn I))) I=some os){ds:List Deferred}{s':FS}{a':Act}{E':Env}(hS':Sim { start w (envIn E I) os N with ds:=ds } s' a' w' E'):∀(k:Nat) (o:Obj),w.heap[k]?=some o→o.isCells=false→w'.heap[k]?=some o:=by
 intro k o hk ho;refine(hS'.mem.low.block k (gA hk).1 fun d hx=> ?_).trans hk;obtain⟨c,e,z,hc⟩:=inner_cells hS hI hos hx;rw[hk]at hc;cases hc;cases ho
end
end Go.Sh
end

section
namespace Go.Proofs.YtcpaleaajdilgaaGreatDoor
open Go Go.RowKit Go.Mor Go.Sh Go.Sh.Cd1 Go.Sh.Cd4 Go.Sh.Cd5
set_option maxRecDepth 100000
set_option maxHeartbeats 4000000
inductive ESmall:V→Prop where
 |mk {k n:Int} {s:List UInt8} {l:List V} (h:l.length<4611686018427387904) (ht:s.length<4611686018427387904) (hs:∀y∈l,ESmall y):ESmall (.mk k n s l)
theorem ESmall.len{x:V}(h:ESmall x):x.l.length<4611686018427387904:=by cases h;assumption
theorem ESmall.txt{x:V}(h:ESmall x):x.s.length<4611686018427387904:=by cases h;assumption
theorem ESmall.sub{x y:V}(h:ESmall x)(hy:y∈x.l):ESmall y:=by cases h with|mk _ _ hs=>exact hs y hy
theorem beqL(s t:List UInt8):(s==t)=decide (s=t):=by rw[Bool.eq_iff_iff];simp
theorem node_ok(m:Nat)(e:V)(he:ESmall e)(n:Int):SCalls Tryz.prog (gl0 m) 209 [.ptr 1000 0,tv e] [.box [bindM,I n]] (B (nodeE e)) [.box [bindM,I n]]:=by
 refine z17 hmix tf_22 rfl rfl rfl ?_;have HT:=eRightText_ok m e.s he.txt;have HN:=eRightName_ok (gl0 m) e.s he.txt;have HK:=takes_ok (gl0 m) e.s;have e0:(⟨#[]⟩:ByteArray)=str []:=rfl;have hlen0:decide ((e.l.length:Int)=0)=(e.l.length==0):=by rw[Bool.eq_iff_iff];simp
 have hlen1:decide ((e.l.length:Int)=1)=(e.l.length==1):=by rw[Bool.eq_iff_iff];simp;omega
 have hlen2:decide ((e.l.length:Int)=2)=(e.l.length==2):=by rw[Bool.eq_iff_iff];simp;omega
 have e45:(⟨#[45]⟩:ByteArray)=str [45]:=rfl;unfold B at*;unfold nodeE;by_cases k1:e.k=1
 ·rw[if_neg (by simp[k1]),if_pos k1];simp only[vW,seval,bmV,k1,e0,beqL]
  repeat' (first|(apply And.intro)|(intro _))
  all_goals(first|(simp_all;done)|(simp only[Option.some.injEq,Prod.mk.injEq,TV.pv.injEq,PV.v.injEq,Value.bool.injEq];rw[Bool.eq_iff_iff];simp_all<;>omega))
 by_cases n0:e.n=0
 ·rw[if_neg (by simp[n0]),if_neg k1];by_cases k2:e.k=2
  ·rw[if_pos k2];simp only[vW,seval,bmV,k2,n0];(with_reducible apply v_call);exact kv;rfl;exact HT;exact km;exact kv;cases z15 e.s
   ·simp only[vW,seval,bmV]
   ·simp only[vW,seval,bmV,hlen0,Bool.true_and]
  rw[if_neg k2];by_cases k3:e.k=3
  ·rw[if_pos k3];simp only[vW,seval,bmV,k3,n0];(with_reducible apply v_call);exact kv;rfl;exact HN;exact km;exact kv;cases z13 e.s
   ·simp only[vW,seval,bmV]
   ·simp only[vW,seval,bmV,hlen0,Bool.true_and]
  rw[if_neg k3];by_cases k4:e.k=4
  ·rw[if_pos k4];simp only[vW,seval,bmV,k4,n0];refine⟨fun h=> ?_,fun h=> ?_⟩
   ·rw[decide_eq_true h,hlen2,Bool.true_and]
   ·rw[decide_eq_false h,Bool.false_and]
  rw[if_neg k4];by_cases k5:e.k=5
  ·rw[if_pos k5];simp only[vW,seval,bmV,k5,n0,e45];cases e.s==[45]
   ·simp only[vW,seval,bmV]
   ·simp only[vW,seval,bmV,hlen1,Bool.true_and]
  rw[if_neg k5];by_cases k6:e.k=6
  ·rw[if_pos k6];simp only[vW,seval,bmV,k6,n0];(with_reducible apply v_call);exact kv;rfl;exact HK;exact km;exact kv;simp only[vW,seval,bmV];refine⟨fun h=> ?_,fun h=> ?_⟩
   ·(with_reducible apply v_call);exact kv;rfl;exact HK;exact km;exact kv;simp only[vW,seval,bmV,h]
   ·rw[decide_eq_false h,Bool.false_and]
  ·rw[if_neg k6];simp only[vW,seval,bmV,k1,k2,k3,k4,k5,k6,n0]
 ·rw[if_pos ⟨k1,n0⟩];simp only[vW,seval,bmV,k1,n0]
end Go.Proofs.YtcpaleaajdilgaaGreatDoor
end

section
namespace Go.Mor
open Go
set_option maxHeartbeats 2000000
theorem readP_txt{l:List UInt8}{p:Nat}{q:Pc}{z:Nat}(h:readP l p=some (q,z)):q.s.length≤60:=by
 have hq:∀(r acc:List UInt8) (k:Nat) (t:List UInt8) (z:Nat),quoG r acc k=some (t,z)→t.length≤60:=by
  intro r
  induction r using(measure List.length).wf.induction with
  |_ r ih=>
   intro acc k t z h;cases r with
   |nil=>simp[quoG]at h
   |cons b r=>
    unfold quoG at h;split at h
    ·split at h
     ·rename_i hr;cases h;unfold z15 at hr;simp at hr;exact hr.1
     ·cases h
    ·split at h
     ·split at h
      ·cases h
      ·rename_i c r';split at h
       ·exact ih r' (show r'.length<_ by simp;omega) _ _ _ _ h
       ·cases h
     ·exact ih r (show r.length<_ by simp) _ _ _ _ h
 cases l with
 |nil=>simp[readP]at h
 |cons b r=>
  unfold readP at h;simp only[]at h;split at h
  ·split at h
   ·cases h
   ·cases h;simp
  ·split at h
   ·split at h
    ·rename_i hr;cases h;unfold z13 at hr;simp only[Bool.and_eq_true,decide_eq_true_eq]at hr;show(List.take _ _).length≤60;omega
    ·cases h
   ·split at h
    ·split at h
     ·rename_i t k hk;cases h;exact hq _ _ _ _ _ hk
     ·cases h
    ·split at h
     ·cases h
     ·cases h;have:(signP (b::r)).length≤2:=by
       unfold signP
       repeat' split
       all_goals simp
      show(signP (b::r)).length≤60;omega
theorem z140:∀(f:Nat) (l:List UInt8) (a:Nat) (acc L:List Pc),(∀q∈acc,q.s.length≤60)→lexG f l a acc=some (.ok L)→(∀q∈L,q.s.length≤60)∧L.length≤acc.length+f
 |0,l,a,acc,L,_,h=>by simp[lexG]at h
 |f+1,l,a,acc,L,ha,h=>by
  unfold lexG at h;split at h
  ·cases h;exact⟨ha,by omega⟩
  ·split at h
   ·have:=z140 f _ _ _ _ ha h;exact⟨this.1,by omega⟩
   ·split at h
    ·cases h
    ·rename_i q z hq;have:=z140 f _ _ _ _ (fun x hx=>by
      rcases List.mem_append.1 hx with hx|hx
      ·exact ha x hx
      ·rw[List.mem_singleton]at hx;subst hx;exact readP_txt hq) h
     exact⟨this.1,by have:=this.2;simp only[List.length_append,List.length_singleton]at this;omega⟩
theorem pk_txt{L:List Pc}(h:∀q∈L,q.s.length≤60)(sz p:Nat):(pkP L sz p).s.length≤60:=by
 unfold pkP;cases hp:L[p]? with
 |none=>simp
 |some q=>exact h q (gM hp)
theorem takes_3(s:List UInt8):0≤takesV s∧takesV s≤3:=by
 unfold takesV
 repeat' split
 all_goals omega
end Go.Mor
end

section
namespace Go.Proofs.YtcpaleaajdilgaaGreatDoor
open Go Go.RowKit Go.Mor Go.Sh Go.Sh.Cd1 Go.Sh.Cd4 Go.Sh.Cd5
set_option maxRecDepth 100000
set_option maxHeartbeats 4000000
def rtL(r:V→Nat→Bool×Nat):List V→Nat→Bool×Nat
 |[],n=>(true,n)
 |x::l,n=>match r x n with
  |(true,n')=>rtL r l n'
  |(false,n')=>(false,n')
def rt:Nat→V→Nat→Bool×Nat
 |0,_,n=>(false,n+1)
 |d+1,e,n=>if n+1≤40∧nodeE e=true then rtL (rt d) e.l (n+1)else(false,n+1)
theorem rtL_eq{d:Nat}(ih:∀(e:V) (n:Nat),n≤40→((rt d e n).1=(okE d e&&decide (n+szE d e≤40))∧((rt d e n).1=true→(rt d e n).2=n+szE d e))):
  ∀(l:List V) (n:Nat),n≤40→((rtL (rt d) l n).1=(l.all (okE d)&&decide (n+(l.map (szE d)).sum≤40))∧((rtL (rt d) l n).1=true→(rtL (rt d) l n).2=n+(l.map (szE d)).sum)):=by
 intro l
 induction l with
 |nil=>intro n hn;simp[rtL,hn]
 |cons x l il=>
  intro n hn;have hx:=ih x n hn;unfold rtL;rcases hr:rt d x n with⟨b,n'⟩
  rw[hr]at hx;simp only at hx;cases b
  ·simp only[List.all_cons,List.map_cons,List.sum_cons];refine⟨?_,fun h=>by simp at h⟩;have h1:=hx.1;cases ho:okE d x
   ·simp
   ·rw[ho,Bool.true_and]at h1;have h2:¬n+szE d x≤40:=by intro h;rw[decide_eq_true h]at h1;exact absurd h1 (by simp)
    rw[decide_eq_false (by omega)];simp
  ·have h1:=hx.1;have h2:=hx.2 rfl;cases ho:okE d x
   ·rw[ho]at h1;simp at h1
   rw[ho,Bool.true_and]at h1;have h3:n+szE d x≤40:=of_decide_eq_true h1.symm;subst h2;have:=il (n+szE d x) h3;simp only[List.all_cons,List.map_cons,List.sum_cons,ho,Bool.true_and];rw[←Nat.add_assoc];exact this
theorem rt_eq:∀(d:Nat) (e:V) (n:Nat),n≤40→((rt d e n).1=(okE d e&&decide (n+szE d e≤40))∧((rt d e n).1=true→(rt d e n).2=n+szE d e)):=by
 intro d
 induction d with
 |zero=>intro e n hn;simp[rt,okE]
 |succ d ih=>
  intro e n hn;unfold rt okE szE;by_cases h1:n+1≤40
  ·cases h2:nodeE e
   ·simp
   ·rw[if_pos ⟨h1,rfl⟩];have:=rtL_eq ih e.l (n+1) h1;rw[Nat.add_assoc]at this;simpa using this
  ·rw[if_neg (by omega),decide_eq_false (by omega)];simp
theorem rt_right(e:V):(rt 8 e 0).1=rightE e:=by
 have:=(rt_eq 8 e 0 (by omega)).1;rw[Nat.zero_add]at this;exact this
theorem right_ok(m:Nat):∀(d:Nat),d≤8→∀(e:V),ESmall e→∀(n:Nat),n≤40→
  SCalls Tryz.prog (gl0 m) 134 [.ptr 1000 0,tv e,I (9-(d:Int))] [.box [bindM,I (n:Int)]] (B (rt d e n).1) [.box [bindM,I ((rt d e n).2:Int)]]:=by
 intro d
 induction d with
 |zero=>
  intro _ e he n hn;refine z17 hmix tf_23 rfl rfl rfl ?_;have w1:IntKind.i64.wrap ((n:Int)+1)=((n+1:Nat):Int):=by rw[wrap64 (by omega) (by omega)];omega
  unfold rt B;simp only[vW,seval,bmV,w1]
 |succ d ih=>
  intro hd e he n hn;refine z17 hmix tf_23 rfl rfl rfl ?_;have w1:IntKind.i64.wrap ((n:Int)+1)=((n+1:Nat):Int):=by rw[wrap64 (by omega) (by omega)];omega
  have w2:IntKind.i64.wrap (9-((d+1:Nat):Int)+1)=9-(d:Int):=by rw[wrap64 (by omega) (by omega)];omega
  have d1:¬(8:Int)<9-((d+1:Nat):Int):=by omega
  have HN:=node_ok m e he ((n+1:Nat):Int);have HD:=fun e he n hn=>ih (by omega) e he n hn;have hl:=he.len;unfold B at*;generalize hR:rt (d+1) e n=R;unfold rt at hR;by_cases d2:(40:Int)<((n+1:Nat):Int)
  ·rw[if_neg (by omega)]at hR;subst hR;simp only[vW,seval,bmV,w1,d1,d2]
  simp only[vW,seval,bmV,w1,d1,d2];(with_reducible apply v_call);simp only[vW,seval,bmV];rfl;rfl;exact HN;exact km;simp only[vW,seval,bmV];rfl;cases hN:nodeE e
  ·rw[if_neg (by simp[hN])]at hR;subst hR;simp only[vW,seval,bmV]
  rw[if_pos ⟨by omega,hN⟩]at hR;simp only[vW,seval,bmV];refine v_loop (σ:={x:Nat×Nat // x.1≤e.l.length∧x.2≤40∧rtL (rt d) (e.l.drop x.1) x.2=R})
   (fun x=>⟨[(0,.ptr 1000 0),(2,I (9-((d+1:Nat):Int))),(32,.pv (.sl 4 (V.rows e.l))),(33,I (e.l.length:Int)),(34,I (x.1.1:Int))],[(1000,[bindM,I (x.1.2:Int)])],[],[]⟩)
   (fun x=>e.l.length-x.1.1) ⟨(0,n+1),by omega,by omega,by simpa using hR⟩ ?_ ?_
  ·apply lw_of<;>simp[leL,lk,sv,Nat.beq,I,S,ES.kill,has,drp,nilT]
  rintro⟨⟨i,n⟩,hi,hn,hq⟩;simp only at hi hn hq;by_cases hlt:i<e.l.length
  ·have d1:(i:Int)<(e.l.length:Int):=by omega
   obtain⟨y,ey⟩:∃y,e.l[i]?=some y:=⟨_,gE hlt⟩
   have HY:=HD y (he.sub (gM ey)) n hn;have w1:IntKind.i64.wrap ((i:Int)+1)=((i+1:Nat):Int):=by rw[wrap64 (by omega) (by omega)];omega
   have hdr:e.l.drop i=y::e.l.drop (i+1):=by rw[List.drop_eq_getElem_cons hlt];congr 1;exact(gJ ey).2
   rw[hdr]at hq;unfold rtL at hq;have hle:=(rt_eq d y n hn)
   rcases hr:rt d y n with⟨b,n'⟩
   rw[hr]at hq HY hle;simp only at hq HY hle;simp only[vW,seval,bmV,d1,ey,w2];(with_reducible apply v_call);simp only[vW,seval,bmV];rfl;rfl;exact HY;exact km;simp only[vW,seval,bmV];rfl;cases b
   ·simp only at hq;subst hq;simp only[vW,seval,bmV]
   ·simp only at hq;have h3:n'≤40:=by
     have h4:=hle.1;have h5:=hle.2 rfl;rw[eq_comm,Bool.and_eq_true]at h4;have:=of_decide_eq_true h4.2;omega
    simp only[vW,seval,bmV,w1];refine z10 ⟨(i+1,n'),by simp only;omega,h3,hq⟩ (by show e.l.length-(i+1)<e.l.length-i;omega) ?_;apply lw_of<;>simp[leL,lk,sv,Nat.beq,I,S,ES.kill,has,drp,nilT]
  ·have d1:¬(i:Int)<(e.l.length:Int):=by omega
   obtain rfl:i=e.l.length:=by omega
   rw[List.drop_length]at hq;unfold rtL at hq;subst hq;simp only[vW,seval,bmV,d1]
theorem exprRight_ok(m:Nat)(e:V)(he:ESmall e):SCalls Tryz.prog (gl0 m) 77 [tv e] [] (B (rightE e)) []:=by
 have HB:=bindings_ok (gl0 m);have HR:=right_ok m 8 (by omega) e he 0 (by omega);rw[rt_right]at HR;unfold B at*;refine z7 hmix tf_88 rfl ?_;simp only[vW,seval,bmV];(with_reducible apply v_call);simp only[vW,seval,bmV];rfl;rfl;exact HB;exact km;simp only[vW,seval,bmV];rfl;simp only[vW,seval,bmV];(with_reducible apply v_call);simp only[vW,seval,bmV];rfl;rfl;exact HR;exact km;simp only[vW,seval,bmV];rfl;simp only[vW,seval,bmV]
end Go.Proofs.YtcpaleaajdilgaaGreatDoor
end
