/- Merged texts: WrapX Zm0 Zn0 Cd7 Zm1 Zv3 Zm2 S28 S29 Zm3 Zm4 S30 Zm6 Zm7 Zm8 Zm9 Zm10 Zm5 Zm11 Zn1 Zy4. No statement of the program is proved here. -/
import Derived.Test.YtcpaleaajdilgaaGreatDoorM1
import Derived.Test.YtcpaleaajdilgaaGreatDoorM2
import Derived.Test.YtcpaleaajdilgaaGreatDoorM3
import Derived.Test.YtcpaleaajdilgaaGreatDoorM4
import Derived.Test.YtcpaleaajdilgaaGreatDoorM5
import Derived.Test.YtcpaleaajdilgaaGreatDoorM6
import Derived.Test.YtcpaleaajdilgaaGreatDoorM7
import Derived.Test.YtcpaleaajdilgaaGreatDoorM8
import Derived.Test.YtcpaleaajdilgaaGreatDoorM9
import Derived.Test.YtcpaleaajdilgaaGreatDoorM10
import Derived.Test.YtcpaleaajdilgaaGreatDoorM12
import Derived.Laws.OwnMore
import Derived.Shelf.RegionOpenPlain
import Derived.Deep.LoopGhost
import Derived.Lib.Walk
import Derived.Lib.SliceRun
import Derived.Lib.AppendZerosOnto
set_option linter.unusedSimpArgs false
set_option linter.unusedVariables false
set_option maxRecDepth 100000
set_option maxHeartbeats 8000000
section
namespace Go.Proofs.YtcpaleaajdilgaaGreatDoor
open Go.ChangeShapes Go.WideShapes Go.ChangeAt Go.RowKit Go.Lib Go.Mor Go.Deep
open Go.ChangeMaps (open_string shut_string)
abbrev laidLUTEW:List (String×DataW Unit):=[("math/bits.deBruijn32tab",Rows.laid_math_bits_deBruijn32tab),("math/bits.deBruijn64tab",Rows.laid_math_bits_deBruijn64tab),("internal/strconv.uint64pow10",Rows.laid_internal_strconv_uint64pow10),("unicode/utf8.acceptRanges",Rows.laid_unicode_utf8_acceptRanges),("moraine/wire.errEnd",Rows.laid_moraine_wire_errEnd),("moraine/wire.errForm",Rows.laid_moraine_wire_errForm),("strconv.ErrRange",Rows.laid_strconv_ErrRange),("strconv.ErrSyntax",Rows.laid_strconv_ErrSyntax),("unicode/utf8.first",Rows.laid_unicode_utf8_first)]
theorem pow_eq:(Rows.laid_internal_strconv_uint64pow10:DataW Unit)=Lib.tabData .u64 Lib.pow10Tab:=by kernel_rfl
theorem mx_of{W:World}(h:W.ShapedOpen Tryz.prog):∃k,W.cell? ⟨4,0,none⟩=some (.int .i64 k):=
 cell_of_shapedOpen_int (zero:= #[.int .i64 0]) (t:=3) h (of_decide_eq_true (by kernel_rfl)) (by kernel_rfl) rfl (by kernel_rfl) (by kernel_rfl) Tryz.underlying3
theorem star: "*" ++ "errors.errorString" = "*errors.errorString" :=by decide
theorem rowErr(u:TypeId)(h:Tryz.prog.typeName? 3 u=some "*errors.errorString"):u=352:=
 typeName_ptr_named (nm:= "errors.errorString") (by rw[star];kernel_rfl) (by kernel_rfl) (by decide) u (by rw[star];exact h)
theorem z189{W:World}(hL:laidMetH Tryz.prog laidLUTEW W)(hsh:W.ShapedOpen Tryz.prog):∃a0 a1,(glX a0 a1 W.heap.size).G W:=by
 have hL':laidMet Tryz.prog laidLUTEW W:=hL;have hU:=globU_of hL' (.tail _ (.tail _ (.tail _ (.tail _ (.tail _ (.tail _ (.tail _ (.tail _ (.head _))))))))) (.tail _ (.tail _ (.tail _ (.head _))));have hv:=hv_of hsh;have hT:GlobT W:=⟨Lib.tabIs_of_head pow10_named (t:=326) (by kernel_rfl) Tryz.underlying326 Tryz.underlying247 (by kernel_rfl) (by kernel_rfl) (by have h:=hL'.tail.tail;rw[pow_eq]at h;exact h),mx_of hsh⟩
 obtain⟨p0,p1,_,_,_,_,_,_,pv0,pv1,_⟩:=laid_sentinels2 (g0:=7) (g1:=6) (ti:=242) (tp:=352) (te:=354) (ts:=9) hL'.tail.tail.tail.tail.tail.tail (by kernel_rfl) (by kernel_rfl) (by kernel_rfl) (by kernel_rfl)
  Tryz.underlying242 rowErr Tryz.underlying352 Tryz.underlying354 rfl rfl Tryz.underlying9 (by kernel_rfl) (by kernel_rfl)
 have hE:GlobE W:=by
  refine⟨⟨352,.pointer (some p1),?_⟩,⟨352,.pointer (some p0),?_⟩⟩
  ·have:=World.var?_cell (g:=6) (by kernel_rfl) pv1 0;simpa using this
  ·have:=World.var?_cell (g:=7) (by kernel_rfl) pv0 0;simpa using this
 obtain⟨a0,a1,s0,s1,c0,c1,t0,t1,hv0,hv1,_,_,_,_,_,_,hne,hb0,hb1⟩:=laid_sentinels2 (g0:=2) (g1:=3) (ti:=242) (tp:=352) (te:=354) (ts:=9) hL'.tail.tail.tail.tail (by kernel_rfl) (by kernel_rfl) (by kernel_rfl) (by kernel_rfl)
  Tryz.underlying242 rowErr Tryz.underlying352 Tryz.underlying354 rfl rfl Tryz.underlying9 (by kernel_rfl) (by kernel_rfl)
 have hG:Glob W a0 a1:=by
  refine⟨hU,?_,?_,hne,⟨c0,t0,hb0⟩,⟨c1,t1,hb1⟩⟩
  ·have:=World.var?_cell (g:=2) (by kernel_rfl) hv0 0;simpa using this
  ·have:=World.var?_cell (g:=3) (by kernel_rfl) hv1 0;simpa using this
 have hN:GlobN a0 a1 W.heap.size W:=⟨hG,Nat.le_refl _,z89 hb0,z89 hb1,hv⟩
 exact⟨a0,a1,(⟨⟨hN,hT⟩,hE⟩:GlobNX a0 a1 W.heap.size W)⟩
theorem laid_metUTEW(os:Os)(args:Array Value):laidMet Tryz.prog laidLUTEW ((z123 os).forCall (fun _ _=>0) ⟨#[],args,[]⟩).memory:=
 (LaidIn.of_run [8,9,5,1,2,N0,3,N0+1,7,N0+2,6,N0+3,0] 8 (by kernel_rfl) (by kernel_rfl) (by kernel_rfl) (by kernel_rfl)).met
end Go.Proofs.YtcpaleaajdilgaaGreatDoor
end

section
namespace Go.Proofs.YtcpaleaajdilgaaGreatDoor
open Go Go.RowKit Go.Mor Go.Sh
theorem bbNeq(p q:Bool):scal Tryz.prog (do eqGuard .neq 4 (.const (.bool p)) (.const (.bool q)) (.bool p) (.bool q);binOp .neq 4 (.bool p) (.bool q))=some (.pv (.v (.bool (p !=q))),.no):=by
 cases p<;>cases q<;>kernel_rfl
theorem bNV:((false !=false)=false)∧((false !=true)=true)∧((true !=false)=true)∧((true !=true)=false):=⟨rfl,rfl,rfl,rfl⟩
theorem eqTyR(a b c d:Int):z23 Tryz.prog (Op.equal 46 (.agg #[.int .i64 a,.int .i64 b]) (.agg #[.int .i64 c,.int .i64 d]))=some (eqTy ⟨a,b⟩ ⟨c,d⟩):=by
 unfold Op.equal;obtain⟨n,hn⟩:∃n,Op.maxDepth=n+1+1:=⟨_,rfl⟩
 rw[hn,z98 _ _ _ _ (by kernel_rfl) (by kernel_rfl)];obtain⟨f,g,hl,nf,ng,pf,pg,ef,eg⟩:=tyFields;rw[hl];simp only[Op.eqFields,nf,ng,ne_eq,not_false_eq_true,if_true,z31,pf,pg,ef,eg,Option.bind_some];unfold eqTy;cases h:(a==c)
 ·simp[h,z92]
 ·cases h2:(b==d)<;>simp[h,h2,z92,z31,pg,eg,ng]
theorem neqTy(a b c d:Int):scal Tryz.prog (do eqGuard .neq 46 (.const (.agg #[.int .i64 a,.int .i64 b])) (.const (.agg #[.int .i64 c,.int .i64 d])) (.agg #[.int .i64 a,.int .i64 b]) (.agg #[.int .i64 c,.int .i64 d]);binOp .neq 46 (.agg #[.int .i64 a,.int .i64 b]) (.agg #[.int .i64 c,.int .i64 d]))=
  some (.pv (.v (.bool (!eqTy ⟨a,b⟩ ⟨c,d⟩))),.no):=by
 unfold scal;rw[z31];have hg:z23 Tryz.prog (eqGuard .neq 46 (.const (.agg #[.int .i64 a,.int .i64 b])) (.const (.agg #[.int .i64 c,.int .i64 d])) (.agg #[.int .i64 a,.int .i64 b]) (.agg #[.int .i64 c,.int .i64 d]))=some ():=by kernel_rfl
 rw[hg,Option.bind_some];have hb:binOp .neq 46 (.agg #[.int .i64 a,.int .i64 b]) (.agg #[.int .i64 c,.int .i64 d])=(Op.equal 46 (.agg #[.int .i64 a,.int .i64 b]) (.agg #[.int .i64 c,.int .i64 d])>>=fun r=>pure (.bool (!r))):=rfl;rw[hb,z31,eqTyR];rfl
theorem eqTyN(n:Nat)(a b c d:Int):z23 Tryz.prog (Op.equalIn (n+1+1) 46 (.agg #[.int .i64 a,.int .i64 b]) (.agg #[.int .i64 c,.int .i64 d]))=some (eqTy ⟨a,b⟩ ⟨c,d⟩):=by
 rw[z98 _ _ _ _ (by kernel_rfl) (by kernel_rfl)];obtain⟨f,g,hl,nf,ng,pf,pg,ef,eg⟩:=tyFields;rw[hl];simp only[Op.eqFields,nf,ng,ne_eq,not_false_eq_true,if_true,z31,pf,pg,ef,eg,Option.bind_some];unfold eqTy;cases h:(a==c)
 ·simp[h,z92]
 ·cases h2:(b==d)<;>simp[h,h2,z92,z31,pg,eg,ng]
structure PartOk(f:Field)(x y:Array Value)(a b:Value)(e:Bool):Prop where
 nm:f.name≠ "_"
 px:z23 Tryz.prog (part f.type x f.offset)=some a
 py:z23 Tryz.prog (part f.type y f.offset)=some b
 eq:∀n,z23 Tryz.prog (Op.equalIn (n+1+1) f.type a b)=some e
theorem z73{f:Field}{l:List Field}{x y:Array Value}{a b:Value}{e r:Bool}{n:Nat}(h:PartOk f x y a b e)(hl:z23 Tryz.prog (Op.eqFields (n+1+1) x y l)=some r):z23 Tryz.prog (Op.eqFields (n+1+1) x y (f::l))=some (e&&r):=by
 obtain⟨h1,h2,h3,h4⟩:=h;simp only[Op.eqFields,h1,ne_eq,not_false_eq_true,if_true,z31,h2,h3,h4,Option.bind_some];cases e
 ·simp[z92]
 ·simpa using hl
theorem parts_nil{x y:Array Value}{n:Nat}:z23 Tryz.prog (Op.eqFields n x y [])=some true:=rfl
theorem prS(n:Nat)(a b:ByteArray):z23 Tryz.prog (Op.equalIn (n+1) 9 (.string a) (.string b))=some (a==b):=by kernel_rfl
theorem prI(n:Nat)(a b:Int):z23 Tryz.prog (Op.equalIn (n+1) 3 (.int .i64 a) (.int .i64 b))=some (a==b):=by kernel_rfl
theorem prB(n:Nat)(a b:Bool):z23 Tryz.prog (Op.equalIn (n+1) 4 (.bool a) (.bool b))=some (a==b):=by kernel_rfl
def fldA(s:ByteArray)(k o:Int)(b:Bool):Array Value:= #[.string s,.int .i64 k,.int .i64 o,.bool b]
theorem eqFldR(s s':ByteArray)(k k' o o':Int)(b b':Bool):z23 Tryz.prog (Op.equal 55 (.agg (fldA s k o b)) (.agg (fldA s' k' o' b')))=some ((s==s')&&(eqTy ⟨k,o⟩ ⟨k',o'⟩&&((b==b')&&true))):=by
 unfold Op.equal;obtain⟨n,hn⟩:∃n,Op.maxDepth=n+1+1+1:=⟨_,rfl⟩
 rw[hn,z98 _ _ _ _ (by kernel_rfl) (by kernel_rfl)];obtain⟨f,g,h,hl⟩:∃f g h,(Tryz.prog.fieldsOf 55).toList=[f,g,h]∧PartOk f (fldA s k o b) (fldA s' k' o' b') (.string s) (.string s') (s==s')∧PartOk g (fldA s k o b) (fldA s' k' o' b') (.agg #[.int .i64 k,.int .i64 o]) (.agg #[.int .i64 k',.int .i64 o']) (eqTy ⟨k,o⟩ ⟨k',o'⟩)∧PartOk h (fldA s k o b) (fldA s' k' o' b') (.bool b) (.bool b') (b==b'):=
  ⟨(Tryz.prog.fieldsOf 55).toList.getD 0 default,(Tryz.prog.fieldsOf 55).toList.getD 1 default,(Tryz.prog.fieldsOf 55).toList.getD 2 default,by kernel_rfl,
   ⟨of_decide_eq_true (by kernel_rfl),by kernel_rfl,by kernel_rfl,fun n=>prS (n+1) _ _⟩,⟨of_decide_eq_true (by kernel_rfl),by kernel_rfl,by kernel_rfl,fun n=>eqTyN n _ _ _ _⟩,⟨of_decide_eq_true (by kernel_rfl),by kernel_rfl,by kernel_rfl,fun n=>prB (n+1) _ _⟩⟩
 rw[hl.1];exact z73 hl.2.1 (z73 hl.2.2.1 (z73 hl.2.2.2 parts_nil))
theorem neqFld(s s':ByteArray)(k k' o o':Int)(b b':Bool):scal Tryz.prog (do eqGuard .neq 55 (.const (.agg #[.string s,.int .i64 k,.int .i64 o,.bool b])) (.const (.agg #[.string s',.int .i64 k',.int .i64 o',.bool b'])) (.agg #[.string s,.int .i64 k,.int .i64 o,.bool b]) (.agg #[.string s',.int .i64 k',.int .i64 o',.bool b']);binOp .neq 55 (.agg #[.string s,.int .i64 k,.int .i64 o,.bool b]) (.agg #[.string s',.int .i64 k',.int .i64 o',.bool b']))=
  some (.pv (.v (.bool (!((s==s')&&(eqTy ⟨k,o⟩ ⟨k',o'⟩&&((b==b')&&true)))))),.no):=by
 unfold scal;rw[z31];have hg:z23 Tryz.prog (eqGuard .neq 55 (.const (.agg #[.string s,.int .i64 k,.int .i64 o,.bool b])) (.const (.agg #[.string s',.int .i64 k',.int .i64 o',.bool b'])) (.agg #[.string s,.int .i64 k,.int .i64 o,.bool b]) (.agg #[.string s',.int .i64 k',.int .i64 o',.bool b']))=some ():=by kernel_rfl
 rw[hg,Option.bind_some];have hb:binOp .neq 55 (.agg #[.string s,.int .i64 k,.int .i64 o,.bool b]) (.agg #[.string s',.int .i64 k',.int .i64 o',.bool b'])=(Op.equal 55 (.agg (fldA s k o b)) (.agg (fldA s' k' o' b'))>>=fun r=>pure (.bool (!r))):=rfl;rw[hb,z31,eqFldR];rfl
end Go.Proofs.YtcpaleaajdilgaaGreatDoor
end

section
namespace Go.Sh.Cd7
open Go Go.Sh
abbrev gQ(a:GA):Prop:=gT Go.Proofs.Tryz.prog a
theorem gK{a:GA}(h:gQ a:=by unfold gQ gT;kernel_rfl):gQ a:=h
theorem tf_112:gQ ⟨22,187,[],[],[[0],[26],[27030],[31032],[33038],[39046],[47050],[51052],[53058],[59066],[3,14,67072],[16,73078],[79083],[84089],[23024,90099],[1002,4013,15,17022,25,100186]],[.tmp 0],false⟩:=gK
theorem tf_109:gQ ⟨23,110,[],[],[[1000001,5],[9],[10023],[6,24051],[52054],[2,55067],[2,55,68],[70074,104],[76],[7,69,75,77084],[75,86],[7,69,85,87093],[85,95],[7,69,94,96103],[7,69,94,105],[3,8,104,106109]],[.cell true 8 4,.tmp 5],false⟩:=gK
theorem tf_114:gQ ⟨25,13,[],[],[[4],[5],[6009],[1000001,6,10012]],[.tmp 4],false⟩:=gK
theorem tf_40:gQ ⟨27,8,[],[],[[1000001,4],[2003,5007]],[.tmp 4],false⟩:=gK
theorem tf_38:gQ ⟨28,50,[],[],[[0,2003],[7008],[1,9],[2003,9012],[13018],[],[22024],[6,25028],[29],[19021,30040],[1,4,41049]],[.tmp 2,.tmp 3],false⟩:=gK
theorem tf_37:gQ ⟨29,38,[(12,1),(13,1),(14,1),(15,1),(17,1),(20,1),(23,1),(25,1)],[(9,[[(0,8),(2,7),(3,4)]])],[[5006],[1000001,9011],[12016],[17019],[20022],[23024],[25026],[27032],[7008,33034],[7008,33,35037]],[.cell true 8 4,.tmp 5,.tmp 6],false⟩:=gK
theorem tf_36:gQ ⟨30,27,[],[],[[1000001,5],[8009],[2003,10011],[3,5,10,12017],[7,18],[2,6,19020],[2,6,19,21026]],[.cell true 2 4,.tmp 5],false⟩:=gK
theorem tf_41:gQ ⟨31,33,[],[],[[1000001,6007],[8,12017],[18],[2004,9,19020],[3004,6007,9,19,21026],[11,27],[2,10,28],[2,10,28032]],[.tmp 6,.tmp 7],false⟩:=gK
theorem tf_39:gQ ⟨32,14,[],[],[[1000001,4],[2003,5,7012],[6,13]],[.tmp 4],false⟩:=gK
theorem tf_144:gQ ⟨39,27,[],[],[[4],[6009],[1000001,10],[4,10],[11013],[4,15016,26],[14,17025],[1000001,5,26],[1000001,5]],[.tmp 4],false⟩:=gK
theorem tf_125:gQ ⟨43,38,[],[],[[1000001,4],[6018],[2003,19],[4,19],[20023],[4,25026,37],[24,27036],[2003,5,37],[2003,5]],[.tmp 4],false⟩:=gK
abbrev c_111_0:=kV [4,5] [kO 4 1,kO 5 2,oD 6 (.mov (.val (.string ⟨#[]⟩)))] [1,2,6]
abbrev c_111_1:=kV [2068,2069,2070,2071] [oL 14 true 2 5,oM 15 0,oD 16 (.build [(.int .i64 0),(.int .i64 0)] [(0,1,(vI 1))]),kE 17 111 0 14 15 16,oM 13 17,kY 18 13 0,kY 19 13 1,oM 7 18,oM 8 19] [13,14,15,16,17,18,19]
abbrev c_111_2:=kV [2100,2101,2102,2103] [oL 21 true 2 5,oM 22 0,kK 23 .quo 3 22 2,oD 24 (.build [(.int .i64 0),(.int .i64 0)] [(0,1,(vI 2))]),kE 25 111 0 21 23 24,oM 20 25,kY 26 20 0,kY 27 20 1,oM 9 26,oM 10 27] [20,21,22,23,24,25,26,27]
abbrev c_111_3:=kR [oM 28 8,kN 29 28] [8,28]
abbrev c_111_4:=kR [oD 7 (.mov (.val (.string ⟨#[55]⟩)))] [29]
abbrev c_111_5:=kR [oM 30 10,kN 31 30] [10,29,30]
abbrev c_111_6:=kR [oD 9 (.mov (.val (.string ⟨#[34,97,32,98,34]⟩)))] [31]
abbrev c_111_7:=kR [kA 32 0 4,oL 33 false 1 32] [31,32]
abbrev c_111_8:=kR [kK 35 .eql 3 33 1,oM 34 35] [35]
abbrev c_111_9:=kV [2240,2241,2242,2243] [oM 36 7,oM 37 7,oD 38 (.bin .add 9 (.tmp 37) (.val (.string ⟨#[32,42,32,50,32,45,32,49]⟩))),oM 39 9,oD 40 (.bin .add 9 (.val (.string ⟨#[108,101,110,40]⟩)) (.tmp 39)),oD 41 (.bin .add 9 (.tmp 40) (.val (.string ⟨#[41]⟩))),oM 42 7,oD 43 (.bin .add 9 (.val (.string ⟨#[105,102,40]⟩)) (.tmp 42)),oD 44 (.bin .add 9 (.tmp 43) (.val (.string ⟨#[32,62,32,50,44,32]⟩))),oM 45 7,kB 46 .add 9 44 45,oD 47 (.bin .add 9 (.tmp 46) (.val (.string ⟨#[44,32,48,32,45,32]⟩))),oM 48 7,kB 49 .add 9 47 48,oD 50 (.bin .add 9 (.tmp 49) (.val (.string ⟨#[41]⟩))),oM 51 9,oD 52 (.bin .add 9 (.val (.string ⟨#[102,105,110,100,40,34,98,34,44,32]⟩)) (.tmp 51)),oD 53 (.bin .add 9 (.tmp 52) (.val (.string ⟨#[41]⟩))),oM 54 7,oD 55 (.bin .add 9 (.tmp 54) (.val (.string ⟨#[32,47,32]⟩))),oM 56 7,kB 57 .add 9 55 56,oD 58 (.bsl 1 [.val (.string ⟨#[]⟩),.val (.string ⟨#[51]⟩),.tmp 36,.tmp 38,.tmp 41,.tmp 50,.tmp 53,.tmp 57]),oM 59 0,oD 60 (.call 25 0 [.tmp 59,vI 8]),kX 61 1 58 60,oL 62 false 1 61,oM 6 62] [0,4,5,7,9,33,34,36,37,38,39,40,41,42,43,44,45,46,47,48,49,50,51,52,53,54,55,56,57,58,59,60,61,62]
abbrev c_111_10:=kR [kK 64 .eql 3 33 2,oM 63 64] [33,34,64]
abbrev c_111_11:=kV [2348,2349,2350,2351] [oM 65 9,oM 66 9,oD 67 (.bin .add 9 (.tmp 66) (.val (.string ⟨#[32,38,32,34,45,34,32,38,32]⟩))),oM 68 9,kB 69 .add 9 67 68,oM 70 7,oD 71 (.bin .add 9 (.val (.string ⟨#[116,101,120,116,40]⟩)) (.tmp 70)),oD 72 (.bin .add 9 (.tmp 71) (.val (.string ⟨#[41]⟩))),oM 73 9,oD 74 (.bin .add 9 (.val (.string ⟨#[108,101,102,116,40]⟩)) (.tmp 73)),oD 75 (.bin .add 9 (.tmp 74) (.val (.string ⟨#[44,32,50,41]⟩))),oM 76 9,oD 77 (.bin .add 9 (.val (.string ⟨#[102,114,111,109,40]⟩)) (.tmp 76)),oD 78 (.bin .add 9 (.tmp 77) (.val (.string ⟨#[44,32,51,41]⟩))),oM 79 7,oD 80 (.bin .add 9 (.val (.string ⟨#[105,102,40]⟩)) (.tmp 79)),oD 81 (.bin .add 9 (.tmp 80) (.val (.string ⟨#[32,61,32,49,44,32]⟩))),oM 82 9,kB 83 .add 9 81 82,oD 84 (.bin .add 9 (.tmp 83) (.val (.string ⟨#[44,32,34,110,111,34,41]⟩))),oD 85 (.bsl 1 [.val (.string ⟨#[]⟩),.val (.string ⟨#[34,120,34]⟩),.tmp 65,.tmp 69,.tmp 72,.tmp 75,.tmp 78,.tmp 84]),oM 86 0,oD 87 (.call 25 0 [.tmp 86,vI 8]),kX 88 1 85 87,oL 89 false 1 88,oM 6 89] [0,4,5,7,9,63,65,66,67,68,69,70,71,72,73,74,75,76,77,78,79,80,81,82,83,84,85,86,87,88,89]
abbrev c_111_12:=kV [2376,2377,2378,2379] [oL 91 true 2 5,oM 92 0,oL 93 true 2 4,kE 94 111 0 91 92 93,oM 90 94,kY 95 90 0,kY 96 90 1,oM 11 95,oM 12 96] [4,5,6,7,9,63,90,91,92,93,94,95,96]
abbrev c_111_13:=kV [2400,2401,2402,2403] [oM 97 12,oM 98 97,oH 99 98 true 0,oG 100 98 true (.call 25 0 [.tmp 99,vI 3]),kG 101 98 true .gtr 3 100 0,oP 102 98 101 false] [0,12,97,98,99,100,101]
abbrev c_111_14:=kR [oM 103 11,oM 6 103] [11,102,103]
abbrev c_111_15:=kR [oD 6 (.mov (.val (.string ⟨#[]⟩)))] [11,102]
abbrev F_111:SFunc:=⟨104,(.seq c_111_0 (.seq c_111_1 (.seq c_111_2 (.seq (.seq c_111_3 (.cond (.tmp 29) c_111_4 .skip)) (.seq (.seq c_111_5 (.cond (.tmp 31) c_111_6 .skip)) (.seq (.seq c_111_7 (.block 0 (.seq c_111_8 (.cond (.tmp 34) (.seq c_111_9 .ret) (.seq c_111_10 (.cond (.tmp 63) (.seq c_111_11 .ret) .skip)))))) (.seq c_111_12 (.seq (.seq c_111_13 (.cond (.tmp 102) (.seq c_111_14 .ret) .skip)) (.seq c_111_15 .ret))))))))),[.tmp 6],false⟩
theorem tf_111:kU 58 [(17,0),(25,0),(58,0),(60,0),(85,0),(87,0),(94,0),(100,0)] [] F_111:=by unfold kU;kernel_rfl
theorem tf_143:gQ ⟨59,146,[],[],[[1000001,4],[15021],[2003,22],[4005,22029],[7,30036],[9,37043],[44047],[48053],[54],[57],[2003,6,8,10012,55056,58065],[56,67],[2003,6,8,10012,55,66,68],[66,70],[2003,6,8,10012,55,69,71075],[69,77],[2003,6,8,10012,55,76,78081],[55,76,83],[2003,6,8,10012,82,84127],[3004,8,10012,14,82,128134],[2,6,13,135145]],[.tmp 4],false⟩:=gK
theorem tf_50:gQ ⟨63,66,[],[],[[0,2],[5010],[4,11035],[1,3,36],[2,36052],[1,3,53],[1,3,53065]],[.tmp 2],false⟩:=gK
theorem tf_51:gQ ⟨65,11,[],[],[[2],[0,4009],[3,10]],[.tmp 2],false⟩:=gK
theorem tf_0:gQ ⟨66,35,[],[],[[2],[6018],[5,19025],[0,3004,26029],[],[0,2,4,26,30033],[3,34]],[.tmp 2],false⟩:=gK
theorem tf_1:gQ ⟨67,35,[],[],[[2],[6018],[5,19025],[0,3004,26029],[],[0,2,4,26,30033],[3,34]],[.tmp 2],false⟩:=gK
theorem tf_42:gQ ⟨68,61,[],[],[[1000001,5],[8014],[2003,15016],[5,15,17020],[21033],[34042],[2,43051],[3,6,52056],[7,57060]],[.cell true 3 4,.tmp 5],false⟩:=gK
theorem tf_113:gQ ⟨111,35,[],[],[[0,2,6007],[],[10013],[6007,9,15016,32],[14,17028],[29031],[1,3,5,8009,32034],[1,3,5,8]],[.tmp 6,.tmp 7],false⟩:=gK
theorem tf_123:gQ ⟨112,62,[],[],[[0,2],[6014],[1,15],[2,15],[16019],[4005,21022],[20,23027],[28046],[1,3004,47],[2,47],[48049],[2,51052,61],[50,53060],[1,3005,61],[1,3]],[.tmp 2],false⟩:=gK
theorem tf_142:gQ ⟨113,82,[],[],[[0,2],[3015],[1,16],[2,16024],[1,25],[2,25043],[1,44],[2,44062],[1,63],[1,63081]],[.tmp 2],false⟩:=gK
theorem tf_147:gQ ⟨114,33,[],[],[[1002,6],[12],[0,4005,13],[0,6,8009,13019],[4,7,20025],[5,10011,26032]],[.tmp 6],false⟩:=gK
theorem tf_46:gQ ⟨120,22,[],[],[[3],[0],[6],[4005,7],[5,9],[10],[4,8,11],[8,13],[4,12,14],[12,16],[4,15,17],[4,15,19],[18,20],[18,21]],[.cell true 6 2,.tmp 3],false⟩:=gK
theorem tf_45:gQ ⟨121,12,[],[],[[4],[1,5],[0,6008],[0,6,9011]],[.tmp 4],false⟩:=gK
theorem tf_43:gQ ⟨122,20,[],[],[[4],[8],[1000001,9],[1,4,9010],[0,11],[0,4006,11017],[7,18019]],[.tmp 4],false⟩:=gK
theorem tf_47:gQ ⟨126,37,[],[],[[0,2,6],[12],[1,3,5,13014],[1,6,8,13,15020],[9,21],[3,5,7,22],[6,22028],[5,10011,29034],[3,7,35],[3,7,35036]],[.tmp 6],false⟩:=gK
theorem tf_122:gQ ⟨170,56,[],[],[[2],[6012],[0,13],[2,13],[14016],[2,18019,55],[17,20029],[30045],[4005,46054],[0,3,55],[0,3]],[.tmp 2],false⟩:=gK
theorem tf_124:gQ ⟨171,21,[],[],[[0,2],[1,3020]],[.tmp 2],false⟩:=gK
theorem tf_145:gQ ⟨172,58,[],[],[[0],[4006],[7008],[9012],[9,13024],[25028],[25,29040],[41044],[45047],[41,48049],[50053],[1,54056],[1,3,50,57]],[.cell true 8 2],false⟩:=gK
theorem tf_146:gQ ⟨173,18,[],[],[[2],[3004,6011],[0,5,12017]],[.tmp 2],false⟩:=gK
theorem tf_129:gQ ⟨174,85,[(31,0),(44,0),(50,1),(69,1),(81,0)],[(17,[[(4,17),(5,2)]])],[[3004],[10011],[0,12013],[3004,12,14017],[],[18020],[21024],[25027],[25,28033],[34],[0,5008,35037],[3004,6007,35,38047],[8,48],[0,6,49050],[51066],[67069],[67,70073],[5,9,74079],[3005,74,80081],[9,82083],[9,82,84]],[.cell true 4 2,.tmp 3,.tmp 4],false⟩:=gK
theorem tf_137:gQ ⟨175,30,[],[],[[1000001,5],[10011],[6,12],[2003,13014],[5,13,15016],[7,17],[2003,18019],[2003,5,18,20025],[9,26],[8,27028],[8,27,29]],[.cell true 2 4,.tmp 5],false⟩:=gK
theorem tf_48:gQ ⟨185,6,[],[],[[0],[1,4005]],[.cell true 4 3],false⟩:=gK
theorem tf_49:gQ ⟨186,15,[],[],[[],[1000002,6013],[5,14]],[.cell true 4 4],false⟩:=gK
theorem tf_9:gQ ⟨187,26,[(17,1)],[],[[2],[0,3025]],[.tmp 2],false⟩:=gK
theorem tf_2:gQ ⟨188,22,[(8,0),(20,0)],[],[[2],[0,3021]],[.tmp 2],false⟩:=gK
theorem tf_3:gQ ⟨189,15,[(6,0),(12,0),(13,0)],[],[[4],[1000001,5014]],[.tmp 4],false⟩:=gK
theorem tf_10:gQ ⟨190,7,[],[],[[2],[0,3006]],[.tmp 2],false⟩:=gK
theorem tf_4:gQ ⟨191,26,[],[],[[2],[0,3025]],[.tmp 2],false⟩:=gK
theorem tf_5:gQ ⟨192,22,[],[],[[4],[1000001,5021]],[.tmp 4],false⟩:=gK
theorem tf_12:gQ ⟨193,16,[(14,1)],[],[[2],[0,3015]],[.tmp 2],false⟩:=gK
theorem tf_15:gQ ⟨194,23,[],[],[[2],[4009],[0,10021],[3,22]],[.tmp 2],false⟩:=gK
theorem tf_8:gQ ⟨195,7,[],[],[[0,4],[1,5006]],[.tmp 4],false⟩:=gK
theorem tf_14:gQ ⟨196,14,[],[],[[2],[0,3013]],[.tmp 2],false⟩:=gK
theorem tf_18:gQ ⟨197,30,[],[],[[2],[4009],[0,10028],[3,29]],[.tmp 2],false⟩:=gK
theorem tf_19:gQ ⟨198,21,[],[],[[4],[6007],[1000001,8019],[5,20]],[.tmp 4],false⟩:=gK
theorem tf_13:gQ ⟨199,70,[(41,1),(54,1)],[],[[2],[3028],[0,29],[0,29069]],[.tmp 2],false⟩:=gK
theorem tf_16:gQ ⟨200,51,[],[],[[2],[4026],[0,3,27050]],[.tmp 2],false⟩:=gK
theorem tf_17:gQ ⟨201,37,[],[],[[4],[6018],[1000001,5,19036]],[.tmp 4],false⟩:=gK
theorem tf_11:gQ ⟨202,23,[],[],[[2],[0,3022]],[.tmp 2],false⟩:=gK
theorem tf_7:gQ ⟨203,27,[],[],[[2],[4009],[0,10025],[3,26]],[.tmp 2],false⟩:=gK
theorem tf_126:gQ ⟨226,9,[],[],[[2],[0,3008]],[.tmp 2],false⟩:=gK
theorem tf_132:gQ ⟨227,154,[],[],[[5],[8009],[10],[11013],[15023],[24034],[35036],[0,6007,37038],[5,37,39040],[1000001,14,41],[6007,42043],[5,14,44046],[7,47048],[1000001,49055],[6007,56057],[5,47,58060],[62070],[71073],[61,74],[1000001,75079],[80082],[6007,83084],[6007,83,85086],[5,7,61,87114],[0,115121],[1,6,122124],[0,5,115,125130],[131148],[1,6,149152],[1,6,149,153]],[.cell true 4 4,.tmp 5],false⟩:=gK
theorem tf_31:gQ ⟨228,84,[(8,1),(80,1)],[(5,[[(1,5),(9,5),(6,1000)]])],[[],[7008],[9054],[55066],[67073],[6,74082],[1000001,5,83]],[.cell true 4 4],false⟩:=gK
theorem tf_32:gQ ⟨229,40,[],[],[[],[3006],[7014],[15023],[0,24038],[0,7,24,39]],[.cell true 4 2],false⟩:=gK
theorem tf_139:gQ ⟨231,100,[],[],[[1000001,5],[11],[14],[2003,12013,15],[13,17],[2003,12,16,18],[16,20],[2,12,19,21027],[7,28],[3,6,29030],[3,6,29,31036],[19,38],[2003,12,37,39044],[8,45047],[12,37,49],[2003,48,50054],[5,48,55060],[3,61066],[2,67],[70],[9010,68069,71077],[69,79],[80],[81],[82],[83],[68,84],[9010,68,78,85092],[9010,68,78,93099]],[.cell true 2 4,.tmp 5],false⟩:=gK
theorem tf_6:gQ ⟨239,25,[],[],[[6],[0,7,9017],[1002,8,18024]],[.tmp 6],false⟩:=gK
theorem tf_44:gQ ⟨241,22,[(14,0),(18,0)],[],[[2],[],[0],[],[9011],[12015],[5,16019],[20],[3,6008,21]],[.tmp 2],true⟩:=gK
theorem tf_148:gQ ⟨242,36,[(24,0)],[],[[2],[],[],[],[12014],[5,15018],[19],[20021,2009999],[20,22],[3,9011,23024],[0],[],[28030],[8,31033],[34],[6,25027,35]],[.tmp 2],false⟩:=gK
theorem tf_149:gQ ⟨243,36,[(24,0)],[],[[2],[],[],[],[12014],[5,15018],[19],[20021,2009999],[20,22],[3,9011,23024],[0],[],[28030],[8,31033],[34],[6,25027,35]],[.tmp 2],false⟩:=gK
theorem tf_131:gQ ⟨263,9,[],[],[[2],[0,3008]],[.tmp 2],false⟩:=gK
theorem tf_135:gQ ⟨264,56,[],[],[[4005],[],[1,8009],[10012],[14015],[13,16018],[0,19022],[6007,23],[6007,23026],[4005,19,27029],[30032],[33047],[0,6007,48],[4005,30,48055],[0,6007]],[.tmp 4,.tmp 5],false⟩:=gK
theorem tf_136:gQ ⟨265,21,[],[],[[2],[0,3020]],[.tmp 2],false⟩:=gK
theorem tf_34:gQ ⟨267,119,[(23,1),(67,1),(84,1),(99,1),(113,1),(115,1),(118,1)],[],[[],[5020],[0,21023],[21,24033],[34040],[0,41048],[3,49055],[41,56057],[58065],[66072],[73080],[0,3,81084],[0,3,73,85087],[58,88089],[3,90097],[0,98101],[3,90,102103],[104111],[112113],[0,114115],[4,116],[0,104,117118]],[.cell true 4 2],false⟩:=gK
theorem tf_140:gQ ⟨269,27,[],[],[[1000001,4],[2003,7012],[6,13023],[5,24],[5,24026]],[.tmp 4],false⟩:=gK
theorem tf_138:gQ ⟨270,106,[],[],[[1000001,5],[12013],[14017],[2003,18019],[5,18,20025],[26031],[2003,32037],[6008,38050],[5,14,51053],[54062],[2003,9,63064],[5,63],[65067],[5,69070,95],[68,71077],[11,78094],[2003,9010,95096],[2003,9010,97],[100],[101],[102],[98,103],[98099,104],[98099,105]],[.cell true 2 4,.tmp 5],false⟩:=gK
theorem tf_33:gQ ⟨297,44,[],[],[[4],[1000001,5043]],[.tmp 4],false⟩:=gK
theorem tf_30:gQ ⟨299,36,[(11,0),(25,1),(29,1),(30,0),(34,1)],[(7,[[(1,5),(7,5),(3,1000)]])],[[],[7008],[],[9018],[20021],[19,22],[23025],[23,26032],[1000001,6,33034],[5,35]],[.cell true 4 4],false⟩:=gK
theorem tf_35:gQ ⟨300,22,[(11,1),(14,1)],[],[[4007],[1,8011],[0,12014],[0,12,15021]],[],false⟩:=gK
theorem tf_141:gQ ⟨302,18,[],[],[[2],[0],[5],[6],[3004],[4,8],[9],[10],[3,7],[7,12],[3,11],[11,14],[3,13],[13,16],[3,17],[3,15],[3,15]],[.tmp 2],false⟩:=gK
noncomputable def funcs:Nat→Option SFunc
 |_=>none
end Go.Sh.Cd7
end

section
namespace Go.Proofs.YtcpaleaajdilgaaGreatDoor
open Go Go.RowKit Go.Mor Go.Sh Go.Sh.Cd1
section
open Go.Sh.Cd7
def ndT(d:Nd):TV:=.agg [B d.f,B d.n,B d.m,B d.t,B d.x,B d.o]
def chT(h:Chg):TV:=.agg [I h.k,S (str h.f),S (str h.n),S (str h.m),I h.t.k,I h.t.o,S (str h.x),S (str h.o)]
structure TxOk(m:Nat)(s:zB):Prop where
 len:s.length<4611686018427387904
 rd:s≠[]→zC (glE m) 36 [S (str s)] [] (parT (rdV s)) []
 sm:s≠[]→ESmall (rdV s).1
structure ChOk(q:Nat)(h:Chg):Prop where
 f:Short h.f
 n:Short h.n
 m:Short h.m
 x:TxOk q h.x
 o:TxOk q h.o
theorem needs_ok(g:Sh.Glob)(k:Int):zC g 120 [I k] [] (.tuple [ndT (needV k),B (needV k).ok]) []:=by
 refine z10 tf_46 ?_;have hk:k=1∨k=2∨k=6∨k=3∨k=4∨k=5∨(¬k=1∧¬k=2∧¬k=6∧¬k=3∧¬k=4∧¬k=5):=by omega
 unfold ndT B;rcases hk with rfl|rfl|rfl|rfl|rfl|rfl|⟨h1,h2,h6,h3,h4,h5⟩
 all_goals unfold needV
 ·simp only[vW,seval]
 ·simp only[vW,seval]
 ·simp only[vW,seval]
 ·simp only[vW,seval]
 ·simp only[vW,seval]
 ·simp only[vW,seval]
 ·simp only[vW,seval,h1,h2,h6,h3,h4,h5]
theorem right_bare(s:zB):z19 ⟨s,[]⟩=z11 s:=by simp[z19,onceGo]
theorem chName_ok(g:Sh.Glob)(s:zB)(b:Bool)(hs:Short s):zC g 121 [S (str s),B b] [] (B (nameV s b)) []:=by
 have HR:=classRight_ok g ⟨s,[]⟩ ⟨hs,by simp,by simp⟩;rw[right_bare]at HR;have HR:=HR.inp (xs:=[.agg [S (str s),nilT]]) rfl (fun j c d hc hd=>by
  cases j with
  |zero=>
   simp at hc hd;subst hc;subst hd;exact wk_agg rfl (fun j p q hp hq=>by
    match j with
    |0=>simp at hp hq;subst hp;subst hq;exact .refl _
    |1=>simp at hp hq;subst hp;subst hq;exact wk_nil 4
    |j+2=>simp at hp)
  |succ j=>simp at hc)
 have e0:=bS [];refine z10 tf_45 ?_;unfold nameV B nilT at*;cases b
 ·simp only[vW,seval,e0]
 ·simp only[vW,seval];exact z14 HR
theorem formula_ok(m:Nat)(s:zB)(b:Bool)(hs:TxOk m s):zC (glE m) 122 [S (str s),B b] [] (B (formV s b)) []:=by
 have e0:=bS [];refine z10 tf_43 ?_;unfold formV B;by_cases h:s=[]
 ·subst h;simp only[vW,seval,e0]
 ·have hb:(s==[])=false:=by simpa using h
  have HP:=hs.rd h;generalize rdV s=r at*;unfold parT at HP;cases b
  ·simp only[vW,seval,e0,hb]
  ·by_cases h0:r.2.2=0
   ·rw[if_pos h0]at HP;simp only[vW,seval,e0,hb];refine z7 HP ?_;simp only[vW,seval,h0]
   ·rw[if_neg h0]at HP;unfold zeroE at HP;simp only[vW,seval,e0,hb];refine z7 HP ?_;simp only[vW,seval,h0]
theorem wellFormed_ok(m:Nat)(h:Chg)(hh:ChOk m h):zC (glE m) 63 [chT h] [] (B (wellV h)) []:=by
 have HN:=needs_ok (glE m) h.k;have H1:=fun b=>chName_ok (glE m) h.f b hh.f;have H2:=fun b=>chName_ok (glE m) h.n b hh.n;have H3:=fun b=>chName_ok (glE m) h.m b hh.m;have HT:=rightTypeC_ok (glE m) h.t;have H4:=fun b=>formula_ok m h.x b hh.x;have H5:=fun b=>formula_ok m h.o b hh.o;have hz:z16 ty0=false:=by decide
 refine z10 tf_50 ?_;unfold wellV;generalize needV h.k=d at*;obtain⟨df,dn,dm,dt,dx,dO,dk⟩:=d;simp only[]at*;unfold ndT chT tyT B at*;simp only[vW,seval];refine z7 HN ?_;cases dk
 ·simp only[vW,seval]
 simp only[vW,seval];refine z7 (H1 df) ?_;cases nameV h.f df
 ·simp only[vW,seval]
 simp only[vW,seval];refine z7 (H2 dn) ?_;cases nameV h.n dn
 ·simp only[vW,seval]
 simp only[vW,seval];refine z7 (H3 dm) ?_;cases nameV h.m dm
 ·simp only[vW,seval]
 simp only[vW,seval];refine z7 HT ?_;have tyE:(⟨h.t.k,h.t.o⟩:Ty)=h.t:=rfl;cases dt
 ·rw[if_neg (by simp)];by_cases hq:eqTy h.t ty0=true
  ·have hr:z16 h.t=false:=by
    unfold eqTy ty0 at hq;simp only[Bool.and_eq_true,beq_iff_eq]at hq;unfold z16;simp[hq.1,hq.2]
   have hq':eqTy h.t ⟨0,0⟩=true:=hq;rw[hr,hq];simp only[vW,seval,bbNeq,bNV,neqTy,tyE,hq'];refine z7 (H4 dx) ?_;cases formV h.x dx
   ·simp only[vW,seval]
   simp only[vW,seval];exact z14 (H5 dO)
  ·have hq:eqTy h.t ty0=false:=by simpa using hq
   have hq':eqTy h.t ⟨0,0⟩=false:=hq;rw[hq];cases hr:z16 h.t
   ·simp only[vW,seval,bbNeq,bNV,neqTy,tyE,hq']
   ·simp only[vW,seval,bbNeq,bNV,neqTy,tyE,hq']
 ·rw[if_pos rfl];cases hr:z16 h.t
  ·simp only[vW,seval,bbNeq,bNV,neqTy]
  ·simp only[vW,seval,bbNeq,bNV,neqTy];refine z7 (H4 dx) ?_;cases formV h.x dx
   ·simp only[vW,seval]
   simp only[vW,seval];exact z14 (H5 dO)
end
theorem zero_ok(g:Sh.Glob)(t:Ty):zC g 35 [tyT t] [] (nv (zeroV t)) []:=by
 refine z10 tf_159 ?_;have HR:=rightType_ok g t;unfold B at HR;obtain⟨k,o⟩:=t;generalize hr:z16 ⟨k,o⟩=r at HR;have key:zeroV ⟨k,o⟩=if !r||k==3||k==4 then V.nil else .mk k 0 [] []:=by rw[←hr];rfl
 rw[key];simp only[vW,seval];refine z7 HR ?_;cases r
 ·simp only[vW,seval];rfl
 ·simp only[vW,seval]
  repeat' (first|(apply And.intro)|(intro _))
  all_goals(first|(simp_all [V.nil,V.k,V.n,V.s,e0];done)|rfl)
section
open Go.Sh.Cd7
def tlT(c:Cls)(t:Ty):Tl→PV
 | .no=> .v .nilFunc
 | .zero=> .fn (.func 185) [] [.el [.v (.int .i64 t.k),.v (.int .i64 t.o)]]
 | .ev e=> .fn (.func 186) [] [.el [.v (.int .i64 e.k),.v (.int .i64 e.n),.v (.string (str e.s)),.sl 4 (V.rows e.l)],.el [.v (.string (str c.n)),.sl 4 (flR c.fs)]]
theorem zeroV_l(t:Ty):(zeroV t).l=[]:=by unfold zeroV;split<;>rfl
theorem teller1_ok(g:Sh.Glob)(t:Ty)(vals:List V):zC g 185 [.pv (.sl 4 (V.rows vals)),.pv (.el [.v (.int .i64 t.k),.v (.int .i64 t.o)])] [] (tv (zeroV t)) []:=by
 have HZ:=zero_ok g t;refine SCalls.out ?_ (nv_tv (zeroV_l t));refine z43 tf_48 ?_;exact z14 HZ
theorem teller2_ok(m:Nat)(c:Cls)(e:V)(vals:List V)(hc:ClsOk c)(he:ESmall e)(hf:∀x∈vals,VFew x∧VOk x)(hl:vals.length≤4611686018427387904):
  zC (glE m) 186 [.pv (.sl 4 (V.rows vals)),.pv (.el [.v (.int .i64 e.k),.v (.int .i64 e.n),.v (.string (str e.s)),.sl 4 (V.rows e.l)]),.pv (.el [.v (.string (str c.n)),.sl 4 (flR c.fs)])] [] (tv (evalA c vals e).1) []:=by
 have HE:=evEval_ok m c e vals hc he hf hl;have hn:(evalA c vals e).2≠0→(evalA c vals e).1=V.nil:=by
  unfold evalA;split
  ·intro _;rfl
  ·split
   ·intro _;rfl
   ·intro h;exact absurd rfl h
 unfold evalT at HE;generalize evalA c vals e=r at*;by_cases h:r.2=0
 ·rw[if_pos h]at HE;refine z10 tf_49 ?_;unfold clT at HE;simp only[vW,seval];exact z14 HE
 ·rw[if_neg h]at HE;rw[hn h];refine SCalls.out ?_ (nv_tv (x:=V.nil) rfl);refine z10 tf_49 ?_;unfold clT at HE;simp only[vW,seval];exact z14 HE
theorem teller_zero(g:Sh.Glob)(c:Cls)(t:Ty):zC g 126 [clT c,S (str []),tyT t] [] (.pv (tlT c t .zero)) []:=by
 have h:zC g 126 [clT c,S (str []),tyT t] [] (.fn (.func 185) [] (z125 1000 1)) ([[PV.v (.int .i64 t.k),.v (.int .i64 t.o)]].map fun ps=> .box (ps.map .pv)):=by
  refine z22 tf_47 ?_;unfold clT;simp only[vW,seval,str0];rfl
 exact SCalls.frz (pss:=[_]) h
theorem teller_ev(m:Nat)(c:Cls)(s:zB)(t:Ty)(hs:TxOk m s)(hc:ClsOk c)(hne:s≠[]):zC (glE m) 126 [clT c,S (str s),tyT t] [] (.pv (tlT c t (tellV c s t))) []:=by
 have HP:=hs.rd hne;have HT:=evType_ok m c (rdV s).1 hc (hs.sm hne);have e0:=bS [];have hb:(s==[])=false:=by simpa using hne
 unfold tellV;rw[if_neg hne];generalize rdV s=r at*;unfold parT at HP;unfold typeT at HT;generalize typeA c r.1=q at*;obtain⟨⟨qk,qo⟩,q2⟩:=q;obtain⟨tk,ot⟩:=t;simp only[]at*;by_cases h0:r.2.2=0
 ·rw[if_neg (c:=r.2.2≠0) (by simpa using h0)];rw[if_pos h0]at HP;by_cases h1:q2=0
  ·cases h2:eqTy ⟨qk,qo⟩ ⟨tk,ot⟩
   ·rw[if_neg (by simp)];refine z10 tf_47 ?_;unfold clT tlT at*;simp only[vW,seval,e0,hb];refine z7 HP ?_;simp only[vW,seval,h0];refine z7 HT ?_;simp only[vW,seval,h1,neqTy,h2]
   ·rw[if_pos ⟨h1,rfl⟩];have h:zC (glE m) 126 [clT c,S (str s),tyT ⟨tk,ot⟩] [] (.fn (.func 186) [] (z125 1000 2)) ([[PV.v (.int .i64 r.1.k),.v (.int .i64 r.1.n),.v (.string (str r.1.s)),.sl 4 (V.rows r.1.l)],[.v (.string (str c.n)),.sl 4 (flR c.fs)]].map fun ps=> .box (ps.map .pv)):=by
     refine z22 tf_47 ?_;unfold clT at*;simp only[vW,seval,e0,hb];refine z7 HP ?_;simp only[vW,seval,h0];refine z7 HT ?_;simp only[vW,seval,h1,neqTy,h2];rfl
    exact SCalls.frz (pss:=[_,_]) h
  ·rw[if_neg (fun h=>h1 h.1)];refine z10 tf_47 ?_;unfold clT tlT at*;simp only[vW,seval,e0,hb];refine z7 HP ?_;simp only[vW,seval,h0];refine z7 HT ?_;simp only[vW,seval,h1]
 ·rw[if_pos (c:=r.2.2≠0) h0];rw[if_neg h0]at HP;refine z10 tf_47 ?_;unfold clT tlT zeroE at*;simp only[vW,seval,e0,hb];refine z7 HP ?_;simp only[vW,seval,h0]
theorem teller_ok(m:Nat)(c:Cls)(s:zB)(t:Ty)(hs:TxOk m s)(hc:ClsOk c):zC (glE m) 126 [clT c,S (str s),tyT t] [] (.pv (tlT c t (tellV c s t))) []:=by
 by_cases h:s=[]
 ·subst h;have:tellV c [] t=.zero:=by unfold tellV;rw[if_pos rfl]
  rw[this];exact teller_zero (glE m) c t
 ·exact teller_ev m c s t hs hc h
end
end Go.Proofs.YtcpaleaajdilgaaGreatDoor
end

section
namespace Go.Sh
open Go Go.RowKit
section
variable{B:Base}{s:FS}{a:Act}{w:World}{E:Env}
theorem flat_fwd{W:Nat}:∀{es:List (List PV)},(∀cs∈es,cs.length=W)→∀{i j:Nat} {cs:List PV} {c:PV},es[i]?=some cs→cs[j]?=some c→es.flatten[i*W+j]?=some c
 |[],_,i,j,cs,c,h,_=>by simp at h
 |x::es,hW,i,j,cs,c,h,hc=>by
  cases i with
  |zero=>
   grind
  |succ i=>
   have:=flat_fwd (es:=es) (fun y hy=>hW y (List.mem_cons_of_mem _ hy)) (i:=i) (by grind) hc
   grind
theorem Sim.freezeS(h:Sim B s a w E){d W:Nat}{es:List (List PV)}(hd:s.b d=some (es.flatten.map TV.pv))(hW:∀cs∈es,cs.length=W):
  ∃K',Sim B { s with b:=fun e=>if e=d then none else s.b e } a w { E with K:=K' }∧∀c v,RelT w { E with K:=K' } s.r (.bs d 0 es.length c) v→RelT w { E with K:=K' } s.r (.pv (.sl W es)) v:=by
 obtain⟨K',h1,h2,_⟩:=h.freeze0 hd;refine⟨K',h1,fun c v hv=> ?_⟩;cases hv with
 |bs _ _ _ _ C hn hc hm=>
 cases h2 with
 |pv h2=>
 cases h2 with
 |el _ _ _ f hf hs=>
 refine .pv (.sl W es (E.β d) 0 C (some ⟨E.β d,0,none⟩) (fun i j=>f (i*W+j)) (fun _=>rfl) (by omega) hm hW (fun i j cs c e1 e2=> ?_) (fun i j cs c e1 e2=>hs _ _ (flat_fwd hW e1 e2)))
 grind [flat_fwd]
theorem fs_drp(s:ES)(d:Nat):(fun e=>if e=d then none else s.fs.b e)=lk (drp [d] s.b):=by
 funext e;rw[lk_drp];show(if e=d then none else lk s.b e)=_
 grind [has,Nat.beq_refl,only,z155]
theorem frT_lw{s:ES}{k d W c:Nat}{es:List (List PV)}(hd:lk s.b d=some (es.flatten.map TV.pv))(hW:∀cs∈es,cs.length=W)(hk:lk s.t k=some (.bs d 0 es.length c)):(⟨sv s.t k (.pv (.sl W es)),drp [d] s.b,s.r,s.i⟩:ES).Lw s:=by
 intro B a w E _ _ hS;obtain⟨K',h1,h2⟩:=hS.freezeS hd hW;refine⟨{ E with K:=K' },?_⟩;have:=h1.reT (k:=k) (x:=.bs d 0 es.length c) (y:=.pv (.sl W es)) hk (h2 c)
 grind [sv,drp,FS.setT,fs_drp,only,ES.fs,lk_sv]
end
section
theorem frE_lw{s:ES}{k d:Nat}{ps:List PV}(hd:lk s.b d=some (ps.map TV.pv))(hk:lk s.t k=some (.ptr d 0)):(⟨sv s.t k (.pv (.el ps)),drp [d] s.b,s.r,s.i⟩:ES).Lw s:=by
 intro B a w E _ _ hS;obtain⟨K',h1,h2,_⟩:=hS.freeze0 hd;refine⟨{ E with K:=K' },?_⟩;have:=h1.reT (k:=k) (x:=.ptr d 0) (y:=.pv (.el ps)) hk (fun v hv=>by cases hv;exact h2)
 grind [sv,drp,FS.setT,fs_drp,only,ES.fs,lk_sv]
section
variable{P:Program}{g:Glob}{N:Nat}{a b c:SCode}{Q Q':SExit→ES→Prop}{s s0:ES}
@[congr] theorem sem_congr (h:s=s0):SemW P g N c Q s=SemW P g N c Q s0:=by rw[h]
theorem sem_mono(h:SemW P g N c Q s)(hq:∀e s,Q e s→Q' e s):SemW P g N c Q' s:=fun H Fp K code ht B a w E h1 h2 h3 h4 h5 h6=>wp_mono (h H Fp K code ht B a w E h1 h2 h3 h4 h5 h6) (by
 rintro x a' w' ⟨e,s',E',q1,q2,q3⟩;exact⟨e,s',E',q1,hq _ _ q2,q3⟩)
theorem sem_lw(hl:s0.Lw s)(h:SemW P g N c Q s0):SemW P g N c Q s:=by
 intro H Fp K code ht B a w E h1 h2 h3 h4 h5 h6;obtain⟨E',h7⟩:=hl B a w E h2 h3 h6;exact h H Fp K code ht B a w E' h1 h2 h3 h4 h5 h7
theorem sem_seq(h:SemW P g N a (thenW (SemW P g N b Q) Q) s):SemW P g N (.seq a b) Q s:=by
 intro H Fp K code ht B ac w E h1 h2 h3 h4 h5 h6;cases code with
 |seq x y=>
  simp only[z15]at ht;split at ht<;>try(cases ht;done)
  rename_i a' b' ha hb;cases ht;refine wp_seq (wp_mono (h H Fp K x ha B ac w E h1 h2 h3 h4 h5 h6) ?_);rintro z a2 w2 ⟨e,s2,E2,rfl,hq,hS2⟩;cases e with
  |normal=>exact hq H Fp K y hb B a2 w2 E2 h1 h2 h3 h4 h5 hS2
  |exit id=>exact⟨.exit id,s2,E2,rfl,hq,hS2⟩
  |ret=>exact⟨.ret,s2,E2,rfl,hq,hS2⟩
  |pan z=>exact⟨.pan z,s2,E2,rfl,hq,hS2⟩
 |skip|exit id|ret|rangeFunc _ _ _ _=>simp[z15]at ht
 |region id ops draw=>
  grind [only,z15]
 |cond x y z=>
  grind [only,z15]
 |block id x=>
  grind [only,z15,Option.map_eq_some_iff]
 |loop x=>
  grind [only,z15,Option.map_eq_some_iff]
 |_=>simp[z15]at ht
theorem z59(hmix:P.follows .mixedOrders=true)(h:swp P g a (thenW (SemW P g N b Q) Q) s):SemW P g N (.seq a b) Q s:=sem_seq (sem_swp hmix h)
end
theorem call_ofS{P:Program}{g:Glob}{f:Nat}{H:Nat→Option Nat→Nat}{Fp:Nat→List (Nat→Option Nat)}{K:Nat→List Nat}{keep:Bool}{F:SFunc}(hmix:P.follows .mixedOrders=true)(hF:z36 P f H Fp K keep=some F){xs:List TV}{os os':List MO}{y:TV}(hn:Nat.ble xs.length F.N=true)(hos:Nat.ble os.length 1000=true)(hmo:moOk os os'=true)
  (h:SemW P g F.N F.code (PostR F.res F.keep os.length y os') (startE xs os)):SCalls P g f xs os y os':=
 call_of_sem hmix hF (Nat.le_of_ble_eq_true hn) (Nat.le_of_ble_eq_true hos) hmo (sem_mono h fun e s he=>by
  cases e with
  |normal=>exact⟨.inr rfl,by rw[exitF_R];exact he⟩
  |ret=>exact⟨.inl rfl,by rw[exitF_R];exact he⟩
  |exit id=>exact he.elim
  |pan z=>exact he.elim)
theorem z172{P:Program}{g:Glob}{f:Nat}{H:Nat→Option Nat→Nat}{Fp:Nat→List (Nat→Option Nat)}{K:Nat→List Nat}{keep:Bool}{F:SFunc}(hmix:P.follows .mixedOrders=true)(hF:z36 P f H Fp K keep=some F){xs:List TV}{y:TV}(hn:Nat.ble xs.length F.N=true)
  (h:SemW P g F.N F.code (Post0 F.res y) (startE xs [])):SCalls P g f xs [] y []:=by
 have key:∀s,ansW y (resT s.fs F.res)→exitR F.res F.keep 0 s=some (y,[]):=by
  intro s he;cases hr:resT s.fs F.res with
  |none=>rw[hr]at he;exact he.elim
  |some y0=>
   rw[hr]at he;obtain⟨h1,h2⟩:=he;simp[exitR,exitF,hr,idsFrom,h1,reach,h2,seqO]
 refine call_ofS hmix hF hn rfl rfl (sem_mono h fun e s he=> ?_);cases e with
 |normal=>exact key s he
 |ret=>exact key s he
 |exit id=>exact he.elim
 |pan z=>exact he.elim
end
end Go.Sh
end

section
namespace Go.Proofs.YtcpaleaajdilgaaGreatDoor
open Go Go.RowKit Go.Mor Go.Sh Go.Sh.Cd1 Go.Sh.Cd7
def fnW(w:List PV)(f:Nat):TV:=.fn (.func f) [.pv (.el w)] []
def kdT(w:List PV)(a b c:Nat):TV:=.agg [fnW w a,fnW w b,fnW w c]
def kdL(w:List PV):List TV:=[kdT w 187 188 189,kdT w 190 191 192,kdT w 193 194 195,kdT w 196 197 198,kdT w 199 200 201,kdT w 202 203 195]
def kdK:List Value:=[.int .i64 1,.int .i64 2,.int .i64 3,.int .i64 4,.int .i64 5,.int .i64 6]
noncomputable def kindOps:Array Oper:=match Tryz.prog.funcs[127]? with
 |some fn=>match fn.body with
  |some (.seq _ (.seq (.region _ ops _) _))=>ops
  |_=> #[]
 |none=> #[]
def kindMix:List MixO:=[.op ⟨(some 4),none,none,.mov (.tmp 0)⟩,.op ⟨(some 5),none,none,.mkf (.func 187) [(.tmp 4)] []⟩,.op ⟨(some 6),none,none,.mov (.tmp 0)⟩,.op ⟨(some 7),none,none,.mkf (.func 188) [(.tmp 6)] []⟩,.op ⟨(some 8),none,none,.mov (.tmp 0)⟩,.op ⟨(some 9),none,none,.mkf (.func 189) [(.tmp 8)] []⟩,.op ⟨(some 10),none,none,.build [.nilFunc,.nilFunc,.nilFunc] [(0,1,(.tmp 5)),(1,1,(.tmp 7)),(2,1,(.tmp 9))]⟩,.ins ((.int .i64 1)) 10,.op ⟨(some 11),none,none,.mov (.tmp 0)⟩,.op ⟨(some 12),none,none,.mkf (.func 190) [(.tmp 11)] []⟩,.op ⟨(some 13),none,none,.mov (.tmp 0)⟩,.op ⟨(some 14),none,none,.mkf (.func 191) [(.tmp 13)] []⟩,.op ⟨(some 15),none,none,.mov (.tmp 0)⟩,.op ⟨(some 16),none,none,.mkf (.func 192) [(.tmp 15)] []⟩,.op ⟨(some 17),none,none,.build [.nilFunc,.nilFunc,.nilFunc] [(0,1,(.tmp 12)),(1,1,(.tmp 14)),(2,1,(.tmp 16))]⟩,.ins ((.int .i64 2)) 17,.op ⟨(some 18),none,none,.mov (.tmp 0)⟩,.op ⟨(some 19),none,none,.mkf (.func 193) [(.tmp 18)] []⟩,.op ⟨(some 20),none,none,.mov (.tmp 0)⟩,.op ⟨(some 21),none,none,.mkf (.func 194) [(.tmp 20)] []⟩,.op ⟨(some 22),none,none,.mov (.tmp 0)⟩,.op ⟨(some 23),none,none,.mkf (.func 195) [(.tmp 22)] []⟩,.op ⟨(some 24),none,none,.build [.nilFunc,.nilFunc,.nilFunc] [(0,1,(.tmp 19)),(1,1,(.tmp 21)),(2,1,(.tmp 23))]⟩,.ins ((.int .i64 3)) 24,.op ⟨(some 25),none,none,.mov (.tmp 0)⟩,.op ⟨(some 26),none,none,.mkf (.func 196) [(.tmp 25)] []⟩,.op ⟨(some 27),none,none,.mov (.tmp 0)⟩,.op ⟨(some 28),none,none,.mkf (.func 197) [(.tmp 27)] []⟩,.op ⟨(some 29),none,none,.mov (.tmp 0)⟩,.op ⟨(some 30),none,none,.mkf (.func 198) [(.tmp 29)] []⟩,.op ⟨(some 31),none,none,.build [.nilFunc,.nilFunc,.nilFunc] [(0,1,(.tmp 26)),(1,1,(.tmp 28)),(2,1,(.tmp 30))]⟩,.ins ((.int .i64 4)) 31,.op ⟨(some 32),none,none,.mov (.tmp 0)⟩,.op ⟨(some 33),none,none,.mkf (.func 199) [(.tmp 32)] []⟩,.op ⟨(some 34),none,none,.mov (.tmp 0)⟩,.op ⟨(some 35),none,none,.mkf (.func 200) [(.tmp 34)] []⟩,.op ⟨(some 36),none,none,.mov (.tmp 0)⟩,.op ⟨(some 37),none,none,.mkf (.func 201) [(.tmp 36)] []⟩,.op ⟨(some 38),none,none,.build [.nilFunc,.nilFunc,.nilFunc] [(0,1,(.tmp 33)),(1,1,(.tmp 35)),(2,1,(.tmp 37))]⟩,.ins ((.int .i64 5)) 38,.op ⟨(some 39),none,none,.mov (.tmp 0)⟩,.op ⟨(some 40),none,none,.mkf (.func 202) [(.tmp 39)] []⟩,.op ⟨(some 41),none,none,.mov (.tmp 0)⟩,.op ⟨(some 42),none,none,.mkf (.func 203) [(.tmp 41)] []⟩,.op ⟨(some 43),none,none,.mov (.tmp 0)⟩,.op ⟨(some 44),none,none,.mkf (.func 195) [(.tmp 43)] []⟩,.op ⟨(some 45),none,none,.build [.nilFunc,.nilFunc,.nilFunc] [(0,1,(.tmp 40)),(1,1,(.tmp 42)),(2,1,(.tmp 44))]⟩,.ins ((.int .i64 6)) 45,.op ⟨(some 46),none,none,.mov (.tmp 3)⟩,.op ⟨(some 2),none,none,.mov (.tmp 46)⟩]
theorem kindMix_eq:mixL Tryz.prog 47 (fun _=>0) kindOps 205 3 (List.range' 1 50)=some kindMix:=by kernel_rfl
def kindF:SFunc:=⟨0,.skip,[.tmp 2],false⟩
def kindK(w:List PV)(s:ES):Prop:=exitF kindF 0 s=some (.mp kdK (kdL w),[])
theorem kinds_walk(g:Sh.Glob)(w:List PV):mixW Tryz.prog g false 3 (kindK w) kindMix ⟨[(0,.pv (.el w)),(3,.mp [] [])],[],[],[]⟩:=by
 unfold kindMix;simp only[vW,seval,mwV,SOper.news,SOp.news];repeat(refine⟨by rfl,?_⟩)
 show exitF kindF 0 _=some (.mp kdK (kdL w),[]);rfl
theorem kinds_ok(g:Sh.Glob)(ps:List PV):zC g 127 [.pv (.el ps)] [] (.mp kdK (kdL ps)) []:=by
 refine⟨z56 (by kernel_rfl),fun w E us hG hm hX hl hr=> ?_⟩;obtain⟨u,rfl⟩:∃u,us=[u]:=by
  match us,hl with
  |[u],_=>exact⟨u,rfl⟩
 have hu:=hr 0 _ u rfl rfl;have hS0:=start_sim (N:=47) (xs:=[.pv (.el ps)]) (by show 1≤47;decide) hm hl hr;refine calls_of_wp Tryz.func127 rfl ?_;refine wp_seq (wp_region ?_);show wpOps _ _ _ [0] _ _;rw[wpOps_cons];refine z102 rfl rfl (v:=.map none) (w':=w) rfl ?_;show(Code.seq _ _).wp _ _ _ _;refine wp_seq (wp_region ?_);show wpOps _ kindOps _ (0::(List.range' 1 50++[])) _ _;rw[wpOps_cons];refine z102 rfl rfl (v:=.map (some w.heap.size)) (w':=w.alloc (.map #[] 0)) rfl ?_;have hnew:(w.alloc (.map #[] 0)).heap[w.heap.size]?=some (.map #[] 0):=heap_alloc_new w _;have hbel:Below w.heap.size w (w.alloc (.map #[] 0)):=(Below.refl w.heap.size w).alloc (Nat.le_refl _) _;have hS1:=hS0.same hbel;refine mix_sound (B:=Sh.start w E [] 47) (g:=g) (kt:=3) (et:=124) (text:=false) (t:=205) (m:=3) (b:=w.heap.size) (H:=fun _=>0) (K:=kindK ps) (by show 0≤1000;decide) (by show 47≤1000;decide) hG hX (by kernel_rfl) (by kernel_rfl) (by show 3<47;decide) (Nat.le_refl _) ?_ _ kindMix kindMix_eq ⟨[(0,.pv (.el ps)),(3,.mp [] [])],[],[],[]⟩ _ _ E (kinds_walk g ps) ?_ ?_
 ·intro s a w2 E2 hS hk;show Code.ret.wp _ _ a w2;refine wp_ret ?_;have hhrs:seqO (z70 Tryz.prog) Tryz.f127.results.toList=some [.tmp 2]:=by kernel_rfl
  obtain⟨v,hrun,v1,E4,hv,hm4,hr4,hl4⟩:=fin_of (F:=kindF) rfl rfl hhrs (os:=[]) (os':=[]) (ds:=[]) rfl hS hk;exact⟨hS.defers,v,hrun,v1,E4,hv,hm4,hr4,hl4⟩
 ·have hnt:Tryz.f127.ntmps=47:=rfl;show Sim _ _ ((Act.put ⟨#[u]++Array.replicate (Tryz.f127.ntmps - #[u].size) undef,[]⟩ (some 2) (.map none)).put (some 3) (.map (some w.heap.size))) _ _;have h2:=hS1.act (a2:=Act.put ⟨#[u]++Array.replicate (Tryz.f127.ntmps - #[u].size) undef,[]⟩ (some 2) (.map none)) (by rw[hnt];simp[Act.put];rfl) rfl (fun k x hx=>by
   have hx:([TV.pv (.el ps)]:List TV)[k]?=some x:=by rw[←hx];cases k<;>rfl
   cases k with
   |zero=>
    cases hx;have:=(hS1.tmp 0 _ rfl).2;simpa [Act.put,Array.getD]using this
   |succ k=>simp at hx)
  have h3:=h2.setT (k:=3) (by show 3<47;decide) (x:=.mp [] []) (v:=.map (some w.heap.size)) (.mp [] [] w.heap.size #[] 0 (fun _=>undef) hnew rfl rfl (by simp) (by simp));have he:((startE [.pv (.el ps)] []).fs.setT 3 (.mp [] []))=(⟨[(0,.pv (.el ps)),(3,.mp [] [])],[],[],[]⟩:ES).fs:=by
   refine FS.ext' (fun k=> ?_) (fun k=>rfl) (fun k=>rfl) (fun k=>rfl);show setF (lk [(0,TV.pv (.el ps))]) 3 _ k=lk [(0,_),(3,_)] k;rw[←lk_sv];rfl
  rw[he]at h3;exact h3
 ·show(Act.put _ (some 3) _).tmps.getD 3 undef=_;simp[Act.put,Array.getD]
def wkP(c:Cls)(h:Chg)(i:Nat)(b:Bool)(x o:PV):List PV:=
 [.v (.string (str c.n)),.sl 4 (flR c.fs),.v (.int .i64 h.k),.v (.string (str h.f)),.v (.string (str h.n)),.v (.string (str h.m)),.v (.int .i64 h.t.k),.v (.int .i64 h.t.o),.v (.string (str h.x)),.v (.string (str h.o)),
  .v (.int .i64 (i:Int)),.v (.bool b),x,o]
def wkC(c:Cls)(h:Chg):List PV:=wkP c h (atV c.fs h.f) (hasV c.fs h.f) (tlT c h.t (tellV c h.x h.t)) (tlT c h.t (tellV c h.o h.t))
theorem fieldT_eq(fs:List Fld)(s:zB):fieldT fs s=.tuple [I (atV fs s:Int),B (hasV fs s)]:=by
 unfold fieldT atV hasV;by_cases h:fieldAt fs s<0
 ·rw[if_pos h,decide_eq_true h];have:(fieldAt fs s).toNat=0:=by omega
  rw[this];rfl
 ·rw[if_neg h,decide_eq_false h];have:((fieldAt fs s).toNat:Int)=fieldAt fs s:=by omega
  rw[this];rfl
theorem wkFree_ok(g:Sh.Glob)(c:Cls)(h:Chg)(i:Nat)(b:Bool)(x o:PV)(s t:zB)(hl:c.fs.length≤4611686018427387904):zC g 239 [.pv (.el (wkP c h i b x o)),S (str s),S (str t)] [] (B (freeV c.fs s t)) []:=by
 have HF:=field_ok g c s hl;rw[fieldT_eq]at HF;have hv:freeV c.fs s t=(!hasV c.fs s||(s==t)):=by unfold freeV hasV;simp
 rw[hv];generalize hasV c.fs s=q at*;generalize atV c.fs s=j at*;refine z10 tf_6 ?_;unfold clT wkP B at*;cases q
 ·simp only[vW,seval];refine z8 HF ?_;rfl
 ·simp only[vW,seval];exact z14 HF
theorem tlT_ne(c:Cls)(t:Ty)(x:Tl):∃p,tlT c t x=p∧fnilK true (some (.pv p))=some (.pv (.v (.bool x.is)),.no):=by
 cases x<;>exact⟨_,rfl,rfl⟩
def mayF(k:Int):Nat:=if k=1 then 187 else if k=2 then 190 else if k=3 then 193 else if k=4 then 196 else if k=5 then 199 else 202
def fldF(k:Int):Nat:=if k=1 then 188 else if k=2 then 191 else if k=3 then 194 else if k=4 then 197 else if k=5 then 200 else 203
def valF(k:Int):Nat:=if k=1 then 189 else if k=2 then 192 else if k=3 then 195 else if k=4 then 198 else if k=5 then 201 else 195
theorem may_ok(g:Sh.Glob)(c:Cls)(h:Chg)(hk:h.k=1∨h.k=2∨h.k=3∨h.k=4∨h.k=5∨h.k=6)(hl:c.fs.length≤4611686018427387904):zC g (mayF h.k) [.pv (.el (wkC c h))] [] (B (mayV c h)) []:=by
 have HF:=fun s t=>wkFree_ok g c h (atV c.fs h.f) (hasV c.fs h.f) (tlT c h.t (tellV c h.x h.t)) (tlT c h.t (tellV c h.o h.t)) s t hl;have e0:=bS [];have hidx:hasV c.fs h.f=true→∃f,c.fs[atV c.fs h.f]?=some f∧c.fs.getD (atV c.fs h.f) fld0=f:=by
  intro hh;unfold hasV at hh;have h0:¬fieldAt c.fs h.f<0:=by simpa using hh
  obtain⟨f,hf,_⟩:=z135 (fun f:Fld=>f.n==h.f) c.fs (atV c.fs h.f) (by unfold atV fieldAt at*;omega);exact⟨f,hf,by rw[List.getD_eq_getElem?_getD,hf];rfl⟩
 unfold wkC;obtain⟨px,hpx,nx⟩:=tlT_ne c h.t (tellV c h.x h.t);obtain⟨po,hpo,no⟩:=tlT_ne c h.t (tellV c h.o h.t);rw[hpx,hpo]at HF ⊢;unfold mayV mayF;generalize(tellV c h.x h.t).is=bx at*;generalize(tellV c h.o h.t).is=bo at*;generalize atV c.fs h.f=i at*;generalize hasV c.fs h.f=hb at*;clear hpx hpo;obtain⟨k,f,n,m,t,x,o⟩:=h;simp only[]at*;rcases hk with rfl|rfl|rfl|rfl|rfl|rfl
 ·rw[if_pos rfl,if_pos rfl];refine z10 tf_9 ?_;have HF:=HF n [];unfold wkP B at*;by_cases h8:(c.fs.length:Int)<8
  ·have h8':c.fs.length<8:=by omega
   rw[decide_eq_true h8',Bool.true_and];simp only[vW,seval,h8,e0,clV];refine z7 HF ?_;cases freeV c.fs n []
   ·simp only[vW,seval]
   ·simp only[vW,seval,nx]
  ·have h8':¬c.fs.length<8:=by omega
   rw[decide_eq_false h8'];simp only[vW,seval,h8,clV]
 ·rw[if_neg (by decide),if_pos rfl,if_neg (by decide),if_pos rfl];refine z10 tf_10 ?_;unfold wkP B at*;simp only[vW,seval]
 ·rw[if_neg (by decide),if_neg (by decide),if_pos rfl,if_neg (by decide),if_neg (by decide),if_pos rfl];refine z10 tf_12 ?_;have HF:=HF n [];unfold wkP B at*;cases hb
  ·simp only[vW,seval]
  ·simp only[vW,seval,e0];exact z14 HF
 ·rw[if_neg (by decide),if_neg (by decide),if_neg (by decide),if_pos rfl,if_neg (by decide),if_neg (by decide),if_neg (by decide),if_pos rfl];refine z10 tf_14 ?_;unfold wkP B at*;cases hb
  ·simp only[vW,seval]
  ·simp only[vW,seval,nx]
 ·rw[if_neg (by decide),if_neg (by decide),if_neg (by decide),if_neg (by decide),if_pos rfl,if_neg (by decide),if_neg (by decide),if_neg (by decide),if_neg (by decide),if_pos rfl];refine z10 tf_13 ?_;have HF1:=HF n f;have HF2:=HF m f;unfold wkP B at*;cases hb
  ·simp only[vW,seval]
  by_cases h8:(8:Int)≤(c.fs.length:Int)
  ·have h8':¬c.fs.length<8:=by omega
   rw[decide_eq_false h8'];simp only[vW,seval,h8,clV]
  ·have h8':c.fs.length<8:=by omega
   rw[decide_eq_true h8'];cases hnm:(n==m)
   ·simp only[vW,seval,h8,hnm,clV];refine z7 HF1 ?_;cases freeV c.fs n f
    ·simp only[vW,seval]
    simp only[vW,seval];refine z7 HF2 ?_;cases freeV c.fs m f
    ·simp only[vW,seval]
    simp only[vW,seval,nx];cases bx
    ·simp only[vW,seval]
    ·simp only[vW,seval,no]
   ·simp only[vW,seval,h8,hnm,clV]
 ·rw[if_neg (by decide),if_neg (by decide),if_neg (by decide),if_neg (by decide),if_neg (by decide),if_neg (by decide),if_neg (by decide),if_neg (by decide),if_neg (by decide),if_neg (by decide)];refine z10 tf_11 ?_;unfold wkP B at*;cases hb
  ·simp only[vW,seval]
  ·obtain⟨fd,ef,eg⟩:=hidx rfl;rw[eg];simp only[vW,seval,ef,clV]
end Go.Proofs.YtcpaleaajdilgaaGreatDoor
end

section
namespace Go.Sh
open Go Go.RowKit
theorem start_noX{w:World}{E:Env}{N:Nat}:∀d b,¬(start w E [] N).X d b:=fun d b hx=>by
 rcases hx with⟨cs,h1,_⟩|⟨q,cap,h1,_⟩<;>grind [objB,objR]
theorem z61{w:World}{E:Env}{N:Nat}:∀d,¬(start w E [] N).old d:=fun d h=>by have h1:=h.1;have h2:d<1000+0:=h.2;omega
theorem z150{e W n d:Nat}{q:Nat×Nat×Nat}(h:objR [.row e W n] d=some q):d=1000∧q=(e,W,n):=by
 grind [objR]
theorem objB_one{cs:List TV}{d:Nat}{c:List TV}(h:objB [.box cs] d=some c):d=1000∧c=cs:=by
 grind [objB]
theorem objB_row{e W n d:Nat}:objB [.row e W n] d=none:=by
 grind [objB]
theorem objR_box{cs:List TV}{d:Nat}:objR [.box cs] d=none:=by
 grind [objR]
theorem low_below{X:Nat→Nat→Prop}{w w':World}(h:Below w.heap.size w w'):Low X w w':=⟨h.os,h.tape,h.output,h.size,fun k hk _=>h.block k hk⟩
theorem own_of{P:Program}{g:Glob}{f:Nat}{xs:List TV}{e W:Nat}{es:List (List PV)}(hW:0<W)(hb:hasBody P f)
  (h:∀(w:World) (E:Env) (us:List Value),g.G w→xs.length=us.length→(∀(j:Nat) x v,xs[j]?=some x→us[j]?=some v→RelT w E (objR []) x v)→
   ∃(news:List Value) (F:Nat→Nat→Value),News w E.K W es news F∧Calls P f us.toArray w fun o w'=>∃v',o=.returned v'∧w'.ownsRow w.heap.size e W v' es.length news∧Below w.heap.size w w'):
  SCalls P g f xs [] (.own 1000 W es) [.row e W es.length]:=by
 refine⟨hb,fun w E us hG hm hX hl hr=> ?_⟩;obtain⟨news,F,hn,hc⟩:=h w E us hG hl hr;refine hc.mono ?_;rintro o w' ⟨v',rfl,hown,hbel⟩;have hk0:∀b o u,E.K b o→w.cell? ⟨b,o,none⟩=some u→w'.cell? ⟨b,o,none⟩=some u:=fun b o u h1 h2=>(hbel.cell (z72 h2)).trans h2;obtain⟨hlen,hown⟩:=hown;rcases hown with⟨rfl,h0⟩|⟨k,cap,cur,rfl,hk,hcur,hle,hmax,hsz,htake⟩
 ·have hes:es=[]:=List.eq_nil_of_length_eq_zero h0;subst hes;refine⟨_,{ E with γ:=fun j=>if j=1000 then none else E.γ j },rfl,⟨fun d cs hd=>(by grind [objB_row]),fun d e' W' n hd=> ?_,fun d d' cs cs' hd=>(by grind [objB_row]),fun d d' cs q k cap hd=>(by grind [objB_row]),fun d d' q q' k cap cap' h1 h2 h3=> ?_,fun k o ho=>Nat.lt_of_lt_of_le (hm.lt k o ho) hbel.size,low_below hbel,fun k o u h1 h2=>⟨h1,hk0 k o u h1 h2⟩,fun k o h1=> .inl h1,⟨fun d hd=>absurd hd (z61 d),fun d hd=>absurd hd (z61 d),fun d e W n hd=>absurd hd (z61 d)⟩⟩,?_,⟨fun d h1 h2=>absurd h2 (by omega),fun d h1 h2=>absurd h2 (by omega),fun d e W n hd=>by simp[objR]at hd⟩⟩
  ·obtain⟨rfl,hq⟩:=z150 hd
   grind
  ·obtain⟨rfl,_⟩:=z150 h1;simp at h3
  ·refine .own 1000 W [] _ (.sl W [] 0 0 0 none (fun _ _=>undef) (by simp) (by simp) (Nat.zero_le _) (by simp) (by simp) (by simp)) (fun e' W' n hd=> ?_);obtain⟨_,hq⟩:=z150 hd;cases hq;exact⟨Nat.le_refl _,fun _=>⟨rfl,by simp[hdr]⟩⟩
 ·have hcell:∀(j:Nat) u,news[j]?=some u→w'.cell? ⟨k,j,none⟩=some u:=fun j u hj=>by
   have hj':j<es.length*W:=by grind
   have:=World.ownsRow.cellAt (w:=w') (base:=w.heap.size) (e:=e) (size:=W) (g:=k) (n:=es.length) (cap:=cap) (xs:=news) ⟨hlen,.inr ⟨k,cap,cur,rfl,hk,hcur,hle,hmax,hsz,htake⟩⟩ j hj'
   grind
  let K':Nat→Nat→Prop:=fun b o=>E.K b o∨(b=k∧o<es.length*W)
  have hkk:∀b o u,E.K b o→w.cell? ⟨b,o,none⟩=some u→K' b o∧w'.cell? ⟨b,o,none⟩=some u:=fun b o u h1 h2=>⟨.inl h1,hk0 b o u h1 h2⟩
  have hklt:k<w'.heap.size:=(gA hcur).1;refine⟨_,{ E with K:=K',γ:=fun j=>if j=1000 then some (k,cap)else E.γ j },rfl,⟨fun d cs hd=>(by grind [objB_row]),fun d e' W' n hd=> ?_,fun d d' cs cs' hd=>(by grind [objB_row]),fun d d' cs q k cap hd=>(by grind [objB_row]),fun d d' q q' k cap cap' h1 h2 h3 _=> ?_,fun b o ho=> ?_,low_below hbel,fun b o u h1 h2=>⟨.inl h1,hk0 b o u h1 h2⟩,fun b o h1=> ?_,⟨fun d hd=>absurd hd (z61 d),fun d hd=>absurd hd (z61 d),fun d e W n hd=>absurd hd (z61 d)⟩⟩,?_,⟨fun d h1 h2=>absurd h2 (by grind),fun d h1 h2=>absurd h2 (by grind),fun d e W n hd=>by simp[objR]at hd⟩⟩
  ·obtain⟨rfl,hq⟩:=z150 hd;cases hq;refine .inr ⟨k,cap,by simp,.inl hk,⟨⟨cur,hcur,hsz⟩,hle,hmax,fun o ho=> ?_⟩⟩;rcases ho with ho|⟨_,ho⟩
   ·exact absurd (hm.lt k o ho) (by omega)
   ·exact ho
  ·obtain⟨rfl,_⟩:=z150 h1
   grind [z150]
  ·rcases ho with ho|⟨rfl,_⟩
   ·exact Nat.lt_of_lt_of_le (hm.lt b o ho) hbel.size
   ·exact hklt
  ·rcases h1 with h1|⟨rfl,_⟩
   ·exact .inl h1
   ·exact .inr (.inl hk)
  ·refine .own 1000 W es _ (.sl W es k 0 cap _ F (fun _=>rfl) hle hmax hn.len (fun i j cs c h1 h2=> ?_) (fun i j cs c h1 h2=> ?_)) (fun e' W' n hd=> ?_)
   ·obtain⟨n1,n2,_⟩:=hn.at_ i j cs c h1 h2
    grind
   ·exact(hn.at_ i j cs c h1 h2).2.2.mono hkk
   ·obtain⟨_,hq⟩:=z150 hd;cases hq;exact⟨Nat.le_refl _,fun _=>⟨rfl,by simp[hdr]⟩⟩
def PV.flat:PV→Bool
 | .v _=>true
 | .sl _ []=>true
 |_=>false
theorem flat_any{w:World}{K K':Nat→Nat→Prop}{p:PV}{v:Value}(hp:p.flat=true)(h:RelV w K p v):RelV w K' p v:=by
 cases h with
 |v=>exact .v _
 |sl W es b off cap p f hp' hcap hmax hW hc hs=>
  cases es with
  |nil=>exact .sl W [] b off cap p f hp' hcap hmax hW (by simp) (by simp)
  |cons x l=>simp[PV.flat]at hp
 |_=>simp[PV.flat]at hp
theorem SCalls.boxed{P:Program}{g:Glob}{f:Nat}{xs:List TV}{e W:Nat}{es:List (List PV)}(h:SCalls P g f xs [] (.own 1000 W es) [.row e W es.length])(hne:es≠[])(hfl:∀cs∈es,cs.length=W∧∀c∈cs,c.flat=true):
  SCalls P g f xs [] (.bs 1000 0 es.length es.length) [.box (es.flatten.map TV.pv)]:=by
 refine⟨h.1,fun w E us hG hm hX hl hr=>(h.2 w E us hG hm hX hl hr).mono ?_⟩;rintro o w' ⟨v,E',rfl,hM,hrel,hleft⟩;have hq:objR [.row e W es.length] 1000=some (e,W,es.length):=by simp[objR]
 cases hrel with
 |own _ _ _ _ hv hown=>
 obtain⟨_,hval⟩:=hown e W es.length hq;obtain⟨_,rfl⟩:=hval rfl;have hpos:0<es.length:=List.length_pos_iff.2 hne;rcases hM.row 1000 e W es.length hq with⟨_,h0⟩|⟨k,cap,hg,hk,hrow⟩
 ·omega
 have hk:w.heap.size≤k:=by
  rcases hk with hk|hk
  ·exact hk
  ·exact absurd hk (start_noX _ _)
 rw[hg]at hv ⊢;obtain⟨cur,hcur,hsz⟩:=hrow.cells;obtain⟨b,off,cap',p,F,he,hp,_,_,hWs,hcs⟩:=z50 hv;have hpe:=hp hne;subst hpe;obtain⟨⟨rfl,rfl,_⟩,_,rfl⟩:=he;have hno:∀d,¬(start w E [] 0).old d:=z61;have hcl:cur.toList.length=cap*W:=by rw[Array.length_toList];exact hsz
 have htk:(cur.toList.take (es.length*W)).length=es.length*W:=by rw[List.length_take,hcl];exact Nat.min_eq_left (Nat.mul_le_mul_right W hrow.le)
 refine⟨_,{ E' with K:=fun b o=>E'.K b o∧b≠k,β:=fun j=>if j=1000 then k else E'.β j },rfl,⟨fun d cs hd=> ?_,fun d e' W' n hd=>(by rw[objR_box]at hd;cases hd),fun d d' cs cs' h1 h2 _=> ?_,fun d d' cs q k cap _ h2=>(by rw[objR_box]at h2;cases h2),fun d d' q q' k cap cap' h1=>(by rw[objR_box]at h1;cases h1),fun b o ho=>hM.lt b o ho.1,hM.low,fun b o u h1 h2=> ?_,fun b o h1=>hM.knew b o h1.1,⟨fun d hd=>absurd hd (hno d),fun d hd=>absurd hd (hno d),fun d e W n hd=>absurd hd (hno d)⟩⟩,?_,⟨fun d h1 h2=>absurd h2 (by simp;omega),fun d h1 h2=>absurd h2 (by simp;omega),fun d e W n hd=>by simp[objR]at hd⟩⟩
 ·obtain⟨rfl,rfl⟩:=objB_one hd;refine⟨⟨(gA hcur).1,⟨_,_,_,hcur⟩,fun o=> ?_,fun j c hj=> ?_,fun o ho=>ho.2 rfl⟩,.inl hk⟩
  ·exact World.ownsRow.frozenAt (w:=w') (base:=0) (e:=e) (size:=W) (g:=k) (n:=es.length) (cap:=cap) (xs:=cur.toList.take (es.length*W)) ⟨htk,.inr ⟨k,cap,cur,rfl,Nat.zero_le _,hcur,hrow.le,hrow.max,hsz,rfl⟩⟩ o
  ·rw[List.getElem?_map]at hj;obtain⟨p,hp,rfl⟩:=gO hj;obtain⟨i,q,cs,h1,h2,rfl⟩:=flat_at (fun cs h=>(hfl cs h).1) hp;obtain⟨⟨_,c2,c3⟩,c4⟩:=hcs i q cs p h1 h2;rw[Nat.zero_add]at c2;exact⟨_,c2,c3,.pv (flat_any ((hfl cs (gM h1)).2 p (gM h2)) c4)⟩
 ·obtain⟨rfl,_⟩:=objB_one h1;obtain⟨rfl,_⟩:=objB_one h2;rfl
 ·obtain⟨h3,h4⟩:=hM.keep b o u h1 h2;refine⟨⟨h3,fun hb=> ?_⟩,h4⟩;have:b<w.heap.size:=z72 h2;omega
 ·have:(⟨(if(1000:Nat)=1000 then k else E'.β 1000),0,none⟩:Addr)=⟨k,0,none⟩:=by simp
  exact .bs (E:={ E' with K:=fun b o=>E'.K b o∧b≠k,β:=fun j=>if j=1000 then k else E'.β j }) 1000 0 es.length es.length cap (Nat.le_refl _) hrow.le hrow.max
end Go.Sh
end

section
namespace Go.Proofs.YtcpaleaajdilgaaGreatDoor
open Go Go.RowKit Go.Mor Go.Sh
section
open Go.Lib
theorem infoOf{P:Program}{t:TypeId}{z:Value}{n b:Nat}(h:(P.info? t).map (fun i=>(i.zero,i.size,i.bytes))=some (some z,n,b)):∃i,P.info? t=some i∧i.zero=some z∧i.size=n∧i.bytes=b:=by
 obtain⟨i,h1,h2⟩:=gO h;simp only[Prod.mk.injEq]at h2;exact⟨i,h1,h2.1,h2.2.1,h2.2.2⟩
theorem infF:(Tryz.prog.info? 55).map (fun i=>(i.zero,i.size,i.bytes))=some (some (.agg #[.string ⟨#[]⟩,.int .i64 0,.int .i64 0,.bool false]),4,40):=by kernel_rfl
theorem infV:(Tryz.prog.info? 37).map (fun i=>(i.zero,i.size,i.bytes))=some (some (.agg #[.int .i64 0,.int .i64 0,.string ⟨#[]⟩,.slice none 0 0]),4,56):=by kernel_rfl
theorem clone_any(ad:Addr)(n c:Nat)(news:List Value)(w:World)(hl:news.length=n*4)(hn:n≤maxLen)(hbig:n*40≤140737488355328)(hc:∀j u,news[j]?=some u→w.cell? (ad.add j)=some u)(h1:∀u∈news,u.oneCell'=true):
  Calls Tryz.prog 240 #[.slice (some ad) n c] w fun e w'=>∃v',e=.returned v'∧w'.ownsRow w.heap.size 55 4 v' n news∧Below w.heap.size w w':=by
 have mixed:=hmix;obtain⟨i0,hi,hz0,hz1,hz2⟩:=infoOf infF;have t22:=Tryz.underlying27;have q22:∀(w:World) (a:Option Addr) (n c n' c':Nat),(binOp .eql 27 (.slice a n c) (.slice none n' c')).run Tryz.prog w=.ok (.bool a.isNone) w:=fun w a n c n' c'=>Lib.run_eql_slice_nil w _ _ a n c n' c' t22;have A:Aside (∀j u,news[j]?=some u→w.cell? (ad.add j)=some u):=hc;clear hc
 go_enter Tryz.func240,Tryz.ntmps240
 go_wp2_with (at_builtin;refine wpList_append_own _ rfl _ _ 27 rfl w.heap.size 55 i0 _ 4 40 t22 hi hz0 hz1 hz2 rfl (by decide) _ _ _ rfl (World.ownsRow_made w #[] 0 (Nat.le_refl _) (Nat.zero_le _) (by simp)) ad n c news rfl ?qc1 ?qc2 ?qc3 ?qc4 ?qc5 ?qc6 ?_)
 case qc1=>exact hl
 case qc2=>
  intro j u hj;exact Lib.cell?_alloc_some _ (A.out j u hj)
 case qc3=>exact h1
 case qc4=>rw[Nat.zero_add];exact hn
 case qc5=>rw[Nat.zero_add];exact hbig
 case qc6=>simp
 intro v' w1 hown hgrow hnil
 go_wp2
 go_ret
 refine⟨v',rfl,by simpa using hown,?_⟩;exact((Below.refl _ w).alloc (Nat.le_refl _) _).grown hgrow (by simp) (by intro k hk;simp[Value.ownBlock]at hk;omega)
theorem clone_nil(n c:Nat)(w:World):Calls Tryz.prog 240 #[.slice none n c] w fun e w'=>e=.returned (.slice none 0 0)∧w'=w:=by
 have mixed:=hmix;have t22:=Tryz.underlying27;have q22:∀(w:World) (a:Option Addr) (n c n' c':Nat),(binOp .eql 27 (.slice a n c) (.slice none n' c')).run Tryz.prog w=.ok (.bool a.isNone) w:=fun w a n c n' c'=>Lib.run_eql_slice_nil w _ _ a n c n' c' t22
 go_enter Tryz.func240,Tryz.ntmps240
 go_wp2
 go_ret
 exact⟨rfl,rfl⟩
theorem clone_ok(g:Sh.Glob)(l:List Fld)(hm:l.length≤maxLen)(hbig:l.length*40≤140737488355328):zC g 240 [.pv (.sl 4 (flR l))] [] (.own 1000 4 (flR l)) [.row 55 4 (flR l).length]:=by
 refine own_of (by decide) (z56 (by kernel_rfl)) fun w E us hG hl hr=> ?_;obtain⟨u,rfl⟩:∃u,us=[u]:=by
  match us,hl with
  |[u],_=>exact⟨u,rfl⟩
 have hu:=hr 0 _ u rfl rfl;cases hu with
 |pv hu=>
 obtain⟨news,F,h1,h2,h3,p,cap,rfl,h4⟩:=news_of (by decide) hu;refine⟨news,F,h1,?_⟩;cases p with
 |none=>
  have he:flR l=[]:=by
   rcases h4 with h4|⟨ad,h4,_⟩
   ·exact h4
   ·cases h4
  have hn0:news=[]:=List.eq_nil_of_length_eq_zero (by rw[h2,he];rfl);refine(clone_nil _ _ w).mono ?_;rintro e w' ⟨rfl,rfl⟩;rw[hn0,he];exact⟨_,rfl,World.ownsRow_nil _ _ _ _,.refl _ _⟩
 |some ad=>
  refine clone_any ad _ cap news w h2 (by rw[flLen];exact hm) (by rw[flLen];exact hbig) ?_ h3;rcases h4 with h4|⟨ad',h4,h5⟩
  ·intro j u hj;have hn0:news=[]:=List.eq_nil_of_length_eq_zero (by rw[h2,h4];rfl);rw[hn0]at hj;simp at hj
  ·cases h4;exact h5
theorem growF_any(n:Nat)(w:World)(hn:0<n)(hbig:n*40≤140737488355328)(h63:n≤4611686018427387904):
  Calls Tryz.prog 280 #[.slice none 0 0,.int .i64 n] w fun e w'=>∃v',e=.returned v'∧w'.ownsRow w.heap.size 55 4 v' 0 []∧Below w.heap.size w w':=by
 have mixed:=hmix;obtain⟨i0,hi,hz0,hz1,hz2⟩:=infoOf infF;have t22:=Tryz.underlying27;have t3:=Tryz.underlying3;have q1:¬((n:Int)<0):=by omega
 have q2:RowKit.wrap64 ((0:Int) - 0)=0:=by unfold RowKit.wrap64;omega
 have q3:RowKit.wrap64 ((n:Int) - 0)=(n:Int):=by unfold RowKit.wrap64;omega
 have q4:(n:Int)>0:=by omega
 have hrz:∀ty,(Builtin.append_ #[27,3] ty #[.slice none 0 0,.int .i64 (n:Int)]).run Tryz.prog w=
   .ok (.slice (some ⟨w.heap.size,0,none⟩) n (grownCap w n 0 55)) (w.drew.alloc (.cells ((#[]:Array Value)++Builtin.zeroCells (.agg #[.string ⟨#[]⟩,.int .i64 0,.int .i64 0,.bool false]:Value).cells n++Builtin.zeroCells (.agg #[.string ⟨#[]⟩,.int .i64 0,.int .i64 0,.bool false]:Value).cells (grownCap w n 0 55-n)) 55)):=fun ty=>by
  have h:=Lib.run_append_grow_zeros w 27 3 ty 55 i0 _ .i64 .i64 t22 t3 hi hz0 none 0 0 [] (run_firstCells_none w.drew i0.size 0 0 0) n hn (by omega) (by omega) (by omega) (by rw[hz2];omega) (by rw[hz2,Nat.zero_add];exact growslice_fits (by omega) (by omega));rw[Nat.zero_add]at h;exact h
 have hGn:n≤grownCap w n 0 55:=by have:=grownCap_ge w n 0 55;omega
 obtain⟨G,hG⟩:∃G,G=grownCap w n 0 55:=⟨_,rfl⟩
 rw[←hG]at hrz hGn;have hG63:G≤maxLen:=by
  have:=grownCap_le_maxLen w n 0 55 (by unfold maxLen;omega);rw[←hG]at this;exact this
 have hG64:G≤9223372036854775807:=hG63;clear hG
 go_enter Tryz.func280,Tryz.ntmps280
 go_wp2_with (at_builtin;refine Lib.wpList_append_run _ rfl _ _ _ _ rfl _ _ rfl rfl _ _ (hrz _) ?_)
 all_goals(go_ret;refine⟨_,rfl,⟨rfl,.inr ⟨w.heap.size,G,_,rfl,Nat.le_refl _,heap_alloc_new w.drew _,Nat.zero_le _,hG63,?_,by simp⟩⟩,((Below.refl _ w).drew).alloc (by simp) _⟩)
 all_goals(simp[Builtin.zeroCells,Value.cells];omega)
theorem growF_zero(w:World):Calls Tryz.prog 280 #[.slice none 0 0,.int .i64 0] w fun e w'=>∃v',e=.returned v'∧w'.ownsRow w.heap.size 55 4 v' 0 []∧Below w.heap.size w w':=by
 have mixed:=hmix;have t22:=Tryz.underlying27;have q1:¬((0:Int)<0):=by omega
 have q2:RowKit.wrap64 ((0:Int) - 0)=0:=by unfold RowKit.wrap64;omega
 have q4:¬(0:Int)>0:=by omega
 go_enter Tryz.func280,Tryz.ntmps280
 go_wp2
 go_ret
 exact⟨_,rfl,World.ownsRow_nil _ _ _ _,.refl _ _⟩
theorem growF_ok(g:Sh.Glob)(n:Nat)(hbig:n*40≤140737488355328)(h63:n≤4611686018427387904):zC g 280 [.pv (.v (.slice none 0 0)),I (n:Int)] [] (.own 1000 4 []) [.row 55 4 0]:=by
 refine own_of (es:=[]) (by decide) (z56 (by kernel_rfl)) fun w E us hG hl hr=> ?_;obtain⟨u,u',rfl⟩:∃u u',us=[u,u']:=by
  match us,hl with
  |[u,u'],_=>exact⟨u,u',rfl⟩
 obtain rfl:=val_rel (hr 0 _ u rfl rfl) rfl;obtain rfl:=rel_I (hr 1 _ u' rfl rfl);refine⟨[],fun _ _=>undef,⟨by simp,by simp⟩,?_⟩;by_cases h:n=0
 ·subst h;exact growF_zero w
 ·exact growF_any n w (by omega) hbig h63
theorem growV_any(n:Nat)(w:World)(hn:0<n)(hbig:n*56≤140737488355328)(h63:n≤4611686018427387904):
  Calls Tryz.prog 281 #[.slice none 0 0,.int .i64 n] w fun e w'=>∃v',e=.returned v'∧w'.ownsRow w.heap.size 37 4 v' 0 []∧Below w.heap.size w w':=by
 have mixed:=hmix;obtain⟨i0,hi,hz0,hz1,hz2⟩:=infoOf infV;have t22:=Tryz.underlying31;have t3:=Tryz.underlying3;have q1:¬((n:Int)<0):=by omega
 have q2:RowKit.wrap64 ((0:Int) - 0)=0:=by unfold RowKit.wrap64;omega
 have q3:RowKit.wrap64 ((n:Int) - 0)=(n:Int):=by unfold RowKit.wrap64;omega
 have q4:(n:Int)>0:=by omega
 have hrz:∀ty,(Builtin.append_ #[31,3] ty #[.slice none 0 0,.int .i64 (n:Int)]).run Tryz.prog w=
   .ok (.slice (some ⟨w.heap.size,0,none⟩) n (grownCap w n 0 37)) (w.drew.alloc (.cells ((#[]:Array Value)++Builtin.zeroCells (.agg #[.int .i64 0,.int .i64 0,.string ⟨#[]⟩,.slice none 0 0]:Value).cells n++Builtin.zeroCells (.agg #[.int .i64 0,.int .i64 0,.string ⟨#[]⟩,.slice none 0 0]:Value).cells (grownCap w n 0 37-n)) 37)):=fun ty=>by
  have h:=Lib.run_append_grow_zeros w 31 3 ty 37 i0 _ .i64 .i64 t22 t3 hi hz0 none 0 0 [] (run_firstCells_none w.drew i0.size 0 0 0) n hn (by omega) (by omega) (by omega) (by rw[hz2];omega) (by rw[hz2,Nat.zero_add];exact growslice_fits (by omega) (by omega));rw[Nat.zero_add]at h;exact h
 have hGn:n≤grownCap w n 0 37:=by have:=grownCap_ge w n 0 37;omega
 obtain⟨G,hG⟩:∃G,G=grownCap w n 0 37:=⟨_,rfl⟩
 rw[←hG]at hrz hGn;have hG63:G≤maxLen:=by
  have:=grownCap_le_maxLen w n 0 37 (by unfold maxLen;omega);rw[←hG]at this;exact this
 have hG64:G≤9223372036854775807:=hG63;clear hG
 go_enter Tryz.func281,Tryz.ntmps281
 go_wp2_with (at_builtin;refine Lib.wpList_append_run _ rfl _ _ _ _ rfl _ _ rfl rfl _ _ (hrz _) ?_)
 all_goals(go_ret;refine⟨_,rfl,⟨rfl,.inr ⟨w.heap.size,G,_,rfl,Nat.le_refl _,heap_alloc_new w.drew _,Nat.zero_le _,hG63,?_,by simp⟩⟩,((Below.refl _ w).drew).alloc (by simp) _⟩)
 all_goals(simp[Builtin.zeroCells,Value.cells];omega)
theorem growV_zero(w:World):Calls Tryz.prog 281 #[.slice none 0 0,.int .i64 0] w fun e w'=>∃v',e=.returned v'∧w'.ownsRow w.heap.size 37 4 v' 0 []∧Below w.heap.size w w':=by
 have mixed:=hmix;have t22:=Tryz.underlying31;have q1:¬((0:Int)<0):=by omega
 have q2:RowKit.wrap64 ((0:Int) - 0)=0:=by unfold RowKit.wrap64;omega
 have q4:¬(0:Int)>0:=by omega
 go_enter Tryz.func281,Tryz.ntmps281
 go_wp2
 go_ret
 exact⟨_,rfl,World.ownsRow_nil _ _ _ _,.refl _ _⟩
theorem growV_ok(g:Sh.Glob)(n:Nat)(hbig:n*56≤140737488355328)(h63:n≤4611686018427387904):zC g 281 [.pv (.v (.slice none 0 0)),I (n:Int)] [] (.own 1000 4 []) [.row 37 4 0]:=by
 refine own_of (es:=[]) (by decide) (z56 (by kernel_rfl)) fun w E us hG hl hr=> ?_;obtain⟨u,u',rfl⟩:∃u u',us=[u,u']:=by
  match us,hl with
  |[u,u'],_=>exact⟨u,u',rfl⟩
 obtain rfl:=val_rel (hr 0 _ u rfl rfl) rfl;obtain rfl:=rel_I (hr 1 _ u' rfl rfl);refine⟨[],fun _ _=>undef,⟨by simp,by simp⟩,?_⟩;by_cases h:n=0
 ·subst h;exact growV_zero w
 ·exact growV_any n w (by omega) hbig h63
end
section
open Go.Sh.Cd1 Go.Sh.Cd7
def slR(ls:List (List (List PV))):List (List PV):=ls.map fun l=>[PV.sl 4 l]
theorem slRGet(ls:List (List (List PV)))(i:Nat):(slR ls)[i]?=(ls[i]?).map fun l=>[PV.sl 4 l]:=by unfold slR;rw[List.getElem?_map]
theorem slRLen(ls:List (List (List PV))):(slR ls).length=ls.length:=by unfold slR;rw[List.length_map]
theorem slV:(type_of% @slRGet)∧(type_of% @slRLen):=⟨@slRGet,@slRLen⟩
def cat(ls:List (List (List PV)))(i:Nat):List (List PV):=(ls.take i).flatten
theorem cat_succ{ls:List (List (List PV))}{i:Nat}{l:List (List PV)}(h:ls[i]?=some l):cat ls (i+1)=cat ls i++l:=by
 unfold cat;rw[List.take_add_one,h];simp
theorem cat_le(ls:List (List (List PV))):∀i,(cat ls i).length≤ls.flatten.length:=by
 intro i;unfold cat
 conv=>rhs;rw[←List.take_append_drop i ls,List.flatten_append,List.length_append]
 omega
theorem cat_all(ls:List (List (List PV))):cat ls ls.length=ls.flatten:=by unfold cat;rw[List.take_length]
theorem concatF_ok(g:Sh.Glob)(ls:List (List (List PV)))(hl:ls.length≤1000)(hf:ls.flatten.length≤1000000):zC g 242 [.pv (.sl 1 (slR ls))] [] (.pv (.sl 4 ls.flatten)) []:=by
 have HG:=growF_ok g ls.flatten.length (by omega) (by omega);have hcat:=cat_le ls;have hall:=cat_all ls;refine startV1 tf_148 ?_;refine v_loop (σ:={i:Nat // i≤ls.length}) (fun i=>⟨[(0,.pv (.sl 1 (slR ls))),(3,I ((cat ls i.1).length:Int)),(9,.pv (.sl 1 (slR ls))),(10,I (ls.length:Int)),(11,I (i.1:Int))],[],[],[]⟩) (fun i=>ls.length-i.1) ⟨0,Nat.zero_le _⟩ ?_ ?_
 ·apply lw_of<;>simp[leL,lk,sv,Nat.beq,I,S,ES.kill,has,drp,nilT,slRLen,cat]
 rintro⟨i,hi⟩;by_cases hlt:i<ls.length
 ·have d1:(i:Int)<(ls.length:Int):=by omega
  obtain⟨l,el⟩:∃l,ls[i]?=some l:=⟨_,gE hlt⟩
  have hc:=cat_succ el;have h1:=hcat (i+1);rw[hc,List.length_append]at h1;have w1:=wS i;have w2:IntKind.i64.wrap (((cat ls i).length:Int)+(l.length:Int))=((cat ls i).length:Int)+(l.length:Int):=wrap64 (by omega) (by omega);have d2:¬((cat ls i).length:Int)+(l.length:Int)<0:=by omega
  simp only[vW,seval,slV,d1,d2,el,w1,w2];refine z13 ⟨i+1,hlt⟩ (by show ls.length-(i+1)<ls.length-i;omega) ?_;simp only[hc,List.length_append,Int.natCast_add];exact lwA
 have d1:¬(i:Int)<(ls.length:Int):=by omega
 obtain rfl:i=ls.length:=by omega
 rw[hall];simp only[vW,seval,slV,d1];refine z7 HG ?_;simp only[vW,seval,slV];refine v_loop (σ:={i:Nat // i≤ls.length}) (fun i=>⟨[(6,.own 2096 4 (cat ls i.1)),(25,.pv (.sl 1 (slR ls))),(26,I (ls.length:Int)),(27,I (i.1:Int))],[],[(2096,(55,4,(cat ls i.1).length))],[]⟩) (fun i=>ls.length-i.1) ⟨0,Nat.zero_le _⟩ ?_ ?_
 ·apply lw_of<;>simp[leL,lk,sv,Nat.beq,I,S,ES.kill,has,drp,nilT,slRLen,cat]
 rintro⟨i,hi⟩;by_cases hlt:i<ls.length
 ·have d1:(i:Int)<(ls.length:Int):=by omega
  obtain⟨l,el⟩:∃l,ls[i]?=some l:=⟨_,gE hlt⟩
  have hc:=cat_succ el;have h1:=hcat (i+1);rw[hc,List.length_append]at h1;have w1:=wS i;simp only[vW,seval,slV,d1,el,w1];refine⟨⟨by omega,by unfold maxLen;omega⟩,z13 ⟨i+1,hlt⟩ (by show ls.length-(i+1)<ls.length-i;omega) ?_⟩;simp only[hc,List.length_append];exact lwA
 have d1:¬(i:Int)<(ls.length:Int):=by omega
 obtain rfl:i=ls.length:=by omega
 rw[hall];simp only[vW,seval,slV,d1]
theorem concatV_ok(g:Sh.Glob)(ls:List (List (List PV)))(hl:ls.length≤1000)(hf:ls.flatten.length≤1000000):zC g 243 [.pv (.sl 1 (slR ls))] [] (.pv (.sl 4 ls.flatten)) []:=by
 have HG:=growV_ok g ls.flatten.length (by omega) (by omega);have hcat:=cat_le ls;have hall:=cat_all ls;refine startV1 tf_149 ?_;refine v_loop (σ:={i:Nat // i≤ls.length}) (fun i=>⟨[(0,.pv (.sl 1 (slR ls))),(3,I ((cat ls i.1).length:Int)),(9,.pv (.sl 1 (slR ls))),(10,I (ls.length:Int)),(11,I (i.1:Int))],[],[],[]⟩) (fun i=>ls.length-i.1) ⟨0,Nat.zero_le _⟩ ?_ ?_
 ·apply lw_of<;>simp[leL,lk,sv,Nat.beq,I,S,ES.kill,has,drp,nilT,slRLen,cat]
 rintro⟨i,hi⟩;by_cases hlt:i<ls.length
 ·have d1:(i:Int)<(ls.length:Int):=by omega
  obtain⟨l,el⟩:∃l,ls[i]?=some l:=⟨_,gE hlt⟩
  have hc:=cat_succ el;have h1:=hcat (i+1);rw[hc,List.length_append]at h1;have w1:=wS i;have w2:IntKind.i64.wrap (((cat ls i).length:Int)+(l.length:Int))=((cat ls i).length:Int)+(l.length:Int):=wrap64 (by omega) (by omega);have d2:¬((cat ls i).length:Int)+(l.length:Int)<0:=by omega
  simp only[vW,seval,slV,d1,d2,el,w1,w2];refine z13 ⟨i+1,hlt⟩ (by show ls.length-(i+1)<ls.length-i;omega) ?_;simp only[hc,List.length_append,Int.natCast_add];exact lwA
 have d1:¬(i:Int)<(ls.length:Int):=by omega
 obtain rfl:i=ls.length:=by omega
 rw[hall];simp only[vW,seval,slV,d1];refine z7 HG ?_;simp only[vW,seval,slV];refine v_loop (σ:={i:Nat // i≤ls.length}) (fun i=>⟨[(6,.own 2096 4 (cat ls i.1)),(25,.pv (.sl 1 (slR ls))),(26,I (ls.length:Int)),(27,I (i.1:Int))],[],[(2096,(37,4,(cat ls i.1).length))],[]⟩) (fun i=>ls.length-i.1) ⟨0,Nat.zero_le _⟩ ?_ ?_
 ·apply lw_of<;>simp[leL,lk,sv,Nat.beq,I,S,ES.kill,has,drp,nilT,slRLen,cat]
 rintro⟨i,hi⟩;by_cases hlt:i<ls.length
 ·have d1:(i:Int)<(ls.length:Int):=by omega
  obtain⟨l,el⟩:∃l,ls[i]?=some l:=⟨_,gE hlt⟩
  have hc:=cat_succ el;have h1:=hcat (i+1);rw[hc,List.length_append]at h1;have w1:=wS i;simp only[vW,seval,slV,d1,el,w1];refine⟨⟨by omega,by unfold maxLen;omega⟩,z13 ⟨i+1,hlt⟩ (by show ls.length-(i+1)<ls.length-i;omega) ?_⟩;simp only[hc,List.length_append];exact lwA
 have d1:¬(i:Int)<(ls.length:Int):=by omega
 obtain rfl:i=ls.length:=by omega
 rw[hall];simp only[vW,seval,slV,d1]
theorem rows_more{l:List V}{i:Nat}{v:V}(h:l[i]?=some v):V.rows (l.take (i+1))=V.rows (l.take i)++[V.row v]:=by rw[List.take_add_one,h];simp[V.rows]
theorem fresh7_n(g:Sh.Glob):∀(n:Nat) (l:List V),SizeOf.sizeOf l≤n→l.length≤1000→(∀v∈l,VFew v)→zC g 241 [.pv (.sl 4 (V.rows l))] [] (.own 1000 4 (V.rows l)) [.row 37 4 l.length]:=by
 intro n
 induction n with
 |zero=>intro l hs;cases l<;>simp at hs
 |succ n ih=>
  intro l hs hl hf;have IH:∀v∈l,zC g 241 [.pv (.sl 4 (V.rows v.l))] [] (.own 1000 4 (V.rows v.l)) [.row 37 4 v.l.length]:=fun v hv=>by
   have h1:=List.sizeOf_lt_of_mem hv;have h2:=hf v hv;refine ih v.l ?_ h2.len (fun y hy=>h2.sub hy);cases v with
   |mk k m s vl=>
    have:SizeOf.sizeOf vl<SizeOf.sizeOf (V.mk k m s vl):=by simp;omega
    simp only[Vl];omega
  refine startV2 tf_44 ?_;refine v_loop (σ:={i:Nat // i≤l.length}) (fun i=>⟨[(3,.own 3000 4 (V.rows (l.take i.1))),(6,.pv (.sl 4 (V.rows l))),(7,I (l.length:Int)),(8,I (i.1:Int))],[],[(3000,(37,4,i.1))],[]⟩) (fun i=>l.length-i.1) ⟨0,Nat.zero_le _⟩ ?_ ?_
  ·refine ES.Lw.trans ?_ (show ES.Lw ⟨[(3,nilT),(6,.pv (.sl 4 (V.rows l))),(7,I (l.length:Int)),(8,I 0)],[],[],[]⟩ _ by exact lwA);refine ES.Lw.trans ?_ (adT_lw (k:=3) (d:=3000) (e:=37) (W:=4) (.inr (by decide)) rfl);exact lw_eq rfl
  rintro⟨i,hi⟩;by_cases hlt:i<l.length
  ·have d1:(i:Int)<(l.length:Int):=by omega
   obtain⟨v,ev⟩:∃v,l[i]?=some v:=⟨_,gE hlt⟩
   have w1:=wS i;have HI:=IH v (gM ev);have hm:=rows_more ev;have hlen:(l.take i).length=i:=by rw[List.length_take];omega
   simp only[vW,seval,d1,ev];refine z7 HI ?_;simp only[vW,seval,hlen,w1];refine⟨⟨by omega,by unfold maxLen;omega⟩,z13 ⟨i+1,hlt⟩ (by show l.length-(i+1)<l.length-i;omega) ?_⟩;simp only[hm];apply lw_of<;>simp[leL,lk,sv,Nat.beq,I,S,ES.kill,has,drp,nilT,row4]
  have d1:¬(i:Int)<(l.length:Int):=by omega
  obtain rfl:i=l.length:=by omega
  rw[List.take_length];simp only[vW,seval,d1]
theorem fresh7_ok(g:Sh.Glob)(l:List V)(hl:l.length≤1000)(hf:∀v∈l,VFew v):zC g 241 [.pv (.sl 4 (V.rows l))] [] (.own 1000 4 (V.rows l)) [.row 37 4 l.length]:=fresh7_n g _ l (Nat.le_refl _) hl hf
def flC(l:List Fld):List PV:=(flR l).flatten
theorem flW(l:List Fld):∀cs∈flR l,cs.length=4:=by
 intro cs h;unfold flR at h;obtain⟨f,_,rfl⟩:=List.mem_map.1 h;rfl
theorem flC_len(l:List Fld):(flC l).length=l.length*4:=by unfold flC;rw[flat_len (flW l),flLen]
theorem flC_at{l:List Fld}{k j:Nat}{f:Fld}{p:PV}(h:l[k]?=some f)(hj:(flR1 f)[j]?=some p):(flC l)[k*4+j]?=some p:=by
 unfold flC;exact flat_fwd (flW l) (by rw[flGet,h];rfl) hj
theorem flC_set{f':Fld}{p:PV}{j:Nat}(hj:j<4):∀{l:List Fld} {k:Nat} {f:Fld},l[k]?=some f→(flR1 f).set j p=flR1 f'→(flC l).set (k*4+j) p=flC (l.set k f')
 |[],k,f,h,_=>by simp at h
 |g::l,0,f,h,he=>by
  obtain rfl:g=f:=by simpa using h
  show(flR1 g++flC l).set (0*4+j) p=flR1 f'++flC l;rw[Nat.zero_mul,Nat.zero_add,List.set_append_left _ _ (by exact hj),he]
 |g::l,k+1,f,h,he=>by
  show(flR1 g++flC l).set ((k+1)*4+j) p=flR1 g++flC (l.set k f');have:(k+1)*4+j=(flR1 g).length+(k*4+j):=by show _=4+_;omega
  rw[this,List.set_append_right _ _ (by omega),Nat.add_sub_cancel_left,flC_set hj (by simpa using h) he]
theorem pvC_set2(y z:PV):∀{xs:List PV} {i:Nat},i+1<xs.length→List.take i (pvC xs)++[TV.pv y,TV.pv z]++List.drop (i+2) (pvC xs)=pvC ((xs.set i y).set (i+1) z)
 |[],i,h=>by simp at h
 |[a],i,h=>by simp at h
 |a::b::l,0,h=>rfl
 |a::b::l,i+1,h=>by
  have:=pvC_set2 y z (xs:=b::l) (i:=i) (by simpa using h);show TV.pv a::(List.take i (pvC (b::l))++[TV.pv y,TV.pv z]++List.drop (i+2) (pvC (b::l)))=TV.pv a::pvC (((b::l).set i y).set (i+1) z);rw[this]
theorem cloneB_ok(g:Sh.Glob)(l:List Fld)(hm:l.length≤1000)(hne:l≠[]):zC g 240 [.pv (.sl 4 (flR l))] [] (.bs 1000 0 l.length l.length) [.box (pvC (flC l))]:=by
 have h:=(clone_ok g l (by unfold maxLen;omega) (by omega)).boxed (fun h=>hne (by unfold flR at h;simpa using h)) (fun cs hcs=>⟨flW l cs hcs,fun c hc=>by
  unfold flR at hcs;obtain⟨f,_,rfl⟩:=List.mem_map.1 hcs;simp only[flR1,List.mem_cons,List.not_mem_nil,or_false]at hc;rcases hc with rfl|rfl|rfl|rfl<;>rfl⟩)
 rw[flLen]at h;exact h
theorem putL_set{α:Type}{l:List α}{i:Nat}{x:α}(h:i<l.length):putL l i [x]=l.set i x:=by unfold putL;rw[List.set_eq_take_append_cons_drop,if_pos h];simp
theorem flR_putL(l:List Fld)(i:Nat)(xs:List Fld):flR (putL l i xs)=(flR l).take i++flR xs++(flR l).drop (i+1):=by unfold flR putL;simp[List.map_take,List.map_drop]
theorem has_at{fs:List Fld}{s:zB}(h:hasV fs s=true):∃f,fs[atV fs s]?=some f∧f.n=s∧fs.getD (atV fs s) fld0=f:=by
 unfold hasV at h;have h0:¬fieldAt fs s<0:=by simpa using h
 obtain⟨f,hf,hn⟩:=z135 (fun f:Fld=>f.n==s) fs (atV fs s) (by unfold atV fieldAt at*;omega);exact⟨f,hf,by simpa using hn,by rw[List.getD_eq_getElem?_getD,hf];rfl⟩
theorem fields_ok(g:Sh.Glob)(c:Cls)(h:Chg)(hk:h.k=1∨h.k=2∨h.k=3∨h.k=4∨h.k=5∨h.k=6)(hl:c.fs.length≤1000)(hh:h.k≠1→hasV c.fs h.f=true):zC g (fldF h.k) [.pv (.el (wkC c h))] [] (.pv (.sl 4 (flR (z39 c h)))) []:=by
 have HC:=clone_ok g c.fs (by unfold maxLen;omega) (by omega);have HK2:=fun ls h1 h2=>concatF_ok g ls h1 h2;have hidx:h.k≠1→∃f,c.fs[atV c.fs h.f]?=some f∧c.fs.getD (atV c.fs h.f) fld0=f:=fun hn=>by
  obtain⟨f,h1,_,h2⟩:=has_at (hh hn);exact⟨f,h1,h2⟩
 have HB:=fun(hne:c.fs≠[])=>cloneB_ok g c.fs hl hne;unfold wkC z39 fldF;generalize tlT c h.t (tellV c h.x h.t)=px at*;generalize tlT c h.t (tellV c h.o h.t)=po at*;generalize hasV c.fs h.f=hb at*;generalize atV c.fs h.f=i at*;obtain⟨k,f,n,m,t,x,o⟩:=h;simp only[]at*;by_cases h1:k=1
 ·subst h1;rw[if_pos rfl,if_pos rfl];refine z118 tf_2 ?_;unfold wkP;simp only[vW,seval];left;refine z7 HC ?_;simp only[vW,seval,clV];refine⟨⟨by omega,by unfold maxLen;omega⟩,?_⟩;simp[flR,flR1]
 obtain⟨fd,ef,eg⟩:=hidx h1;rw[eg];have hi:=(gJ ef).1;have hne:c.fs≠[]:=fun e=>by rw[e]at hi;simp at hi
 have HB:=HB hne;rcases hk with rfl|rfl|rfl|rfl|rfl|rfl
 ·exact absurd rfl h1
 ·rw[if_neg (by decide),if_pos rfl,if_neg (by decide),if_pos rfl];have w1:=wS i;refine z118 tf_4 ?_;unfold wkP;have HD:=HK2 [(flR c.fs).take i,(flR c.fs).drop (i+1)] (by show 2≤1000;decide) (by simp[flLen];omega);simp only[slR,List.map_cons,List.map_nil]at HD;have tl:List.take c.fs.length (flR c.fs)=flR c.fs:=List.take_of_length_le (by rw[flLen];omega);simp only[vW,seval,w1,clV,tl,List.drop_zero];refine⟨⟨by omega,by omega⟩,by omega,?_⟩;refine z8 HD ?_;rw[flR_putL];simp[flR]
 ·rw[if_neg (by decide),if_neg (by decide),if_pos rfl,if_neg (by decide),if_neg (by decide),if_pos rfl];refine z172 hmix tf_15 rfl ?_
  conv in SFunc.code _=>reduce
  unfold wkP;refine z59 hmix ?_;simp only[vW,seval];refine z59 hmix ?_;simp only[vW,seval];refine z8 HB ?_;refine z59 hmix ?_;simp only[vW,seval,clV];refine⟨by omega,by rw[flC_len];omega,?_⟩;rw[pvC_set (by rw[flC_len];omega),flC_set (by decide) ef (f':=⟨n,fd.t,fd.ix⟩) rfl];refine sem_lw (frT_lw (k:=3) (d:=2036) (es:=flR (c.fs.set i ⟨n,fd.t,fd.ix⟩)) (c:=c.fs.length) rfl (flW _) (by show some _=some _;rw[flLen,List.length_set])) (sem_swp hmix ?_);simp only[vW,seval];rw[putL_set hi]
 ·rw[if_neg (by decide),if_neg (by decide),if_neg (by decide),if_pos rfl,if_neg (by decide),if_neg (by decide),if_neg (by decide),if_pos rfl];refine z172 hmix tf_18 rfl ?_
  conv in SFunc.code _=>reduce
  unfold wkP;refine z59 hmix ?_;simp only[vW,seval];refine z59 hmix ?_;simp only[vW,seval];refine z8 HB ?_;refine z59 hmix ?_;have hs1:List.take (i*4+1) (pvC (flC c.fs))++[TV.pv (.v (.int .i64 t.k)),TV.pv (.v (.int .i64 t.o))]++List.drop (i*4+1+2) (pvC (flC c.fs))=pvC (flC (c.fs.set i ⟨fd.n,t,fd.ix⟩)):=by
   rw[pvC_set2 _ _ (by rw[flC_len];omega),flC_set (by decide) ef (f':=⟨fd.n,⟨t.k,fd.t.o⟩,fd.ix⟩) rfl,flC_set (j:=2) (by decide) (f:=⟨fd.n,⟨t.k,fd.t.o⟩,fd.ix⟩) (by simp[hi]) (f':=⟨fd.n,t,fd.ix⟩) rfl,List.set_set]
  simp only[vW,seval,clV,hs1];refine⟨by omega,by rw[flC_len];omega,by omega,by rw[flC_len,List.length_set];omega,?_⟩;rw[pvC_set (by rw[flC_len,List.length_set];omega),flC_set (by decide) (f:=⟨fd.n,t,fd.ix⟩) (by simp[hi]) (f':=⟨fd.n,t,false⟩) rfl,List.set_set];refine sem_lw (frT_lw (k:=3) (d:=2036) (es:=flR (c.fs.set i ⟨fd.n,t,false⟩)) (c:=c.fs.length) rfl (flW _) (by show some _=some _;rw[flLen,List.length_set])) (sem_swp hmix ?_);simp only[vW,seval];rw[putL_set hi]
 ·rw[if_neg (by decide),if_neg (by decide),if_neg (by decide),if_neg (by decide),if_pos rfl,if_neg (by decide),if_neg (by decide),if_neg (by decide),if_neg (by decide),if_pos rfl];have w1:=wS i;refine z118 tf_16 ?_;unfold wkP;have HD:=HK2 [(flR c.fs).take i,flR [⟨n,t,false⟩,⟨m,t,false⟩],(flR c.fs).drop (i+1)] (by show 3≤1000;decide) (by simp[flR];omega);simp only[slR,List.map_cons,List.map_nil,flR,flR1]at HD;have tl:List.take c.fs.length (flR c.fs)=flR c.fs:=List.take_of_length_le (by rw[flLen];omega);simp only[vW,seval,w1,clV,tl,List.drop_zero];refine⟨⟨by omega,by omega⟩,by omega,?_⟩;refine z8 HD ?_;rw[flR_putL];simp[flR,flR1]
 ·rw[if_neg (by decide),if_neg (by decide),if_neg (by decide),if_neg (by decide),if_neg (by decide),if_neg (by decide),if_neg (by decide),if_neg (by decide),if_neg (by decide),if_neg (by decide)];refine z172 hmix tf_7 rfl ?_
  conv in SFunc.code _=>reduce
  unfold wkP;refine z59 hmix ?_;simp only[vW,seval];refine z59 hmix ?_;simp only[vW,seval];refine z8 HB ?_;refine z59 hmix ?_;have hg:(pvC (flC c.fs))[i*4+3]?=some (TV.pv (.v (.bool fd.ix))):=by rw[pvC_get,flC_at ef (j:=3) (p:=.v (.bool fd.ix)) rfl];rfl
  simp only[vW,seval,clV,hg];refine⟨by omega,by omega,by rw[flC_len];omega,?_⟩;rw[pvC_set (by rw[flC_len];omega),flC_set (by decide) ef (f':=⟨fd.n,fd.t, !fd.ix⟩) rfl];refine sem_lw (frT_lw (k:=3) (d:=2036) (es:=flR (c.fs.set i ⟨fd.n,fd.t, !fd.ix⟩)) (c:=c.fs.length) rfl (flW _) (by show some _=some _;rw[flLen,List.length_set])) (sem_swp hmix ?_);simp only[vW,seval];rw[putL_set hi]
def FreshB(g:Sh.Glob)(vals:List V):Prop:=zC g 241 [.pv (.sl 4 (V.rows vals))] [] (.bs 1000 0 vals.length vals.length) [.box (pvC (V.rows vals).flatten)]
theorem rowsW(l:List V):∀cs∈V.rows l,cs.length=4:=by
 intro cs h;rw[z41]at h;obtain⟨f,_,rfl⟩:=List.mem_map.1 h;rw[row4];rfl
theorem freshB_flat(g:Sh.Glob)(l:List V)(hl:l.length≤1000)(hne:l≠[])(hf:∀v∈l,v.l=[]):FreshB g l:=by
 have h0:=fresh7_ok g l hl (fun v hv=>few0 (hf v hv));rw[←z65 l]at h0;have h:=h0.boxed (fun h=>hne (by rw[z41]at h;simpa using h)) (fun cs hcs=>⟨rowsW l cs hcs,fun c hc=>by
  rw[z41]at hcs;obtain⟨f,hfm,rfl⟩:=List.mem_map.1 hcs;rw[row4,hf f hfm]at hc;simp only[List.mem_cons,List.not_mem_nil,or_false]at hc;rcases hc with rfl|rfl|rfl|rfl<;>rfl⟩)
 rw[z65]at h;exact h
theorem row_set{W:Nat}{x:List PV}(hx:x.length=W):∀{X:List (List PV)} {k:Nat},(∀cs∈X,cs.length=W)→k<X.length→List.take (k*W) X.flatten++x++List.drop (k*W+W) X.flatten=(X.set k x).flatten
 |[],k,_,h=>by simp at h
 |y::X,0,hW,_=>by
  have hy:=hW y (List.mem_cons_self ..);rw[List.flatten_cons,List.set_cons_zero,List.flatten_cons,Nat.zero_mul,List.take_zero,List.nil_append,Nat.zero_add,List.drop_append,List.drop_eq_nil_of_le (by omega),hy,Nat.sub_self,List.drop_zero,List.nil_append]
 |y::X,k+1,hW,h=>by
  have hy:=hW y (List.mem_cons_self ..);have ih:=row_set hx (X:=X) (k:=k) (fun cs hc=>hW cs (List.mem_cons_of_mem _ hc)) (by simpa using h);rw[List.flatten_cons,List.set_cons_succ,List.flatten_cons,←ih];have e1:(k+1)*W=W+k*W:=by rw[Nat.add_mul];omega
  rw[e1,List.take_append,List.drop_append,List.take_of_length_le (by omega),List.drop_eq_nil_of_le (by omega),hy];simp[Nat.add_sub_cancel_left,Nat.add_assoc]
theorem vals_set(l:List V)(k:Nat)(v:V)(h:k<l.length):List.take (k*4) (pvC (V.rows l).flatten)++[TV.pv (.v (.int .i64 v.k)),TV.pv (.v (.int .i64 v.n)),TV.pv (.v (.string (str v.s))),TV.pv (.sl 4 (V.rows v.l))]++List.drop (k*4+4) (pvC (V.rows l).flatten)=pvC (V.rows (l.set k v)).flatten:=by
 have hs:V.rows (l.set k v)=(V.rows l).set k (V.row v):=by rw[z41,z41,List.map_set]
 rw[hs,←row_set (x:=V.row v) (by rw[row4];rfl) (rowsW l) (by rw[z65];exact h),row4];unfold pvC;simp[List.map_take,List.map_drop]
theorem tell_ok(m:Nat)(c:Cls)(t:Ty)(x:Tl)(vals:List V)(hx:x.is=true)(hs:∀e,x=.ev e→ESmall e)(hc:ClsOk c)(hf:∀v∈vals,VFew v∧VOk v)(hl:vals.length≤1000):
  (∃f p,tlT c t x=.fn (.func f) [] [p]∧zC (glE m) f [.pv (.sl 4 (V.rows vals)),.pv p] [] (tv (x.val c t vals)) [])∨(∃f p q,tlT c t x=.fn (.func f) [] [p,q]∧zC (glE m) f [.pv (.sl 4 (V.rows vals)),.pv p,.pv q] [] (tv (x.val c t vals)) []):=by
 cases x with
 |no=>cases hx
 |zero=>exact .inl ⟨_,_,rfl,teller1_ok (glE m) t vals⟩
 |ev e=>exact .inr ⟨_,_,_,rfl,teller2_ok m c e vals hc (hs e rfl) hf (by omega)⟩
theorem rows_putL(l:List V)(i:Nat)(xs:List V):V.rows (putL l i xs)=(V.rows l).take i++V.rows xs++(V.rows l).drop (i+1):=by simp only[z41];unfold putL;simp[List.map_take,List.map_drop]
theorem rows_take'(l:List V)(i:Nat):V.rows (l.take i)=(V.rows l).take i:=by simp only[z41,List.map_take]
theorem rows_drop'(l:List V)(i:Nat):V.rows (l.drop i)=(V.rows l).drop i:=by simp only[z41,List.map_drop]
theorem vals_add(m:Nat)(c:Cls)(h:Chg)(vals:List V)(hx:(tellV c h.x h.t).is=true)(hs:∀e,tellV c h.x h.t=.ev e→ESmall e)(hc:ClsOk c)(hf:∀v∈vals,VFew v∧VOk v)(hl:vals.length≤1000):
  zC (glE m) 189 [.pv (.el (wkC c h)),.pv (.sl 4 (V.rows vals))] [] (.pv (.sl 4 (V.rows (vals++[(tellV c h.x h.t).val c h.t vals])))) []:=by
 have HF:=fresh7_ok (glE m) vals hl (fun v hv=>(hf v hv).1);have HT:=tell_ok m c h.t _ vals hx hs hc hf hl;unfold wkC;generalize(tellV c h.x h.t).val c h.t vals=r at*;generalize tlT c h.t (tellV c h.x h.t)=px at*;generalize tlT c h.t (tellV c h.o h.t)=po at*;refine z118 tf_3 ?_;unfold wkP;rcases HT with⟨f,p,rfl,HT⟩|⟨f,p,q,rfl,HT⟩
 ·simp only[vW,seval];left;refine z8 HF ?_;(with_reducible apply z28);exact kv;exact HT;rfl;exact kv;simp only[vW,seval];refine⟨⟨by omega,by unfold maxLen;omega⟩,?_⟩;rw[z100]
 ·simp only[vW,seval];left;refine z8 HF ?_;(with_reducible apply z28);exact kv;exact HT;rfl;exact kv;simp only[vW,seval];refine⟨⟨by omega,by unfold maxLen;omega⟩,?_⟩;rw[z100]
theorem vals_keep(g:Sh.Glob)(c:Cls)(h:Chg)(vals:List V)(hf:∀v∈vals,VFew v∧VOk v)(hl:vals.length≤1000):
  zC g 195 [.pv (.el (wkC c h)),.pv (.sl 4 (V.rows vals))] [] (.pv (.sl 4 (V.rows vals))) []:=by
 have HF:=fresh7_ok g vals hl (fun v hv=>(hf v hv).1);refine startV1 tf_8 ?_;exact z14 HF
theorem vals_drop(g:Sh.Glob)(c:Cls)(h:Chg)(vals:List V)(hf:∀v∈vals,VFew v∧VOk v)(hl:vals.length≤1000)(hi:atV c.fs h.f<vals.length):
  zC g 192 [.pv (.el (wkC c h)),.pv (.sl 4 (V.rows vals))] [] (.pv (.sl 4 (V.rows (putL vals (atV c.fs h.f) [])))) []:=by
 unfold wkC;generalize tlT c h.t (tellV c h.x h.t)=px at*;generalize tlT c h.t (tellV c h.o h.t)=po at*;generalize atV c.fs h.f=i at*;have H1:=fresh7_ok g (vals.take i) (by rw[List.length_take];omega) (fun v hv=>(hf v (List.mem_of_mem_take hv)).1);have H2:=fresh7_ok g (vals.drop (i+1)) (by rw[List.length_drop];omega) (fun v hv=>(hf v (List.mem_of_mem_drop hv)).1);have HK:=concatV_ok g [(V.rows vals).take i,(V.rows vals).drop (i+1)] (by show 2≤1000;decide) (by simp[z65];omega);simp only[slR,List.map_cons,List.map_nil]at HK;rw[rows_take']at H1;rw[rows_drop']at H2;have tl:List.take vals.length (V.rows vals)=V.rows vals:=List.take_of_length_le (by rw[z65];omega);have w1:=wS i;refine z118 tf_5 ?_;unfold wkP;simp only[vW,seval,w1,tl,List.drop_zero];refine⟨⟨by omega,by omega⟩,?_⟩;refine z7 H1 ?_;simp only[vW,seval,w1,tl,List.drop_zero];refine⟨by omega,?_⟩;refine z8 H2 ?_;refine z8 HK ?_;rw[rows_putL];simp[V.rows_nil]
theorem vals_turn(m:Nat)(c:Cls)(h:Chg)(vals:List V)(hb:FreshB (glE m) vals)(hx:(tellV c h.x h.t).is=true)(hs:∀e,tellV c h.x h.t=.ev e→ESmall e)(hc:ClsOk c)(hf:∀v∈vals,VFew v∧VOk v)(hl:vals.length≤1000)(hi:atV c.fs h.f<vals.length):
  zC (glE m) 198 [.pv (.el (wkC c h)),.pv (.sl 4 (V.rows vals))] [] (.pv (.sl 4 (V.rows (putL vals (atV c.fs h.f) [(tellV c h.x h.t).val c h.t vals])))) []:=by
 have HT:=tell_ok m c h.t _ vals hx hs hc hf hl;unfold FreshB at hb;unfold wkC;generalize(tellV c h.x h.t).val c h.t vals=r at*;generalize tlT c h.t (tellV c h.x h.t)=px at*;generalize tlT c h.t (tellV c h.o h.t)=po at*;generalize atV c.fs h.f=i at*;have hset:=vals_set vals i r hi;have hln:(V.rows vals).flatten.length=vals.length*4:=by rw[flat_len (rowsW vals),z65]
 have hput:=putL_set (x:=r) hi;refine z172 hmix tf_19 rfl ?_
 conv in SFunc.code _=>reduce
 unfold wkP;refine z59 hmix ?_;simp only[vW,seval];refine z59 hmix ?_;simp only[vW,seval];refine z8 hb ?_;refine z59 hmix ?_;rcases HT with⟨f,p,rfl,HT⟩|⟨f,p,q,rfl,HT⟩
 ·simp only[vW,seval];(with_reducible apply z28);exact kv;exact HT;rfl;exact kv;simp only[vW,seval,hset];refine⟨by omega,by rw[hln];omega,?_⟩;refine sem_lw (frT_lw (k:=5) (d:=2028) (es:=V.rows (vals.set i r)) (c:=vals.length) rfl (rowsW _) (by show some _=some _;rw[z65,List.length_set])) (sem_swp hmix ?_);simp only[vW,seval];rw[hput]
 ·simp only[vW,seval];(with_reducible apply z28);exact kv;exact HT;rfl;exact kv;simp only[vW,seval,hset];refine⟨by omega,by rw[hln];omega,?_⟩;refine sem_lw (frT_lw (k:=5) (d:=2028) (es:=V.rows (vals.set i r)) (c:=vals.length) rfl (rowsW _) (by show some _=some _;rw[z65,List.length_set])) (sem_swp hmix ?_);simp only[vW,seval];rw[hput]
theorem vals_split(m:Nat)(c:Cls)(h:Chg)(vals:List V)(hx:(tellV c h.x h.t).is=true)(ho:(tellV c h.o h.t).is=true)(hs:∀e,tellV c h.x h.t=.ev e→ESmall e)(hs':∀e,tellV c h.o h.t=.ev e→ESmall e)(hc:ClsOk c)(hf:∀v∈vals,VFew v∧VOk v)(hl:vals.length≤1000)(hi:atV c.fs h.f<vals.length):
  zC (glE m) 201 [.pv (.el (wkC c h)),.pv (.sl 4 (V.rows vals))] [] (.pv (.sl 4 (V.rows (putL vals (atV c.fs h.f) [(tellV c h.x h.t).val c h.t vals,(tellV c h.o h.t).val c h.t vals])))) []:=by
 have HT:=tell_ok m c h.t _ vals hx hs hc hf hl;have HU:=tell_ok m c h.t _ vals ho hs' hc hf hl;unfold wkC;generalize(tellV c h.x h.t).val c h.t vals=r at*;generalize(tellV c h.o h.t).val c h.t vals=u at*;generalize tlT c h.t (tellV c h.x h.t)=px at*;generalize tlT c h.t (tellV c h.o h.t)=po at*;generalize atV c.fs h.f=i at*;have H1:=fresh7_ok (glE m) (vals.take i) (by rw[List.length_take];omega) (fun v hv=>(hf v (List.mem_of_mem_take hv)).1);have H2:=fresh7_ok (glE m) (vals.drop (i+1)) (by rw[List.length_drop];omega) (fun v hv=>(hf v (List.mem_of_mem_drop hv)).1);have HK:=concatV_ok (glE m) [(V.rows vals).take i,[[.v (.int .i64 r.k),.v (.int .i64 r.n),.v (.string (str r.s)),.sl 4 (V.rows r.l)],[.v (.int .i64 u.k),.v (.int .i64 u.n),.v (.string (str u.s)),.sl 4 (V.rows u.l)]],(V.rows vals).drop (i+1)] (by show 3≤1000;decide) (by simp[z65];omega);simp only[slR,List.map_cons,List.map_nil]at HK;rw[rows_take']at H1;rw[rows_drop']at H2;have tl:List.take vals.length (V.rows vals)=V.rows vals:=List.take_of_length_le (by rw[z65];omega);have w1:=wS i
 have hend:V.rows (putL vals i [r,u])=(V.rows vals).take i++([[.v (.int .i64 r.k),.v (.int .i64 r.n),.v (.string (str r.s)),.sl 4 (V.rows r.l)],[.v (.int .i64 u.k),.v (.int .i64 u.n),.v (.string (str u.s)),.sl 4 (V.rows u.l)]]++(V.rows vals).drop (i+1)):=by
  rw[rows_putL];show _++[V.row r,V.row u]++_=_;rw[row4 r,row4 u,List.append_assoc]
 rw[hend];refine z118 tf_17 ?_;unfold wkP;rcases HT with⟨f,p,rfl,HT⟩|⟨f,p,q,rfl,HT⟩<;>rcases HU with⟨f',p',rfl,HU⟩|⟨f',p',q',rfl,HU⟩
 all_goals(
  simp only[vW,seval];(with_reducible apply z28);exact kv;exact HT;rfl;exact kv;simp only[vW,seval];(with_reducible apply z28);exact kv;exact HU;rfl;exact kv;simp only[vW,seval,tl,List.drop_zero];refine⟨⟨by omega,by omega⟩,?_⟩;refine z7 H1 ?_;simp only[vW,seval,w1,tl,List.drop_zero];refine⟨by omega,?_⟩;refine z8 H2 ?_;refine z8 HK ?_;simp)
def kdNone:TV:=.agg [.pv (.v .nilFunc),.pv (.v .nilFunc),.pv (.v .nilFunc)]
theorem begin_no(m:Nat)(c:Cls)(h:Chg)(hc:ClsOk c)(hh:ChOk m h)(hno:(z19 c&&wellV h)=false):zC (glE m) 68 [clT c,chT h] [] (.tuple [kdNone,B false]) []:=by
 have HR:=classRight_ok (glE m) c hc;have HW:=wellFormed_ok m h hh;generalize z19 c=r at*;generalize wellV h=w at*;refine z10 tf_42 ?_;unfold clT chT B kdNone at*;cases r
 ·simp only[vW,seval];exact z14 HR
 ·cases w
  ·simp only[vW,seval];refine z8 HR ?_;exact z14 HW
  ·cases hno
theorem begin_k(m:Nat)(c:Cls)(h:Chg)(hc:ClsOk c)(hh:ChOk m h)(hr:z19 c=true)(hw:wellV h=true)(hk:h.k=1∨h.k=2∨h.k=3∨h.k=4∨h.k=5∨h.k=6)(j:Nat)
  (hj:findKs (TypeDesc.int .i64) (.int .i64 h.k) kdK 0=some (some j)) (hx:(kdL (wkC c h))[j]?=some (kdT (wkC c h) (mayF h.k) (fldF h.k) (valF h.k))):
  zC (glE m) 68 [clT c,chT h] [] (.tuple [kdT (wkC c h) (mayF h.k) (fldF h.k) (valF h.k),B (mayV c h)]) []:=by
 have HR:=classRight_ok (glE m) c hc;have HW:=wellFormed_ok m h hh;rw[hr]at HR;rw[hw]at HW;have HF:=field_ok (glE m) c h.f hc.len;rw[fieldT_eq]at HF;have H1:=teller_ok m c h.x h.t hh.x hc;have H2:=teller_ok m c h.o h.t hh.o hc;have HM:=may_ok (glE m) c h hk hc.len;have HK:=kinds_ok (glE m) (wkC c h);unfold kdL kdT fnW at hx;unfold kdL kdT fnW at HK;unfold kdT fnW;have hps:(wkC c h).map TV.pv=[S (str c.n),.pv (.sl 4 (flR c.fs)),I h.k,S (str h.f),S (str h.n),S (str h.m),I h.t.k,I h.t.o,S (str h.x),S (str h.o),I (atV c.fs h.f:Int),.pv (.v (.bool (hasV c.fs h.f))),.pv (tlT c h.t (tellV c h.x h.t)),.pv (tlT c h.t (tellV c h.o h.t))]:=rfl;have tc:∀x,(TV.pv (tlT c h.t x)).cells=some [.pv (tlT c h.t x)]:=fun x=>by cases x<;>rfl
 refine z172 hmix tf_42 rfl ?_
 conv in SFunc.code _=>reduce
 generalize wkC c h=ps at*;unfold clT chT tyT B at*;refine z59 hmix ?_;simp only[vW,seval];refine z59 hmix ?_;simp only[vW,seval];refine z8 HR ?_;refine z8 HW ?_;refine z59 hmix ?_;simp only[vW,seval];refine z59 hmix ?_;simp only[vW,seval];refine z8 HF ?_;refine z59 hmix ?_;simp only[vW,seval];refine z7 H1 ?_;simp only[vW,seval,tc];refine z59 hmix ?_;simp only[vW,seval];refine z7 H2 ?_;simp only[vW,seval,tc];refine sem_lw (frE_lw (k:=6) (d:=20) (ps:=ps) (show lk _ 20=_ from congrArg some hps.symm) rfl) (sem_swp hmix ?_);simp only[vW,seval];refine z7 HK ?_;simp only[vW,seval,hj,hx];(with_reducible apply z28);exact kv;exact HM;rfl;exact kv;simp only[vW,seval]
theorem wk_tuple{cs ds:List TV}(hl:cs.length=ds.length)(h:∀(j:Nat) c d,cs[j]?=some c→ds[j]?=some d→Wk c d):Wk (.tuple cs) (.tuple ds):=by
 intro w E r v hr;cases hr with
 |tuple cs vs hl' hv=>
  refine .tuple ds vs (hl▸hl') (fun j d v hd hv'=> ?_);have hj:j<cs.length:=by
   rcases Nat.lt_or_ge j ds.length with h|h
   ·omega
   ·rw[List.getElem?_eq_none h]at hd;cases hd
  exact h j _ d (gE hj) hd w E r v (hv j _ v (gE hj) hv')
theorem wk_two{a b x y:TV}(h:Wk a b)(h':Wk x y):Wk (.tuple [a,x]) (.tuple [b,y]):=wk_tuple rfl (fun j p q hp hq=>by
 match j with
 |0=>simp at hp hq;subst hp;subst hq;exact h
 |1=>simp at hp hq;subst hp;subst hq;exact h'
 |j+2=>simp at hp)
theorem wk_cl(s:zB):Wk (.agg [S (str s),nilT]) (clT ⟨s,[]⟩):=wk_agg rfl (fun j p q hp hq=>by
 match j with
 |0=>simp at hp hq;subst hp;subst hq;exact .refl _
 |1=>simp at hp hq;subst hp;subst hq;exact wk_nil 4
 |j+2=>simp at hp)
def applyT(r:Cls×Int):TV:=.tuple [clT r.1,I r.2]
def valsT(r:List V×Int):TV:=.tuple [.pv (.sl 4 (V.rows r.1)),I r.2]
theorem well_k{h:Chg}(hw:wellV h=true):h.k=1∨h.k=2∨h.k=3∨h.k=4∨h.k=5∨h.k=6:=by
 unfold wellV at hw;simp only[Bool.and_eq_true]at hw;have:=hw.1.1.1.1.1.1;unfold needV at this;by_cases h1:h.k=1
 ·exact .inl h1
 by_cases h2:h.k=2∨h.k=6
 ·omega
 by_cases h3:h.k=3
 ·omega
 by_cases h4:h.k=4
 ·omega
 by_cases h5:h.k=5
 ·omega
 rw[if_neg h1,if_neg h2,if_neg h3,if_neg h4,if_neg h5]at this;cases this
theorem tell_small{m:Nat}{c:Cls}{s:zB}{t:Ty}(hs:TxOk m s):∀e,tellV c s t=.ev e→ESmall e:=by
 intro e h;unfold tellV at h;split at h
 ·cases h
 ·rename_i hne;split at h
  ·cases h
  ·split at h
   ·cases h;exact hs.sm hne
   ·cases h
theorem begin_yes(m:Nat)(c:Cls)(h:Chg)(hc:ClsOk c)(hh:ChOk m h)(hr:z19 c=true)(hw:wellV h=true):
  zC (glE m) 68 [clT c,chT h] [] (.tuple [kdT (wkC c h) (mayF h.k) (fldF h.k) (valF h.k),B (mayV c h)]) []:=by
 have hk:=well_k hw;have H:=begin_k m c h hc hh hr hw hk;rcases hk with hk|hk|hk|hk|hk|hk
 ·exact H 0 (by rw[hk];rfl) (by rw[hk];rfl)
 ·exact H 1 (by rw[hk];rfl) (by rw[hk];rfl)
 ·exact H 2 (by rw[hk];rfl) (by rw[hk];rfl)
 ·exact H 3 (by rw[hk];rfl) (by rw[hk];rfl)
 ·exact H 4 (by rw[hk];rfl) (by rw[hk];rfl)
 ·exact H 5 (by rw[hk];rfl) (by rw[hk];rfl)
theorem changeRight_ok(m:Nat)(c:Cls)(h:Chg)(hc:ClsOk c)(hh:ChOk m h):zC (glE m) 32 [clT c,chT h] [] (B (okV c h)) []:=by
 have HN:=begin_no m c h hc hh;have HY:=begin_yes m c h hc hh;unfold okV;refine z10 tf_39 ?_;cases hn:(z19 c&&wellV h)
 ·have HN:=HN hn;unfold clT chT kdNone B at*;simp only[vW,seval];exact z14 HN
 ·obtain⟨hr,hw⟩:=Bool.and_eq_true_iff.1 hn;have HY:=HY hr hw;unfold clT chT kdT fnW B at*;simp only[vW,seval];exact z14 HY
theorem may_has{c:Cls}{h:Chg}(hm:mayV c h=true)(h1:h.k≠1):hasV c.fs h.f=true:=by
 unfold mayV at hm;rw[if_neg h1]at hm;split at hm
 ·exact hm
 split at hm
 ·simp only[Bool.and_eq_true]at hm;exact hm.1
 split at hm
 ·simp only[Bool.and_eq_true]at hm;exact hm.1
 split at hm
 ·simp only[Bool.and_eq_true]at hm;exact hm.1.1.1.1.1.1
 ·simp only[Bool.and_eq_true]at hm;exact hm.1
theorem has_lt{fs:List Fld}{s:zB}(h:hasV fs s=true):atV fs s<fs.length:=by
 obtain⟨f,hf,_⟩:=has_at h;exact(gJ hf).1
theorem valsK_ok(m:Nat)(c:Cls)(h:Chg)(vals:List V)(hh:ChOk m h)(hw:wellV h=true)(hm:mayV c h=true)(hB:h.k=4→vals≠[]→FreshB (glE m) vals)(hc:ClsOk c)(hf:∀v∈vals,VFew v∧VOk v)(hl:vals.length≤1000)(he:vals.length=c.fs.length):
  zC (glE m) (valF h.k) [.pv (.el (wkC c h)),.pv (.sl 4 (V.rows vals))] [] (.pv (.sl 4 (V.rows (valsV c h vals)))) []:=by
 have hs:=fun e=>tell_small (c:=c) (t:=h.t) hh.x e;have hs':=fun e=>tell_small (c:=c) (t:=h.t) hh.o e;have hi:h.k≠1→atV c.fs h.f<vals.length:=fun h1=>by rw[he];exact has_lt (may_has hm h1)
 unfold valF valsV;rcases well_k hw with hk|hk|hk|hk|hk|hk
 ·rw[hk,if_pos rfl,if_pos rfl];unfold mayV at hm;rw[if_pos hk]at hm;simp only[Bool.and_eq_true]at hm;exact vals_add m c h vals hm.2 hs hc hf hl
 ·rw[hk,if_neg (by decide),if_pos rfl,if_neg (by decide),if_pos rfl];exact vals_drop (glE m) c h vals hf hl (hi (by omega))
 ·rw[hk,if_neg (by decide),if_neg (by decide),if_pos rfl,if_neg (by decide),if_neg (by decide),if_neg (by decide),if_neg (by decide)];exact vals_keep (glE m) c h vals hf hl
 ·unfold mayV at hm;rw[hk,if_neg (by decide),if_neg (by decide),if_neg (by decide),if_pos rfl]at hm;simp only[Bool.and_eq_true]at hm;rw[hk,if_neg (by decide),if_neg (by decide),if_neg (by decide),if_pos rfl,if_neg (by decide),if_neg (by decide),if_pos rfl];exact vals_turn m c h vals (hB hk (by intro e;have:=hi (by omega);rw[e]at this;simp at this)) hm.2 hs hc hf hl (hi (by omega))
 ·unfold mayV at hm;rw[hk,if_neg (by decide),if_neg (by decide),if_neg (by decide),if_neg (by decide),if_pos rfl]at hm;simp only[Bool.and_eq_true]at hm;rw[hk,if_neg (by decide),if_neg (by decide),if_neg (by decide),if_neg (by decide),if_pos rfl,if_neg (by decide),if_neg (by decide),if_neg (by decide),if_pos rfl];exact vals_split m c h vals hm.1.2 hm.2 hs hs' hc hf hl (hi (by omega))
 ·rw[hk,if_neg (by decide),if_neg (by decide),if_neg (by decide),if_neg (by decide),if_neg (by decide),if_neg (by decide),if_neg (by decide),if_neg (by decide),if_neg (by decide)];exact vals_keep (glE m) c h vals hf hl
theorem apply_ok(m:Nat)(c:Cls)(h:Chg)(hc:ClsOk c)(hh:ChOk m h)(hl:c.fs.length≤1000):zC (glE m) 30 [clT c,chT h] [] (applyT (applyV c h)) []:=by
 have HR:=classRight_ok (glE m) c hc;have HN:=begin_no m c h hc hh;have HY:=begin_yes m c h hc hh;unfold applyV okV;cases hr:z19 c
 ·rw[hr]at HR;refine SCalls.out ?_ (wk_two (wk_cl []) (.refl _));refine z10 tf_36 ?_;unfold clT chT nilT B at*;simp only[vW,seval];refine z8 HR ?_;rfl
 rw[hr]at HR;cases hw:wellV h
 ·have HN:=HN (by rw[hr,hw];rfl);refine SCalls.out ?_ (wk_two (wk_cl []) (.refl _));refine z10 tf_36 ?_;unfold clT chT kdNone nilT B at*;simp only[vW,seval];refine z8 HR ?_;refine z8 HN ?_;rfl
 have HY:=HY hr hw;cases hm:mayV c h
 ·rw[hm]at HY;refine SCalls.out ?_ (wk_two (wk_cl []) (.refl _));refine z10 tf_36 ?_;unfold clT chT kdT fnW nilT B at*;simp only[vW,seval];refine z8 HR ?_;refine z8 HY ?_;rfl
 ·rw[hm]at HY;have HF:=fields_ok (glE m) c h (well_k hw) hl (may_has hm);refine z10 tf_36 ?_;unfold applyT clT chT kdT fnW B at*;simp only[vW,seval];refine z8 HR ?_;refine z8 HY ?_;(with_reducible apply z28);exact kv;exact HF;rfl;exact kv;simp only[vW,seval]
theorem changeVals_ok(m:Nat)(c:Cls)(h:Chg)(vals:List V)(hc:ClsOk c)(hh:ChOk m h)(hB:h.k=4→vals≠[]→FreshB (glE m) vals)(hf:∀v∈vals,VFew v∧VOk v)(hl:vals.length≤1000):zC (glE m) 31 [clT c,chT h,.pv (.sl 4 (V.rows vals))] [] (valsT (valsA c h vals)) []:=by
 have HC:=sc_0E (classCheck_ok m c vals hc (fun v hv=>⟨(hf v hv).2,by have:=(hf v hv).1.len;unfold maxLen;omega⟩) (by omega));have HN:=begin_no m c h hc hh;have HY:=begin_yes m c h hc hh;have hck:(check c vals).2=0→z19 c=true∧vals.length=c.fs.length:=by
  intro h0;unfold check at h0;split at h0
  ·cases h0
  ·rename_i hr;split at h0
   ·cases h0
   ·rename_i he;exact⟨by simpa using hr,by omega⟩
 unfold valsA;by_cases h0:(check c vals).2=0
 ·obtain⟨hr,he⟩:=hck h0;rw[if_neg (by simpa using h0)];generalize check c vals=k at*;obtain⟨k1,k2⟩:=k;simp only at h0;subst h0;unfold okV;cases hw:wellV h
  ·have HN:=HN (by rw[hr,hw];rfl);rw[show(!(z19 c&&false&&mayV c h))=true by simp,if_pos rfl];refine SCalls.out ?_ (wk_two (wk_nil 4) (.refl _));refine z10 tf_41 ?_;unfold checkT clT chT kdNone B at*;simp only[vW,seval];refine z8 HC ?_;exact z14 HN
  have HY:=HY hr hw;cases hm:mayV c h
  ·rw[hm]at HY;rw[show(!(z19 c&&true&&false))=true by simp,if_pos rfl];refine SCalls.out ?_ (wk_two (wk_nil 4) (.refl _));refine z10 tf_41 ?_;unfold checkT clT chT kdT fnW B at*;simp only[vW,seval];refine z8 HC ?_;exact z14 HY
  ·rw[hm]at HY;have HV:=valsK_ok m c h vals hh hw hm hB hc hf hl he;rw[hr];refine z10 tf_41 ?_;unfold valsT checkT clT chT kdT fnW B at*;simp only[vW,seval];refine z8 HC ?_;refine z8 HY ?_;(with_reducible apply z28);exact kv;exact HV;rfl;exact kv;simp only[vW,seval]
 ·rw[if_pos h0];refine SCalls.out ?_ (wk_two (wk_nil 4) (.refl _));generalize check c vals=k at*;refine z10 tf_41 ?_;unfold checkT clT chT B at*;simp only[vW,seval];refine z7 HC ?_;simp only[vW,seval,h0]
theorem strB(a b:zB):(str a==str b)=(a==b):=by
 show((str a).data==(str b).data)=(a==b)
 rw[Bool.eq_iff_iff,beq_iff_eq,beq_iff_eq];constructor
 ·intro h;have:=congrArg Array.toList h;simpa [str]using this
 ·intro h;rw[h]
theorem fldB(x y:Fld):((str x.n==str y.n)&&(eqTy ⟨x.t.k,x.t.o⟩ ⟨y.t.k,y.t.o⟩&&((x.ix==y.ix)&&true)))=eqFld x y:=by
 rw[strB];unfold eqFld eqTy;simp[Bool.and_assoc]
theorem refSame4_ok(g:Sh.Glob)(a:Cls)(hl:a.fs.length≤4611686018427387904):zC g 43 [clT a,clT a] [] (B true) []:=by
 refine z10 Cd7.tf_125 ?_;unfold clT B;simp only[vW,seval,clV];refine v_loop (σ:={i:Nat // i≤a.fs.length}) (fun i=>⟨[(2,.ptr 2 0),(3,.ptr 3 0),(5,I (i.1:Int))],[(2,[S (str a.n),.pv (.sl 4 (flR a.fs))]),(3,[S (str a.n),.pv (.sl 4 (flR a.fs))])],[],[]⟩) (fun i=>a.fs.length-i.1) ⟨0,Nat.zero_le _⟩ ?_ ?_
 ·exact lwA
 rintro⟨i,hi⟩;by_cases hlt:i<a.fs.length
 ·have d1:(i:Int)<(a.fs.length:Int):=by omega
  obtain⟨x,ex⟩:∃x,a.fs[i]?=some x:=⟨_,gE hlt⟩
  have w1:=wS i;have hn:=neqFld (str x.n) (str x.n) x.t.k x.t.k x.t.o x.t.o x.ix x.ix;have hxx:eqFld x x=true:=by unfold eqFld;simp
  rw[fldB x x,hxx]at hn;simp only[vW,seval,d1,ex,hn,w1,clV];refine z13 ⟨i+1,hlt⟩ (by show a.fs.length-(i+1)<a.fs.length-i;omega) ?_;exact lwA
 have d1:¬(i:Int)<(a.fs.length:Int):=by omega
 simp only[vW,seval,d1,clV]
theorem sameVals_ok(g:Sh.Glob)(l:List V)(hf:∀v∈l,VFew v)(hl:l.length≤4611686018427387904):zC g 39 [.pv (.sl 4 (V.rows l)),.pv (.sl 4 (V.rows l))] [] (B true) []:=by
 refine z10 Cd7.tf_144 ?_;unfold B;simp only[vW,seval];refine v_loop (σ:={i:Nat // i≤l.length}) (fun i=>⟨[(0,.pv (.sl 4 (V.rows l))),(1,.pv (.sl 4 (V.rows l))),(5,I (i.1:Int))],[],[],[]⟩) (fun i=>l.length-i.1) ⟨0,Nat.zero_le _⟩ ?_ ?_
 ·exact lwA
 rintro⟨i,hi⟩;by_cases hlt:i<l.length
 ·have d1:(i:Int)<(l.length:Int):=by omega
  obtain⟨v,ev⟩:∃v,l[i]?=some v:=⟨_,gE hlt⟩
  have w1:=wS i;have HS:=refSame_ok g v v (hf v (gM ev)).small;rw[cmpV_self]at HS;simp only[vW,seval,d1,ev];refine z7 HS ?_;simp only[vW,seval,w1];refine z13 ⟨i+1,hlt⟩ (by show l.length-(i+1)<l.length-i;omega) ?_;exact lwA
 have d1:¬(i:Int)<(l.length:Int):=by omega
 simp only[vW,seval,d1]
end
section
open Go.Sh.Cd1
theorem bl_str(l:zB):bl (str l)=l:=by simp[bl,str]
theorem in64_T{x:Int}(h:I64 x):in64 x=true:=by unfold in64;obtain⟨h1,h2⟩:=h;simp[h1,h2]
theorem wNum_ok(a0 a1:Addr)(m:Nat)(x:Int)(h:I64 x):zC (gl a0 a1 m) 64 [I x] [] (S (str (num x))) []:=
 z170 a0 a1 m _ _ _ _ _ (by simp[prim1,I,Nat.beq,in64_T h])
theorem wText_ok(a0 a1:Addr)(m:Nat)(l:zB)(h:l.length≤10000):zC (gl a0 a1 m) 93 [S (str l)] [] (.tuple [S (str (text l)),I 0]) []:=
 z170 a0 a1 m _ _ _ _ _ (by simp[prim1,S,Nat.beq,bl_str,textTV,h];omega)
theorem readNum_ok(a0 a1:Addr)(m:Nat)(l:zB)(a:Int)(hl:l.length<1125899906842624)(h:I64 a):zC (gl a0 a1 m) 124 [S (str l),I a] [] (numTV (z40 l a)) []:=
 z170 a0 a1 m _ _ _ _ _ (by simp[prim1,S,I,Nat.beq,bl_str,in64_T h,hl])
theorem readText_ok(a0 a1:Addr)(m:Nat)(l:zB)(a:Int)(hl:l.length<1125899906842624)(h:I64 a):zC (gl a0 a1 m) 125 [S (str l),I a] [] (readTV (z32 l a)) []:=
 z170 a0 a1 m _ _ _ _ _ (by simp[prim1,S,I,Nat.beq,bl_str,in64_T h,hl])
def V1Ok(x:V):Prop:=I64 x.k∧I64 x.n∧x.s.length≤60
end
end Go.Proofs.YtcpaleaajdilgaaGreatDoor
end
