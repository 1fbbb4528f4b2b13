/- Merged texts: S33 Cd1 Vc1 Vk Zv1. No statement of the program is proved here. -/
import Derived.Test.YtpmlapgbmgbilaaGreatDoorR14
import Derived.KernelRfl
set_option linter.unusedSimpArgs false
set_option linter.unusedVariables false
set_option maxRecDepth 100000
set_option maxHeartbeats 8000000
section
namespace Go.Sh
open Go Go.RowKit
def zsR(P:Program)(o:Oper)(h:Nat):Option SOp:=
 match o.op with
 | .move x| .assign x=>some (.mov (.of x))
 | .pick c a b=>some (.pick (.of c) (.of a) (.of b))
 | .alloc e=>match P.info? e with
  |some i=>match i.zero with
   |some z=>if true then some (.new z.cells.toList)else none
   |none=>none
  |none=>none
 | .box _ x=>some (.box (.of x))
 | .build t parts=>match P.info? t,P.underlying t with
  |some i,some (.struct fs)=>match i.zero with
   |some z=>if true then((seqO (fun p:Nat×Operand=>match fs[p.1]? with
     |some f=>(P.info? f.type).map fun j=>(f.offset,j.size,Arg.of p.2)
     |none=>none) parts.toList).map fun ps=> .build z.cells.toList ps)else none
   |none=>none
  |some i,some (.array _ e)=>match i.zero,P.info? e with
   |some z,some j=>if true then some (.build z.cells.toList (parts.toList.map fun p=>(p.1*j.size,j.size,Arg.of p.2)))else none
   |_,_=>none
  |_,_=>none
 | .buildSlice t len parts=>match P.underlying t with
  |some (.slice e)=>match P.info? e with
   |some i=>match i.zero with
    |some z=>if Nat.beq len 0 then some (.bsl0 i.size)else if true then some (if Nat.beq h 2 then .bslB i.size (parts.toList.map fun p=>Arg.of p.2)else if Nat.beq h 1 then .bslO e i.size (parts.toList.map fun p=>Arg.of p.2)else .bsl i.size (parts.toList.map fun p=>Arg.of p.2))else none
    |none=>none
   |none=>none
  |_=>none
 | .load t x=>match P.underlying t,P.info? t with
  |some d,some i=>some (if d.isRow then .ld true i.size (.of x)else .ld false 1 (.of x))
  |_,_=>none
 | .store t x y=>match P.info? t with
  |some i=>some (.st i.size (.of x) (.of y))
  |none=>none
 | .nilCheck x=>some (.nchk (.of x))
 | .binOp op t x y _=>match y,op,P.underlying t with
  | .const .nilFunc,.eql,some (.func _ _ _)=>some (.fnil false (.of x))
  | .const .nilFunc,.neq,some (.func _ _ _)=>some (.fnil true (.of x))
  |_,_,_=>some (.bin op t (.of x) (.of y))
 | .unOp op _ x=>some (.un op (.of x))
 | .convert src dst x=>match P.underlying src,P.underlying dst with
  |some (.int _),some (.int k)=>some (.cvi k (.of x))
  |some .string,some .string=>some (.cvs (.of x))
  |some (.slice e),some .string=>match P.underlying e with
   |some (.int .u8)=>some (.b2s (.of x))
   |_=>none
  |_,_=>none
 | .slice t x lo hi none=>match P.underlying t with
  |some .string=>some (.ssub (.of x) (lo.map .of) (hi.map .of))
  |some (.slice e)=>match P.info? e with
   |some i=>some (.sub i.size (.of x) (lo.map .of) (hi.map .of))
   |none=>none
  |_=>none
 | .fieldAddr t x f=>match P.underlying t with
  |some (.struct fs)=>match fs[f]? with
   |some fd=>match P.info? fd.type with
    |some i=>if i.size=0 then none else some (.fldA fd.offset (.of x))
    |none=>none
   |none=>none
  |_=>none
 | .field t x f=>match P.underlying t with
  |some (.struct fs)=>match fs[f]? with
   |some fd=>match P.info? fd.type,P.underlying fd.type with
    |some i,some d=>some (.fld d.isRow fd.offset i.size (.of x))
    |_,_=>none
   |none=>none
  |_=>none
 | .indexAddr t x i=>match P.underlying t with
  |some (.slice e)=>match P.info? e with
   |some j=>some (.idxA j.size (.of x) (.of i))
   |none=>none
  |some (.array n e)=>match i,P.info? e with
   | .const (.int _ k),some j=>if 0≤k∧k<n then some (.fldA (k.toNat*j.size) (.of x))else none
   |_,_=>none
  |_=>none
 | .index t x i=>match P.underlying t with
  |some .string=>some (.sidx (.of x) (.of i))
  |_=>none
 | .lookup t x i false=>match P.underlying t with
  |some (.map k e)=>match P.info? e with
   |some j=>match j.zero with
    |some z=>if true then(match P.underlying k with
      |some .string=>some (.lkp true z (.of x) (.of i))
      |some (.int .i64)=>some (.lkp false z (.of x) (.of i))
      |_=>none)else none
    |none=>none
   |none=>none
  |_=>none
 | .makeInterface t x=>match P.underlying t with
  |some (.interface _)=>none
  |some _=>some (.mkI t (.of x))
  |none=>none
 | .panic x=>some (.pan (.of x))
 | .makeMap _ none=>some .mkm
 | .extract x i=>some (.ext (.of x) i)
 | .makeFunc f a b=>some (.mkf f (a.toList.map .of) (b.toList.map .of))
 | .range t x=>match P.underlying t with
  |some .string=>some (.rng (.of x))
  |_=>none
 | .next x true=>some (.nxt (.of x))
 | .makeSlice t l c=>match P.underlying t,l,c with
  |some (.slice e),.tmp a,.tmp b=>if Nat.beq a b then match P.info? e with
   |some i=>match i.zero with
    |some z=>if true then some (.mks (Nat.beq h 1) i.bytes z.cells.toList (.tmp a))else none
    |none=>none
   |none=>none else none
  |_,_,_=>none
 | .call { callee:=.builtin .len,args,argTypes }=>match argTypes.toList,args.toList with
  |[t],[x]=>match P.underlying t with
   |some (.slice _)=>some (.len (.of x))
   |some .string=>some (.slen (.of x))
   |_=>none
  |_,_=>none
 | .call { callee:=.builtin .min,args,argTypes }=>match args.toList,argTypes.toList with
  |[x,y],[t,_]=>match P.underlying t with
   |some (.int .i64)=>some (.imm false (.of x) (.of y))
   |_=>none
  |_,_=>none
 | .call { callee:=.builtin .max,args,argTypes }=>match args.toList,argTypes.toList with
  |[x,y],[t,_]=>match P.underlying t with
   |some (.int .i64)=>some (.imm true (.of x) (.of y))
   |_=>none
  |_,_=>none
 | .call { callee:=.builtin .append,args,argTypes }=>match args.toList,argTypes.toList with
  |[x,y],[t,tx]=>match P.underlying t with
   |some (.slice e)=>match P.info? e with
    |some i=>match i.zero with
     |some z=>if true then
       match P.underlying tx with
       |some (.slice _)=>some (if Nat.beq h 2 then .appB e i.size i.bytes (.of x) (.of y)else if Nat.beq h 1 then .appN e i.size i.bytes (.of x) (.of y)else .app e i.size i.bytes (.of x) (.of y))
       |some .string=>if i.size=1 then some (if Nat.beq h 1 then .appNS e i.bytes (.of x) (.of y)else .appS e i.bytes (.of x) (.of y))else none
       |_=>none
      else none
     |none=>none
    |none=>none
   |_=>none
  |_,_=>none
 | .call { callee:=.value (.func f),args,argTypes:=_ }=>match P.funcs[f]? with
  |some fn=>if true then some (.call f h (args.toList.map .of))else none
  |none=>none
 | .call { callee:=.value (.tmp t),args,argTypes:=_ }=>some (.callv (.tmp t) h (args.toList.map .of))
 |_=>none
def zfz{α:Type}:List α→Nat→Option α
 |[],_=>none
 |x::_,0=>some x
 |_::l,n+1=>zfz l n
def zfh(ops:List Oper):Option (Nat×Bool)→Option (Nat×Bool)
 |none=>none
 |some (j,want)=>match zfz ops j with
  |some o=>match o.dst with
   |some d=>some (d,want)
   |none=>none
  |none=>none
def z4C(P:Program)(H:Option Nat→Nat)(fps:Nat→Option Nat)(ops:List Oper):Nat→List Oper→List SOper
 |_,[]=>[]
 |j,o::l=>match zsR P o (H o.dst)with
  |some op=>⟨o.dst,zfh ops o.guard,fps j,op⟩::z4C P H fps ops (j+1) l
  |none=>match ziy o.op with
   |true=>⟨o.dst,zfh ops o.guard,fps j,.bad⟩::z4C P H fps ops (j+1) l
   |false=>z4C P H fps ops (j+1) l
def z9C:List SOper→List Nat
 |[]=>[]
 |x::l=>x.news++z9C l
def zfg:List Oper→Bool
 |[]=>false
 |o::l=>match o.op with
  | .call { callee:=.builtin .append, .. }=>true
  |_=>zfg l
def zep(P:Program)(H:Nat→Option Nat→Nat)(ops:List Oper)(app:Bool):List (Nat→Option Nat)→List (List Nat×List SOper)
 |[]=>[]
 |F::r=>match app with
  |true=>(z9C (z4C P (H 0) F ops 0 ops),z4C P (H 0) F ops 0 ops)::(z9C (z4C P (H 1) F ops 0 ops),z4C P (H 1) F ops 0 ops)::zep P H ops app r
  |false=>(z9C (z4C P (H 0) F ops 0 ops),z4C P (H 0) F ops 0 ops)::zep P H ops app r
def z3A(P:Program)(H:Nat→Option Nat→Nat)(Fp:Nat→List (Nat→Option Nat))(K:Nat→List Nat):Code→SCode
 | .skip=> .skip
 | .region id ops _=>match has (K id) 9999 with
  |true=> .regq (zep P H ops.toList (zfg ops.toList) (Fp id)) (K id)
  |false=> .reg (zep P H ops.toList (zfg ops.toList) (Fp id)) (K id)
 | .seq a b=> .seq (z3A P H Fp K a) (z3A P H Fp K b)
 | .cond c a b=> .cond (Arg.of c) (z3A P H Fp K a) (z3A P H Fp K b)
 | .block id a=> .block id (z3A P H Fp K a)
 | .loop a=> .loop (z3A P H Fp K a)
 | .exit id=> .exit id
 | .ret=> .ret
 |_=> .skip
def ztl(P:Program)(f:Nat)(H:Nat→Option Nat→Nat)(Fp:Nat→List (Nat→Option Nat))(K:Nat→List Nat):SCode:=match zfz P.funcs.toList f with
 |some fn=>match fn.body with
  |some c=>z3A P H Fp K c
  |none=> .skip
 |none=> .skip
def znw:Nat→Nat→List Nat
 |_,0=>[]
 |a,n+1=>a::znw (a+1) n
def exO(a:Nat):List Nat:=match Nat.ble 2000000 a with
 |true=>[a-2000000]
 |false=>match Nat.ble 1000 a with
  |true=>match Nat.ble 1000000 a with
   |true=>znw 0 (a%1000+1)
   |false=>znw (a / 1000) (a%1000+1-a / 1000)
  |false=>[a]
def exR:List Nat→List Nat
 |a::l=>exO a++exR l
 |_=>[]
def exK:Nat→List (List Nat)→List (Nat×List Nat)
 |_,[]=>[]
 |n,x::l=>(n,exR x)::exK (n+1) l
structure GA where
 f:Nat
 N:Nat
 h:List (Nat×Nat)
 p:List (Nat×List (List (Nat×Nat)))
 k:List (List Nat)
 r:List SRes
 e:Bool
abbrev gD(P:Program)(a:GA):SFunc:=⟨a.N,ztl P a.f (z3D a.h) (fpT a.p) (z3E (exK 0 a.k)),a.r,a.e⟩
abbrev gT(P:Program)(a:GA):Prop:=zW P a.f (z3D a.h) (fpT a.p) (z3E (exK 0 a.k)) a.e=some (gD P a)
theorem iOf(n:Nat):Int.ofNat (no_index (OfNat.ofNat n))=OfNat.ofNat n:=rfl
theorem u8f(n:Nat)(h:n<2 ^ 8):UInt8.ofBitVec (BitVec.ofFin ⟨n,h⟩)=UInt8.ofNat n:=by
 apply UInt8.toNat_inj.1;show n=(UInt8.ofNat n).toNat
 grind [UInt8.toNat_ofNat',Nat.mod_eq_of_lt]
theorem u8h(n:Nat):UInt8.ofBitVec (BitVec.ofNat 8 n)=UInt8.ofNat n:=rfl
theorem u8g(n:Nat):UInt8.ofNat (no_index (OfNat.ofNat n))=OfNat.ofNat n:=rfl
theorem arO{α:Type}(l:List α):Array.mk l=l.toArray:=rfl
end Go.Sh
end

section
namespace Go.Sh
abbrev oD(d:Nat)(x:SOp):SOper:=⟨some d,none,none,x⟩
abbrev oG(d g:Nat)(b:Bool)(x:SOp):SOper:=⟨some d,some (g,b),none,x⟩
abbrev oN(x:SOp):SOper:=⟨none,none,none,x⟩
abbrev vI(n:Int):Arg:=.val (.int .i64 n)
abbrev zV:List Value:=[.int .i64 0,.int .i64 0,.string ⟨#[]⟩,.slice none 0 0]
abbrev oM(d x:Nat):SOper:=⟨some d,none,none,.mov (.tmp x)⟩
abbrev oH(d g:Nat)(b:Bool)(x:Nat):SOper:=⟨some d,some (g,b),none,.mov (.tmp x)⟩
abbrev oP(d x y:Nat)(b:Bool):SOper:=⟨some d,none,none,.pick (.tmp x) (.tmp y) (.val (.bool b))⟩
abbrev oQ(d x y:Nat)(b:Bool):SOper:=⟨some d,none,none,.pick (.tmp x) (.val (.bool b)) (.tmp y)⟩
abbrev oL(d:Nat)(b:Bool)(n x:Nat):SOper:=⟨some d,none,none,.ld b n (.tmp x)⟩
def SCode.kl:SCode→List (List Nat)
  | .reg _ k=>[k]
  | .regq _ k=>[k]
  | .seq a b=>a.kl++b.kl
  | .cond _ a b=>a.kl++b.kl
  | .block _ a=>a.kl
  | .loop a=>a.kl
  |_=>[]
def klN:Nat→List (List Nat)→List (Nat×List Nat)
  |_,[]=>[]
  |n,k::r=>(n,k)::klN (n+1) r
end Go.Sh
namespace Go.Sh
abbrev kA(d o x:Nat):SOper:=⟨some d,none,none,.fldA o (.tmp x)⟩
abbrev kS(n x y:Nat):SOper:=⟨none,none,none,.st n (.tmp x) (.tmp y)⟩
abbrev kK(d:Nat)(o:BinOp)(t x:Nat)(n:Int):SOper:=⟨some d,none,none,.bin o t (.tmp x) (vI n)⟩
abbrev kB(d:Nat)(o:BinOp)(t x y:Nat):SOper:=⟨some d,none,none,.bin o t (.tmp x) (.tmp y)⟩
abbrev kT(d:Nat)(b:Bool):SOper:=⟨some d,none,none,.mov (.val (.bool b))⟩
abbrev kI(d:Nat)(n:Int):SOper:=⟨some d,none,none,.mov (vI n)⟩
abbrev kL(d g:Nat)(b a:Bool)(n x:Nat):SOper:=⟨some d,some (g,b),none,.ld a n (.tmp x)⟩
abbrev kF(d g:Nat)(b:Bool)(o x:Nat):SOper:=⟨some d,some (g,b),none,.fldA o (.tmp x)⟩
abbrev kG(d g:Nat)(b:Bool)(o:BinOp)(t x:Nat)(n:Int):SOper:=⟨some d,some (g,b),none,.bin o t (.tmp x) (vI n)⟩
abbrev kH(d g:Nat)(b:Bool)(o:BinOp)(t x y:Nat):SOper:=⟨some d,some (g,b),none,.bin o t (.tmp x) (.tmp y)⟩
abbrev kC(d f m x:Nat):SOper:=⟨some d,none,none,.call f m [.tmp x]⟩
abbrev kD(d f m x y:Nat):SOper:=⟨some d,none,none,.call f m [.tmp x,.tmp y]⟩
abbrev kE(d f m x y z:Nat):SOper:=⟨some d,none,none,.call f m [.tmp x,.tmp y,.tmp z]⟩
abbrev kX(d w x y:Nat):SOper:=⟨some d,none,none,.idxA w (.tmp x) (.tmp y)⟩
abbrev kY(d x i:Nat):SOper:=⟨some d,none,none,.ext (.tmp x) i⟩
abbrev kZ(d x:Nat):SOper:=⟨some d,none,none,.len (.tmp x)⟩
abbrev kO(d x:Nat):SOper:=⟨some d,none,none,.box (.tmp x)⟩
abbrev kN(d x:Nat):SOper:=⟨some d,none,none,.un .not (.tmp x)⟩
abbrev kQ(d x:Nat):SOper:=⟨some d,none,none,.nchk (.tmp x)⟩
abbrev kR(o:List SOper)(k:List Nat):SCode:=.reg [([],o)] k
abbrev kV(l:List Nat)(o:List SOper)(k:List Nat):SCode:=.reg [(l,o)] k
end Go.Sh
section
namespace Go.Sh
abbrev kU(n:Nat)(h:List (Nat×Nat))(f:List (Nat×List (List (Nat×Nat))))(F:SFunc):Prop:=zW Go.Proofs.Tryz.prog n (z3D h) (fpT f) (z3E (klN 0 F.code.kl)) false=some F
end Go.Sh
end
namespace Go.Sh.Cd1
open Go Go.Sh
abbrev gQ(a:GA):Prop:=gT Go.Proofs.Tryz.prog a
theorem gK{a:GA}(h:gQ a:=by unfold gQ gT;kernel_rfl):gQ a:=h
theorem tf_137:gQ ⟨55,9,[],[],[[1000001,4],[2003,5008]],[.tmp 4],false⟩:=gK
abbrev c_133_0:=kV [2,3] [kO 2 0,kO 3 1,kI 4 0] [0,1,4]
abbrev c_133_1:=kV [2044,2045,2046,2047] [kA 7 0 2,oL 8 false 1 7,kA 9 0 3,oL 10 false 1 9,kD 11 105 0 8 10,oM 5 11] [7,8,9,10,11]
abbrev c_133_2:=kR [oM 12 5,kK 13 .eql 3 12 0] [12]
abbrev c_133_3:=kV [2072,2073,2074,2075] [kA 14 1 2,oL 15 false 1 14,kA 16 1 3,oL 17 false 1 16,kD 18 105 0 15 17,oM 5 18] [13,14,15,16,17,18]
abbrev c_133_4:=kR [oM 19 5,kK 20 .eql 3 19 0,oM 21 20,kF 22 21 true 2 2,kL 23 21 true false 1 22,kF 24 21 true 2 3,kL 25 21 true false 1 24,kH 26 21 true .lss 9 23 25,oP 27 21 26 false] [13,19,20,21,22,23,24,25,26]
abbrev c_133_5:=kR [oD 5 (.mov (.val (.int .i64 (-1))))] [27]
abbrev c_133_6:=kR [oM 28 5,kK 29 .eql 3 28 0,oM 30 29,kF 31 30 true 2 2,kL 32 30 true false 1 31,kF 33 30 true 2 3,kL 34 30 true false 1 33,kH 35 30 true .gtr 9 32 34,oP 36 30 35 false] [27,28,29,30,31,32,33,34,35]
abbrev c_133_7:=kR [kI 5 1] [36]
abbrev c_133_8:=kR [kI 6 0] [36]
abbrev c_133_9:=kR [oM 37 5,kK 38 .eql 3 37 0,oM 39 38,oH 40 39 true 6,kF 41 39 true 3 2,kL 42 39 true false 1 41,oG 43 39 true (.len (.tmp 42)),kH 44 39 true .lss 3 40 43,oP 45 39 44 false,oM 46 45,oH 47 46 true 6,kF 48 46 true 3 3,kL 49 46 true false 1 48,oG 50 46 true (.len (.tmp 49)),kH 51 46 true .lss 3 47 50,oP 52 46 51 false] [37,38,39,40,41,42,43,44,45,46,47,48,49,50,51]
abbrev c_133_10:=kV [2260,2261,2262,2263] [kA 55 3 2,oL 56 false 1 55,oM 57 6,kX 58 4 56 57,oL 59 true 4 58,kA 60 3 3,oL 61 false 1 60,oM 62 6,kX 63 4 61 62,oL 64 true 4 63,kD 65 82 0 59 64,oM 5 65] [52,55,56,57,58,59,60,61,62,63,64,65]
abbrev c_133_11:=kR [oM 53 6,kK 54 .add 3 53 1,oM 6 54] [53,54]
abbrev c_133_12:SCode:=(.seq (.seq c_133_9 (.cond (.tmp 52) .skip (.exit 0))) (.seq (.block 1 c_133_10) c_133_11))
abbrev c_133_13:=kR [oM 66 5,kK 67 .eql 3 66 0] [6,66]
abbrev c_133_14:=kV [2296,2297,2298,2299] [kA 68 3 2,oL 69 false 1 68,kZ 70 69,kA 71 3 3,oL 72 false 1 71,kZ 73 72,kD 74 105 0 70 73,oM 4 74] [2,3,5,67,68,69,70,71,72,73,74]
abbrev c_133_15:=kR [oM 75 5,oM 4 75] [2,3,5,67,75]
abbrev F_133:SFunc:=⟨76,(.seq c_133_0 (.seq c_133_1 (.seq (.seq c_133_2 (.cond (.tmp 13) c_133_3 .skip)) (.seq (.seq c_133_4 (.cond (.tmp 27) c_133_5 .skip)) (.seq (.seq c_133_6 (.cond (.tmp 36) c_133_7 .skip)) (.seq (.seq c_133_8 (.block 0 (.loop c_133_12))) (.seq (.seq c_133_13 (.cond (.tmp 67) (.seq c_133_14 .ret) .skip)) (.seq c_133_15 .ret)))))))),[.tmp 4],false⟩
theorem tf_133:zW Go.Proofs.Tryz.prog 82 (z3D [(11,0),(18,0),(65,0),(74,0)]) (fpT []) (z3E [(0,[0,1,4]),(1,[7,8,9,10,11]),(2,[12]),(3,[13,14,15,16,17,18]),(4,[13,19,20,21,22,23,24,25,26]),(5,[27]),(6,[27,28,29,30,31,32,33,34,35]),(7,[36]),(8,[36]),(9,[37,38,39,40,41,42,43,44,45,46,47,48,49,50,51]),(11,[52,55,56,57,58,59,60,61,62,63,64,65]),(10,[53,54]),(12,[6,66]),(13,[2,3,5,67,68,69,70,71,72,73,74]),(14,[2,3,5,67,75])]) false=some F_133:=by kernel_rfl
theorem tf_194:gQ ⟨104,25,[(23,1)],[],[[1000001,4],[5018],[2003,19],[2003,19024]],[.tmp 4],false⟩:=gK
theorem tf_135:gQ ⟨105,11,[],[],[[4],[5006],[1000001,7],[1000001,4,7009],[10],[10]],[.tmp 4],false⟩:=gK
theorem tf_197:gQ ⟨113,20,[],[],[[0],[3014],[1,15016],[1,15,17019]],[.cell true 4 2],false⟩:=gK
theorem tf_196:gQ ⟨141,76,[(73,1)],[],[[0,2],[3],[6],[1,4005,7013],[5,15],[1,4,14,16027],[14,29],[1,4,28,30043],[28,45],[46],[1,4,44,47053],[4,44,55],[1,54,56075],[1,54]],[.tmp 2],false⟩:=gK
theorem tf_205:gQ ⟨142,27,[],[],[[0,2],[3004],[1,5013],[1,5,14026]],[.tmp 2],false⟩:=gK
theorem tf_201:gQ ⟨143,22,[],[],[[0,4],[1002,5021]],[.tmp 4],false⟩:=gK
theorem tf_186:gQ ⟨144,9,[(7,1)],[],[[4],[1000001,5008]],[.tmp 4],false⟩:=gK
theorem tf_195:gQ ⟨145,9,[],[],[[0,3],[1002,4008]],[.tmp 3],false⟩:=gK
theorem tf_198:gQ ⟨171,12,[],[],[[0,2],[1,3011]],[.tmp 2],false⟩:=gK
theorem tf_204:gQ ⟨172,21,[],[],[[2],[5011],[0,12],[0,2,12013],[],[15017],[4,18019],[14,20],[14]],[.tmp 2],false⟩:=gK
theorem tf_203:gQ ⟨173,17,[],[],[[2],[0,3016]],[.tmp 2],false⟩:=gK
theorem tf_200:gQ ⟨174,11,[],[],[[0,2],[1,3010]],[.tmp 2],false⟩:=gK
theorem tf_191:gQ ⟨175,19,[(16,1)],[],[[4],[6],[],[9010],[11015],[1000001,5,7008,16017],[4005,16,18],[1000001,7008]],[.tmp 4],false⟩:=gK
theorem tf_202:gQ ⟨214,9,[],[],[[2],[0,3008]],[.tmp 2],false⟩:=gK
theorem tf_134:gQ ⟨215,30,[],[],[[2],[],[5007],[8012],[13025],[0,3004,26],[2,4,26029],[0,3]],[.tmp 2],false⟩:=gK
theorem tf_193:gQ ⟨226,37,[(36,1)],[],[[1000001,4],[8012],[13],[2003,5,14015],[4005,14,16020],[21],[2003,6,22023],[4,6,22,24028],[29],[2003,7,30031],[2003,7,30,32036]],[.tmp 4],false⟩:=gK
theorem tf_138:gQ ⟨235,79,[],[],[[2],[8009],[0,10],[2,10013],[14],[0,3,15],[2,15],[],[],[16020],[21],[21026],[27],[27032],[33],[33040],[0,3006,41],[2003,41],[44],[42043],[43,46],[42,45],[45,48],[42,47],[42,47,50],[49],[5006,49,51061],[0,4,62],[2,62],[63064],[2,66067,77],[65,68076],[0,4,7,77],[0,4,7,78]],[.tmp 2],false⟩:=gK
theorem tf_66:gQ ⟨240,20,[],[],[[4],[7008],[9010],[5],[1000001,6,11],[12],[12],[4,6,11],[1000001,13],[4,13015],[1000001,16],[1000001,4,16018],[19],[19]],[.tmp 4],false⟩:=gK
theorem tf_67:gQ ⟨241,20,[],[],[[4],[7008],[9010],[5],[1000001,6,11],[12],[12],[4,6,11],[1000001,13],[4,13015],[1000001,16],[1000001,4,16018],[19],[19]],[.tmp 4],false⟩:=gK
theorem tf_199:gQ ⟨242,36,[(26,1)],[],[[6],[9012],[],[15016],[7,17026],[27],[1000002,8,13014,28029],[6,8,28,30],[1000002,13014,31035]],[.tmp 6],false⟩:=gK
theorem tf_68:gQ ⟨257,6,[],[],[[2],[0,3005]],[.tmp 2],false⟩:=gK
theorem tf_69:gQ ⟨258,6,[],[],[[2],[0,3005]],[.tmp 2],false⟩:=gK
noncomputable def funcs:Nat→Option SFunc
 |_=>none
end Go.Sh.Cd1
end

section
namespace Go.Sh
open Go Go.RowKit Go.Mor
theorem vcA:type_of%(wa2 (wa8 (wa8 (wa8 @iOf @u8f @u8g @u8h @arO @bFT @bTF @ES.fgt.eq_1) (wa8 @List.map_cons.{0,0} @List.map_nil.{0,0} @fgt3.eq_1 @TV.m3.eq_1 @TV.m3.eq_2 @TV.m2.eq_1 @TV.m2.eq_2 @TV.m1.eq_1) (wa8 @TV.m1.eq_2 @TV.m0.eq_1 @TV.m0.eq_2 @TV.m0.eq_3 @TV.m0.eq_4 @TV.m0.eq_5 @TV.m0.eq_6 @TV.m0.eq_7) (wa8 @TV.m0.eq_8 @TV.mF.eq_1 @TV.mF.eq_2 @TV.mE.eq_1 @TV.mE.eq_2 @TV.idsF.eq_1 @TV.idsF.eq_2 @TV.idsE.eq_1) (wa8 @TV.idsE.eq_2 @TV.renF.eq_1 @TV.renF.eq_2 @TV.renE.eq_1 @TV.renE.eq_2 @List.any_cons.{0} @List.any_nil.{0} @Bool.or_false) (wa8 @Bool.false_or @drp.eq_1 @drp.eq_2 @effG.eq_1 @effF.eq_1 @footOk.eq_1 @SOp.foot.eq_1 @SOp.foot.eq_2) (wa8 @SOp.foot.eq_3 @SOp.foot.eq_4 @only.eq_1 @only.eq_2 @isK.eq_1 @isK.eq_2 @eff.eq_1 @eff.eq_2) (wa8 @eff.eq_3 @eff.eq_4 @eff.eq_5 @eff.eq_6 @eff.eq_7 @eff.eq_8 @eff.eq_9 @eff.eq_11)) (wa8 (wa8 @eff.eq_12 @eff.eq_13 @eff.eq_14 @eff.eq_15 @eff.eq_16 @eff.eq_17 @eff.eq_18 @eff.eq_19) (wa8 @eff.eq_20 @eff.eq_21 @eff.eq_22 @eff.eq_23 @eff.eq_25 @eff.eq_29 @eff.eq_32 @eff.eq_33) (wa8 @eff.eq_34 @eff.eq_35 @eff.eq_36 @eff.eq_47 @eff.eq_48 @eff.eq_50 @eff.eq_51 @eff.eq_52) (wa8 @Arg.get.eq_1 @Arg.get.eq_2 @ES.fs.eq_1 @lk.eq_1 @lk.eq_2 @Option.map_some.{0,0} @Option.bind_some.{0,0} @ES.after.eq_1) (wa8 @ES.upd.eq_1 @ES.upd.eq_2 @ES.upd.eq_3 @ES.upd.eq_4 @ES.upd.eq_5 @ES.upd.eq_6 @ES.upd.eq_7 @ES.put.eq_1) (wa8 @ES.put.eq_2 @sv.eq_1 @sv.eq_2 @ES.kill.eq_1 @ES.kill.eq_2 @has.eq_1 @has.eq_2 @nbeq) (wa8 @nble @nblt @TV.val.eq_1 @TV.val.eq_2 @TV.val1.eq_1 @TV.val1.eq_2 @TV.int.eq_1 @TV.int.eq_2) (wa8 @TV.str.eq_1 @TV.str.eq_2 @TV.cells.eq_1 @TV.cells.eq_2 @TV.cells.eq_3 @TV.cells.eq_4 @TV.cells.eq_5 @TV.slen.eq_1)) (wa8 (wa8 @TV.slen.eq_2 @TV.slen.eq_3 @TV.slen.eq_4 @TV.slen.eq_5 @TV.toPV.eq_1 @TV.toPV.eq_2 @TV.toPV.eq_3 @TV.pvs.eq_1) (wa8 @seqO.eq_1 @seqO.eq_2 @bin_lss @bin_gtr @bin_leq @bin_geq @bin_eql @bin_neq) (wa8 @bin_add @bin_sub @bin_mul @sbin_eql @sbin_neq @sbin_lss @sbin_gtr @un_neg) (wa8 @un_not @startE.eq_1 @numT.eq_1 @numT.eq_2 @numB.eq_1 @numB.eq_2 @numB.eq_3 @numR.eq_1) (wa8 @numR.eq_2 @numR.eq_3 @ansW.eq_1 @ansW.eq_2 @resT.eq_1 @resT.eq_2 @SRes.get.eq_1 @SRes.get.eq_2) (wa8 @List.flatMap_nil.{0,0} @List.flatMap_cons.{0,0} @List.append_nil.{0} @List.nil_append.{0} @TV.ids3.eq_1 @TV.ids3.eq_2 @TV.ids2.eq_1 @TV.ids2.eq_2) (wa8 @TV.ids1.eq_1 @TV.ids1.eq_2 @TV.ids0.eq_1 @TV.ids0.eq_2 @TV.ids0.eq_3 @TV.ids0.eq_4 @TV.ren3.eq_1 @TV.ren3.eq_2) (wa8 @TV.ren2.eq_1 @TV.ren2.eq_2 @TV.ren1.eq_1 @TV.ren1.eq_2 @TV.ren0.eq_1 @TV.ren0.eq_2 @TV.ren0.eq_3 @TV.ren0.eq_4)) (wa8 (wa8 @TV.ren0.eq_5 @TV.ren0.eq_6 @TV.ren0.eq_7 @bound.eq_1 @bound.eq_2 @if_true.{1} @if_false.{1} @Bool.false_eq_true) (wa8 @partsT.eq_1 @fillT.eq_1 @fillT.eq_2 @splice.eq_1 @List.take_zero.{0} @List.take_succ_cons.{0} @List.drop_zero.{0} @List.drop_succ_cons.{0}) (wa8 @List.length_cons.{0} @List.length_nil.{0} @and_self @and_true @true_and @List.cons_append.{0} @List.getElem?_cons_zero.{0} @List.getElem?_cons_succ.{0}) (wa8 @Nat.zero_add @Bool.not_true @Bool.not_false @Go.Value.oneCell'.eq_1 @Go.Value.oneCell'.eq_2 @Go.Value.oneCell'.eq_3 @Go.Mor.str_toList @Go.Mor.str_size') (wa8 @Int.toNat_natCast @decide_true @decide_false @beq_self_eq_true.{0} @handI.eq_1 @FS.mo.eq_1 @MO.ren.eq_1 @MO.ren.eq_2) (wa8 @rhoIn.eq_1 @pos.eq_1 @pos.eq_2 @rhoOut.eq_1 @outs.eq_1 @outs.eq_2 @newId.eq_1 @dstId.eq_1) (wa8 @dstId.eq_2 @putMem.eq_1 @putMem.eq_2 @List.lookup.eq_1.{0,0} @List.lookup.eq_2.{0,0} @moOk.eq_1 @moOk.eq_2 @moOk.eq_3) (wa8 @moOk.eq_4 @Nat.le_refl @Int.natCast_nonneg @v_skip @v_seq @v_exit @v_ret @v_block)) (wa8 (wa8 @v_cond @v_reg @v_reg2 @v_nil @v_regK @v_skipK @v_op @v_guard) (wa8 @gW @gW_u @PostR.eq_1 @PostR.eq_2 @PostR.eq_3 @PostR.eq_4 @exitR.eq_1 @exitF.eq_1) (wa8 @idsFrom.eq_1 @idsFrom.eq_2 @gW_undef @Nat.sub_zero @gW_i @gK_T1 @gK_T0 @gK_F1) (wa8 @gK_F0 @gK_d1 @gK_d0 @gK_n1 @gK_n0 @v_then_n @v_then_r @v_then_x) (wa8 @v_blk_n @v_blk_r @v_blk_x @s_some @s_none @s_ite @s_get @bW_T) (wa8 @bW_F @bW_d @bW_n @bW_a @bW_o @bK @callIn.eq_1 @callOut.eq_1) (wa8 @callvIn.eq_1 @TV.callee.eq_1 @TV.callee.eq_2 @TV.callee.eq_3 @TV.callee.eq_4 @Post0.eq_1 @Post0.eq_2 @Post0.eq_3) (wa8 @Post0.eq_4 @Post1.eq_1 @Post1.eq_2 @Post1.eq_3 @Post1.eq_4 @ansW1.eq_1 @ansW1.eq_2 @bin_quoI)) (wa8 (wa8 @bin_remI @sbin_addI @TV.elems.eq_1 @TV.elems.eq_2 @TV.elems.eq_3 @TV.elems.eq_4 @TV.isNil.eq_1 @TV.isNil.eq_2) (wa8 @List.all_cons.{0} @List.all_nil.{0} @Bool.and_true @Bool.true_and @Bool.and_false @Bool.false_and @Bool.and_self @ne_eq.{1}) (wa8 @not_false_eq_true @not_true_eq_false @false_and @and_false @or_false @or_self @false_or @imp_self) (wa8 @forall_const.{0} @Option.isNone_none.{0} @List.getElem?_nil.{0} @decide_eq_true_eq @eq_self.{1} @Go.Mor.str_list @Go.Mor.str_append @Go.Mor.str_extract) (wa8 @List.getElem?_map.{0,0} @Option.map_map.{0,0,0} @List.length_map.{0,0} @Function.comp_apply.{1,1,1} @List.length_append.{0} @List.length_set.{0} @List.set_cons_zero.{0} @List.set_cons_succ.{0}) (wa8 @imp_false @Decidable.not_not @e_ssub @e_ssub1 @e_ssub2 @e_ssub3 @e_ssub4 @e_sub) (wa8 @e_sub1 @e_sub2 @e_sub3 @e_sub4 @e_subT1 @e_subT2 @e_subT3 @e_appB) (wa8 @e_appB1 @e_appN @e_appN1 @e_appN3 @e_appN4 @e_appN2 @e_appNS @e_appNS1)) (wa8 (wa8 @e_appNS2 @e_rng @e_rng1 @e_mks @e_mks1 @e_mksT @e_bslO @e_bslO1) (wa8 @e_nxt @e_nxt1 @e_nxt2 @s_ite2 @reach_nil @reach_cons @reach_m1 @reach_m2) (wa8 @reach_m3 @reach_m4 @Option.map_none.{0,0} @Option.bind_none.{0,0} @nc_mov @nc_pick @nc_bin @nc_un) (wa8 @nc_cvi @nc_cvs @nc_b2s @nc_imm @nc_sidx @nc_ssub @nc_slen @nc_new) (wa8 @nc_box @nc_build @nc_bsl @nc_bslO @nc_fld @nc_fldA @nc_ld @nc_st) (wa8 @nc_len @nc_idxA @nc_sub @nc_app @nc_appS @nc_appN @nc_appNS @nc_appB) (wa8 @nc_ext @nc_nchk @nc_mkf @nc_rng @nc_nxt @nc_mks @nc_lkp @nc_mkI) (wa8 @nc_fnil @nc_bad @np_bad @nc_bsl0 @np_bsl0 @nc_bslB @np_bslB @e_bslB)) (wa8 (wa8 @e_bslB1 @nc_mkm @np_mkm @e_fnil @e_fnil1 @e_fnil2 @e_fnil3 @e_fnil4) (wa8 @nc_pan @e_lkp @e_lkp1 @e_lkp2 @e_lkp3 @findKs.eq_1 @findKs.eq_2 @kdOf.eq_1) (wa8 @zeroT.eq_1 @zeroT.eq_2 @v_then_p @v_blk_p @v_panK @sp_some @sp_get @sp_ite) (wa8 @dstOps.eq_1 @List.filterMap_cons.{0,0} @List.filterMap_nil.{0,0} @PostP.eq_1 @PostP.eq_2 @vp_opE @vp_panE @panW1) (wa8 @np_mov @np_pick @np_bin @np_un @np_cvi @np_cvs @np_b2s @np_imm) (wa8 @np_sidx @np_ssub @np_slen @np_new @np_box @np_build @np_bsl @np_bslO) (wa8 @np_fld @np_fldA @np_ld @np_st @np_len @np_idxA @np_sub @np_app) (wa8 @np_appS @np_appN @np_appNS @np_appB @np_ext @np_nchk @np_mkf @np_rng))) (wa5 @np_nxt @np_mks @np_lkp @np_mkI @np_fnil)):=wa2 (wa8 (wa8 (wa8 @iOf @u8f @u8g @u8h @arO @bFT @bTF @ES.fgt.eq_1) (wa8 @List.map_cons.{0,0} @List.map_nil.{0,0} @fgt3.eq_1 @TV.m3.eq_1 @TV.m3.eq_2 @TV.m2.eq_1 @TV.m2.eq_2 @TV.m1.eq_1) (wa8 @TV.m1.eq_2 @TV.m0.eq_1 @TV.m0.eq_2 @TV.m0.eq_3 @TV.m0.eq_4 @TV.m0.eq_5 @TV.m0.eq_6 @TV.m0.eq_7) (wa8 @TV.m0.eq_8 @TV.mF.eq_1 @TV.mF.eq_2 @TV.mE.eq_1 @TV.mE.eq_2 @TV.idsF.eq_1 @TV.idsF.eq_2 @TV.idsE.eq_1) (wa8 @TV.idsE.eq_2 @TV.renF.eq_1 @TV.renF.eq_2 @TV.renE.eq_1 @TV.renE.eq_2 @List.any_cons.{0} @List.any_nil.{0} @Bool.or_false) (wa8 @Bool.false_or @drp.eq_1 @drp.eq_2 @effG.eq_1 @effF.eq_1 @footOk.eq_1 @SOp.foot.eq_1 @SOp.foot.eq_2) (wa8 @SOp.foot.eq_3 @SOp.foot.eq_4 @only.eq_1 @only.eq_2 @isK.eq_1 @isK.eq_2 @eff.eq_1 @eff.eq_2) (wa8 @eff.eq_3 @eff.eq_4 @eff.eq_5 @eff.eq_6 @eff.eq_7 @eff.eq_8 @eff.eq_9 @eff.eq_11)) (wa8 (wa8 @eff.eq_12 @eff.eq_13 @eff.eq_14 @eff.eq_15 @eff.eq_16 @eff.eq_17 @eff.eq_18 @eff.eq_19) (wa8 @eff.eq_20 @eff.eq_21 @eff.eq_22 @eff.eq_23 @eff.eq_25 @eff.eq_29 @eff.eq_32 @eff.eq_33) (wa8 @eff.eq_34 @eff.eq_35 @eff.eq_36 @eff.eq_47 @eff.eq_48 @eff.eq_50 @eff.eq_51 @eff.eq_52) (wa8 @Arg.get.eq_1 @Arg.get.eq_2 @ES.fs.eq_1 @lk.eq_1 @lk.eq_2 @Option.map_some.{0,0} @Option.bind_some.{0,0} @ES.after.eq_1) (wa8 @ES.upd.eq_1 @ES.upd.eq_2 @ES.upd.eq_3 @ES.upd.eq_4 @ES.upd.eq_5 @ES.upd.eq_6 @ES.upd.eq_7 @ES.put.eq_1) (wa8 @ES.put.eq_2 @sv.eq_1 @sv.eq_2 @ES.kill.eq_1 @ES.kill.eq_2 @has.eq_1 @has.eq_2 @nbeq) (wa8 @nble @nblt @TV.val.eq_1 @TV.val.eq_2 @TV.val1.eq_1 @TV.val1.eq_2 @TV.int.eq_1 @TV.int.eq_2) (wa8 @TV.str.eq_1 @TV.str.eq_2 @TV.cells.eq_1 @TV.cells.eq_2 @TV.cells.eq_3 @TV.cells.eq_4 @TV.cells.eq_5 @TV.slen.eq_1)) (wa8 (wa8 @TV.slen.eq_2 @TV.slen.eq_3 @TV.slen.eq_4 @TV.slen.eq_5 @TV.toPV.eq_1 @TV.toPV.eq_2 @TV.toPV.eq_3 @TV.pvs.eq_1) (wa8 @seqO.eq_1 @seqO.eq_2 @bin_lss @bin_gtr @bin_leq @bin_geq @bin_eql @bin_neq) (wa8 @bin_add @bin_sub @bin_mul @sbin_eql @sbin_neq @sbin_lss @sbin_gtr @un_neg) (wa8 @un_not @startE.eq_1 @numT.eq_1 @numT.eq_2 @numB.eq_1 @numB.eq_2 @numB.eq_3 @numR.eq_1) (wa8 @numR.eq_2 @numR.eq_3 @ansW.eq_1 @ansW.eq_2 @resT.eq_1 @resT.eq_2 @SRes.get.eq_1 @SRes.get.eq_2) (wa8 @List.flatMap_nil.{0,0} @List.flatMap_cons.{0,0} @List.append_nil.{0} @List.nil_append.{0} @TV.ids3.eq_1 @TV.ids3.eq_2 @TV.ids2.eq_1 @TV.ids2.eq_2) (wa8 @TV.ids1.eq_1 @TV.ids1.eq_2 @TV.ids0.eq_1 @TV.ids0.eq_2 @TV.ids0.eq_3 @TV.ids0.eq_4 @TV.ren3.eq_1 @TV.ren3.eq_2) (wa8 @TV.ren2.eq_1 @TV.ren2.eq_2 @TV.ren1.eq_1 @TV.ren1.eq_2 @TV.ren0.eq_1 @TV.ren0.eq_2 @TV.ren0.eq_3 @TV.ren0.eq_4)) (wa8 (wa8 @TV.ren0.eq_5 @TV.ren0.eq_6 @TV.ren0.eq_7 @bound.eq_1 @bound.eq_2 @if_true.{1} @if_false.{1} @Bool.false_eq_true) (wa8 @partsT.eq_1 @fillT.eq_1 @fillT.eq_2 @splice.eq_1 @List.take_zero.{0} @List.take_succ_cons.{0} @List.drop_zero.{0} @List.drop_succ_cons.{0}) (wa8 @List.length_cons.{0} @List.length_nil.{0} @and_self @and_true @true_and @List.cons_append.{0} @List.getElem?_cons_zero.{0} @List.getElem?_cons_succ.{0}) (wa8 @Nat.zero_add @Bool.not_true @Bool.not_false @Go.Value.oneCell'.eq_1 @Go.Value.oneCell'.eq_2 @Go.Value.oneCell'.eq_3 @Go.Mor.str_toList @Go.Mor.str_size') (wa8 @Int.toNat_natCast @decide_true @decide_false @beq_self_eq_true.{0} @handI.eq_1 @FS.mo.eq_1 @MO.ren.eq_1 @MO.ren.eq_2) (wa8 @rhoIn.eq_1 @pos.eq_1 @pos.eq_2 @rhoOut.eq_1 @outs.eq_1 @outs.eq_2 @newId.eq_1 @dstId.eq_1) (wa8 @dstId.eq_2 @putMem.eq_1 @putMem.eq_2 @List.lookup.eq_1.{0,0} @List.lookup.eq_2.{0,0} @moOk.eq_1 @moOk.eq_2 @moOk.eq_3) (wa8 @moOk.eq_4 @Nat.le_refl @Int.natCast_nonneg @v_skip @v_seq @v_exit @v_ret @v_block)) (wa8 (wa8 @v_cond @v_reg @v_reg2 @v_nil @v_regK @v_skipK @v_op @v_guard) (wa8 @gW @gW_u @PostR.eq_1 @PostR.eq_2 @PostR.eq_3 @PostR.eq_4 @exitR.eq_1 @exitF.eq_1) (wa8 @idsFrom.eq_1 @idsFrom.eq_2 @gW_undef @Nat.sub_zero @gW_i @gK_T1 @gK_T0 @gK_F1) (wa8 @gK_F0 @gK_d1 @gK_d0 @gK_n1 @gK_n0 @v_then_n @v_then_r @v_then_x) (wa8 @v_blk_n @v_blk_r @v_blk_x @s_some @s_none @s_ite @s_get @bW_T) (wa8 @bW_F @bW_d @bW_n @bW_a @bW_o @bK @callIn.eq_1 @callOut.eq_1) (wa8 @callvIn.eq_1 @TV.callee.eq_1 @TV.callee.eq_2 @TV.callee.eq_3 @TV.callee.eq_4 @Post0.eq_1 @Post0.eq_2 @Post0.eq_3) (wa8 @Post0.eq_4 @Post1.eq_1 @Post1.eq_2 @Post1.eq_3 @Post1.eq_4 @ansW1.eq_1 @ansW1.eq_2 @bin_quoI)) (wa8 (wa8 @bin_remI @sbin_addI @TV.elems.eq_1 @TV.elems.eq_2 @TV.elems.eq_3 @TV.elems.eq_4 @TV.isNil.eq_1 @TV.isNil.eq_2) (wa8 @List.all_cons.{0} @List.all_nil.{0} @Bool.and_true @Bool.true_and @Bool.and_false @Bool.false_and @Bool.and_self @ne_eq.{1}) (wa8 @not_false_eq_true @not_true_eq_false @false_and @and_false @or_false @or_self @false_or @imp_self) (wa8 @forall_const.{0} @Option.isNone_none.{0} @List.getElem?_nil.{0} @decide_eq_true_eq @eq_self.{1} @Go.Mor.str_list @Go.Mor.str_append @Go.Mor.str_extract) (wa8 @List.getElem?_map.{0,0} @Option.map_map.{0,0,0} @List.length_map.{0,0} @Function.comp_apply.{1,1,1} @List.length_append.{0} @List.length_set.{0} @List.set_cons_zero.{0} @List.set_cons_succ.{0}) (wa8 @imp_false @Decidable.not_not @e_ssub @e_ssub1 @e_ssub2 @e_ssub3 @e_ssub4 @e_sub) (wa8 @e_sub1 @e_sub2 @e_sub3 @e_sub4 @e_subT1 @e_subT2 @e_subT3 @e_appB) (wa8 @e_appB1 @e_appN @e_appN1 @e_appN3 @e_appN4 @e_appN2 @e_appNS @e_appNS1)) (wa8 (wa8 @e_appNS2 @e_rng @e_rng1 @e_mks @e_mks1 @e_mksT @e_bslO @e_bslO1) (wa8 @e_nxt @e_nxt1 @e_nxt2 @s_ite2 @reach_nil @reach_cons @reach_m1 @reach_m2) (wa8 @reach_m3 @reach_m4 @Option.map_none.{0,0} @Option.bind_none.{0,0} @nc_mov @nc_pick @nc_bin @nc_un) (wa8 @nc_cvi @nc_cvs @nc_b2s @nc_imm @nc_sidx @nc_ssub @nc_slen @nc_new) (wa8 @nc_box @nc_build @nc_bsl @nc_bslO @nc_fld @nc_fldA @nc_ld @nc_st) (wa8 @nc_len @nc_idxA @nc_sub @nc_app @nc_appS @nc_appN @nc_appNS @nc_appB) (wa8 @nc_ext @nc_nchk @nc_mkf @nc_rng @nc_nxt @nc_mks @nc_lkp @nc_mkI) (wa8 @nc_fnil @nc_bad @np_bad @nc_bsl0 @np_bsl0 @nc_bslB @np_bslB @e_bslB)) (wa8 (wa8 @e_bslB1 @nc_mkm @np_mkm @e_fnil @e_fnil1 @e_fnil2 @e_fnil3 @e_fnil4) (wa8 @nc_pan @e_lkp @e_lkp1 @e_lkp2 @e_lkp3 @findKs.eq_1 @findKs.eq_2 @kdOf.eq_1) (wa8 @zeroT.eq_1 @zeroT.eq_2 @v_then_p @v_blk_p @v_panK @sp_some @sp_get @sp_ite) (wa8 @dstOps.eq_1 @List.filterMap_cons.{0,0} @List.filterMap_nil.{0,0} @PostP.eq_1 @PostP.eq_2 @vp_opE @vp_panE @panW1) (wa8 @np_mov @np_pick @np_bin @np_un @np_cvi @np_cvs @np_b2s @np_imm) (wa8 @np_sidx @np_ssub @np_slen @np_new @np_box @np_build @np_bsl @np_bslO) (wa8 @np_fld @np_fldA @np_ld @np_st @np_len @np_idxA @np_sub @np_app) (wa8 @np_appS @np_appN @np_appNS @np_appB @np_ext @np_nchk @np_mkf @np_rng))) (wa5 @np_nxt @np_mks @np_lkp @np_mkI @np_fnil)
end Go.Sh
end

section
namespace Go.Proofs.YtpmlapgbmgbilaaGreatDoor
open Go Go.RowKit Go.Mor Go.Sh
abbrev zC:=SCalls Tryz.prog
theorem vW:type_of%vcA∧type_of%vV:=⟨vcA,vV⟩
theorem bS(l:zB):(⟨l.toArray⟩:ByteArray)=str l:=rfl
theorem wG{x y:Int}(h:x=y:=by omega)(h0: -9223372036854775808≤x:=by omega)(h1:x≤9223372036854775807:=by omega):IntKind.i64.wrap x=y:=by rw[wrap64 h0 h1,h]
theorem wS(i:Nat)(h:(i:Int)≤9223372036854775806:=by omega):IntKind.i64.wrap ((i:Int)+1)=((i+1:Nat):Int):=wG
theorem lwA{s0 s:ES}(h:s0.Lw s:=by apply z0e<;>simp[leL,lk,sv,Nat.beq,I,S,ES.kill,has,drp,zn]):s0.Lw s:=h
section
variable{g:Sh.Glob}{f:Nat}{H:Nat→Option Nat→Nat}{Fp:Nat→List (Nat→Option Nat)}{K:Nat→List Nat}{keep:Bool}{F:SFunc}{xs:List TV}{os os':List MO}{y:TV}{G:Prop}{c:SCode}
theorem za(hF:zW Tryz.prog f H Fp K keep=some F)(h:swp Tryz.prog g c (Post0 F.res y) (startE xs []))(hn:Nat.ble xs.length F.N=true:=by rfl)(hc:F.code=c:=by conv=>lhs;reduce):zC g f xs [] y []:=
 z7x ze hF hn (hc▸h)
theorem z0u(hF:zW Tryz.prog f H Fp K keep=some F)(h:G)(hn:Nat.ble xs.length F.N=true:=by rfl)(hc:F.code=c:=by conv=>lhs;reduce)(hr:swp Tryz.prog g c (Post0 F.res y) (startE xs [])=G:=by simp only[vW,seval];rfl):zC g f xs [] y []:=
 z7x ze hF hn (hc▸hr▸h)
theorem z27(hF:zW Tryz.prog f H Fp K false=some F)(h:swp Tryz.prog g c (Post1 F.res y) (startE xs []))(hk:F.keep=false:=by rfl)(hn:Nat.ble xs.length F.N=true:=by rfl)(hc:F.code=c:=by conv=>lhs;reduce):zC g f xs [] y []:=
 zeM ze hF hk hn (hc▸h)
theorem za4(hF:zW Tryz.prog f H Fp K false=some F)(h:G)(hk:F.keep=false:=by rfl)(hn:Nat.ble xs.length F.N=true:=by rfl)(hc:F.code=c:=by conv=>lhs;reduce)(hr:swp Tryz.prog g c (Post1 F.res y) (startE xs [])=G:=by simp only[vW,seval];rfl):zC g f xs [] y []:=
 zeM ze hF hk hn (hc▸hr▸h)
theorem zj(hF:zW Tryz.prog f H Fp K keep=some F)(h:swp Tryz.prog g c (PostR F.res F.keep os.length y os') (startE xs os))(hn:Nat.ble xs.length F.N=true:=by rfl)(hos:Nat.ble os.length 1000=true:=by rfl)(hmo:moOk os os'=true:=by rfl)(hc:F.code=c:=by conv=>lhs;reduce):zC g f xs os y os':=
 z5S ze hF hn hos hmo (hc▸h)
theorem zi9(hF:zW Tryz.prog f H Fp K keep=some F)(h:G)(hn:Nat.ble xs.length F.N=true:=by rfl)(hos:Nat.ble os.length 1000=true:=by rfl)(hmo:moOk os os'=true:=by rfl)(hc:F.code=c:=by conv=>lhs;reduce)(hr:swp Tryz.prog g c (PostR F.res F.keep os.length y os') (startE xs os)=G:=by simp only[vW,seval];rfl):zC g f xs os y os':=
 z5S ze hF hn hos hmo (hc▸hr▸h)
end
section
variable{g:Sh.Glob}{f m:Nat}{dst fp:Option Nat}{xs:List Arg}{xs':List TV}{I:List Nat}{os os':List MO}{y:TV}{l:List SOper}{K:ES→Prop}{s s':ES}{G:Prop}
theorem z7(hc:zC g f xs' os y os')(hk:zQ Tryz.prog g l K s')(hx:callIn s m xs=some (xs',os,I):=by simp only[vW,seval];rfl)(hfp:z4V fp I=true:=by rfl)(hmo:moOk os os'=true:=by first|rfl|(simp only[vcA,seval];omega))(hs:callOut s dst I y os'=some s':=by simp only[vW,seval];rfl):
  zQ Tryz.prog g (⟨dst,none,fp,.call f m xs⟩::l) K s:=zF hx hfp hc hmo hs hk
theorem z8(hc:zC g f xs' os y os')(h:G)(hx:callIn s m xs=some (xs',os,I):=by simp only[vW,seval];rfl)(hfp:z4V fp I=true:=by rfl)(hmo:moOk os os'=true:=by first|rfl|(simp only[vcA,seval];omega))(hs:callOut s dst I y os'=some s':=by simp only[vW,seval];rfl)(hr:zQ Tryz.prog g l K s'=G:=by simp only[vW,seval];rfl):
  zQ Tryz.prog g (⟨dst,none,fp,.call f m xs⟩::l) K s:=zF hx hfp hc hmo hs (hr▸h)
theorem zf(hc:zC g f xs' os y os')(hx:callIn s m xs=some (xs',os,I):=by simp only[vW,seval];rfl)(hfp:z4V fp I=true:=by rfl)(hmo:moOk os os'=true:=by first|rfl|(simp only[vcA,seval];omega))(hs:callOut s dst I y os'=some s':=by simp only[vW,seval];rfl)(hr:zQ Tryz.prog g l K s':=by simp only[vW,seval]):
  zQ Tryz.prog g (⟨dst,none,fp,.call f m xs⟩::l) K s:=zF hx hfp hc hmo hs hr
end
end Go.Proofs.YtpmlapgbmgbilaaGreatDoor
section
namespace Go.Proofs.YtpmlapgbmgbilaaGreatDoor
open Go Go.Sh
theorem kv{α:Type}{a b:Option α}(h:a=b:=by simp only[vcA,seval,vV];rfl):a=b:=h
theorem km{a b:List MO}(h:moOk a b=true:=by first|rfl|(simp only[vcA,seval];omega)):moOk a b=true:=h
end Go.Proofs.YtpmlapgbmgbilaaGreatDoor
end
end

section
namespace Go.Proofs.YtpmlapgbmgbilaaGreatDoor
open Go Go.RowKit Go.Mor Go.Sh Go.Sh.Cd1
theorem e0:(⟨#[]⟩:ByteArray)=str []:=rfl
theorem z3v(l:zB)(p:Nat):Utf8.decode (str l) p=Lib.decodeL (l.drop p):=by rw[←Lib.decodeL_drop,str_toList]
def B(b:Bool):TV:=.pv (.v (.bool b))
theorem zoi(g:Sh.Glob)(r:Nat):zC g 214 [.pv (.v (.int .i32 (r:Int)))] [] (B (z3T r)) []:=by
 refine za tf_202 ?_;have h1:decide ((32:Int)≤(r:Int))=decide (32≤r):=by rw[Bool.eq_iff_iff];simp;omega
 have h2:decide ((r:Int)=127)=(r==127):=by rw[Bool.eq_iff_iff];simp;omega
 unfold z3T B;by_cases h:32≤r
 ·have d1:(32:Int)≤(r:Int):=by omega
  simp only[vW,seval,d1,h2,h];rfl
 ·have d1:¬(32:Int)≤(r:Int):=by omega
  simp only[vW,seval,d1,h]
theorem zd1(m:Nat)(l:zB)(hl:l.length≤9223372036854775807):zC (gl0 m) 213 [S (str l)] [] (B (Lib.validD l)) []:=by
 have:=zao m 213 [S (str l)] [] (B (Lib.validD l)) [] (by simp[zeu,S,B,Nat.beq,str_size',hl,str_toList]);exact this
theorem zef(m:Nat)(l:zB)(hl:l.length≤9223372036854775807):zC (gl0 m) 172 [S (str l)] [] (B (zl l)) []:=by
 refine za tf_204 ?_;have HV:=zd1 m l hl;unfold zl B at*;by_cases h60:(l.length:Int)≤60
 ·have d1:¬(60:Int)<(l.length:Int):=by omega
  have h60':l.length≤60:=by omega
  simp only[vW,seval,d1];refine z7 HV ?_;cases hv:Lib.validD l
  ·simp only[vW,seval]
  simp only[vW,seval];refine zk (σ:={p:Nat // p≤l.length∧z38 l=z38 (l.drop p)}) (fun p=>⟨[(14,.it 14)],[],[],[(14,(str l,p.1))]⟩) (fun p=>l.length-p.1) ⟨0,Nat.zero_le _,rfl⟩ (z18 rfl) ?_;rintro⟨p,hp,hd⟩;by_cases hlt:p<l.length
  ·have hne:l.drop p≠[]:=by rw[Ne,List.drop_eq_nil_iff];omega
   rw[z5h _ hne]at hd;have hle:=Lib.decodeL_le (l.drop p) hne;have hw:=Lib.decodeL_width (l.drop p);rw[List.length_drop]at hle;have HP:=zoi (gl0 m) (Lib.decodeL (l.drop p)).1;unfold B at HP;simp only[vW,seval,hlt,z3v];refine z7 HP ?_;cases hr:z3T (Lib.decodeL (l.drop p)).1
   ·rw[hr]at hd;simp only[vW,seval];simp[hd]
   ·simp only[vW,seval];rw[hr,Bool.true_and,List.drop_drop]at hd;refine zc ⟨p+(Lib.decodeL (l.drop p)).2,by omega,hd⟩ (by show l.length-(p+_)<l.length-p;omega) ?_;exact lwA
  ·simp only[vW,seval,hlt,h60'];have hnil:l.drop p=[]:=List.drop_eq_nil_of_le (by omega);rw[hnil]at hd;rw[hd];rfl
 ·have d1:(60:Int)<(l.length:Int):=by omega
  have h60':¬l.length≤60:=by omega
  simp only[vW,seval,d1];simp[h60']
theorem zpB(g:Sh.Glob)(x:V):zC g 171 [tv x] [] (B (bare x)) []:=by
 refine za tf_198 ?_;have h1:decide ((x.l.length:Int)=0)=(x.l.length==0):=by rw[Bool.eq_iff_iff];simp
 unfold bare B;cases h:x.s==[]
 ·simp only[vW,seval,e0,h]
 ·simp only[vW,seval,e0,h,h1]
theorem zjW(g:Sh.Glob)(n:Int):zC g 173 [I n] [] (B (z3H n)) []:=by
 refine za tf_203 ?_;unfold B;simp only[vW,seval];unfold z3H
 repeat' (first|(apply And.intro)|(intro _))
 all_goals(first|rfl|(simp;omega)|(simp_all;done)|(simp_all;omega))
theorem zdM(k n:Int)(s:zB)(l:List V):z1L (.mk k n s l)=if k=0 then bare (.mk k n s l)&&n==0
 else if k=1 then bare (.mk k n s l)&&decide (-1000000000000000≤n)&&decide (n≤1000000000000000)
 else if k=2 then n==0&&l.length==0&&zl s
 else if k=3∨k=4 then bare (.mk k n s l)&&z3H n
 else false:=rfl
theorem zc7(m:Nat)(x:V)(hs:z25 x)(h5:x.k≠5):zC (gl0 m) 141 [tv x] [] (B (z1L x)) []:=by
 obtain⟨k,n,s,l⟩:=x;have HB:=zpB (gl0 m) (.mk k n s l);have HI:=zjW (gl0 m) n;have HT:=zef m s hs;have hln:decide ((l.length:Int)=0)=(l.length==0):=by rw[Bool.eq_iff_iff];simp
 have k5:¬k=5:=h5;clear h5 hs;rw[zdM];generalize bare (.mk k n s l)=b at HB ⊢;refine za tf_196 ?_;unfold B at*;by_cases k0:k=0
 ·subst k0;have hn0:decide (n=0)=(n==0):=by rw[Bool.eq_iff_iff];simp
  simp only[vW,seval];refine z7 HB ?_;cases b<;>simp only[vW,seval,hn0]
 rw[if_neg k0];by_cases k1:k=1
 ·subst k1;simp only[vW,seval];refine z7 HB ?_;cases b
  ·simp only[vW,seval]
  ·by_cases q1: -1000000000000000≤n<;>by_cases q2:n≤1000000000000000<;>simp only[vW,seval,q1,q2]
 rw[if_neg k1];by_cases k2:k=2
 ·subst k2;by_cases n0:n=0
  ·subst n0;cases hl:l.length==0
   ·simp only[vW,seval,hln,hl]
   ·simp only[vW,seval,hln,hl];exact zf HT
  ·have hn0:(n==0)=false:=by simpa using n0
   simp only[vW,seval,n0,hn0]
 rw[if_neg k2];by_cases k3:k=3
 ·subst k3;simp only[vW,seval];refine z7 HB ?_;cases b
  ·simp only[vW,seval]
  ·simp only[vW,seval];exact zf HI
 by_cases k4:k=4
 ·subst k4;simp only[vW,seval];refine z7 HB ?_;cases b
  ·simp only[vW,seval]
  ·simp only[vW,seval];exact zf HI
 simp only[vW,seval,k0,k1,k2,k3,k4,k5]
end Go.Proofs.YtpmlapgbmgbilaaGreatDoor
end
