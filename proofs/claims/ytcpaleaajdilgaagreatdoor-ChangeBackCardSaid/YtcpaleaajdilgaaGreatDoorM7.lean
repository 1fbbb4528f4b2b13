/- Merged texts: Zn2 Zn3 Zn4 Zn5 Zn6 Pv1 Pk2 Pk3 Zi0 Zh5 Zi5 Zh6 Zh7 Zn7 Cd8 Zn8 CSChBack. No statement of the program is proved here. -/
import Derived.Test.YtcpaleaajdilgaaGreatDoorM1
import Derived.Test.YtcpaleaajdilgaaGreatDoorM2
import Derived.Test.YtcpaleaajdilgaaGreatDoorM3
import Derived.Test.YtcpaleaajdilgaaGreatDoorM4
import Derived.Test.YtcpaleaajdilgaaGreatDoorM5
import Derived.Test.YtcpaleaajdilgaaGreatDoorM6
set_option linter.unusedSimpArgs false
set_option linter.unusedVariables false
section
namespace Go.Proofs.YtcpaleaajdilgaaGreatDoor
open Go Go.RowKit Go.Mor Go.Sh Go.Sh.Cd1 Go.Sh.Cd7
set_option maxRecDepth 100000
set_option maxHeartbeats 4000000
def encC(h:Chg):List UInt8:=num h.k++text h.f++text h.n++text h.m++(num h.t.k++num h.t.o)++text h.x++text h.o
structure ChFit(h:Chg):Prop where
 k:I64 h.k
 tk:I64 h.t.k
 ot:I64 h.t.o
 f:h.f.length≤10000
 n:h.n.length≤10000
 m:h.m.length≤10000
 x:h.x.length≤10000
 o:h.o.length≤10000
theorem words7_ok(a0 a1:Addr)(m:Nat)(s:List UInt8)(hs:s.length≤10000):SCalls Tryz.prog (gl a0 a1 m) 65 [S (str s)] [] (S (str (text s))) []:=by
 have HT:=wText_ok a0 a1 m s hs;refine z7 hmix tf_45 rfl ?_;simp only[vW,seval];(with_reducible apply v_call);exact kv;rfl;exact HT;exact km;exact kv;simp only[vW,seval]
theorem z107{s:List UInt8}(h:s.length≤10000):(text s).length≤10010:=by unfold text;rw[List.length_append];have:=z83 (s.length:Int);omega
def encT7(h:Chg):TV:=if wellV h then .tuple [S (str (encC h)),I 0] else .tuple [S (str []),I 70]
theorem encode7_ok(a0 a1:Addr)(m:Nat)(h:Chg)(hh:ChOk m h)(hf:ChFit h):SCalls Tryz.prog (glX a0 a1 m) 28 [chT h] [] (encT7 h) []:=by
 have HW:=sc_EX (a0:=a0) (a1:=a1) (wellFormed_ok m h hh);have N1:=sc_1X (wNum_ok a0 a1 m h.k hf.k);have N2:=sc_1X (wNum_ok a0 a1 m h.t.k hf.tk);have N3:=sc_1X (wNum_ok a0 a1 m h.t.o hf.ot);have T1:=sc_1X (words7_ok a0 a1 m h.f hf.f);have T2:=sc_1X (words7_ok a0 a1 m h.n hf.n);have T3:=sc_1X (words7_ok a0 a1 m h.m hf.m);have T4:=sc_1X (words7_ok a0 a1 m h.x hf.x);have T5:=sc_1X (words7_ok a0 a1 m h.o hf.o);have l1:=z83 h.k;have l2:=z83 h.t.k;have l3:=z83 h.t.o;have m1:=z107 hf.f;have m2:=z107 hf.n;have m3:=z107 hf.m;have m4:=z107 hf.x;have m5:=z107 hf.o;unfold encT7 encC;generalize num h.k=n1 at*;generalize num h.t.k=n2 at*;generalize num h.t.o=n3 at*;generalize text h.f=t1 at*;generalize text h.n=t2 at*;generalize text h.m=t3 at*;generalize text h.x=t4 at*;generalize text h.o=t5 at*;refine z7 hmix tf_32 rfl ?_;unfold chT B at*;generalize wellV h=wv at*;cases wv
 ·simp only[vW,seval];(with_reducible apply v_call);exact kv;rfl;exact HW;exact km;exact kv;simp only[vW,seval];rfl
 simp only[vW,seval];(with_reducible apply v_call);exact kv;rfl;exact HW;exact km;exact kv;simp only[vW,seval];(with_reducible apply v_call);exact kv;rfl;exact N1;exact km;exact kv;simp only[vW,seval];refine v_loop (σ:={i:Nat // i≤3}) (fun i=>⟨[(1,.ptr 1 0),(4,S (str (n1++([t1,t2,t3].take i.1).flatten))),(19,.pv (.sl 1 [[.v (.string (str h.f))],[.v (.string (str h.n))],[.v (.string (str h.m))]])),(20,I 3),(21,I (i.1:Int))],
  [(1,[I h.k,S (str h.f),S (str h.n),S (str h.m),I h.t.k,I h.t.o,S (str h.x),S (str h.o)])],[],[]⟩) (fun i=>3-i.1) ⟨0,by decide⟩ ?_ ?_
 ·apply lw_of<;>simp[leL,lk,sv,Nat.beq,I,S,ES.kill,has,drp,nilT]
 rintro⟨i,hi⟩;have hi:i=0∨i=1∨i=2∨i=3:=by omega
 have e0:([t1,t2,t3].take 0).flatten=[]:=rfl;have e1:([t1,t2,t3].take 1).flatten=t1:=by simp
 have e2:([t1,t2,t3].take 2).flatten=t1++t2:=by simp
 have e3:([t1,t2,t3].take 3).flatten=t1++(t2++t3):=by simp
 rcases hi with rfl|rfl|rfl|rfl
 ·simp only[e0,List.append_nil];simp only[vW,seval];(with_reducible apply v_call);exact kv;rfl;exact T1;exact km;exact kv;simp only[vW,seval];refine⟨by omega,z10 ⟨1,by decide⟩ (by show 3-1<3-0;decide) ?_⟩;simp only[e1];apply lw_of<;>simp[leL,lk,sv,Nat.beq,I,S,ES.kill,has,drp,nilT,show IntKind.i64.wrap 1=1 from rfl,show IntKind.i64.wrap 2=2 from rfl,show IntKind.i64.wrap 3=3 from rfl]
 ·simp only[e1];simp only[vW,seval];(with_reducible apply v_call);exact kv;rfl;exact T2;exact km;exact kv;simp only[vW,seval];refine⟨by(try simp only[List.length_append]);omega,z10 ⟨2,by decide⟩ (by show 3-2<3-1;decide) ?_⟩;simp only[e2,←List.append_assoc];apply lw_of<;>simp[leL,lk,sv,Nat.beq,I,S,ES.kill,has,drp,nilT,show IntKind.i64.wrap 1=1 from rfl,show IntKind.i64.wrap 2=2 from rfl,show IntKind.i64.wrap 3=3 from rfl]
 ·simp only[e2,←List.append_assoc];simp only[vW,seval];(with_reducible apply v_call);exact kv;rfl;exact T3;exact km;exact kv;simp only[vW,seval];refine⟨by(try simp only[List.length_append]);omega,z10 ⟨3,by decide⟩ (by show 3-3<3-2;decide) ?_⟩;simp only[e3,←List.append_assoc];apply lw_of<;>simp[leL,lk,sv,Nat.beq,I,S,ES.kill,has,drp,nilT,show IntKind.i64.wrap 1=1 from rfl,show IntKind.i64.wrap 2=2 from rfl,show IntKind.i64.wrap 3=3 from rfl]
 ·simp only[e3,←List.append_assoc];simp only[vW,seval];(with_reducible apply v_call);exact kv;rfl;exact N2;exact km;exact kv;simp only[vW,seval];(with_reducible apply v_call);exact kv;rfl;exact N3;exact km;exact kv;simp only[vW,seval];refine⟨by omega,by(try simp only[List.length_append]);omega,?_⟩;(with_reducible apply v_call);exact kv;rfl;exact T4;exact km;exact kv;simp only[vW,seval];refine⟨by(try simp only[List.length_append]);omega,?_⟩;(with_reducible apply v_call);exact kv;rfl;exact T5;exact km;exact kv;simp only[vW,seval];refine⟨by omega,?_⟩;simp[List.append_assoc]
def rdB(l:List UInt8)(st:Int×Bool):MO:=.box [S (str l),I st.1,B st.2]
def nuS(l:List UInt8)(st:Int×Bool):Int×(Int×Bool):=if st.2 then(0,(st.1,true))else match z31 l st.1 with|some (n,b)=>(n,(b,false))|none=>(0,(st.1,true))
def txS(l:List UInt8)(st:Int×Bool):List UInt8×(Int×Bool):=if st.2 then([],(st.1,true))else match z25 l st.1 with|some (t,b)=>(t,(b,false))|none=>([],(st.1,true))
theorem rdNum7_ok(a0 a1:Addr)(m:Nat)(l:List UInt8)(st:Int×Bool)(hl:l.length<1125899906842624)(h:I64 st.1):
  SCalls Tryz.prog (gl a0 a1 m) 66 [.ptr 1000 0] [rdB l st] (I (nuS l st).1) [rdB l (nuS l st).2]:=by
 have HR:=readNum_ok a0 a1 m l st.1 hl h;obtain⟨a,bad⟩:=st;unfold nuS rdB
 dsimp only at*
 refine z17 hmix tf_0 rfl rfl rfl ?_;unfold B at*;cases hr:z31 l a with
 |none=>
  rw[hr]at HR;simp only[numTV]at HR;cases bad
  ·simp only[vW,seval];(with_reducible apply v_call);exact kv;rfl;exact HR;exact km;exact kv;simp only[vW,seval]
  ·simp only[vW,seval];(with_reducible apply v_call);exact kv;rfl;exact HR;exact km;exact kv;simp only[vW,seval]
 |some p=>
  obtain⟨n,b⟩:=p;rw[hr]at HR;simp only[numTV]at HR;cases bad
  ·simp only[vW,seval];(with_reducible apply v_call);exact kv;rfl;exact HR;exact km;exact kv;simp only[vW,seval]
  ·simp only[vW,seval];(with_reducible apply v_call);exact kv;rfl;exact HR;exact km;exact kv;simp only[vW,seval]
theorem rdText7_ok(a0 a1:Addr)(m:Nat)(l:List UInt8)(st:Int×Bool)(hl:l.length<1125899906842624)(h:I64 st.1):
  SCalls Tryz.prog (gl a0 a1 m) 67 [.ptr 1000 0] [rdB l st] (S (str (txS l st).1)) [rdB l (txS l st).2]:=by
 have HR:=readText_ok a0 a1 m l st.1 hl h;have e0:(⟨#[]⟩:ByteArray)=str []:=rfl;obtain⟨a,bad⟩:=st;unfold txS rdB
 dsimp only at*
 refine z17 hmix tf_1 rfl rfl rfl ?_;unfold B at*;cases hr:z25 l a with
 |none=>
  rw[hr]at HR;simp only[readTV]at HR;cases bad
  ·simp only[vW,seval];(with_reducible apply v_call);exact kv;rfl;exact HR;exact km;exact kv;simp only[vW,seval,e0]
  ·simp only[vW,seval];(with_reducible apply v_call);exact kv;rfl;exact HR;exact km;exact kv;simp only[vW,seval,e0]
 |some p=>
  obtain⟨n,b⟩:=p;rw[hr]at HR;simp only[readTV]at HR;cases bad
  ·simp only[vW,seval];(with_reducible apply v_call);exact kv;rfl;exact HR;exact km;exact kv;simp only[vW,seval,e0]
  ·simp only[vW,seval];(with_reducible apply v_call);exact kv;rfl;exact HR;exact km;exact kv;simp only[vW,seval,e0]
theorem nuS_bd{l:List UInt8}{st:Int×Bool}(hl:l.length<1125899906842624)(h:I64 st.1):I64 (nuS l st).2.1∧I64 (nuS l st).1:=by
 unfold nuS;split
 ·exact⟨h,by unfold I64;omega⟩
 split
 ·rename_i e;have:=readNum_bound e;exact⟨⟨by dsimp only;omega,by dsimp only;omega⟩,⟨by dsimp only;omega,by dsimp only;omega⟩⟩
 ·exact⟨h,by unfold I64;omega⟩
theorem txS_bd{l:List UInt8}{st:Int×Bool}(hl:l.length<1125899906842624)(h:I64 st.1):I64 (txS l st).2.1∧(txS l st).1.length≤10000:=by
 unfold txS;split
 ·exact⟨h,by simp⟩
 split
 ·rename_i e;have:=readText_bound e;exact⟨⟨by dsimp only;omega,by dsimp only;omega⟩,by dsimp only;omega⟩
 ·exact⟨h,by simp⟩
def dec7(l:List UInt8)(a:Int):Chg×(Int×Bool):=
 let r1:=nuS l (a,false)
 let r2:=txS l r1.2
 let r3:=txS l r2.2
 let r4:=txS l r3.2
 let r5:=nuS l r4.2
 let r6:=nuS l r5.2
 let r7:=txS l r6.2
 let r8:=txS l r7.2
 (⟨r1.1,r2.1,r3.1,r4.1,⟨r5.1,r6.1⟩,r7.1,r8.1⟩,r8.2)
def chg0:Chg:=⟨0,[],[],[],⟨0,0⟩,[],[]⟩
def decT7(l:List UInt8)(a:Int):TV:=
 bif (dec7 l a).2.2|| !wellV (dec7 l a).1 then .tuple [chT chg0,I 0,I 10] else .tuple [chT (dec7 l a).1,I (dec7 l a).2.1,I 0]
theorem decode7_ok(a0 a1:Addr)(m:Nat)(l:List UInt8)(a:Int)(hl:l.length<1125899906842624)(h:I64 a)(hh:(dec7 l a).2.2=false→ChOk m (dec7 l a).1):
  SCalls Tryz.prog (glX a0 a1 m) 29 [S (str l),I a] [] (decT7 l a) []:=by
 have e0:(⟨#[]⟩:ByteArray)=str []:=rfl;unfold decT7;unfold dec7 at*
 dsimp only at*
 have H1:=sc_1X (rdNum7_ok a0 a1 m l (a,false) hl h);have b1:=(nuS_bd (st:=(a,false)) hl h).1;generalize nuS l (a,false)=r1 at*;obtain⟨n1,s1⟩:=r1;have H2:=sc_1X (rdText7_ok a0 a1 m l s1 hl b1);have b2:=(txS_bd hl b1).1
 dsimp only at*
 generalize txS l s1=r2 at*;obtain⟨n2,s2⟩:=r2;have H3:=sc_1X (rdText7_ok a0 a1 m l s2 hl b2);have b3:=(txS_bd hl b2).1
 dsimp only at*
 generalize txS l s2=r3 at*;obtain⟨n3,s3⟩:=r3;have H4:=sc_1X (rdText7_ok a0 a1 m l s3 hl b3);have b4:=(txS_bd hl b3).1
 dsimp only at*
 generalize txS l s3=r4 at*;obtain⟨n4,s4⟩:=r4;have H5:=sc_1X (rdNum7_ok a0 a1 m l s4 hl b4);have b5:=(nuS_bd hl b4).1
 dsimp only at*
 generalize nuS l s4=r5 at*;obtain⟨n5,s5⟩:=r5;have H6:=sc_1X (rdNum7_ok a0 a1 m l s5 hl b5);have b6:=(nuS_bd hl b5).1
 dsimp only at*
 generalize nuS l s5=r6 at*;obtain⟨n6,s6⟩:=r6;have H7:=sc_1X (rdText7_ok a0 a1 m l s6 hl b6);have b7:=(txS_bd hl b6).1
 dsimp only at*
 generalize txS l s6=r7 at*;obtain⟨n7,s7⟩:=r7;have H8:=sc_1X (rdText7_ok a0 a1 m l s7 hl b7);have b8:=(txS_bd hl b7).1
 dsimp only at*
 generalize txS l s7=r8 at*;obtain⟨n8,a8,bad⟩:=r8
 dsimp only at*
 have HW:bad=false→_:=fun e=>sc_EX (a0:=a0) (a1:=a1) (wellFormed_ok m _ (hh e));generalize wellV _=wv at*;unfold chT chg0 rdB B at*
 dsimp only at*
 refine z7 hmix tf_31 rfl ?_;simp only[vW,seval];(with_reducible apply v_call);exact kv;rfl;exact H1;exact km;exact kv;(with_reducible apply v_call);exact kv;rfl;exact H2;exact km;exact kv;(with_reducible apply v_call);exact kv;rfl;exact H3;exact km;exact kv;(with_reducible apply v_call);exact kv;rfl;exact H4;exact km;exact kv;simp only[vW,seval];(with_reducible apply v_call);exact kv;rfl;exact H5;exact km;exact kv;simp only[vW,seval];(with_reducible apply v_call);exact kv;rfl;exact H6;exact km;exact kv;simp only[vW,seval];(with_reducible apply v_call);exact kv;rfl;exact H7;exact km;exact kv;simp only[vW,seval];(with_reducible apply v_call);exact kv;rfl;exact H8;exact km;exact kv;cases bad
 ·have HW:=HW rfl;cases wv
  ·simp only[vW,seval];(with_reducible apply v_call);exact kv;rfl;exact HW;exact km;exact kv;simp only[vW,seval,e0];rfl
  ·simp only[vW,seval];(with_reducible apply v_call);exact kv;rfl;exact HW;exact km;exact kv;simp only[vW,seval,e0];rfl
 ·simp only[vW,seval,e0];rfl
def sameChg(a b:Chg):Bool:=(a.k==b.k)&&((a.f==b.f)&&((a.n==b.n)&&((a.m==b.m)&&(eqTy a.t b.t&&((a.x==b.x)&&((a.o==b.o)&&true))))))
def chA(k:Int)(f n m:ByteArray)(t o:Int)(x y:ByteArray):Array Value:= #[.int .i64 k,.string f,.string n,.string m,.int .i64 t,.int .i64 o,.string x,.string y]
theorem eqChgR(k k':Int)(f n m f' n' m':ByteArray)(t o t' o':Int)(x y x' y':ByteArray):z14 Tryz.prog (Op.equal 50 (.agg (chA k f n m t o x y)) (.agg (chA k' f' n' m' t' o' x' y')))=
  some ((k==k')&&((f==f')&&((n==n')&&((m==m')&&(eqTy ⟨t,o⟩ ⟨t',o'⟩&&((x==x')&&((y==y')&&true))))))):=by
 unfold Op.equal;obtain⟨d,hn⟩:∃d,Op.maxDepth=d+1+1+1:=⟨_,rfl⟩
 rw[hn,z84 _ _ _ _ (by kernel_rfl) (by kernel_rfl)];obtain⟨f1,f2,f3,f4,f5,f6,f7,hl,P1,P2,P3,P4,P5,P6,P7⟩:∃f1 f2 f3 f4 f5 f6 f7,(Tryz.prog.fieldsOf 50).toList=[f1,f2,f3,f4,f5,f6,f7]∧
   PartOk f1 (chA k f n m t o x y) (chA k' f' n' m' t' o' x' y') (.int .i64 k) (.int .i64 k') (k==k')∧
   PartOk f2 (chA k f n m t o x y) (chA k' f' n' m' t' o' x' y') (.string f) (.string f') (f==f')∧
   PartOk f3 (chA k f n m t o x y) (chA k' f' n' m' t' o' x' y') (.string n) (.string n') (n==n')∧
   PartOk f4 (chA k f n m t o x y) (chA k' f' n' m' t' o' x' y') (.string m) (.string m') (m==m')∧
   PartOk f5 (chA k f n m t o x y) (chA k' f' n' m' t' o' x' y') (.agg #[.int .i64 t,.int .i64 o]) (.agg #[.int .i64 t',.int .i64 o']) (eqTy ⟨t,o⟩ ⟨t',o'⟩)∧
   PartOk f6 (chA k f n m t o x y) (chA k' f' n' m' t' o' x' y') (.string x) (.string x') (x==x')∧
   PartOk f7 (chA k f n m t o x y) (chA k' f' n' m' t' o' x' y') (.string y) (.string y') (y==y'):=
  ⟨(Tryz.prog.fieldsOf 50).toList.getD 0 default,(Tryz.prog.fieldsOf 50).toList.getD 1 default,(Tryz.prog.fieldsOf 50).toList.getD 2 default,(Tryz.prog.fieldsOf 50).toList.getD 3 default,
   (Tryz.prog.fieldsOf 50).toList.getD 4 default,(Tryz.prog.fieldsOf 50).toList.getD 5 default,(Tryz.prog.fieldsOf 50).toList.getD 6 default,by kernel_rfl,
   ⟨of_decide_eq_true (by kernel_rfl),by kernel_rfl,by kernel_rfl,fun n=>prI (n+1) _ _⟩,
   ⟨of_decide_eq_true (by kernel_rfl),by kernel_rfl,by kernel_rfl,fun n=>prS (n+1) _ _⟩,
   ⟨of_decide_eq_true (by kernel_rfl),by kernel_rfl,by kernel_rfl,fun n=>prS (n+1) _ _⟩,
   ⟨of_decide_eq_true (by kernel_rfl),by kernel_rfl,by kernel_rfl,fun n=>prS (n+1) _ _⟩,
   ⟨of_decide_eq_true (by kernel_rfl),by kernel_rfl,by kernel_rfl,fun n=>eqTyN n _ _ _ _⟩,
   ⟨of_decide_eq_true (by kernel_rfl),by kernel_rfl,by kernel_rfl,fun n=>prS (n+1) _ _⟩,
   ⟨of_decide_eq_true (by kernel_rfl),by kernel_rfl,by kernel_rfl,fun n=>prS (n+1) _ _⟩⟩
 rw[hl];exact z62 P1 (z62 P2 (z62 P3 (z62 P4 (z62 P5 (z62 P6 (z62 P7 parts_nil))))))
theorem eqlChg(k k':Int)(f n m f' n' m':ByteArray)(t o t' o':Int)(x y x' y':ByteArray):
  scal Tryz.prog (do eqGuard .eql 50 (.const (.agg #[.int .i64 k,.string f,.string n,.string m,.int .i64 t,.int .i64 o,.string x,.string y])) (.const (.agg #[.int .i64 k',.string f',.string n',.string m',.int .i64 t',.int .i64 o',.string x',.string y'])) (.agg #[.int .i64 k,.string f,.string n,.string m,.int .i64 t,.int .i64 o,.string x,.string y]) (.agg #[.int .i64 k',.string f',.string n',.string m',.int .i64 t',.int .i64 o',.string x',.string y']);binOp .eql 50 (.agg #[.int .i64 k,.string f,.string n,.string m,.int .i64 t,.int .i64 o,.string x,.string y]) (.agg #[.int .i64 k',.string f',.string n',.string m',.int .i64 t',.int .i64 o',.string x',.string y']))=
  some (.pv (.v (.bool ((k==k')&&((f==f')&&((n==n')&&((m==m')&&(eqTy ⟨t,o⟩ ⟨t',o'⟩&&((x==x')&&((y==y')&&true))))))))),.no):=by
 unfold scal;rw[z28];have hg:z14 Tryz.prog (eqGuard .eql 50 (.const (.agg #[.int .i64 k,.string f,.string n,.string m,.int .i64 t,.int .i64 o,.string x,.string y])) (.const (.agg #[.int .i64 k',.string f',.string n',.string m',.int .i64 t',.int .i64 o',.string x',.string y'])) (.agg #[.int .i64 k,.string f,.string n,.string m,.int .i64 t,.int .i64 o,.string x,.string y]) (.agg #[.int .i64 k',.string f',.string n',.string m',.int .i64 t',.int .i64 o',.string x',.string y']))=some ():=by kernel_rfl
 rw[hg,Option.bind_some];have hb:binOp .eql 50 (.agg #[.int .i64 k,.string f,.string n,.string m,.int .i64 t,.int .i64 o,.string x,.string y]) (.agg #[.int .i64 k',.string f',.string n',.string m',.int .i64 t',.int .i64 o',.string x',.string y'])=(Op.equal 50 (.agg (chA k f n m t o x y)) (.agg (chA k' f' n' m' t' o' x' y'))>>=fun r=>pure (.bool r)):=rfl;rw[hb,z28,eqChgR];rfl
theorem strB3(a b:List UInt8):(str a==str b)=(a==b):=by
 show((str a).data==(str b).data)=(a==b)
 rw[Bool.eq_iff_iff,beq_iff_eq,beq_iff_eq];constructor
 ·intro h;have:=congrArg Array.toList h;simpa [str]using this
 ·intro h;rw[h]
theorem sameChg_ok(g:Sh.Glob)(a b:Chg):SCalls Tryz.prog g 27 [chT a,chT b] [] (B (sameChg a b)) []:=by
 have H:=eqlChg a.k b.k (str a.f) (str a.n) (str a.m) (str b.f) (str b.n) (str b.m) a.t.k a.t.o b.t.k b.t.o (str a.x) (str a.o) (str b.x) (str b.o);simp only[strB3]at H;refine z7 hmix tf_34 rfl ?_;unfold chT B sameChg;simp only[vW,seval,H]
def rd7:Rd Chg:=
 Rd.bind z31 fun k=>Rd.bind z25 fun f=>Rd.bind z25 fun n=>Rd.bind z25 fun m=>Rd.bind z31 fun t=>Rd.bind z31 fun o=>Rd.bind z25 fun x=>Rd.bind z25 fun y=>Rd.ret ⟨k,f,n,m,⟨t,o⟩,x,y⟩
theorem enc7{h:Chg}(hf:ChFit h):Enc rd7 (encC h) h:=by
 have e:encC h=num h.k++(text h.f++(text h.n++(text h.m++(num h.t.k++(num h.t.o++(text h.x++(text h.o++[]))))))):=by unfold encC;simp
 rw[e];refine(enc_num _ hf.k.1 hf.k.2).bind ((enc_text _ hf.f).bind ((enc_text _ hf.n).bind ((enc_text _ hf.m).bind ((enc_num _ hf.tk.1 hf.tk.2).bind ((enc_num _ hf.ot.1 hf.ot.2).bind ((enc_text _ hf.x).bind ((enc_text _ hf.o).bind ?_)))))));exact Enc.ret _
theorem cuts7:Cuts rd7:=
 cuts_num.bind fun _=>z155.bind fun _=>z155.bind fun _=>z155.bind fun _=>cuts_num.bind fun _=>cuts_num.bind fun _=>z155.bind fun _=>z155.bind fun _=>Cuts.ret _
theorem nuS_t(l:List UInt8)(a:Int):nuS l (a,true)=(0,(a,true)):=rfl
theorem txS_t(l:List UInt8)(a:Int):txS l (a,true)=([],(a,true)):=rfl
theorem nuS_n{l:List UInt8}{a:Int}(h:z31 l a=none):nuS l (a,false)=(0,(a,true)):=by unfold nuS;simp[h]
theorem txS_n{l:List UInt8}{a:Int}(h:z25 l a=none):txS l (a,false)=([],(a,true)):=by unfold txS;simp[h]
theorem nuS_s{l:List UInt8}{a n b:Int}(h:z31 l a=some (n,b)):nuS l (a,false)=(n,(b,false)):=by unfold nuS;simp[h]
theorem txS_s{l t:List UInt8}{a b:Int}(h:z25 l a=some (t,b)):txS l (a,false)=(t,(b,false)):=by unfold txS;simp[h]
theorem dec7_rd(l:List UInt8)(a:Int):match rd7 l a with|some (h,b)=>dec7 l a=(h,(b,false))|none=>(dec7 l a).2.2=true:=by
 unfold rd7 Rd.bind Rd.ret dec7;rcases h1:z31 l a with _|⟨k,b1⟩
 ·simp only[nuS_n h1,nuS_t,txS_t]
 simp only[nuS_s h1];rcases h2:z25 l b1 with _|⟨f,b2⟩
 ·simp only[txS_n h2,nuS_t,txS_t]
 simp only[txS_s h2];rcases h3:z25 l b2 with _|⟨n,b3⟩
 ·simp only[txS_n h3,nuS_t,txS_t]
 simp only[txS_s h3];rcases h4:z25 l b3 with _|⟨m,b4⟩
 ·simp only[txS_n h4,nuS_t,txS_t]
 simp only[txS_s h4];rcases h5:z31 l b4 with _|⟨t,b5⟩
 ·simp only[nuS_n h5,nuS_t,txS_t]
 simp only[nuS_s h5];rcases h6:z31 l b5 with _|⟨o,b6⟩
 ·simp only[nuS_n h6,nuS_t,txS_t]
 simp only[nuS_s h6];rcases h7:z25 l b6 with _|⟨x,b7⟩
 ·simp only[txS_n h7,nuS_t,txS_t]
 simp only[txS_s h7];rcases h8:z25 l b7 with _|⟨y,b8⟩
 ·simp only[txS_n h8,nuS_t,txS_t]
 simp only[txS_s h8]
theorem dec7_enc{h:Chg}(hf:ChFit h)(pre post:List UInt8):dec7 (pre++encC h++post) pre.length=(h,(((pre.length+(encC h).length:Nat):Int),false)):=by
 have:=dec7_rd (pre++encC h++post) pre.length;rw[enc7 hf pre post]at this;exact this
theorem dec7_cut{h:Chg}(hf:ChFit h)(k:Nat)(hk:k<(encC h).length):(dec7 ((encC h).take k) 0).2.2=true:=by
 have:=dec7_rd ((encC h).take k) 0;rw[(enc7 hf).cut cuts7 k hk]at this;exact this
theorem back7_ok(a0 a1:Addr)(m:Nat)(h:Chg)(hh:ChOk m h)(hf:ChFit h)(hw:wellV h=true)(pre post:List UInt8)(hl:(pre++encC h++post).length<1125899906842624):
  SCalls Tryz.prog (glX a0 a1 m) 29 [S (str (pre++encC h++post)),I (pre.length:Int)] [] (.tuple [chT h,I ((pre.length+(encC h).length:Nat):Int),I 0]) []:=by
 have H:=decode7_ok a0 a1 m (pre++encC h++post) (pre.length:Int) hl ⟨by omega,by simp only[List.length_append]at hl;omega⟩;unfold decT7 at H;rw[dec7_enc hf pre post]at H;have H:=H (fun _=>hh);simpa only[hw,Bool.not_true,Bool.or_self,cond_false]using H
theorem cut7_ok(a0 a1:Addr)(m:Nat)(h:Chg)(hf:ChFit h)(k:Nat)(hk:k<(encC h).length)(hl:(encC h).length<1125899906842624):
  SCalls Tryz.prog (glX a0 a1 m) 29 [S (str ((encC h).take k)),I 0] [] (.tuple [chT chg0,I 0,I 10]) []:=by
 have hc:=dec7_cut hf k hk;have H:=decode7_ok a0 a1 m ((encC h).take k) 0 (by rw[List.length_take];omega) ⟨by omega,by omega⟩ (fun h0=>by rw[hc]at h0;cases h0);unfold decT7 at H;simpa only[hc,Bool.true_or,cond_true]using H
theorem encC_len{h:Chg}(hf:ChFit h):0<(encC h).length∧(encC h).length≤60000:=by
 unfold encC;have l1:=z83 h.k;have l2:=z83 h.t.k;have l3:=z83 h.t.o;have m1:=z107 hf.f;have m2:=z107 hf.n;have m3:=z107 hf.m;have m4:=z107 hf.x;have m5:=z107 hf.o;have p:=readNum_bound (by simpa using enc_num _ hf.k.1 hf.k.2 [] []);simp only[List.length_append];omega
theorem txOk_of(m:Nat){s:List UInt8}{r:V×Int×Int}(h:parseV 1000 s=some r)(hl:s.length<4611686018427387904):TxOk m s:=by
 have e:rdV s=r:=by unfold rdV;rw[h];rfl
 refine⟨hl,fun _=> ?_,fun _=> ?_⟩
 ·rw[e];exact sc_0E (parse_any m s h)
 ·rw[e];unfold parseV at h;split at h
  ·cases h;exact esm_nil
  ·split at h
   ·cases h
   ·cases h;exact esm_nil
   ·rename_i L hL;split at h
    ·rename_i e p hp;split at h
     ·cases h;exact esm_nil
     ·split at h
      ·cases h;exact(parse_small (z140 _ _ _ _ _ (by simp) hL).1 _ _).1 _ _ _ _ hp
      ·cases h;exact esm_nil
    ·cases h;exact esm_nil
    ·cases h
theorem txOk_nil(m:Nat):TxOk m []:=⟨by simp,fun h=>absurd rfl h,fun h=>absurd rfl h⟩
theorem wk_sl{W:Nat}{es ds:List (List PV)}(hl:es.length=ds.length)(h:∀(i:Nat) cs ds',es[i]?=some cs→ds[i]?=some ds'→cs.length=ds'.length∧∀(j:Nat) c d,cs[j]?=some c→ds'[j]?=some d→∀w K v,Go.Sh.RelV w K c v→Go.Sh.RelV w K d v):Wk (.pv (.sl W es)) (.pv (.sl W ds)):=by
 intro w E r v hr;have get:∀(i j:Nat) ds' d,ds[i]?=some ds'→ds'[j]?=some d→∃cs c,es[i]?=some cs∧cs[j]?=some c∧∀w K v,Go.Sh.RelV w K c v→Go.Sh.RelV w K d v:=by
  intro i j ds' d h1 h2;have hi:i<es.length:=by
   rcases Nat.lt_or_ge i ds.length with h|h
   ·omega
   ·rw[List.getElem?_eq_none h]at h1;cases h1
  have hq:=h i _ ds' (gE hi) h1;have hj:j<es[i].length:=by
   rcases Nat.lt_or_ge j ds'.length with h|h
   ·have:=hq.1;omega
   ·rw[List.getElem?_eq_none h]at h2;cases h2
  exact⟨_,_,gE hi,gE hj,hq.2 j _ d (gE hj) h2⟩
 cases hr with
 |pv hr=>
  cases hr with
  |sl W es b off cap p f hp hcap hmax hW hc hs=>
   refine .pv ?_;rw[hl];refine .sl W ds b off cap p f (fun hne=>hp (fun e=>hne ?_)) (by omega) hmax ?_ ?_ ?_
   ·rw[e]at hl;exact List.eq_nil_of_length_eq_zero hl.symm
   ·intro ds' hm;obtain⟨i,hi,rfl⟩:=List.getElem_of_mem hm;have hi2:i<es.length:=by omega
    rw[←(h i _ _ (gE hi2) (gE hi)).1];exact hW _ (List.getElem_mem hi2)
   ·intro i j ds' d h1 h2;obtain⟨cs,c,g1,g2,_⟩:=get i j ds' d h1 h2;exact hc i j cs c g1 g2
   ·intro i j ds' d h1 h2;obtain⟨cs,c,g1,g2,g3⟩:=get i j ds' d h1 h2;exact g3 _ _ _ (hs i j cs c g1 g2)
def rvN(x:V):List PV:=[.v (.int .i64 x.k),.v (.int .i64 x.n),.v (.string (str x.s)),.v (.slice none 0 0)]
theorem wk_flat{l:List V}(h:∀v∈l,v.l=[]):Wk (.pv (.sl 4 (l.map rvN))) (.pv (.sl 4 (V.rows l))):=by
 refine wk_sl (by rw[z50];simp) (fun i cs ds h1 h2=> ?_);rw[z50]at h2;rw[List.getElem?_map]at h1 h2;cases hi:l[i]? with
 |none=>rw[hi]at h1;cases h1
 |some x=>
  rw[hi]at h1 h2;cases h1;cases h2;rw[row4];refine⟨rfl,fun j c d hc hd w K v hv=> ?_⟩;have hx:=h x (gM hi);rw[hx]at hd
  match j with
  |0=>cases hc;cases hd;exact hv
  |1=>cases hc;cases hd;exact hv
  |2=>cases hc;cases hd;exact hv
  |3=>
   cases hc;cases hd;cases hv;exact .sl 4 [] 0 0 0 none (fun _ _=>undef) (by simp) (by simp) (by simp) (by simp) (by simp) (by simp)
  |j+4=>cases hc
def cP:Cls:=⟨[112],[⟨[110,97,109,101],⟨2,0⟩,true⟩]⟩
def cD:Cls:=⟨[112],[⟨[111,110,101],⟨2,0⟩,false⟩,⟨[109,111,114,101],⟨2,0⟩,false⟩]⟩
def cQ:Cls:=⟨[113],[⟨[110],⟨1,0⟩,true⟩]⟩
def cM:Cls:=⟨[113],[⟨[110],⟨2,0⟩,false⟩]⟩
def hS:Chg:=⟨5,[110,97,109,101],[111,110,101],[109,111,114,101],⟨2,0⟩,[108,101,102,116,40,110,97,109,101,44,32,50,41],[102,114,111,109,40,110,97,109,101,44,32,51,41]⟩
def hT:Chg:=⟨4,[110],[],[],⟨2,0⟩,[116,101,120,116,40,110,41],[]⟩
def tx(s:List UInt8):V:=.mk 2 0 s []
theorem ap1:applyV cP hS=(cD,0):=by kernel_rfl
theorem va1:valsA cP hS [tx [97,98,32,99]]=([tx [97,98],tx [99]],0):=by kernel_rfl
theorem ap2:applyV cQ hT=(cM,0):=by kernel_rfl
theorem va2:valsA cQ hT [.mk 1 7 [] []]=([tx [55]],0):=by kernel_rfl
theorem ap3:applyV cQ hS=(⟨[],[]⟩,70):=by kernel_rfl
theorem ok1:okV cQ hT=true:=by kernel_rfl
theorem ok2:okV cP hT=false:=by kernel_rfl
theorem we2:wellV hT=true:=by kernel_rfl
theorem chS_ok(m:Nat):ChOk m hS:=⟨by unfold Short hS;decide,by unfold Short hS;decide,by unfold Short hS;decide,txOk_of m (r:=rdV hS.x) (by kernel_rfl) (by unfold hS;decide),txOk_of m (r:=rdV hS.o) (by kernel_rfl) (by unfold hS;decide)⟩
theorem chT_ok(m:Nat):ChOk m hT:=⟨by unfold Short hT;decide,by unfold Short hT;decide,by unfold Short hT;decide,txOk_of m (r:=rdV hT.x) (by kernel_rfl) (by unfold hT;decide),txOk_nil m⟩
theorem chT_fit:ChFit hT:=⟨by unfold I64 hT;decide,by unfold I64 hT;decide,by unfold I64 hT;decide,by unfold hT;decide,by unfold hT;decide,by unfold hT;decide,by unfold hT;decide,by unfold hT;decide⟩
theorem cP_ok:ClsOk cP:=⟨by unfold Short cP;decide,by unfold Short cP;decide,by unfold cP;decide⟩
theorem cQ_ok:ClsOk cQ:=⟨by unfold Short cQ;decide,by unfold Short cQ;decide,by unfold cQ;decide⟩
theorem fewF{x:V}(h:x.l=[])(hs:x.s.length≤60):VFew x∧VOk x:=⟨few0 h,by unfold VOk z106;rw[h];exact⟨by omega,by simp⟩⟩
theorem ex7_ok(a0 a1:Addr)(m:Nat):SCalls Tryz.prog (glX a0 a1 m) 22 [] [] (B true) []:=by
 have hS1:=chS_ok m;have hT1:=chT_ok m;have A1:=sc_EX (a0:=a0) (a1:=a1) (apply_ok m cP hS cP_ok hS1 (by decide));have V1:=sc_EX (a0:=a0) (a1:=a1) (changeVals_ok m cP hS [tx [97,98,32,99]] cP_ok hS1 (fun h=>by unfold hS at h;simp at h) (by intro v hv;simp at hv;subst hv;exact fewF rfl (by decide)) (by decide));have A2:=sc_EX (a0:=a0) (a1:=a1) (apply_ok m cQ hT cQ_ok hT1 (by decide));have V2:=sc_EX (a0:=a0) (a1:=a1) (changeVals_ok m cQ hT [.mk 1 7 [] []] cQ_ok hT1 (fun _ _=>freshB_flat _ _ (by decide) (by simp) (by intro v hv;simp at hv;subst hv;rfl)) (by intro v hv;simp at hv;subst hv;exact fewF rfl (by decide)) (by decide));have A3:=sc_EX (a0:=a0) (a1:=a1) (apply_ok m cQ hS cQ_ok hS1 (by decide));have R1:=sc_EX (a0:=a0) (a1:=a1) (changeRight_ok m cQ hT cQ_ok hT1);have R2:=sc_EX (a0:=a0) (a1:=a1) (changeRight_ok m cP hT cP_ok hT1);have EN:=encode7_ok a0 a1 m hT hT1 chT_fit;have le:=encC_len chT_fit;have DE:=back7_ok a0 a1 m hT hT1 chT_fit we2 [] [] (by simp only[List.nil_append,List.append_nil];omega);have DC:=cut7_ok a0 a1 m hT chT_fit ((encC hT).length / 2) (by omega) (by omega);simp only[List.nil_append,List.append_nil,List.length_nil,Nat.zero_add,Int.ofNat_zero]at DE
 unfold encT7 at EN;simp only[we2,if_true]at EN;have S1:=refSame4_ok (glX a0 a1 m) cD (by decide);have S2:=refSame4_ok (glX a0 a1 m) cM (by decide);have T1:=sameVals_ok (glX a0 a1 m) [tx [97,98],tx [99]] (by intro v hv;simp at hv;rcases hv with rfl|rfl<;>exact(fewF rfl (by decide)).1) (by decide);have T2:=sameVals_ok (glX a0 a1 m) [tx [55]] (by intro v hv;simp at hv;subst hv;exact(fewF rfl (by decide)).1) (by decide);have SS:=sameChg_ok (glX a0 a1 m) hT hT;rw[show sameChg hT hT=true by kernel_rfl]at SS;rw[ap1]at A1;rw[ap2]at A2;rw[ap3]at A3;rw[va1]at V1;rw[va2]at V2;rw[ok1]at R1;rw[ok2]at R2;have V1':SCalls Tryz.prog (glX a0 a1 m) 31 [clT cP,chT hS,.pv (.sl 4 ([tx [97,98,32,99]].map rvN))] [] (valsT ([tx [97,98],tx [99]],0)) []:=V1.inp rfl (fun j c d hc hd=>by
  match j with
  |0=>cases hc;cases hd;exact .refl _
  |1=>cases hc;cases hd;exact .refl _
  |2=>cases hc;cases hd;exact wk_flat (by intro v hv;simp at hv;subst hv;rfl)
  |j+3=>simp at hc)
 have V2':SCalls Tryz.prog (glX a0 a1 m) 31 [clT cQ,chT hT,.pv (.sl 4 ([V.mk 1 7 [] []].map rvN))] [] (valsT ([tx [55]],0)) []:=V2.inp rfl (fun j c d hc hd=>by
  match j with
  |0=>cases hc;cases hd;exact .refl _
  |1=>cases hc;cases hd;exact .refl _
  |2=>cases hc;cases hd;exact wk_flat (by intro v hv;simp at hv;subst hv;rfl)
  |j+3=>simp at hc)
 have V3:=sc_EX (a0:=a0) (a1:=a1) (changeVals_ok m cQ hT [] cQ_ok hT1 (fun _ h=>absurd rfl h) (by simp) (by decide));rw[show valsA cQ hT []=([],42) by kernel_rfl]at V3;have V3':SCalls Tryz.prog (glX a0 a1 m) 31 [clT cQ,chT hT,.pv (.v (.slice none 0 0))] [] (valsT ([],42)) []:=V3.inp rfl (fun j c d hc hd=>by
  match j with
  |0=>cases hc;cases hd;exact .refl _
  |1=>cases hc;cases hd;exact .refl _
  |2=>cases hc;cases hd;exact wk_nil 4
  |j+3=>simp at hc)
 have T1':SCalls Tryz.prog (glX a0 a1 m) 39 [.pv (.sl 4 (V.rows [tx [97,98],tx [99]])),.pv (.sl 4 ([tx [97,98],tx [99]].map rvN))] [] (B true) []:=T1.inp rfl (fun j c d hc hd=>by
  match j with
  |0=>cases hc;cases hd;exact .refl _
  |1=>cases hc;cases hd;exact wk_flat (by intro v hv;simp at hv;rcases hv with rfl|rfl<;>rfl)
  |j+2=>simp at hc)
 have T2':SCalls Tryz.prog (glX a0 a1 m) 39 [.pv (.sl 4 (V.rows [tx [55]])),.pv (.sl 4 ([tx [55]].map rvN))] [] (B true) []:=T2.inp rfl (fun j c d hc hd=>by
  match j with
  |0=>cases hc;cases hd;exact .refl _
  |1=>cases hc;cases hd;exact wk_flat (by intro v hv;simp at hv;subst hv;rfl)
  |j+2=>simp at hc)
 clear V1 V2 V3 T1 T2;unfold applyT valsT at*
 dsimp only at*
 generalize V.rows [tx [97,98],tx [99]]=r1 at*;generalize V.rows [tx [55]]=r2 at*;generalize encC hT=e at*;have w2:IntKind.i64.wrap (Int.tdiv (e.length:Int) 2)=((e.length / 2:Nat):Int):=by rw[show Int.tdiv (e.length:Int) 2=((e.length / 2:Nat):Int) from rfl,wrap64 (by omega) (by omega)]
 unfold clT chT flR hS hT cP cQ cD cM chg0 tx rvN B at*;simp only[List.map_cons,List.map_nil]at*;refine z7 hmix tf_104 rfl ?_;simp only[vW,seval];(with_reducible apply v_call);exact kv;rfl;exact A1;exact km;exact kv;simp only[vW,seval];(with_reducible apply v_call);exact kv;rfl;exact V1';exact km;exact kv;simp only[vW,seval];(with_reducible apply v_call);exact kv;rfl;exact A2;exact km;exact kv;simp only[vW,seval];(with_reducible apply v_call);exact kv;rfl;exact V2';exact km;exact kv;simp only[vW,seval];(with_reducible apply v_call);exact kv;rfl;exact A3;exact km;exact kv;simp only[vW,seval];(with_reducible apply v_call);exact kv;rfl;exact V3';exact km;exact kv;simp only[vW,seval];(with_reducible apply v_call);exact kv;rfl;exact EN;exact km;exact kv;simp only[vW,seval];(with_reducible apply v_call);exact kv;rfl;exact DE;exact km;exact kv;simp only[vW,seval,w2];refine⟨⟨by omega,by omega⟩,?_⟩;(with_reducible apply v_call);exact kv;rfl;exact DC;exact km;exact kv;simp only[vW,seval];(with_reducible apply v_call);exact kv;rfl;exact S1;exact km;exact kv;simp only[vW,seval];(with_reducible apply v_call);exact kv;rfl;exact T1';exact km;exact kv
 simp only[vW,seval];(with_reducible apply v_call);exact kv;rfl;exact S2;exact km;exact kv;simp only[vW,seval];(with_reducible apply v_call);exact kv;rfl;exact T2';exact km;exact kv;simp only[vW,seval];(with_reducible apply v_call);exact kv;rfl;exact SS;exact km;exact kv;simp only[vW,seval];(with_reducible apply v_call);exact kv;rfl;exact R1;exact km;exact kv;simp only[vW,seval];(with_reducible apply v_call);exact kv;rfl;exact R2;exact km;exact kv;simp only[vW,seval]
end Go.Proofs.YtcpaleaajdilgaaGreatDoor
end

section
namespace Go.Mor
open Go Go.RowKit
set_option maxHeartbeats 1000000
theorem mkVals_at{fs:List Fld}{l:List Int}{many:Int}{i:Nat}{f:Fld}(h:fs[i]?=some f):(mkVals fs l many)[i]?=some (mkVal f.t (rawN l i) many):=by unfold mkVals;rw[List.getElem?_mapIdx,h];rfl
theorem z166(fs:List Fld)(l:List Int)(many:Int):(mkVals fs l many).length=fs.length:=by unfold mkVals;exact List.length_mapIdx
theorem GoodC.type{c:Cls}(h:GoodC c){f:Fld}(hf:f∈c.fs):z19 f.t=true:=by
 have:=(h.fs f hf).1;unfold z26 at this;simp only[Bool.and_eq_true]at this;exact this.1.2
theorem vals_fit{c:Cls}(h:GoodC c)(l:List Int){many:Int}(hm:many≤100000){i:Nat}{f:Fld}{v:V}(hf:c.fs[i]?=some f)(hv:(mkVals c.fs l many)[i]?=some v):fitsV v f.t=true:=by
 rw[mkVals_at hf]at hv;cases hv;exact(fits_mkVal f.t _ many (h.type (gM hf)) hm).1
end Go.Mor
end

section
namespace Go.Mor
open Go
set_option maxHeartbeats 1000000
structure FitC(c:Cls)(vals:List V):Prop where
 r:z18 c=true
 len:vals.length=c.fs.length
 fit:∀(i:Nat) f v,c.fs[i]?=some f→vals[i]?=some v→fitsV v f.t=true
theorem FitC.chk{c:Cls}{vals:List V}(h:FitC c vals):check c vals=(0,0):=check_ok h.r h.len h.fit
theorem step_ok{c:Cls}{vals:List V}{h:Chg}(hf:FitC c vals)(hw:wellV h=true)(hm:mayV c h=true):applyV c h=(⟨c.n,fieldsV c h⟩,0)∧valsA c h vals=(valsV c h vals,0):=by
 have ho:okV c h=true:=by unfold okV;rw[hf.r,hw,hm];rfl
 unfold applyV valsA;rw[hf.chk,ho,hf.r];exact⟨rfl,rfl⟩
theorem putL_nil{α:Type}(l:List α)(i:Nat):putL l i []=l.eraseIdx i:=by unfold putL;rw[List.eraseIdx_eq_take_drop_succ,List.append_nil]
theorem putL_one{α:Type}{l:List α}{i:Nat}(h:i<l.length)(x:α):putL l i [x]=l.set i x:=by
 unfold putL;rw[List.set_eq_take_append_cons_drop,if_pos h,List.append_assoc];rfl
theorem dist_erase{l:List Fld}(h:Dist l)(k:Nat):Dist (l.eraseIdx k):=by
 intro i j f g hi hj he;rw[List.getElem?_eraseIdx]at hi hj;split at hi<;>split at hj<;>have:=h _ _ f g hi hj he<;>omega
theorem eqFld_iff(f g:Fld):eqFld f g=true ↔ f=g:=by
 obtain⟨n,⟨k,o⟩,ix⟩:=f;obtain⟨n',⟨k',o'⟩,ix'⟩:=g;simp[eqFld,and_assoc]
theorem eqFlds_iff:∀(l q:List Fld),eqFlds l q=true ↔ l=q
 |[],[]=>by simp[eqFlds]
 |[],_::_=>by simp[eqFlds]
 |_::_,[]=>by simp[eqFlds]
 |f::l,g::q=>by rw[eqFlds,Bool.and_eq_true,eqFld_iff,eqFlds_iff l q,List.cons.injEq]
theorem same_refl(c:Cls):z112 c c=true:=by
 unfold z112;rw[(eqFlds_iff c.fs c.fs).2 rfl];simp
theorem same_not{c d:Cls}(h:d.fs≠c.fs):z112 d c=false:=by
 unfold z112;cases he:eqFlds d.fs c.fs
 ·simp
 ·exact absurd ((eqFlds_iff _ _).1 he) h
def hDrop(n:List UInt8):Chg:=⟨2,n,[],[],ty0,[],[]⟩
def hRen(n q:List UInt8):Chg:=⟨3,n,q,[],ty0,[],[]⟩
def hIdx(n:List UInt8):Chg:=⟨6,n,[],[],ty0,[],[]⟩
def hAdd(q:List UInt8)(t:Ty):Chg:=⟨1,[],q,[],t,[],[]⟩
theorem right_at{c:Cls}(h:z18 c=true){i:Nat}{f:Fld}(hi:c.fs[i]?=some f):z13 f.n=true∧fieldAt c.fs f.n=i∧z26 f=true∧i<c.fs.length:=by
 have:=(z65 c).1 h;have hf:=this.2.2.1 f (gM hi);have hr:=hf;unfold z26 at hf;simp only[Bool.and_eq_true]at hf;exact⟨hf.1.1,dist_at this.2.2.2 hi,hr,(gJ hi).1⟩
theorem has_true{l:List Fld}{s:List UInt8}{i:Nat}(h:fieldAt l s=i):hasV l s=true∧atV l s=i:=by
 unfold hasV atV;rw[h];simp
theorem free_true{l:List Fld}{s:List UInt8}(h:fieldAt l s<0)(b:List UInt8):freeV l s b=true:=by unfold freeV;simp[h]
theorem not_at{l:List Fld}{s:List UInt8}(h:∀f∈l,f.n≠s):fieldAt l s<0:=(firstAt_neg _ _).2 fun f hf=>by simpa using h f hf
theorem fit_erase{c:Cls}{vals:List V}(h:FitC c vals)(k:Nat):FitC ⟨c.n,c.fs.eraseIdx k⟩ (vals.eraseIdx k):=by
 have hr:=(z65 c).1 h.r;refine⟨(z65 _).2 ⟨hr.1,Nat.le_trans (List.length_eraseIdx_le ..) hr.2.1,fun f hf=>hr.2.2.1 f (List.mem_of_mem_eraseIdx hf),dist_erase hr.2.2.2 k⟩,?_,fun i f v hi hv=> ?_⟩
 ·simp only[List.length_eraseIdx,h.len]
 ·simp only[List.getElem?_eraseIdx]at hi hv;split at hi
  ·rw[if_pos (by assumption)]at hv;exact h.fit _ _ _ hi hv
  ·rw[if_neg (by assumption)]at hv;exact h.fit _ _ _ hi hv
theorem drop_ok{c:Cls}{vals:List V}(h:FitC c vals){k:Nat}{f:Fld}(hk:c.fs[k]?=some f):
  applyV c (hDrop f.n)=(⟨c.n,c.fs.eraseIdx k⟩,0)∧valsA c (hDrop f.n) vals=(vals.eraseIdx k,0):=by
 obtain⟨h1,h2,h3,h4⟩:=right_at h.r hk;obtain⟨h5,h6⟩:=has_true h2;have:=step_ok (h:=hDrop f.n) h (by simp[wellV,needV,hDrop,nameV,formV,h1,eqTy]) (by simp[mayV,hDrop,h5]);rw[this.1,this.2];simp[fieldsV,valsV,hDrop,h6,putL_nil]
theorem z30{l:List Fld}{i:Nat}{f:Fld}(h:l[i]?=some f):l.getD i fld0=f:=by rw[List.getD_eq_getElem?_getD,h];rfl
theorem fit_set{c:Cls}{vals:List V}(h:FitC c vals){i:Nat}{f g:Fld}(hi:c.fs[i]?=some f)(ht:g.t=f.t)(hg:z26 g=true)(hn:∀(j:Nat) y,j≠i→c.fs[j]?=some y→y.n≠g.n):FitC ⟨c.n,c.fs.set i g⟩ vals:=by
 have hr:=(z65 c).1 h.r;have hlt:=(gJ hi).1;refine⟨(z65 _).2 ⟨hr.1,by simpa using hr.2.1,fun y hy=> ?_,dist_set hr.2.2.2 hi hn⟩,by simpa using h.len,fun j y v hj hv=> ?_⟩
 ·rcases List.mem_or_eq_of_mem_set hy with hy|rfl
  ·exact hr.2.2.1 y hy
  ·exact hg
 ·dsimp only at hj
  rw[set_get hi]at hj;split at hj
  ·rename_i e;subst e;cases hj;rw[ht];exact h.fit _ _ _ hi hv
  ·exact h.fit _ _ _ hj hv
theorem ren_ok{c:Cls}{vals:List V}(h:FitC c vals){i:Nat}{f:Fld}(hi:c.fs[i]?=some f){q:List UInt8}(hq:z13 q=true)(hn:∀g∈c.fs,g.n≠q):
  applyV c (hRen f.n q)=(⟨c.n,c.fs.set i ⟨q,f.t,f.ix⟩⟩,0)∧valsA c (hRen f.n q) vals=(vals,0)∧FitC ⟨c.n,c.fs.set i ⟨q,f.t,f.ix⟩⟩ vals:=by
 obtain⟨h1,h2,h3,h4⟩:=right_at h.r hi;obtain⟨h5,h6⟩:=has_true h2;have:=step_ok (h:=hRen f.n q) h (by simp[wellV,needV,hRen,nameV,formV,h1,hq,eqTy]) (by simp[mayV,hRen,h5,free_true (not_at hn)]);rw[this.1,this.2];refine⟨?_,rfl,fit_set h hi rfl ?_ fun j y _ hy=>hn y (gM hy)⟩
 ·simp only[fieldsV,hRen,h6,z30 hi,putL_one h4,show ¬(3:Int)=1 by decide,show ¬(3:Int)=2 by decide,if_false,if_true]
 ·unfold z26 at h3 ⊢;simp only[Bool.and_eq_true]at h3 ⊢;exact⟨⟨hq,h3.1.2⟩,h3.2⟩
theorem idx_ok{c:Cls}{vals:List V}(h:FitC c vals){i:Nat}{f:Fld}(hi:c.fs[i]?=some f)(hk:f.t.k≤3):
  applyV c (hIdx f.n)=(⟨c.n,c.fs.set i ⟨f.n,f.t, !f.ix⟩⟩,0)∧valsA c (hIdx f.n) vals=(vals,0)∧FitC ⟨c.n,c.fs.set i ⟨f.n,f.t, !f.ix⟩⟩ vals:=by
 obtain⟨h1,h2,h3,h4⟩:=right_at h.r hi;obtain⟨h5,h6⟩:=has_true h2;have:=step_ok (h:=hIdx f.n) h (by simp[wellV,needV,hIdx,nameV,formV,h1,eqTy]) (by simp[mayV,hIdx,h5,h6,hi,hk]);rw[this.1,this.2];refine⟨?_,rfl,fit_set h hi rfl ?_ fun j y hj hy e=>hj (((z65 c).1 h.r).2.2.2 _ _ y f hy hi e)⟩
 ·simp only[fieldsV,hIdx,h6,z30 hi,putL_one h4,show ¬(6:Int)=1 by decide,show ¬(6:Int)=2 by decide,show ¬(6:Int)=3 by decide,show ¬(6:Int)=4 by decide,show ¬(6:Int)=5 by decide,if_false]
 ·unfold z26 at h3 ⊢;simp only[Bool.and_eq_true]at h3 ⊢;exact⟨h3.1,by simp[hk]⟩
theorem add_ok{c:Cls}{vals:List V}(h:FitC c vals){q:List UInt8}{t:Ty}(hq:z13 q=true)(hn:∀g∈c.fs,g.n≠q)(ht:z19 t=true)(hl:c.fs.length<8):
  applyV c (hAdd q t)=(⟨c.n,c.fs++[⟨q,t,false⟩]⟩,0)∧valsA c (hAdd q t) vals=(vals++[zeroV t],0)∧FitC ⟨c.n,c.fs++[⟨q,t,false⟩]⟩ (vals++[zeroV t]):=by
 have hr:=(z65 c).1 h.r;have hne:=not_at hn;have:=step_ok (h:=hAdd q t) h (by simp[wellV,needV,hAdd,nameV,formV,hq,ht]) (by simp[mayV,hAdd,free_true hne,hl,tellV,Tl.is]);rw[this.1,this.2];refine⟨by simp[fieldsV,hAdd],by simp[valsV,hAdd,tellV,Tl.val],(z65 _).2 ⟨hr.1,by simp;omega,fun f hf=> ?_,dist_snoc hr.2.2.2 hne⟩,by simp[h.len],fun i f v hi hv=> ?_⟩
 ·rcases List.mem_append.1 hf with hf|hf
  ·exact hr.2.2.1 f hf
  ·obtain rfl:=List.mem_singleton.1 hf;simp[z26,hq,ht]
 ·dsimp only at hi
  have hl:=h.len;rw[List.getElem?_append]at hi hv;split at hi
  ·rw[if_pos (by omega)]at hv;exact h.fit _ _ _ hi hv
  ·rw[if_neg (by omega)]at hv;rw[List.getElem?_singleton]at hi hv;split at hi
   ·cases hi;rw[if_pos (by omega)]at hv;cases hv;exact fits_zero t ht
   ·cases hi
structure Step(c:Cls)(vals:List V)(h:Chg)(d:Cls)(u:List V):Prop where
 ap:applyV c h=(d,0)
 va:valsA c h vals=(u,0)
 fit:FitC d u
theorem quite_rt:z13 quite=true:=by decide
theorem st_drop{c:Cls}{vals:List V}(h:FitC c vals){k:Nat}{f:Fld}(hk:c.fs[k]?=some f):Step c vals (hDrop f.n) ⟨c.n,c.fs.eraseIdx k⟩ (vals.eraseIdx k):=
 ⟨(drop_ok h hk).1,(drop_ok h hk).2,fit_erase h k⟩
theorem st_ren{c:Cls}{vals:List V}(h:FitC c vals){i:Nat}{f:Fld}(hi:c.fs[i]?=some f){q:List UInt8}(hq:z13 q=true)(hn:∀g∈c.fs,g.n≠q):Step c vals (hRen f.n q) ⟨c.n,c.fs.set i ⟨q,f.t,f.ix⟩⟩ vals:=
 have:=ren_ok h hi hq hn
 ⟨this.1,this.2.1,this.2.2⟩
theorem st_idx{c:Cls}{vals:List V}(h:FitC c vals){i:Nat}{f:Fld}(hi:c.fs[i]?=some f)(hk:f.t.k≤3):Step c vals (hIdx f.n) ⟨c.n,c.fs.set i ⟨f.n,f.t, !f.ix⟩⟩ vals:=
 have:=idx_ok h hi hk
 ⟨this.1,this.2.1,this.2.2⟩
theorem st_add{c:Cls}{vals:List V}(h:FitC c vals){q:List UInt8}{t:Ty}(hq:z13 q=true)(hn:∀g∈c.fs,g.n≠q)(ht:z19 t=true)(hl:c.fs.length<8):Step c vals (hAdd q t) ⟨c.n,c.fs++[⟨q,t,false⟩]⟩ (vals++[zeroV t]):=
 have:=add_ok h hq hn ht hl
 ⟨this.1,this.2.1,this.2.2⟩
def Backs(c:Cls)(vals:List V)(h o:Chg)(t:Ty):Prop:=
 ∃d v,Step c vals h d v∧Step d v o c vals∧z112 d c=false∧(∀x∈v,x∈vals∨x=zeroV t)
theorem back_add{c:Cls}{vals:List V}(h:FitC c vals)(hn:∀g∈c.fs,g.n≠quite)(hl:c.fs.length<8):Backs c vals (hAdd quite ⟨5,4⟩) (hDrop quite) ⟨5,4⟩:=by
 have s1:=st_add (t:=⟨5,4⟩) h quite_rt hn (by decide) hl;have s2:=st_drop (k:=c.fs.length) (f:=⟨quite,⟨5,4⟩,false⟩) s1.fit (by simp);have e1:(c.fs++[(⟨quite,⟨5,4⟩,false⟩:Fld)]).eraseIdx c.fs.length=c.fs:=by rw[List.eraseIdx_append_of_length_le (Nat.le_refl _)];simp
 have e2:(vals++[zeroV ⟨5,4⟩]).eraseIdx c.fs.length=vals:=by rw[←h.len,List.eraseIdx_append_of_length_le (Nat.le_refl _)];simp
 dsimp only at s2
 rw[e1,e2]at s2;refine⟨_,_,s1,s2,same_not (by simp),fun x hx=> ?_⟩;rcases List.mem_append.1 hx with hx|hx
 ·exact .inl hx
 ·exact .inr (List.mem_singleton.1 hx)
theorem set_back{l:List Fld}{i:Nat}{f:Fld}(hi:l[i]?=some f)(g:Fld):(l.set i g).set i f=l:=by
 rw[List.set_set];obtain⟨h,rfl⟩:=gJ hi;exact List.set_getElem_self h
theorem back_ren{c:Cls}{vals:List V}(h:FitC c vals)(hn:∀g∈c.fs,g.n≠quite){i:Nat}{f:Fld}(hi:c.fs[i]?=some f):Backs c vals (hRen f.n quite) (hRen quite f.n) ⟨5,4⟩:=by
 have s1:=st_ren h hi quite_rt hn;have hi':(c.fs.set i ⟨quite,f.t,f.ix⟩)[i]?=some ⟨quite,f.t,f.ix⟩:=by rw[set_get hi,if_pos rfl]
 have s2:=st_ren s1.fit hi' (right_at h.r hi).1 (fun y hy e=>by
  obtain⟨j,hj⟩:=List.getElem?_of_mem hy
  dsimp only at hj
  rw[set_get hi]at hj;split at hj
  ·cases hj;exact hn f (gM hi) e.symm
  ·rename_i hne;exact hne (((z65 c).1 h.r).2.2.2 j i y f hj hi e))
 dsimp only at s2
 rw[show(⟨f.n,f.t,f.ix⟩:Fld)=f from rfl,set_back hi]at s2;refine⟨_,_,s1,s2,same_not fun e=> ?_,fun x hx=> .inl hx⟩
 dsimp only at e
 rw[e]at hi';rw[hi]at hi';exact hn f (gM hi) (congrArg Fld.n (Option.some.inj hi'))
theorem back_idx{c:Cls}{vals:List V}(h:FitC c vals){i:Nat}{f:Fld}(hi:c.fs[i]?=some f)(hk:f.t.k≤3):Backs c vals (hIdx f.n) (hIdx f.n) ⟨5,4⟩:=by
 have s1:=st_idx h hi hk;have hi':(c.fs.set i ⟨f.n,f.t, !f.ix⟩)[i]?=some ⟨f.n,f.t, !f.ix⟩:=by rw[set_get hi,if_pos rfl]
 have s2:=st_idx s1.fit hi' hk
 dsimp only at s2
 rw[show(⟨f.n,f.t, !!f.ix⟩:Fld)=f by rw[Bool.not_not],set_back hi]at s2;refine⟨_,_,s1,s2,same_not fun e=> ?_,fun x hx=> .inl hx⟩
 dsimp only at e
 rw[e]at hi';rw[hi]at hi';have:=congrArg Fld.ix (Option.some.inj hi');simp at this
end Go.Mor
end

section
namespace Go.Proofs.YtcpaleaajdilgaaGreatDoor
open Go Go.RowKit Go.Mor Go.Sh
set_option maxHeartbeats 2000000
theorem vok_60{v:V}(h1:v.s.length≤60)(h2:∀y∈v.l,y.s.length≤60):VOk v:=⟨by unfold z106;omega,fun y hy=>by have:=h2 y hy;unfold z106;omega⟩
end Go.Proofs.YtcpaleaajdilgaaGreatDoor
end

section
namespace Go.Proofs.YtcpaleaajdilgaaGreatDoor
open Go Go.RowKit Go.Mor Go.Sh Go.Sh.Cd1 Go.Sh.Cd6
set_option maxRecDepth 100000
set_option maxHeartbeats 8000000
theorem pick4_ok(g:Sh.Glob)(c n:Int)(hc:I64 c)(hn:0<n):SCalls Tryz.prog g 45 [I c,I n] [] (I (Go.Mor.pick c n)) []:=by
 obtain⟨h0,h1⟩:=hc;refine z7 hmix tf_102 rfl ?_;have hne:¬n=0:=by omega
 unfold Go.Mor.pick;by_cases hneg:c<0
 ·rw[if_pos hneg];have w1:IntKind.i64.wrap (c+1)=c+1:=wrap64 (by omega) (by omega);have w2:IntKind.i64.wrap (0-(c+1))= -(c+1):=by rw[wrap64 (by omega) (by omega)];omega
  have hm:(-(c+1)).tmod n=(-(c+1))%n:=Int.tmod_eq_emod_of_nonneg (by omega);simp only[vW,seval,hneg,hne,w1,w2,hm]
 ·rw[if_neg hneg];have hm:c.tmod n=c%n:=Int.tmod_eq_emod_of_nonneg (by omega);simp only[vW,seval,hneg,hne,hm]
theorem txts_at{i:Nat}(h:i<8):([[PV.v (.string ⟨#[]⟩)],[.v (.string ⟨#[97]⟩)],[.v (.string ⟨#[98,99]⟩)],[.v (.string ⟨#[195,169,116,195,169]⟩)],[.v (.string ⟨#[97,32,98]⟩)],[.v (.string ⟨#[122,122,32,116,111,112]⟩)],[.v (.string ⟨#[48]⟩)],[.v (.string ⟨#[45,55]⟩)]]:List (List PV))[i]?=some [.v (.string (str (txts (i:Int))))]:=by
 have:i=0∨i=1∨i=2∨i=3∨i=4∨i=5∨i=6∨i=7:=by omega
 rcases this with rfl|rfl|rfl|rfl|rfl|rfl|rfl|rfl<;>rfl
theorem z125(k n many:Int):(mkVal1 k n many).l=[]:=by
 unfold mkVal1
 repeat' split
 all_goals rfl
theorem valOf1_ok(g:Sh.Glob)(t:Ty)(n many:Int)(ht:1≤t.k∧t.k≤4)(hn:I64 n)(hm:1≤many∧many≤100000):SCalls Tryz.prog g 47 [tyT t,I n,I many] [] (nv (mkVal1 t.k n many)) []:=by
 obtain⟨k,o⟩:=t;simp only at ht;have hk:k=1∨k=2∨k=3∨k=4:=by omega
 unfold mkVal1;unfold tyT;simp only[];have h34:∀j:Int,(j=3∨j=4)→SCalls Tryz.prog g 47 [.agg [I j,I o],I n,I many] [] (nv (if many<1∨Go.Mor.pick n 5=4 then V.nil else .mk j (1+Go.Mor.pick n many) [] [])) []:=by
  intro j hj;have P5:=pick4_ok g n 5 hn (by decide);have PM:=pick4_ok g n many hn (by omega);have hb:=z32 n many (by omega);have d1:¬many<1:=by omega
  have w1:IntKind.i64.wrap (1+Go.Mor.pick n many)=1+Go.Mor.pick n many:=wrap64 (by omega) (by omega);refine z7 hmix tf_100 rfl ?_;unfold nv;generalize Go.Mor.pick n many=b at*;generalize Go.Mor.pick n 5=a at*;by_cases h4:a=4
  ·rw[if_pos (.inr h4)];rcases hj with rfl|rfl
   ·simp only[vW,seval,d1];(with_reducible apply v_call);exact kv;rfl;exact P5;exact km;exact kv;simp only[vW,seval,h4];rfl
   ·simp only[vW,seval,d1];(with_reducible apply v_call);exact kv;rfl;exact P5;exact km;exact kv;simp only[vW,seval,h4];rfl
  ·rw[if_neg (fun h=>h.elim (fun h=>by omega) h4)];rcases hj with rfl|rfl
   ·simp only[vW,seval,d1];(with_reducible apply v_call);exact kv;rfl;exact P5;exact km;exact kv;simp only[vW,seval,h4];(with_reducible apply v_call);exact kv;rfl;exact PM;exact km;exact kv;simp only[vW,seval,w1];rfl
   ·simp only[vW,seval,d1];(with_reducible apply v_call);exact kv;rfl;exact P5;exact km;exact kv;simp only[vW,seval,h4];(with_reducible apply v_call);exact kv;rfl;exact PM;exact km;exact kv;simp only[vW,seval,w1];rfl
 rcases hk with rfl|rfl|rfl|rfl
 ·have P:=pick4_ok g n 41 hn (by decide);have hb:=z32 n 41 (by decide);have w1:IntKind.i64.wrap (Go.Mor.pick n 41-20)=Go.Mor.pick n 41-20:=wrap64 (by omega) (by omega);rw[if_pos rfl];generalize Go.Mor.pick n 41=b at*;refine z7 hmix tf_100 rfl ?_;unfold nv;simp only[vW,seval];(with_reducible apply v_call);exact kv;rfl;exact P;exact km;exact kv;simp only[vW,seval,w1];rfl
 ·have P:=pick4_ok g n 8 hn (by decide);have hb:=z32 n 8 (by decide);rw[if_neg (show ¬(2:Int)=1 by decide),if_pos rfl];obtain⟨i,hi⟩:=Int.eq_ofNat_of_zero_le hb.1;rw[hi]at P hb ⊢;have e1:=txts_at (i:=i) (by omega);refine z7 hmix tf_100 rfl ?_;unfold nv;simp only[vW,seval];(with_reducible apply v_call);exact kv;rfl;exact P;exact km;exact kv;simp only[vW,seval,e1]
 ·rw[if_neg (show ¬(3:Int)=1 by decide),if_neg (show ¬(3:Int)=2 by decide)];exact h34 3 (.inl rfl)
 ·rw[if_neg (show ¬(4:Int)=1 by decide),if_neg (show ¬(4:Int)=2 by decide)];exact h34 4 (.inr rfl)
end Go.Proofs.YtcpaleaajdilgaaGreatDoor
end

section
namespace Go.Proofs.YtcpaleaajdilgaaGreatDoor
open Go Go.RowKit Go.Mor Go.Sh
set_option maxHeartbeats 2000000
theorem mk_few{t:Ty}{n many:Int}(ht:z19 t=true)(hm:many≤100000):VFew (mkVal t n many)∧VOk (mkVal t n many):=by
 obtain⟨_,h1,h2⟩:=fits_mkVal t n many ht hm;refine⟨?_,vok_60 h1 h2⟩;unfold mkVal;split
 ·have hb:=z32 n 4 (by decide);refine .mk (by rw[List.length_map,List.length_range];omega) fun y hy=> ?_;obtain⟨i,_,rfl⟩:=List.mem_map.1 hy;exact few0 (z125 _ _ _)
 ·exact few0 (z125 _ _ _)
theorem vals_few{c:Cls}(h:GoodC c)(l:List Int){many:Int}(hm:many≤100000):∀v∈mkVals c.fs l many,VFew v∧VOk v:=by
 intro v hv;obtain⟨i,hi⟩:=List.getElem?_of_mem hv;have hl:=(gJ hi).1;rw[z166]at hl;have hf:c.fs[i]?=some (c.fs[i]):=gE hl;rw[mkVals_at hf]at hi;cases hi;exact mk_few (h.type (gM hf)) hm
end Go.Proofs.YtcpaleaajdilgaaGreatDoor
end

section
namespace Go.Proofs.YtcpaleaajdilgaaGreatDoor
open Go Go.RowKit Go.Mor Go.Sh Go.Sh.Cd1 Go.Sh.Cd6
set_option maxRecDepth 100000
set_option maxHeartbeats 8000000
def iiR(l:List Int):List (List PV):=l.map fun z=>[PV.v (.int .i64 z)]
theorem iiGet(l:List Int)(k:Nat):(iiR l)[k]?=(l[k]?).map fun z=>[PV.v (.int .i64 z)]:=by unfold iiR;rw[List.getElem?_map]
theorem iiLen(l:List Int):(iiR l).length=l.length:=by unfold iiR;rw[List.length_map]
def mkL(o n many:Int)(i:Nat):List V:=(List.range i).map fun i:Nat=>mkVal1 o (n.tdiv 4+(i:Int)) many
theorem mkL_succ(o n many:Int)(i:Nat):mkL o n many (i+1)=mkL o n many i++[mkVal1 o (n.tdiv 4+(i:Int)) many]:=by unfold mkL;rw[List.range_succ,List.map_append];rfl
theorem mkL_len(o n many:Int)(i:Nat):(mkL o n many i).length=i:=by simp[mkL]
theorem valOf5_ok(g:Sh.Glob)(o n many:Int)(ho:1≤o∧o≤4)(hn:I64 n)(hm:1≤many∧many≤100000):SCalls Tryz.prog g 47 [tyT ⟨5,o⟩,I n,I many] [] (tv (mkVal ⟨5,o⟩ n many)) []:=by
 have P4:=pick4_ok g n 4 hn (by decide);have hb:=z32 n 4 (by decide);have hn':=hn;obtain⟨n0,n1⟩:=hn';obtain⟨q,hq⟩:=Int.eq_ofNat_of_zero_le hb.1;have e1:mkVal ⟨5,o⟩ n many=.mk 5 0 [] (mkL o n many q):=by unfold mkVal mkL;rw[if_pos rfl,hq];rfl
 rw[e1];rw[hq]at P4 hb;refine z54 hmix tf_100 rfl rfl ?_;unfold tv tyT;simp only[vW,seval];refine v_loop (σ:={i:Nat // i≤q}) (fun i=>⟨[(1,I n),(2,I many),(3,.ptr 3 0),(6,.ptr 6 0),(8,.ptr 8 0),(9,I (i.1:Int))],
   [(3,[I 5,I o]),(6,[I 0,I 0,S ⟨#[]⟩,nilT]),(8,[I 5,I 0,S ⟨#[]⟩,.own 3000 4 (V.rows (mkL o n many i.1))])],[(3000,(37,4,i.1))],[]⟩) (fun i=>q-i.1) ⟨0,Nat.zero_le _⟩ ?_ ?_
 ·refine ES.Lw.trans ?_ (adB_lw (x:=8) (j:=3) (d:=3000) (e:=37) (W:=4) (.inr (by decide)) (by decide) rfl (by simp only[vcA,seval]) rfl);exact lw_eq rfl
 rintro⟨i,hi⟩;have hlen:=mkL_len o n many i;by_cases hlt:i<q
 ·have d1:(i:Int)<(q:Int):=by omega
  have w1:IntKind.i64.wrap ((i:Int)+1)=((i+1:Nat):Int):=by rw[wrap64 (by omega) (by omega)];omega
  have t0: -9223372036854775808≤n.tdiv 4∧n.tdiv 4≤2305843009213693952:=by
   rcases Int.le_total 0 n with h|h
   ·rw[Int.tdiv_eq_ediv_of_nonneg h];omega
   ·have:n.tdiv 4= -((-n).tdiv 4):=by rw[Int.neg_tdiv];omega
    rw[this,Int.tdiv_eq_ediv_of_nonneg (by omega)];omega
  have w2:IntKind.i64.wrap (n.tdiv 4)=n.tdiv 4:=wrap64 (by omega) (by omega);have w3:IntKind.i64.wrap (n.tdiv 4+(i:Int))=n.tdiv 4+(i:Int):=wrap64 (by omega) (by omega);have HV:=(valOf1_ok g ⟨o,0⟩ (n.tdiv 4+(i:Int)) many ho ⟨by omega,by omega⟩ hm).out (nv_tv (z125 _ _ _));unfold tv tyT at HV;rw[z125,V.rows_nil]at HV;simp only[vW,seval,nilT];(with_reducible apply v_call);exact kv;rfl;exact P4;exact km;exact kv;simp only[vW,seval,d1,w2,w3];refine Or.inl ?_;(with_reducible apply v_call);exact kv;rfl;exact HV;exact km;exact kv;simp only[vW,seval,hlen,w1];refine⟨⟨by omega,by unfold maxLen;omega⟩,z10 ⟨i+1,hlt⟩ (by show q-(i+1)<q-i;omega) ?_⟩;refine lw_eq ?_;simp only[mkL_succ,z86,row_of_nil (z125 _ _ _),z125,V.rows_nil]
 ·obtain rfl:i=q:=by omega
  have d1:¬(i:Int)<(i:Int):=by omega
  simp only[vW,seval,nilT];(with_reducible apply v_call);exact kv;rfl;exact P4;exact km;exact kv;simp only[vW,seval,d1];all_goals rfl
theorem mkVal_1{t:Ty}(h:¬t.k=5)(n many:Int):mkVal t n many=mkVal1 t.k n many:=by unfold mkVal;rw[if_neg h]
theorem valOf4_ok(g:Sh.Glob)(t:Ty)(n many:Int)(ht:z19 t=true)(hn:I64 n)(hm:1≤many∧many≤100000):SCalls Tryz.prog g 47 [tyT t,I n,I many] [] (tv (mkVal t n many)) []:=by
 obtain⟨k,o⟩:=t;unfold z19 at ht;by_cases h:k=5
 ·subst h;rw[if_pos rfl,decide_eq_true_iff]at ht;exact valOf5_ok g o n many ht hn hm
 ·rw[if_neg h,decide_eq_true_iff]at ht;rw[mkVal_1 h];exact(valOf1_ok g ⟨k,o⟩ n many ⟨ht.1,ht.2.1⟩ hn hm).out (nv_tv (z125 _ _ _))
theorem rawN_at{l:List Int}{i:Nat}(h:l≠[]):∃z,l[i%l.length]?=some z∧rawN l i=IntKind.i64.wrap (z+i):=by
 have hp:0<l.length:=List.length_pos_iff.2 h;refine⟨_,gE (Nat.mod_lt _ hp),?_⟩;unfold rawN;rw[if_neg h,List.getD_eq_getElem?_getD,gE (Nat.mod_lt _ hp)];rfl
theorem wrap_64(x:Int):I64 (IntKind.i64.wrap x):=by unfold I64;rw[IntKind.wrap_i64];omega
theorem valsOf4_ok(g:Sh.Glob)(c:Cls)(l:List Int)(many:Int)(hc:∀f∈c.fs,z19 f.t=true)(hl:c.fs.length≤1000)(hll:l.length≤9223372036854775807)(hm:1≤many∧many≤100000):
  SCalls Tryz.prog g 13 [clT c,.pv (.sl 1 (iiR l)),I many] [] (.pv (.sl 4 (V.rows (mkVals c.fs l many)))) []:=by
 refine z54 hmix tf_101 rfl rfl ?_;simp only[vW,seval,clV];refine v_loop (σ:={i:Nat // i≤c.fs.length}) (fun i=>⟨[(1,.pv (.sl 1 (iiR l))),(2,I many),(3,.ptr 3 0),(7,.own 3000 4 (V.rows ((mkVals c.fs l many).take i.1))),(8,I (i.1:Int))],
   [(3,[S (str c.n),.pv (.sl 4 (flR c.fs))])],[(3000,(37,4,i.1))],[]⟩) (fun i=>c.fs.length-i.1) ⟨0,Nat.zero_le _⟩ ?_ ?_
 ·refine ES.Lw.trans ?_ (adT_lw (k:=7) (d:=3000) (e:=37) (W:=4) (.inr (by decide)) rfl);exact lw_eq rfl
 rintro⟨i,hi⟩;have hlen:((mkVals c.fs l many).take i).length=i:=by rw[List.length_take,z166];omega
 by_cases hlt:i<c.fs.length
 ·have d1:(i:Int)<(c.fs.length:Int):=by omega
  obtain⟨f,ef⟩:∃f,c.fs[i]?=some f:=⟨_,gE hlt⟩
  have w1:IntKind.i64.wrap ((i:Int)+1)=((i+1:Nat):Int):=by rw[wrap64 (by omega) (by omega)];omega
  have htk:(mkVals c.fs l many).take (i+1)=(mkVals c.fs l many).take i++[mkVal f.t (rawN l i) many]:=by rw[List.take_add_one,mkVals_at ef];rfl
  have hN:I64 (rawN l i):=by
   unfold rawN;split
   ·exact⟨by omega,by omega⟩
   ·exact wrap_64 _
  have HV:=valOf4_ok g f.t (rawN l i) many (hc f (gM ef)) hN hm;unfold tv tyT at HV;by_cases h0:l=[]
  ·have hr:rawN l i=(i:Int):=by unfold rawN;rw[if_pos h0]
   have d2:¬0<(l.length:Int):=by rw[h0];decide
   rw[hr]at HV htk;simp only[vW,seval,d1,d2,iiLen,ef,clV];refine Or.inl ?_;(with_reducible apply v_call);exact kv;rfl;exact HV;exact km;exact kv;simp only[vW,seval,hlen,w1];refine⟨⟨by omega,by unfold maxLen;omega⟩,z10 ⟨i+1,hlt⟩ (by show c.fs.length-(i+1)<c.fs.length-i;omega) ?_⟩;refine lw_eq ?_;simp only[htk,z86,row4]
  ·obtain⟨z,hz,hr⟩:=rawN_at (i:=i) h0;have hp:0<l.length:=List.length_pos_iff.2 h0;have d2:0<(l.length:Int):=by omega
   have d3:¬(l.length:Int)=0:=by omega
   have hmm:(i:Int).tmod (l.length:Int)=((i%l.length:Nat):Int):=(Int.ofNat_tmod _ _).symm;rw[hr]at HV htk;simp only[vW,seval,d1,d2,iiLen,d3,hmm,iiGet,hz,ef,clV];refine Or.inl ?_;(with_reducible apply v_call);exact kv;rfl;exact HV;exact km;exact kv;simp only[vW,seval,hlen,w1];refine⟨⟨by omega,by unfold maxLen;omega⟩,z10 ⟨i+1,hlt⟩ (by show c.fs.length-(i+1)<c.fs.length-i;omega) ?_⟩;refine lw_eq ?_;simp only[htk,z86,row4]
 ·obtain rfl:i=c.fs.length:=by omega
  have d1:¬(c.fs.length:Int)<(c.fs.length:Int):=by omega
  simp only[vW,seval,d1,clV];rw[List.take_of_length_le (by rw[z166];omega)]
theorem flR_snoc(l:List Fld)(f:Fld):flR (l++[f])=flR l++[flR1 f]:=by unfold flR;rw[List.map_append];rfl
theorem field_tuple(l:List Fld)(s:List UInt8):∃(p:Int) (t:Bool),fieldT l s=.tuple [I p,.pv (.v (.bool t))]∧(fieldAt l s<0 ↔ t=false):=by
 unfold fieldT B;by_cases h:fieldAt l s<0
 ·rw[if_pos h];exact⟨0,false,rfl,fun _=>rfl,fun _=>h⟩
 ·rw[if_neg h];exact⟨_,true,rfl,fun h'=>absurd h' h,fun h'=>by cases h'⟩
theorem classOf4_ok(g:Sh.Glob)(x:Raw)(hx:RawOk x):SCalls Tryz.prog g 12 [rawT x] [] (clT (z79 x)) []:=by
 have PN:=pick4_ok g x.n 6 hx.n (by decide);have hb:=z32 x.n 6 (by decide);have hlx:=hx.len;obtain⟨q,hq⟩:=Int.eq_ofNat_of_zero_le hb.1;have ec:=nmC_at (i:=q) (by omega);have e0:z79 x=⟨nmC (q:Int),(x.fs.take 6).foldl addF []⟩:=by unfold z79;rw[hq]
 rw[e0];rw[hq]at PN;refine z54 hmix tf_99 rfl rfl ?_;unfold rawT clT;simp only[vW,seval];(with_reducible apply v_call);exact kv;rfl;exact PN;exact km;exact kv;simp only[vW,seval,ec];refine v_loop (σ:={i:Nat // i≤x.fs.length∧i≤6}) (fun i=>⟨[(1,.ptr 1 0),(2,.ptr 2 0),(3,.pv (.sl 1 [[PV.v (.string ⟨#[97]⟩)],[.v (.string ⟨#[98,50]⟩)],[.v (.string ⟨#[110,97,109,101]⟩)],[.v (.string ⟨#[110,101,120,116,95,111,110,101]⟩)],[.v (.string ⟨#[107,105,100,115]⟩)],[.v (.string ⟨#[120]⟩)]])),(4,.ptr 4 0),(5,I (i.1:Int))],
   [(1,[I x.n,.pv (.sl 4 (rfR x.fs))]),(2,[S ⟨#[]⟩,nilT]),(4,[S (str (nmC (q:Int))),.own 3000 4 (flR ((x.fs.take i.1).foldl addF []))])],[(3000,(55,4,((x.fs.take i.1).foldl addF []).length))],[]⟩) (fun i=>6-i.1) ⟨0,Nat.zero_le _,Nat.zero_le _⟩ ?_ ?_
 ·refine ES.Lw.trans ?_ (adB_lw (x:=4) (j:=1) (d:=3000) (e:=55) (W:=4) (.inr (by decide)) (by decide) rfl (by simp only[vcA,seval]) rfl);exact lw_eq rfl
 rintro⟨i,hi,hi6⟩;by_cases hlt:i<x.fs.length∧i<6
 ·obtain⟨hlt,hl6⟩:=hlt;have d1:(i:Int)<(x.fs.length:Int):=by omega
  have d2:(i:Int)<6:=by omega
  obtain⟨r,er⟩:∃r,x.fs[i]?=some r:=⟨_,gE hlt⟩
  have w1:IntKind.i64.wrap ((i:Int)+1)=((i+1:Nat):Int):=by rw[wrap64 (by omega) (by omega)];omega
  obtain⟨r1,r2,r3⟩:=hx.fs r (gM er);have P1:=pick4_ok g r.n 6 r1 (by decide);have P2:=pick4_ok g r.k 5 r2 (by decide);have P3:=pick4_ok g r.o 4 r3 (by decide);have b1:=z32 r.n 6 (by decide);have b2:=z32 r.k 5 (by decide);have b3:=z32 r.o 4 (by decide);have hst:=class_step x.fs i r er;have hal:=class_len x.fs i;rw[addF]at hst;have hF:z116 r=⟨nmF (Go.Mor.pick r.n 6),⟨1+Go.Mor.pick r.k 5,if Go.Mor.pick r.k 5=4 then 1+Go.Mor.pick r.o 4 else 0⟩,r.ix&&decide (1+Go.Mor.pick r.k 5≤3)⟩:=rfl;rw[hF]at hst;simp only[]at hst;obtain⟨j,hj⟩:=Int.eq_ofNat_of_zero_le b1.1;have ej:=nmF_at (i:=j) (by omega);rw[hj]at P1 hst;change _=(if fieldAt ((x.fs.take i).foldl addF []) (nmF (j:Int))<0 then _ else(x.fs.take i).foldl addF [])at hst;generalize(x.fs.take i).foldl addF []=acc at*;generalize Go.Mor.pick r.k 5=b at*;generalize Go.Mor.pick r.o 4=o at*;have HF:=refField_ok g ⟨nmC (q:Int),acc⟩ (nmF (j:Int)) (by show acc.length≤_;omega);obtain⟨p,t,hp,ht⟩:=field_tuple acc (nmF (j:Int));rw[show fieldT (Cls.fs ⟨nmC (q:Int),acc⟩) (nmF (j:Int))=_ from hp]at HF;unfold clT at HF;have w2:IntKind.i64.wrap (1+b)=1+b:=wrap64 (by omega) (by omega);have w3:IntKind.i64.wrap (1+o)=1+o:=wrap64 (by omega) (by omega)
  have hfl:=flLen acc;by_cases h4:b=4
  ·have d5:1+b=5:=by omega
   have d3:¬1+b≤3:=by omega
   have hix:(r.ix&&decide (1+b≤3))=false:=by rw[decide_eq_false d3,Bool.and_false]
   rw[if_pos h4,hix,d5]at hst;have w5:IntKind.i64.wrap 5=5:=wrap64 (by omega) (by omega);cases hr:r.ix;all_goals(
    simp only[vW,seval,rfGet,rfLen,rfR1,d1,d2,er,nilT];(with_reducible apply v_call);exact kv;rfl;exact P1;exact km;exact kv;simp only[vW,seval,ej];(with_reducible apply v_call);exact kv;rfl;exact P2;exact km;exact kv;simp only[vW,seval,w2,d5,w5];(with_reducible apply v_call);exact kv;rfl;exact P3;exact km;exact kv;simp only[vW,seval,w3,hr];(with_reducible apply v_call);exact kv;rfl;exact HF;exact km;exact kv;cases t
    ·rw[if_pos (ht.2 rfl)]at hst;simp only[vW,seval,hfl,w1];refine⟨⟨by omega,by unfold maxLen;omega⟩,z10 ⟨i+1,hlt,hl6⟩ (by show 6-(i+1)<6-i;omega) ?_⟩;simp only[hst,flR_snoc,List.length_append,List.length_singleton];apply lw_of<;>simp[leL,lk,sv,Nat.beq,I,S,ES.kill,has,drp,nilT,flR1]
    ·rw[if_neg (fun h=>Bool.noConfusion (ht.1 h))]at hst;simp only[vW,seval,w1];refine z10 ⟨i+1,hlt,hl6⟩ (by show 6-(i+1)<6-i;omega) ?_;simp only[hst];apply lw_of<;>simp[leL,lk,sv,Nat.beq,I,S,ES.kill,has,drp,nilT])
  ·have d5:¬1+b=5:=by omega
   rw[if_neg h4]at hst;have hc:(r.ix=false∧(True∨False)∧(r.ix&&decide (1+b≤3))=false)∨(r.ix=true∧1+b≤3∧(r.ix&&decide (1+b≤3))=true)∨(r.ix=true∧¬1+b≤3∧(r.ix&&decide (1+b≤3))=false):=by
    cases r.ix
    ·exact .inl ⟨rfl,.inl trivial,rfl⟩
    ·by_cases h:1+b≤3
     ·exact .inr (.inl ⟨rfl,h,by rw[decide_eq_true h];rfl⟩)
     ·exact .inr (.inr ⟨rfl,h,by rw[decide_eq_false h];rfl⟩)
   rcases hc with⟨hr,d3,hix⟩|⟨hr,d3,hix⟩|⟨hr,d3,hix⟩
   all_goals(
    rw[hix]at hst;simp only[vW,seval,rfGet,rfLen,rfR1,d1,d2,er,nilT];(with_reducible apply v_call);exact kv;rfl;exact P1;exact km;exact kv;simp only[vW,seval,ej];(with_reducible apply v_call);exact kv;rfl;exact P2;exact km;exact kv;simp only[vW,seval,w2,d5,hr,d3];(with_reducible apply v_call);exact kv;rfl;exact HF;exact km;exact kv;cases t
    ·rw[if_pos (ht.2 rfl)]at hst;simp only[vW,seval,hfl,w1];refine⟨⟨by omega,by unfold maxLen;omega⟩,z10 ⟨i+1,hlt,hl6⟩ (by show 6-(i+1)<6-i;omega) ?_⟩;simp only[hst,flR_snoc,List.length_append,List.length_singleton];apply lw_of<;>simp[leL,lk,sv,Nat.beq,I,S,ES.kill,has,drp,nilT,flR1]
    ·rw[if_neg (fun h=>Bool.noConfusion (ht.1 h))]at hst;simp only[vW,seval,w1];refine z10 ⟨i+1,hlt,hl6⟩ (by show 6-(i+1)<6-i;omega) ?_;simp only[hst];apply lw_of<;>simp[leL,lk,sv,Nat.beq,I,S,ES.kill,has,drp,nilT])
 ·have he:(x.fs.take i).foldl addF []=(x.fs.take 6).foldl addF []:=by
   by_cases h:i<6
   ·have h1:x.fs.length≤i:=by omega
    rw[List.take_of_length_le h1,List.take_of_length_le (by omega)]
   ·obtain rfl:i=6:=by omega
    rfl
  rw[←he];by_cases hl:i<x.fs.length
  ·have d1:(i:Int)<(x.fs.length:Int):=by omega
   have d2:¬(i:Int)<6:=by omega
   simp only[vW,seval,rfLen,d1,d2,nilT]
  ·have d1:¬(i:Int)<(x.fs.length:Int):=by omega
   simp only[vW,seval,rfLen,d1,nilT]
end Go.Proofs.YtcpaleaajdilgaaGreatDoor
end

section
namespace Go.Proofs.YtcpaleaajdilgaaGreatDoor
open Go Go.RowKit Go.Mor Go.Sh Go.Sh.Cd1 Go.Sh.Cd7
set_option maxRecDepth 100000
set_option maxHeartbeats 8000000
theorem clsR_ok{c:Cls}(h:z18 c=true):ClsOk c∧c.fs.length≤8:=by
 have hr:=(z65 c).1 h;have key:∀s,z13 s=true→Short s:=fun s hs=>by
  unfold z13 at hs;simp only[Bool.and_eq_true,decide_eq_true_eq]at hs;have:=hs.1.1.2;unfold Short;omega
 refine⟨⟨key _ hr.1,fun f hf=>key _ ?_,by omega⟩,hr.2.1⟩;have:=hr.2.2.1 f hf;unfold z26 at this;simp only[Bool.and_eq_true]at this;exact this.1.1
theorem zero_few(t:Ty):VFew (zeroV t)∧VOk (zeroV t):=by
  have h : (zeroV t).l = [] ∧ (zeroV t).s = [] := by unfold zeroV; repeat' split
                                                     all_goals exact⟨rfl,rfl⟩
  exact fewF h.1 (by rw[h.2];decide)
theorem or_few{u vals:List V}{t:Ty}(h:∀x∈u,x∈vals∨x=zeroV t)(hf:∀v∈vals,VFew v∧VOk v):∀v∈u,VFew v∧VOk v:=fun v hv=>by
 rcases h v hv with h|rfl
 ·exact hf v h
 ·exact zero_few t
theorem step_ap{a0 a1:Addr}{m:Nat}{c:Cls}{vals:List V}{h:Chg}{d:Cls}{u:List V}(hc:FitC c vals)(hs:Step c vals h d u)(hh:ChOk m h):SCalls Tryz.prog (glX a0 a1 m) 30 [clT c,chT h] [] (.tuple [clT d,I 0]) []:=by
 have hr:=clsR_ok hc.r;have:=sc_EX (a0:=a0) (a1:=a1) (apply_ok m c h hr.1 hh (by omega));rw[hs.ap]at this;exact this
theorem step_va{a0 a1:Addr}{m:Nat}{c:Cls}{vals:List V}{h:Chg}{d:Cls}{u:List V}(hc:FitC c vals)(hs:Step c vals h d u)(hh:ChOk m h)(hk:h.k≠4)(hf:∀v∈vals,VFew v∧VOk v):SCalls Tryz.prog (glX a0 a1 m) 31 [clT c,chT h,.pv (.sl 4 (V.rows vals))] [] (.tuple [.pv (.sl 4 (V.rows u)),I 0]) []:=by
 have hr:=clsR_ok hc.r;have:=sc_EX (a0:=a0) (a1:=a1) (changeVals_ok m c h vals hr.1 hh (fun h4=>absurd h4 hk) hf (by rw[hc.len];omega));rw[hs.va]at this;exact this
theorem ch_plain{m:Nat}{k:Int}{f n:List UInt8}{t:Ty}(hf:Short f)(hn:Short n):ChOk m ⟨k,f,n,[],t,[],[]⟩:=⟨hf,hn,(show Short [] by unfold Short;decide),txOk_nil m,txOk_nil m⟩
theorem z150:Short quite:=by unfold Short;decide
end Go.Proofs.YtcpaleaajdilgaaGreatDoor
end

section
namespace Go.Sh.Cd8
open Go Go.Sh
set_option maxRecDepth 100000
abbrev c_103_0:=kV [3] [kO 3 0,kT 6 false] [0,6]
abbrev c_103_1:=kV [2088,2089,2090,2091] [oD 22 (.call 22 0 []),oM 7 22] [22]
abbrev c_103_2:=kR [oM 23 7,kN 24 23] [23]
abbrev c_103_3:=kR [kT 6 false] [1,2,3,7,24]
abbrev c_103_4:=kV [2104,2105,2106,2107,8] [oL 25 true 2 3,kC 26 12 0 25,oD 8 (.new [(.string ⟨#[]⟩),(.slice none 0 0)]),kS 2 8 26] [3,6,24,25,26]
abbrev c_103_5:=kV [2116,2117,2118,2119] [oL 27 true 2 8,oM 28 1,oD 29 (.call 13 0 [.tmp 27,.tmp 28,vI 5]),oM 9 29] [1,27,28,29]
abbrev c_103_6:=kV [10] [oD 30 (.build [(.int .i64 0),(.int .i64 0)] [(0,1,(vI 5)),(1,1,(vI 4))]),oD 10 (.new [(.int .i64 0),(.int .i64 0)]),kS 2 10 30] [30]
abbrev c_103_7:=kV [35] [oL 31 true 2 10,oD 32 (.build [(.int .i64 0),(.string ⟨#[]⟩),(.string ⟨#[]⟩),(.string ⟨#[]⟩),(.int .i64 0),(.int .i64 0),(.string ⟨#[]⟩),(.string ⟨#[]⟩)] [(0,1,(vI 1)),(2,1,(.val (.string ⟨#[113,117,105,116,101,95,110,101,119]⟩))),(4,2,(.tmp 31))]),oD 33 (.build [(.int .i64 0),(.string ⟨#[]⟩),(.string ⟨#[]⟩),(.string ⟨#[]⟩),(.int .i64 0),(.int .i64 0),(.string ⟨#[]⟩),(.string ⟨#[]⟩)] [(0,1,(vI 2)),(1,1,(.val (.string ⟨#[113,117,105,116,101,95,110,101,119]⟩)))]),oD 34 (.build [(.int .i64 0),(.string ⟨#[]⟩),(.string ⟨#[]⟩),(.string ⟨#[]⟩),(.int .i64 0),(.int .i64 0),(.string ⟨#[]⟩),(.string ⟨#[]⟩),(.int .i64 0),(.string ⟨#[]⟩),(.string ⟨#[]⟩),(.string ⟨#[]⟩),(.int .i64 0),(.int .i64 0),(.string ⟨#[]⟩),(.string ⟨#[]⟩)] [(0,8,(.tmp 32)),(8,8,(.tmp 33))]),oD 35 (.bslO 81 16 [.tmp 34]),oM 11 35] [10,31,32,33,34,35]
abbrev c_103_8:=kR [kA 36 1 8,oL 37 false 1 36,kZ 38 37,kK 39 .gtr 3 38 0] [36,37,38]
abbrev c_103_9:=kV [12] [kA 40 1 8,oL 41 false 1 40,oM 42 2,oD 43 (.cvi .i64 (.tmp 42)),kA 44 1 8,oL 45 false 1 44,kZ 46 45,kB 47 .rem 3 43 46,kX 48 4 41 47,oL 49 true 4 48,oD 12 (.new [(.string ⟨#[]⟩),(.int .i64 0),(.int .i64 0),(.bool false)]),kS 4 12 49] [2,39,40,41,42,43,44,45,46,47,48,49]
abbrev c_103_10:SCode:=.reg [([],[oM 50 11,kA 51 0 12,oL 52 false 1 51,oD 53 (.build [(.int .i64 0),(.string ⟨#[]⟩),(.string ⟨#[]⟩),(.string ⟨#[]⟩),(.int .i64 0),(.int .i64 0),(.string ⟨#[]⟩),(.string ⟨#[]⟩)] [(0,1,(vI 3)),(1,1,(.tmp 52)),(2,1,(.val (.string ⟨#[113,117,105,116,101,95,110,101,119]⟩)))]),kA 54 0 12,oL 55 false 1 54,oD 56 (.build [(.int .i64 0),(.string ⟨#[]⟩),(.string ⟨#[]⟩),(.string ⟨#[]⟩),(.int .i64 0),(.int .i64 0),(.string ⟨#[]⟩),(.string ⟨#[]⟩)] [(0,1,(vI 3)),(1,1,(.val (.string ⟨#[113,117,105,116,101,95,110,101,119]⟩))),(2,1,(.tmp 55))]),oD 57 (.build [(.int .i64 0),(.string ⟨#[]⟩),(.string ⟨#[]⟩),(.string ⟨#[]⟩),(.int .i64 0),(.int .i64 0),(.string ⟨#[]⟩),(.string ⟨#[]⟩),(.int .i64 0),(.string ⟨#[]⟩),(.string ⟨#[]⟩),(.string ⟨#[]⟩),(.int .i64 0),(.int .i64 0),(.string ⟨#[]⟩),(.string ⟨#[]⟩)] [(0,8,(.tmp 53)),(8,8,(.tmp 56))]),oD 58 (.bsl 16 [.tmp 57]),oD 59 (.app 81 16 208 (.tmp 50) (.tmp 58)),oM 11 59]),([59],[oM 50 11,kA 51 0 12,oL 52 false 1 51,oD 53 (.build [(.int .i64 0),(.string ⟨#[]⟩),(.string ⟨#[]⟩),(.string ⟨#[]⟩),(.int .i64 0),(.int .i64 0),(.string ⟨#[]⟩),(.string ⟨#[]⟩)] [(0,1,(vI 3)),(1,1,(.tmp 52)),(2,1,(.val (.string ⟨#[113,117,105,116,101,95,110,101,119]⟩)))]),kA 54 0 12,oL 55 false 1 54,oD 56 (.build [(.int .i64 0),(.string ⟨#[]⟩),(.string ⟨#[]⟩),(.string ⟨#[]⟩),(.int .i64 0),(.int .i64 0),(.string ⟨#[]⟩),(.string ⟨#[]⟩)] [(0,1,(vI 3)),(1,1,(.val (.string ⟨#[113,117,105,116,101,95,110,101,119]⟩))),(2,1,(.tmp 55))]),oD 57 (.build [(.int .i64 0),(.string ⟨#[]⟩),(.string ⟨#[]⟩),(.string ⟨#[]⟩),(.int .i64 0),(.int .i64 0),(.string ⟨#[]⟩),(.string ⟨#[]⟩),(.int .i64 0),(.string ⟨#[]⟩),(.string ⟨#[]⟩),(.string ⟨#[]⟩),(.int .i64 0),(.int .i64 0),(.string ⟨#[]⟩),(.string ⟨#[]⟩)] [(0,8,(.tmp 53)),(8,8,(.tmp 56))]),oD 58 (.bsl 16 [.tmp 57]),oD 59 (.appN 81 16 208 (.tmp 50) (.tmp 58)),oM 11 59])] [50,51,52,53,54,55,56,57,58,59]
abbrev c_103_11:=kR [kA 60 1 12,kA 61 0 60,oL 62 false 1 61,kK 63 .leq 3 62 3] [60,61,62]
abbrev c_103_12:SCode:=.reg [([],[oM 64 11,kA 65 0 12,oL 66 false 1 65,oD 67 (.build [(.int .i64 0),(.string ⟨#[]⟩),(.string ⟨#[]⟩),(.string ⟨#[]⟩),(.int .i64 0),(.int .i64 0),(.string ⟨#[]⟩),(.string ⟨#[]⟩)] [(0,1,(vI 6)),(1,1,(.tmp 66))]),kA 68 0 12,oL 69 false 1 68,oD 70 (.build [(.int .i64 0),(.string ⟨#[]⟩),(.string ⟨#[]⟩),(.string ⟨#[]⟩),(.int .i64 0),(.int .i64 0),(.string ⟨#[]⟩),(.string ⟨#[]⟩)] [(0,1,(vI 6)),(1,1,(.tmp 69))]),oD 71 (.build [(.int .i64 0),(.string ⟨#[]⟩),(.string ⟨#[]⟩),(.string ⟨#[]⟩),(.int .i64 0),(.int .i64 0),(.string ⟨#[]⟩),(.string ⟨#[]⟩),(.int .i64 0),(.string ⟨#[]⟩),(.string ⟨#[]⟩),(.string ⟨#[]⟩),(.int .i64 0),(.int .i64 0),(.string ⟨#[]⟩),(.string ⟨#[]⟩)] [(0,8,(.tmp 67)),(8,8,(.tmp 70))]),oD 72 (.bsl 16 [.tmp 71]),oD 73 (.app 81 16 208 (.tmp 64) (.tmp 72)),oM 11 73]),([73],[oM 64 11,kA 65 0 12,oL 66 false 1 65,oD 67 (.build [(.int .i64 0),(.string ⟨#[]⟩),(.string ⟨#[]⟩),(.string ⟨#[]⟩),(.int .i64 0),(.int .i64 0),(.string ⟨#[]⟩),(.string ⟨#[]⟩)] [(0,1,(vI 6)),(1,1,(.tmp 66))]),kA 68 0 12,oL 69 false 1 68,oD 70 (.build [(.int .i64 0),(.string ⟨#[]⟩),(.string ⟨#[]⟩),(.string ⟨#[]⟩),(.int .i64 0),(.int .i64 0),(.string ⟨#[]⟩),(.string ⟨#[]⟩)] [(0,1,(vI 6)),(1,1,(.tmp 69))]),oD 71 (.build [(.int .i64 0),(.string ⟨#[]⟩),(.string ⟨#[]⟩),(.string ⟨#[]⟩),(.int .i64 0),(.int .i64 0),(.string ⟨#[]⟩),(.string ⟨#[]⟩),(.int .i64 0),(.string ⟨#[]⟩),(.string ⟨#[]⟩),(.string ⟨#[]⟩),(.int .i64 0),(.int .i64 0),(.string ⟨#[]⟩),(.string ⟨#[]⟩)] [(0,8,(.tmp 67)),(8,8,(.tmp 70))]),oD 72 (.bsl 16 [.tmp 71]),oD 73 (.appN 81 16 208 (.tmp 64) (.tmp 72)),oM 11 73])] [12,63,64,65,66,67,68,69,70,71,72,73]
abbrev c_103_13:=kR [kI 13 0] [2,12,39,63]
abbrev c_103_14:=kR [oM 74 13,oM 75 11,kZ 76 75,kB 77 .lss 3 74 76] [74,75,76]
abbrev c_103_15:=kV [2348,2349,2350,2351,14] [oL 81 true 2 8,oM 82 11,oM 83 13,kX 84 16 82 83,kA 85 0 84,oL 86 true 8 85,kD 87 30 0 81 86,oM 80 87,kY 88 80 0,kY 89 80 1,oD 14 (.new [(.string ⟨#[]⟩),(.slice none 0 0)]),kS 2 14 88,oM 15 89] [77,80,81,82,83,84,85,86,87,88,89]
abbrev c_103_16:=kV [2392,2393,2394,2395] [oL 91 true 2 8,oM 92 11,oM 93 13,kX 94 16 92 93,kA 95 0 94,oL 96 true 8 95,oM 97 9,kE 98 31 0 91 96 97,oM 90 98,kY 99 90 0,kY 100 90 1,oM 16 99,oM 17 100] [90,91,92,93,94,95,96,97,98,99,100]
abbrev c_103_17:=kV [2432,2433,2434,2435,18] [oL 102 true 2 14,oM 103 11,oM 104 13,kX 105 16 103 104,kA 106 8 105,oL 107 true 8 106,kD 108 30 0 102 107,oM 101 108,kY 109 101 0,kY 110 101 1,oD 18 (.new [(.string ⟨#[]⟩),(.slice none 0 0)]),kS 2 18 109,oM 19 110] [101,102,103,104,105,106,107,108,109,110]
abbrev c_103_18:=kV [2476,2477,2478,2479] [oL 112 true 2 14,oM 113 11,oM 114 13,kX 115 16 113 114,kA 116 8 115,oL 117 true 8 116,oM 118 16,kE 119 31 0 112 117 118,oM 111 119,kY 120 111 0,kY 121 111 1,oM 20 120,oM 21 121] [16,111,112,113,114,115,116,117,118,119,120,121]
abbrev c_103_19:=kV [2556,2557,2558,2559,2576,2577,2578,2579,2600,2601,2602,2603] [oM 122 15,kK 123 .neq 33 122 0,oM 124 123,oH 125 124 false 17,kG 126 124 false .neq 33 125 0,oQ 127 124 126 true,oM 128 127,oH 129 128 false 19,kG 130 128 false .neq 33 129 0,oQ 131 128 130 true,oM 132 131,oH 133 132 false 21,kG 134 132 false .neq 33 133 0,oQ 135 132 134 true,oM 136 135,kL 137 136 false true 2 14,kL 138 136 false true 2 8,oG 139 136 false (.call 38 0 [.tmp 137,.tmp 138]),oQ 140 136 139 true,oM 141 140,kL 142 141 false true 2 18,kL 143 141 false true 2 8,oG 144 141 false (.call 38 0 [.tmp 142,.tmp 143]),oG 145 141 false (.un .not (.tmp 144)),oQ 146 141 145 true,oM 147 146,oH 148 147 false 20,oH 149 147 false 9,oG 150 147 false (.call 39 0 [.tmp 148,.tmp 149]),oG 151 147 false (.un .not (.tmp 150)),oQ 152 147 151 true] [14,15,17,18,19,20,21,122,123,124,125,126,127,128,129,130,131,132,133,134,135,136,137,138,139,140,141,142,143,144,145,146,147,148,149,150,151]
abbrev c_103_20:=kR [kT 6 false] [7,8,9,11,13,152]
abbrev c_103_21:=kR [oM 78 13,kK 79 .add 3 78 1,oM 13 79] [6,78,79,152]
abbrev c_103_22:SCode:=(.seq (.seq c_103_14 (.cond (.tmp 77) .skip (.exit 0))) (.seq (.block 1 (.seq c_103_15 (.seq c_103_16 (.seq c_103_17 (.seq c_103_18 (.seq c_103_19 (.cond (.tmp 152) (.seq c_103_20 .ret) .skip))))))) c_103_21))
abbrev c_103_23:=kR [oM 153 7,oM 6 153] [7,8,9,11,13,153]
abbrev F_103:SFunc:=⟨154,(.seq c_103_0 (.seq c_103_1 (.seq (.seq c_103_2 (.cond (.tmp 24) (.seq c_103_3 .ret) .skip)) (.seq c_103_4 (.seq c_103_5 (.seq c_103_6 (.seq c_103_7 (.seq (.seq c_103_8 (.cond (.tmp 39) (.seq c_103_9 (.seq c_103_10 (.seq c_103_11 (.cond (.tmp 63) c_103_12 .skip)))) .skip)) (.seq (.seq c_103_13 (.block 0 (.loop c_103_22))) (.seq c_103_23 .ret)))))))))),[.tmp 6],false⟩
theorem tf_103:z6 Go.Proofs.Tryz.prog 8 (hintT [(22,0),(26,0),(29,0),(35,1),(58,0),(72,0),(87,0),(98,0),(108,0),(119,0),(139,0),(144,0),(150,0)]) (fpT []) (killT [(0,[0,6]),(1,[22]),(2,[23]),(3,[1,2,3,7,24]),(4,[3,6,24,25,26]),(5,[1,27,28,29]),(6,[30]),(7,[10,31,32,33,34,35]),(8,[36,37,38]),(9,[2,39,40,41,42,43,44,45,46,47,48,49]),(10,[50,51,52,53,54,55,56,57,58,59]),(11,[60,61,62]),(12,[12,63,64,65,66,67,68,69,70,71,72,73]),(13,[2,12,39,63]),(14,[74,75,76]),(16,[77,80,81,82,83,84,85,86,87,88,89]),(17,[90,91,92,93,94,95,96,97,98,99,100]),(18,[101,102,103,104,105,106,107,108,109,110]),(19,[16,111,112,113,114,115,116,117,118,119,120,121]),(20,[14,15,17,18,19,20,21,122,123,124,125,126,127,128,129,130,131,132,133,134,135,136,137,138,139,140,141,142,143,144,145,146,147,148,149,150,151]),(21,[7,8,9,11,13,152]),(15,[6,78,79,152]),(22,[7,8,9,11,13,153])]) false=some F_103:=by kernel_rfl
def funcs:Nat→Option SFunc
 |_=>none
end Go.Sh.Cd8
end

section
namespace Go.Proofs.YtcpaleaajdilgaaGreatDoor
open Go Go.RowKit Go.Mor Go.Sh Go.Sh.Cd8
set_option maxRecDepth 100000
set_option maxHeartbeats 8000000
def chC(h:Chg):List PV:=[.v (.int .i64 h.k),.v (.string (str h.f)),.v (.string (str h.n)),.v (.string (str h.m)),.v (.int .i64 h.t.k),.v (.int .i64 h.t.o),.v (.string (str h.x)),.v (.string (str h.o))]
def pairR(p:Chg×Chg):List PV:=chC p.1++chC p.2
def bst(c:Cls)(vals:List V)(P:List (Chg×Chg))(i:{i:Nat // i≤P.length}):ES:=
 ⟨[(7,.pv (.v (.bool true))),(8,.ptr 8 0),(9,.pv (.sl 4 (V.rows vals))),(11,.own 35 16 (P.map pairR)),(13,I (i.1:Int))],[(8,[S (str c.n),.pv (.sl 4 (flR c.fs))])],[(35,(81,16,P.length))],[]⟩
theorem back_loop{a0 a1:Addr}{m:Nat}{c:Cls}{vals:List V}(hfit:FitC c vals)(hfew:∀v∈vals,VFew v∧VOk v)(P:List (Chg×Chg))(hP:∀p∈P,Backs c vals p.1 p.2 ⟨5,4⟩∧ChOk m p.1∧ChOk m p.2∧p.1.k≠4∧p.2.k≠4)(hl:P.length≤1000):
  ∀x,swp Tryz.prog (glX a0 a1 m) c_103_22 (thenW (loopK (bst c vals P) (fun i=>P.length-i.1) x) (blockW 0 (thenW (swp Tryz.prog (glX a0 a1 m) (.seq c_103_23 .ret) (Post0 [.tmp 6] (.pv (.v (.bool true))))) (Post0 [.tmp 6] (.pv (.v (.bool true))))))) (bst c vals P x):=by
 rintro⟨i,hi⟩;by_cases hlt:i<P.length
 ·obtain⟨p,ep⟩:∃p,P[i]?=some p:=⟨_,gE hlt⟩
  have d1:(i:Int)<(P.length:Int):=by omega
  have w1:IntKind.i64.wrap ((i:Int)+1)=((i+1:Nat):Int):=by rw[wrap64 (by omega) (by omega)];omega
  obtain⟨⟨d,v,s1,s2,sn,mv⟩,c1,c2,k1,k2⟩:=hP p (gM ep);have A1:=step_ap (a0:=a0) (a1:=a1) hfit s1 c1;have V1:=step_va (a0:=a0) (a1:=a1) hfit s1 c1 k1 hfew;have A2:=step_ap (a0:=a0) (a1:=a1) s1.fit s2 c2;have V2:=step_va (a0:=a0) (a1:=a1) s1.fit s2 c2 k2 (or_few mv hfew);have hb8:=(clsR_ok hfit.r).2;have hd8:=(clsR_ok s1.fit.r).2;have SB:=classSame_ok (glX a0 a1 m) d c (by omega) (by omega);rw[sn]at SB;have SC:=classSame_ok (glX a0 a1 m) c c (by omega) (by omega);rw[same_refl]at SC;have SW:=sameVals_ok (glX a0 a1 m) vals (fun x hx=>(hfew x hx).1) (by rw[hfit.len];omega);simp only[clT,chT,B]at A1 V1 A2 V2 SB SC SW;have er:(P.map pairR)[i]?=some (chC p.1++chC p.2):=by rw[List.getElem?_map,ep];rfl
  have hrl:(P.map pairR).length=P.length:=List.length_map ..;unfold bst;generalize P.map pairR=R at*;unfold chC at er;simp only[vW,seval,d1,er,hrl];(with_reducible apply v_call);exact kv;rfl;exact A1;exact km;exact kv;simp only[vW,seval,er];(with_reducible apply v_call);exact kv;rfl;exact V1;exact km;exact kv;simp only[vW,seval,er];(with_reducible apply v_call);exact kv;rfl;exact A2;exact km;exact kv;simp only[vW,seval,er];(with_reducible apply v_call);exact kv;rfl;exact V2;exact km;exact kv;simp only[vW,seval];(with_reducible apply v_call);exact kv;rfl;exact SB;exact km;exact kv;simp only[vW,seval];(with_reducible apply v_call);exact kv;rfl;exact SC;exact km;exact kv;simp only[vW,seval];(with_reducible apply v_call);exact kv;rfl;exact SW;exact km;exact kv;simp only[vW,seval,w1];refine z10 ⟨i+1,hlt⟩ (by show P.length-(i+1)<P.length-i;omega) ?_;apply lw_of<;>simp[leL,lk,sv,Nat.beq,I,S,ES.kill,has,drp,nilT]
 have d1:¬(i:Int)<(P.length:Int):=by omega
 unfold bst;have hrl:(P.map pairR).length=P.length:=List.length_map ..;simp only[vW,seval,d1,hrl]
theorem changeBack_ok(a0 a1:Addr)(m:Nat)(x:Raw)(l:List Int)(i:Nat)(hx:RawOk x)(hl:l.length≤9223372036854775807)(hi:i<256):
  SCalls Tryz.prog (glX a0 a1 m) 8 [rawT x,.pv (.sl 1 (iiR l)),.pv (.v (.int .u8 (i:Int)))] [] (.pv (.v (.bool true))) []:=by
 have HX:=ex7_ok a0 a1 m;have HC:=classOf4_ok (glX a0 a1 m) x hx;have hg:=classOf_good x;have hc6:=hg.len;have HV:=valsOf4_ok (glX a0 a1 m) (z79 x) l 5 (fun _ hf=>hg.type hf) (by omega) hl (by decide);have hvl:=z166 (z79 x).fs l 5;have hfew:=vals_few hg l (many:=5) (by decide);have hfit:FitC (z79 x) (mkVals (z79 x).fs l 5):=⟨hg.right,hvl,fun i f v hf hv=>vals_fit hg l (by decide) hf hv⟩
 have hnq:∀g∈(z79 x).fs,g.n≠quite:=fun g hgm=>quite_ne g (hg.fs g hgm).2;generalize mkVals (z79 x).fs l 5=vals at*;generalize z79 x=c at*;have hcl:=(clsR_ok hfit.r).1;have ci:IntKind.i64.wrap (i:Int)=(i:Int):=wrap64 (by omega) (by omega);have e0:(⟨#[]⟩:ByteArray)=str []:=rfl;have qq:(⟨#[113,117,105,116,101,95,110,101,119]⟩:ByteArray)=str quite:=rfl;have n0:Short []:=by unfold Short;decide
 have P1:Backs c vals (hAdd quite ⟨5,4⟩) (hDrop quite) ⟨5,4⟩∧ChOk m (hAdd quite ⟨5,4⟩)∧ChOk m (hDrop quite)∧(hAdd quite ⟨5,4⟩).k≠4∧(hDrop quite).k≠4:=⟨back_add hfit hnq (by omega),ch_plain n0 z150,ch_plain z150 n0,by show(1:Int)≠4;decide,by show(2:Int)≠4;decide⟩
 unfold clT rawT B at*;refine z7 hmix tf_103 rfl ?_;simp only[vW,seval];(with_reducible apply v_call);exact kv;rfl;exact HX;exact km;exact kv;simp only[vW,seval];(with_reducible apply v_call);exact kv;rfl;exact HC;exact km;exact kv;simp only[vW,seval];(with_reducible apply v_call);exact kv;rfl;exact HV;exact km;exact kv;simp only[vW,seval,e0,qq];by_cases h2:c.fs.length=0
 ·have d0:¬(c.fs.length:Int)>0:=by omega
  simp only[vW,seval,d0,clV,e0,qq];refine⟨fun h=>h.elim,?_⟩;refine v_loop (bst c vals [(hAdd quite ⟨5,4⟩,hDrop quite)]) (fun i=>1-i.1) ⟨0,Nat.zero_le _⟩ ?_ (back_loop hfit hfew _ (fun p hp=>by
   simp only[List.mem_cons,List.not_mem_nil,or_false]at hp;rcases hp with rfl
   ·exact P1) (by simp only[List.length_cons,List.length_nil];omega))
  simp only[bst,pairR,chC,hAdd,hDrop,hRen,hIdx,ty0,List.map_cons,List.map_nil,List.cons_append,List.nil_append];apply lw_of<;>simp[leL,lk,sv,Nat.beq,I,S,ES.kill,has,drp,nilT]
 have d0:(c.fs.length:Int)>0:=by omega
 have hi2:=Nat.mod_lt i (show 0<c.fs.length by omega);have mi:Int.tmod (i:Int) (c.fs.length:Int)=((i%c.fs.length:Nat):Int):=(Int.ofNat_tmod i _).symm;obtain⟨fi,ei⟩:∃f,c.fs[i%c.fs.length]?=some f:=⟨_,gE hi2⟩
 have z0:¬(c.fs.length:Int)=0:=by omega
 generalize hI:i%c.fs.length=i' at*;have sf:Short fi.n:=hcl.fs fi (gM ei);have P2:Backs c vals (hRen fi.n quite) (hRen quite fi.n) ⟨5,4⟩∧ChOk m (hRen fi.n quite)∧ChOk m (hRen quite fi.n)∧(hRen fi.n quite).k≠4∧(hRen quite fi.n).k≠4:=⟨back_ren hfit hnq ei,ch_plain sf z150,ch_plain z150 sf,by show(3:Int)≠4;decide,by show(3:Int)≠4;decide⟩
 have x2:2≤maxLen:=by unfold maxLen;omega
 have x3:3≤maxLen:=by unfold maxLen;omega
 by_cases h3:fi.t.k≤3
 ·simp only[vW,seval,d0,mi,z0,ci,ei,e0,qq,clV,Option.some.injEq,forall_eq',h3];have P3:Backs c vals (hIdx fi.n) (hIdx fi.n) ⟨5,4⟩∧ChOk m (hIdx fi.n)∧ChOk m (hIdx fi.n)∧(hIdx fi.n).k≠4∧(hIdx fi.n).k≠4:=⟨back_idx hfit ei h3,ch_plain sf n0,ch_plain sf n0,by show(6:Int)≠4;decide,by show(6:Int)≠4;decide⟩
  refine⟨⟨hi2,x2,x3,?_⟩,fun h=>h.elim⟩;refine v_loop (bst c vals [(hAdd quite ⟨5,4⟩,hDrop quite),(hRen fi.n quite,hRen quite fi.n),(hIdx fi.n,hIdx fi.n)]) (fun i=>3-i.1) ⟨0,Nat.zero_le _⟩ ?_ (back_loop hfit hfew _ (fun p hp=>by
   simp only[List.mem_cons,List.not_mem_nil,or_false]at hp;rcases hp with rfl|rfl|rfl
   ·exact P1
   ·exact P2
   ·exact P3) (by simp only[List.length_cons,List.length_nil];omega))
  simp only[bst,pairR,chC,hAdd,hDrop,hRen,hIdx,ty0,List.map_cons,List.map_nil,List.cons_append,List.nil_append];apply lw_of<;>simp[leL,lk,sv,Nat.beq,I,S,ES.kill,has,drp,nilT]
 simp only[vW,seval,d0,mi,z0,ci,ei,e0,qq,clV,Option.some.injEq,forall_eq',h3];refine⟨⟨hi2,x2,?_⟩,fun h=>h.elim⟩;refine v_loop (bst c vals [(hAdd quite ⟨5,4⟩,hDrop quite),(hRen fi.n quite,hRen quite fi.n)]) (fun i=>2-i.1) ⟨0,Nat.zero_le _⟩ ?_ (back_loop hfit hfew _ (fun p hp=>by
  simp only[List.mem_cons,List.not_mem_nil,or_false]at hp;rcases hp with rfl|rfl
  ·exact P1
  ·exact P2) (by simp only[List.length_cons,List.length_nil];omega))
 simp only[bst,pairR,chC,hAdd,hDrop,hRen,hIdx,ty0,List.map_cons,List.map_nil,List.cons_append,List.nil_append];apply lw_of<;>simp[leL,lk,sv,Nat.beq,I,S,ES.kill,has,drp,nilT]
end Go.Proofs.YtcpaleaajdilgaaGreatDoor
end

section
namespace Go.Proofs.YtcpaleaajdilgaaGreatDoor.ChangeBack
open Go.ChangeShapes Go.WideShapes Go.ChangeAt Go.RowKit Go.Lib Go.Mor Go.Deep Go.Joins
open Go.ChangeMaps (open_string shut_string)
theorem ChangeBack_any(a0 a1:Addr)(W:World)(x0:Raw)(x0v:Value)(x1:List Int)(x1v:Value)(x2:Nat)(hx0:RawOk x0)(rx0:∀r,Go.Sh.RelT W (envAll W) r (rawT x0) x0v)(hx1:x1.length≤9223372036854775807)(rx1:∀r,Go.Sh.RelT W (envAll W) r (.pv (.sl 1 (iiR x1))) x1v)(hx2:x2<256)(hG:(glX a0 a1 W.heap.size).G W):
  Calls Tryz.prog 8 #[x0v,x1v,.int .u8 (x2:Int)] W fun e w'=>e=.returned (.bool true)∧Below W.heap.size W w':=
 calls_of_sc (vs:=[x0v,x1v,.int .u8 (x2:Int)]) (changeBack_ok a0 a1 W.heap.size x0 x1 x2 hx0 hx1 hx2) hG rfl (fun j q u hq hu=>by
  match j with
  |0=>simp at hq hu;subst hq;subst hu;exact rx0 _
  |1=>simp at hq hu;subst hq;subst hu;exact rx1 _
  |2=>simp at hq hu;subst hq;subst hu;exact .pv (.v _)
  |j+3=>simp at hq)
theorem witness_row(os:Os){H:Type}(enc:TypeId×Value→H):
  (OpenSpec.ofChange Rows.changeBackSpec).preRow enc Tryz.prog Tryz.f8 Rows.changeBackRow.domain false Rows.changeBackRow.laid ((laidWorld os).forCall (fun _ _=>0) ⟨#[],#[.agg #[.int .i64 0,.slice none 0 0],.slice none 0 0,.int .u8 0],[]⟩).memory #[.agg #[.int .i64 0,.slice none 0 0],.slice none 0 0,.int .u8 0]:=by
 have hw:(DataW.whole enc Tryz.prog ((laidWorld os).forCall (fun _ _=>0) ⟨#[],#[.agg #[.int .i64 0,.slice none 0 0],.slice none 0 0,.int .u8 0],[]⟩).memory Tryz.f8.params.toList Rows.changeBackSpec.vars false (#[.agg #[.int .i64 0,.slice none 0 0],.slice none 0 0,.int .u8 0]:Array Value).toList 8).map (fun x=>(x.1,x.2.1))=
   some ([.agg [.lit (.int .i64 0),.nil],.nil,.lit (.int .u8 0)],[]):=by kernel_rfl
 obtain⟨⟨x1,x2,x3⟩,hx,hx1⟩:=gO hw;simp only[Prod.mk.injEq]at hx1;obtain⟨rfl,rfl⟩:=hx1;exact OpenSpec.preRow_of_cond 8 hx (by kernel_rfl) (fun k hk=>by cases hk) (by kernel_rfl) (laid_metUTEW os _)
set_option maxRecDepth 100000 in
set_option maxHeartbeats 2000000 in
theorem lifted(os:Os)(started:os.Started)(H:Type)(enc:TypeId×Value→H)(F:Stop.Interp):
  ReturnsInHanded {} Tryz.checked os 8 .any ((OpenSpec.ofChange Rows.changeBackSpec).preRow enc Tryz.prog Tryz.f8 Rows.changeBackRow.domain false Rows.changeBackRow.laid) (((OpenSpec.ofChange Rows.changeBackSpec).at F).post enc Tryz.prog Tryz.f8 false true false false):=by
 refine returnsInHanded_of_row (C:=Tryz.checked) (s:=(OpenSpec.ofChange Rows.changeBackSpec)) own started (by kernel_rfl) Tryz.func8
  (witness_row_atRef (enc:=enc) (C:=Tryz.checked) false (laidWorld os) #[.agg #[.int .i64 0,.slice none 0 0],.slice none 0 0,.int .u8 0] rfl (by kernel_rfl) (by kernel_rfl) (by kernel_rfl) (witness_row os enc)) ?_
 intro W base args ds gs before hval0 hW _ hcond _ hL hsh _;have hval:∀(j:Nat) t v,Tryz.f8.params[j]?=some t→args[j]?=some v→Value.okWide Tryz.prog W .any base t v:=hval0;have hW':DataW.Whole enc Tryz.prog Tryz.f8.params.toList Rows.changeBackSpec.vars false W args.toList ds gs before:=hW;obtain⟨p,q,hA0,hV0,rfl,_,_⟩:=hW;have hA:DataW.TrodAll enc Tryz.prog W 0 (fun _=>true) true Tryz.f8.params.toList args.toList ds p:=hA0;rw[Tryz.params8]at hA hval;obtain⟨rfl,rfl⟩:=trodVars_none hV0;clear hA0 hV0 hval0;obtain⟨a0,a1,hG⟩:=glob_of_laidUTEW hL hsh;obtain⟨v0,vs0,d0,ds0,p0,q0,hargs,rfl,rfl,h0,r0⟩:=trodAll_cons hA;obtain⟨v1,vs1,d1,ds1,p1,q1,rfl,rfl,rfl,h1,r1⟩:=trodAll_cons r0;obtain⟨v2,vs2,d2,ds2,p2,q2,rfl,rfl,rfl,h2,r2⟩:=trodAll_cons r1;obtain⟨rfl,rfl,rfl⟩:=trodAll_nil r2;obtain rfl:args= #[v0,v1,v2]:=by cases args;simp_all
 obtain⟨x0,hx0,rx0⟩:=open_raw4 (hval 0 _ v0 rfl rfl) h0;obtain⟨x1,_,hx1,rx1⟩:=open_nums Tryz.underlying25 Tryz.underlying3 (by kernel_rfl) (hval 1 _ v1 rfl rfl) h1;obtain⟨x2z,rfl,rfl,rfl,wx2⟩:=open_int Tryz.underlying5 (hval 2 _ v2 rfl rfl) h2;obtain⟨x2,rfl,hx2⟩:=u8_nat wx2;have hc:=ChangeBack_any a0 a1 W x0 v0 x1 v1 x2 hx0 rx0 hx1 rx1 hx2 hG;refine(hc).mono ?_;rintro e W' ⟨rfl,hb⟩;exact⟨_,rfl,lifts 8 Tryz.f8 Rows.changeBackSpec rfl (by kernel_rfl) (by kernel_rfl) rfl hW' hb⟩
set_option maxHeartbeats 0 in
theorem closed:joinedFacts Tryz.pinned.checked.prog 8 Tryz.f8 (OpenSpec.ofChange Rows.changeBackSpec).bare Rows.changeBackRow=true:=by
 unfold joinedFacts
 repeat' (with_reducible refine Bool.and_eq_true_iff.2 ⟨?_,?_⟩)
 all_goals(as_aux_lemma=>kernel_rfl)
theorem said:Rows.ChangeBackSaid:=
 OpenClaim.holds_of_cond 8 Tryz.f8 rfl rfl rfl rfl rfl rfl rfl ⟨rfl,rfl,rfl,rfl,rfl⟩ rfl rfl rfl rfl rfl (by kernel_rfl) Tryz.func8 closed
  (of_decide_eq_true (by kernel_rfl)) (by unfold Func.isWrapper;rw[if_neg (of_decide_eq_false (by kernel_rfl))];exact⟨rfl,rfl⟩)
  (fun os started H enc _ F=>by rw[OpenClaim.pre_eq_preRow];exact lifted os started H enc F)
end Go.Proofs.YtcpaleaajdilgaaGreatDoor.ChangeBack
end
