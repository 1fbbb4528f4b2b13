/- Merged texts: Zn3 Zn4 Zn5 Zn6 Pv1 Pk2 Pk3 Zi0 Zh5 Zi5 Zh6 Zh7 Zn7 CSChApart. No statement of the program is proved here. -/
import Derived.Test.YtcpaleaajdilgaaGreatDoorM1
import Derived.Test.YtcpaleaajdilgaaGreatDoorM2
import Derived.Test.YtcpaleaajdilgaaGreatDoorM3
import Derived.Test.YtcpaleaajdilgaaGreatDoorM4
import Derived.Test.YtcpaleaajdilgaaGreatDoorM5
import Derived.Test.YtcpaleaajdilgaaGreatDoorM6
set_option linter.unusedSimpArgs false
set_option linter.unusedVariables false
section
namespace Go.Proofs.YtcpaleaajdilgaaGreatDoor
open Go Go.RowKit Go.Mor Go.Sh Go.Sh.Cd1 Go.Sh.Cd7
set_option maxRecDepth 100000
set_option maxHeartbeats 4000000
def rdB(l:List UInt8)(st:Int×Bool):MO:=.box [S (str l),I st.1,B st.2]
def nuS(l:List UInt8)(st:Int×Bool):Int×(Int×Bool):=if st.2 then(0,(st.1,true))else match z30 l st.1 with|some (n,b)=>(n,(b,false))|none=>(0,(st.1,true))
def txS(l:List UInt8)(st:Int×Bool):List UInt8×(Int×Bool):=if st.2 then([],(st.1,true))else match z25 l st.1 with|some (t,b)=>(t,(b,false))|none=>([],(st.1,true))
theorem rdNum7_ok(a0 a1:Addr)(m:Nat)(l:List UInt8)(st:Int×Bool)(hl:l.length<1125899906842624)(h:I64 st.1):
  SCalls Tryz.prog (gl a0 a1 m) 66 [.ptr 1000 0] [rdB l st] (I (nuS l st).1) [rdB l (nuS l st).2]:=by
 have HR:=readNum_ok a0 a1 m l st.1 hl h;obtain⟨a,bad⟩:=st;unfold nuS rdB
 dsimp only at*
 refine z17 hmix tf_0 rfl rfl rfl ?_;unfold B at*;cases hr:z30 l a with
 |none=>
  rw[hr]at HR;simp only[numTV]at HR;cases bad
  ·simp only[vcA,seval,vV];(with_reducible apply v_call);exact kv;rfl;exact HR;exact km;exact kv;simp only[vcA,seval,vV]
  ·simp only[vcA,seval,vV];(with_reducible apply v_call);exact kv;rfl;exact HR;exact km;exact kv;simp only[vcA,seval,vV]
 |some p=>
  obtain⟨n,b⟩:=p;rw[hr]at HR;simp only[numTV]at HR;cases bad
  ·simp only[vcA,seval,vV];(with_reducible apply v_call);exact kv;rfl;exact HR;exact km;exact kv;simp only[vcA,seval,vV]
  ·simp only[vcA,seval,vV];(with_reducible apply v_call);exact kv;rfl;exact HR;exact km;exact kv;simp only[vcA,seval,vV]
theorem rdText7_ok(a0 a1:Addr)(m:Nat)(l:List UInt8)(st:Int×Bool)(hl:l.length<1125899906842624)(h:I64 st.1):
  SCalls Tryz.prog (gl a0 a1 m) 67 [.ptr 1000 0] [rdB l st] (S (str (txS l st).1)) [rdB l (txS l st).2]:=by
 have HR:=readText_ok a0 a1 m l st.1 hl h;have e0:(⟨#[]⟩:ByteArray)=str []:=rfl;obtain⟨a,bad⟩:=st;unfold txS rdB
 dsimp only at*
 refine z17 hmix tf_1 rfl rfl rfl ?_;unfold B at*;cases hr:z25 l a with
 |none=>
  rw[hr]at HR;simp only[readTV]at HR;cases bad
  ·simp only[vcA,seval,vV];(with_reducible apply v_call);exact kv;rfl;exact HR;exact km;exact kv;simp only[vcA,seval,vV,e0]
  ·simp only[vcA,seval,vV];(with_reducible apply v_call);exact kv;rfl;exact HR;exact km;exact kv;simp only[vcA,seval,vV,e0]
 |some p=>
  obtain⟨n,b⟩:=p;rw[hr]at HR;simp only[readTV]at HR;cases bad
  ·simp only[vcA,seval,vV];(with_reducible apply v_call);exact kv;rfl;exact HR;exact km;exact kv;simp only[vcA,seval,vV,e0]
  ·simp only[vcA,seval,vV];(with_reducible apply v_call);exact kv;rfl;exact HR;exact km;exact kv;simp only[vcA,seval,vV,e0]
theorem nuS_bd{l:List UInt8}{st:Int×Bool}(hl:l.length<1125899906842624)(h:I64 st.1):I64 (nuS l st).2.1∧I64 (nuS l st).1:=by
 unfold nuS;split
 ·exact⟨h,by unfold I64;omega⟩
 split
 ·rename_i e;have:=readNum_bound e;exact⟨⟨by dsimp only;omega,by dsimp only;omega⟩,⟨by dsimp only;omega,by dsimp only;omega⟩⟩
 ·exact⟨h,by unfold I64;omega⟩
theorem txS_bd{l:List UInt8}{st:Int×Bool}(hl:l.length<1125899906842624)(h:I64 st.1):I64 (txS l st).2.1∧(txS l st).1.length≤10000:=by
 unfold txS;split
 ·exact⟨h,by simp⟩
 split
 ·rename_i e;have:=readText_bound e;exact⟨⟨by dsimp only;omega,by dsimp only;omega⟩,by dsimp only;omega⟩
 ·exact⟨h,by simp⟩
def dec7(l:List UInt8)(a:Int):Chg×(Int×Bool):=
 let r1:=nuS l (a,false)
 let r2:=txS l r1.2
 let r3:=txS l r2.2
 let r4:=txS l r3.2
 let r5:=nuS l r4.2
 let r6:=nuS l r5.2
 let r7:=txS l r6.2
 let r8:=txS l r7.2
 (⟨r1.1,r2.1,r3.1,r4.1,⟨r5.1,r6.1⟩,r7.1,r8.1⟩,r8.2)
def chg0:Chg:=⟨0,[],[],[],⟨0,0⟩,[],[]⟩
def decT7(l:List UInt8)(a:Int):TV:=
 bif (dec7 l a).2.2|| !wellV (dec7 l a).1 then .tuple [chT chg0,I 0,I 10] else .tuple [chT (dec7 l a).1,I (dec7 l a).2.1,I 0]
theorem decode7_ok(a0 a1:Addr)(m:Nat)(l:List UInt8)(a:Int)(hl:l.length<1125899906842624)(h:I64 a)(hh:(dec7 l a).2.2=false→ChOk m (dec7 l a).1):
  SCalls Tryz.prog (glX a0 a1 m) 29 [S (str l),I a] [] (decT7 l a) []:=by
 have e0:(⟨#[]⟩:ByteArray)=str []:=rfl;unfold decT7;unfold dec7 at*
 dsimp only at*
 have H1:=sc_1X (rdNum7_ok a0 a1 m l (a,false) hl h);have b1:=(nuS_bd (st:=(a,false)) hl h).1;generalize nuS l (a,false)=r1 at*;obtain⟨n1,s1⟩:=r1;have H2:=sc_1X (rdText7_ok a0 a1 m l s1 hl b1);have b2:=(txS_bd hl b1).1
 dsimp only at*
 generalize txS l s1=r2 at*;obtain⟨n2,s2⟩:=r2;have H3:=sc_1X (rdText7_ok a0 a1 m l s2 hl b2);have b3:=(txS_bd hl b2).1
 dsimp only at*
 generalize txS l s2=r3 at*;obtain⟨n3,s3⟩:=r3;have H4:=sc_1X (rdText7_ok a0 a1 m l s3 hl b3);have b4:=(txS_bd hl b3).1
 dsimp only at*
 generalize txS l s3=r4 at*;obtain⟨n4,s4⟩:=r4;have H5:=sc_1X (rdNum7_ok a0 a1 m l s4 hl b4);have b5:=(nuS_bd hl b4).1
 dsimp only at*
 generalize nuS l s4=r5 at*;obtain⟨n5,s5⟩:=r5;have H6:=sc_1X (rdNum7_ok a0 a1 m l s5 hl b5);have b6:=(nuS_bd hl b5).1
 dsimp only at*
 generalize nuS l s5=r6 at*;obtain⟨n6,s6⟩:=r6;have H7:=sc_1X (rdText7_ok a0 a1 m l s6 hl b6);have b7:=(txS_bd hl b6).1
 dsimp only at*
 generalize txS l s6=r7 at*;obtain⟨n7,s7⟩:=r7;have H8:=sc_1X (rdText7_ok a0 a1 m l s7 hl b7);have b8:=(txS_bd hl b7).1
 dsimp only at*
 generalize txS l s7=r8 at*;obtain⟨n8,a8,bad⟩:=r8
 dsimp only at*
 have HW:bad=false→_:=fun e=>sc_EX (a0:=a0) (a1:=a1) (wellFormed_ok m _ (hh e));generalize wellV _=wv at*;unfold chT chg0 rdB B at*
 dsimp only at*
 refine z7 hmix tf_31 rfl ?_;simp only[vcA,seval,vV];(with_reducible apply v_call);exact kv;rfl;exact H1;exact km;exact kv;(with_reducible apply v_call);exact kv;rfl;exact H2;exact km;exact kv;(with_reducible apply v_call);exact kv;rfl;exact H3;exact km;exact kv;(with_reducible apply v_call);exact kv;rfl;exact H4;exact km;exact kv;simp only[vcA,seval,vV];(with_reducible apply v_call);exact kv;rfl;exact H5;exact km;exact kv;simp only[vcA,seval,vV];(with_reducible apply v_call);exact kv;rfl;exact H6;exact km;exact kv;simp only[vcA,seval,vV];(with_reducible apply v_call);exact kv;rfl;exact H7;exact km;exact kv;simp only[vcA,seval,vV];(with_reducible apply v_call);exact kv;rfl;exact H8;exact km;exact kv;cases bad
 ·have HW:=HW rfl;cases wv
  ·simp only[vcA,seval,vV];(with_reducible apply v_call);exact kv;rfl;exact HW;exact km;exact kv;simp only[vcA,seval,vV,e0];rfl
  ·simp only[vcA,seval,vV];(with_reducible apply v_call);exact kv;rfl;exact HW;exact km;exact kv;simp only[vcA,seval,vV,e0];rfl
 ·simp only[vcA,seval,vV,e0];rfl
def sameChg(a b:Chg):Bool:=(a.k==b.k)&&((a.f==b.f)&&((a.n==b.n)&&((a.m==b.m)&&(eqTy a.t b.t&&((a.x==b.x)&&((a.o==b.o)&&true))))))
def chA(k:Int)(f n m:ByteArray)(t o:Int)(x y:ByteArray):Array Value:= #[.int .i64 k,.string f,.string n,.string m,.int .i64 t,.int .i64 o,.string x,.string y]
theorem eqChgR(k k':Int)(f n m f' n' m':ByteArray)(t o t' o':Int)(x y x' y':ByteArray):z14 Tryz.prog (Op.equal 50 (.agg (chA k f n m t o x y)) (.agg (chA k' f' n' m' t' o' x' y')))=
  some ((k==k')&&((f==f')&&((n==n')&&((m==m')&&(eqTy ⟨t,o⟩ ⟨t',o'⟩&&((x==x')&&((y==y')&&true))))))):=by
 unfold Op.equal;obtain⟨d,hn⟩:∃d,Op.maxDepth=d+1+1+1:=⟨_,rfl⟩
 rw[hn,z83 _ _ _ _ (by kernel_rfl) (by kernel_rfl)];obtain⟨f1,f2,f3,f4,f5,f6,f7,hl,P1,P2,P3,P4,P5,P6,P7⟩:∃f1 f2 f3 f4 f5 f6 f7,(Tryz.prog.fieldsOf 50).toList=[f1,f2,f3,f4,f5,f6,f7]∧
   PartOk f1 (chA k f n m t o x y) (chA k' f' n' m' t' o' x' y') (.int .i64 k) (.int .i64 k') (k==k')∧
   PartOk f2 (chA k f n m t o x y) (chA k' f' n' m' t' o' x' y') (.string f) (.string f') (f==f')∧
   PartOk f3 (chA k f n m t o x y) (chA k' f' n' m' t' o' x' y') (.string n) (.string n') (n==n')∧
   PartOk f4 (chA k f n m t o x y) (chA k' f' n' m' t' o' x' y') (.string m) (.string m') (m==m')∧
   PartOk f5 (chA k f n m t o x y) (chA k' f' n' m' t' o' x' y') (.agg #[.int .i64 t,.int .i64 o]) (.agg #[.int .i64 t',.int .i64 o']) (eqTy ⟨t,o⟩ ⟨t',o'⟩)∧
   PartOk f6 (chA k f n m t o x y) (chA k' f' n' m' t' o' x' y') (.string x) (.string x') (x==x')∧
   PartOk f7 (chA k f n m t o x y) (chA k' f' n' m' t' o' x' y') (.string y) (.string y') (y==y'):=
  ⟨(Tryz.prog.fieldsOf 50).toList.getD 0 default,(Tryz.prog.fieldsOf 50).toList.getD 1 default,(Tryz.prog.fieldsOf 50).toList.getD 2 default,(Tryz.prog.fieldsOf 50).toList.getD 3 default,
   (Tryz.prog.fieldsOf 50).toList.getD 4 default,(Tryz.prog.fieldsOf 50).toList.getD 5 default,(Tryz.prog.fieldsOf 50).toList.getD 6 default,by kernel_rfl,
   ⟨of_decide_eq_true (by kernel_rfl),by kernel_rfl,by kernel_rfl,fun n=>prI (n+1) _ _⟩,
   ⟨of_decide_eq_true (by kernel_rfl),by kernel_rfl,by kernel_rfl,fun n=>prS (n+1) _ _⟩,
   ⟨of_decide_eq_true (by kernel_rfl),by kernel_rfl,by kernel_rfl,fun n=>prS (n+1) _ _⟩,
   ⟨of_decide_eq_true (by kernel_rfl),by kernel_rfl,by kernel_rfl,fun n=>prS (n+1) _ _⟩,
   ⟨of_decide_eq_true (by kernel_rfl),by kernel_rfl,by kernel_rfl,fun n=>eqTyN n _ _ _ _⟩,
   ⟨of_decide_eq_true (by kernel_rfl),by kernel_rfl,by kernel_rfl,fun n=>prS (n+1) _ _⟩,
   ⟨of_decide_eq_true (by kernel_rfl),by kernel_rfl,by kernel_rfl,fun n=>prS (n+1) _ _⟩⟩
 rw[hl];exact z62 P1 (z62 P2 (z62 P3 (z62 P4 (z62 P5 (z62 P6 (z62 P7 parts_nil))))))
theorem eqlChg(k k':Int)(f n m f' n' m':ByteArray)(t o t' o':Int)(x y x' y':ByteArray):
  scal Tryz.prog (do eqGuard .eql 50 (.const (.agg #[.int .i64 k,.string f,.string n,.string m,.int .i64 t,.int .i64 o,.string x,.string y])) (.const (.agg #[.int .i64 k',.string f',.string n',.string m',.int .i64 t',.int .i64 o',.string x',.string y'])) (.agg #[.int .i64 k,.string f,.string n,.string m,.int .i64 t,.int .i64 o,.string x,.string y]) (.agg #[.int .i64 k',.string f',.string n',.string m',.int .i64 t',.int .i64 o',.string x',.string y']);binOp .eql 50 (.agg #[.int .i64 k,.string f,.string n,.string m,.int .i64 t,.int .i64 o,.string x,.string y]) (.agg #[.int .i64 k',.string f',.string n',.string m',.int .i64 t',.int .i64 o',.string x',.string y']))=
  some (.pv (.v (.bool ((k==k')&&((f==f')&&((n==n')&&((m==m')&&(eqTy ⟨t,o⟩ ⟨t',o'⟩&&((x==x')&&((y==y')&&true))))))))),.no):=by
 unfold scal;rw[z28];have hg:z14 Tryz.prog (eqGuard .eql 50 (.const (.agg #[.int .i64 k,.string f,.string n,.string m,.int .i64 t,.int .i64 o,.string x,.string y])) (.const (.agg #[.int .i64 k',.string f',.string n',.string m',.int .i64 t',.int .i64 o',.string x',.string y'])) (.agg #[.int .i64 k,.string f,.string n,.string m,.int .i64 t,.int .i64 o,.string x,.string y]) (.agg #[.int .i64 k',.string f',.string n',.string m',.int .i64 t',.int .i64 o',.string x',.string y']))=some ():=by kernel_rfl
 rw[hg,Option.bind_some];have hb:binOp .eql 50 (.agg #[.int .i64 k,.string f,.string n,.string m,.int .i64 t,.int .i64 o,.string x,.string y]) (.agg #[.int .i64 k',.string f',.string n',.string m',.int .i64 t',.int .i64 o',.string x',.string y'])=(Op.equal 50 (.agg (chA k f n m t o x y)) (.agg (chA k' f' n' m' t' o' x' y'))>>=fun r=>pure (.bool r)):=rfl;rw[hb,z28,eqChgR];rfl
theorem strB3(a b:List UInt8):(str a==str b)=(a==b):=by
 show((str a).data==(str b).data)=(a==b)
 rw[Bool.eq_iff_iff,beq_iff_eq,beq_iff_eq];constructor
 ·intro h;have:=congrArg Array.toList h;simpa [str]using this
 ·intro h;rw[h]
theorem sameChg_ok(g:Sh.Glob)(a b:Chg):SCalls Tryz.prog g 27 [chT a,chT b] [] (B (sameChg a b)) []:=by
 have H:=eqlChg a.k b.k (str a.f) (str a.n) (str a.m) (str b.f) (str b.n) (str b.m) a.t.k a.t.o b.t.k b.t.o (str a.x) (str a.o) (str b.x) (str b.o);simp only[strB3]at H;refine z7 hmix tf_34 rfl ?_;unfold chT B sameChg;simp only[vcA,seval,vV,H]
def rd7:Rd Chg:=
 Rd.bind z30 fun k=>Rd.bind z25 fun f=>Rd.bind z25 fun n=>Rd.bind z25 fun m=>Rd.bind z30 fun t=>Rd.bind z30 fun o=>Rd.bind z25 fun x=>Rd.bind z25 fun y=>Rd.ret ⟨k,f,n,m,⟨t,o⟩,x,y⟩
theorem enc7{h:Chg}(hf:ChFit h):Enc rd7 (encC h) h:=by
 have e:encC h=num h.k++(text h.f++(text h.n++(text h.m++(num h.t.k++(num h.t.o++(text h.x++(text h.o++[]))))))):=by unfold encC;simp
 rw[e];refine(enc_num _ hf.k.1 hf.k.2).bind ((enc_text _ hf.f).bind ((enc_text _ hf.n).bind ((enc_text _ hf.m).bind ((enc_num _ hf.tk.1 hf.tk.2).bind ((enc_num _ hf.ot.1 hf.ot.2).bind ((enc_text _ hf.x).bind ((enc_text _ hf.o).bind ?_)))))));exact Enc.ret _
theorem cuts7:Cuts rd7:=
 cuts_num.bind fun _=>z153.bind fun _=>z153.bind fun _=>z153.bind fun _=>cuts_num.bind fun _=>cuts_num.bind fun _=>z153.bind fun _=>z153.bind fun _=>Cuts.ret _
theorem nuS_t(l:List UInt8)(a:Int):nuS l (a,true)=(0,(a,true)):=rfl
theorem txS_t(l:List UInt8)(a:Int):txS l (a,true)=([],(a,true)):=rfl
theorem nuS_n{l:List UInt8}{a:Int}(h:z30 l a=none):nuS l (a,false)=(0,(a,true)):=by unfold nuS;simp[h]
theorem txS_n{l:List UInt8}{a:Int}(h:z25 l a=none):txS l (a,false)=([],(a,true)):=by unfold txS;simp[h]
theorem nuS_s{l:List UInt8}{a n b:Int}(h:z30 l a=some (n,b)):nuS l (a,false)=(n,(b,false)):=by unfold nuS;simp[h]
theorem txS_s{l t:List UInt8}{a b:Int}(h:z25 l a=some (t,b)):txS l (a,false)=(t,(b,false)):=by unfold txS;simp[h]
theorem dec7_rd(l:List UInt8)(a:Int):match rd7 l a with|some (h,b)=>dec7 l a=(h,(b,false))|none=>(dec7 l a).2.2=true:=by
 unfold rd7 Rd.bind Rd.ret dec7;rcases h1:z30 l a with _|⟨k,b1⟩
 ·simp only[nuS_n h1,nuS_t,txS_t]
 simp only[nuS_s h1];rcases h2:z25 l b1 with _|⟨f,b2⟩
 ·simp only[txS_n h2,nuS_t,txS_t]
 simp only[txS_s h2];rcases h3:z25 l b2 with _|⟨n,b3⟩
 ·simp only[txS_n h3,nuS_t,txS_t]
 simp only[txS_s h3];rcases h4:z25 l b3 with _|⟨m,b4⟩
 ·simp only[txS_n h4,nuS_t,txS_t]
 simp only[txS_s h4];rcases h5:z30 l b4 with _|⟨t,b5⟩
 ·simp only[nuS_n h5,nuS_t,txS_t]
 simp only[nuS_s h5];rcases h6:z30 l b5 with _|⟨o,b6⟩
 ·simp only[nuS_n h6,nuS_t,txS_t]
 simp only[nuS_s h6];rcases h7:z25 l b6 with _|⟨x,b7⟩
 ·simp only[txS_n h7,nuS_t,txS_t]
 simp only[txS_s h7];rcases h8:z25 l b7 with _|⟨y,b8⟩
 ·simp only[txS_n h8,nuS_t,txS_t]
 simp only[txS_s h8]
theorem dec7_enc{h:Chg}(hf:ChFit h)(pre post:List UInt8):dec7 (pre++encC h++post) pre.length=(h,(((pre.length+(encC h).length:Nat):Int),false)):=by
 have:=dec7_rd (pre++encC h++post) pre.length;rw[enc7 hf pre post]at this;exact this
theorem dec7_cut{h:Chg}(hf:ChFit h)(k:Nat)(hk:k<(encC h).length):(dec7 ((encC h).take k) 0).2.2=true:=by
 have:=dec7_rd ((encC h).take k) 0;rw[(enc7 hf).cut cuts7 k hk]at this;exact this
theorem back7_ok(a0 a1:Addr)(m:Nat)(h:Chg)(hh:ChOk m h)(hf:ChFit h)(hw:wellV h=true)(pre post:List UInt8)(hl:(pre++encC h++post).length<1125899906842624):
  SCalls Tryz.prog (glX a0 a1 m) 29 [S (str (pre++encC h++post)),I (pre.length:Int)] [] (.tuple [chT h,I ((pre.length+(encC h).length:Nat):Int),I 0]) []:=by
 have H:=decode7_ok a0 a1 m (pre++encC h++post) (pre.length:Int) hl ⟨by omega,by simp only[List.length_append]at hl;omega⟩;unfold decT7 at H;rw[dec7_enc hf pre post]at H;have H:=H (fun _=>hh);simpa only[hw,Bool.not_true,Bool.or_self,cond_false]using H
theorem cut7_ok(a0 a1:Addr)(m:Nat)(h:Chg)(hf:ChFit h)(k:Nat)(hk:k<(encC h).length)(hl:(encC h).length<1125899906842624):
  SCalls Tryz.prog (glX a0 a1 m) 29 [S (str ((encC h).take k)),I 0] [] (.tuple [chT chg0,I 0,I 10]) []:=by
 have hc:=dec7_cut hf k hk;have H:=decode7_ok a0 a1 m ((encC h).take k) 0 (by rw[List.length_take];omega) ⟨by omega,by omega⟩ (fun h0=>by rw[hc]at h0;cases h0);unfold decT7 at H;simpa only[hc,Bool.true_or,cond_true]using H
theorem encC_len{h:Chg}(hf:ChFit h):0<(encC h).length∧(encC h).length≤60000:=by
 unfold encC;have l1:=z82 h.k;have l2:=z82 h.t.k;have l3:=z82 h.t.o;have m1:=z107 hf.f;have m2:=z107 hf.n;have m3:=z107 hf.m;have m4:=z107 hf.x;have m5:=z107 hf.o;have p:=readNum_bound (by simpa using enc_num _ hf.k.1 hf.k.2 [] []);simp only[List.length_append];omega
theorem txOk_of(m:Nat){s:List UInt8}{r:V×Int×Int}(h:parseV 1000 s=some r)(hl:s.length<4611686018427387904):TxOk m s:=by
 have e:rdV s=r:=by unfold rdV;rw[h];rfl
 refine⟨hl,fun _=> ?_,fun _=> ?_⟩
 ·rw[e];exact sc_0E (parse_any m s h)
 ·rw[e];unfold parseV at h;split at h
  ·cases h;exact esm_nil
  ·split at h
   ·cases h
   ·cases h;exact esm_nil
   ·rename_i L hL;split at h
    ·rename_i e p hp;split at h
     ·cases h;exact esm_nil
     ·split at h
      ·cases h;exact(parse_small (z137 _ _ _ _ _ (by simp) hL).1 _ _).1 _ _ _ _ hp
      ·cases h;exact esm_nil
    ·cases h;exact esm_nil
    ·cases h
theorem txOk_nil(m:Nat):TxOk m []:=⟨by simp,fun h=>absurd rfl h,fun h=>absurd rfl h⟩
theorem wk_sl{W:Nat}{es ds:List (List PV)}(hl:es.length=ds.length)(h:∀(i:Nat) cs ds',es[i]?=some cs→ds[i]?=some ds'→cs.length=ds'.length∧∀(j:Nat) c d,cs[j]?=some c→ds'[j]?=some d→∀w K v,Go.Sh.RelV w K c v→Go.Sh.RelV w K d v):Wk (.pv (.sl W es)) (.pv (.sl W ds)):=by
 intro w E r v hr;have get:∀(i j:Nat) ds' d,ds[i]?=some ds'→ds'[j]?=some d→∃cs c,es[i]?=some cs∧cs[j]?=some c∧∀w K v,Go.Sh.RelV w K c v→Go.Sh.RelV w K d v:=by
  intro i j ds' d h1 h2;have hi:i<es.length:=by
   rcases Nat.lt_or_ge i ds.length with h|h
   ·omega
   ·rw[List.getElem?_eq_none h]at h1;cases h1
  have hq:=h i _ ds' (gE hi) h1;have hj:j<es[i].length:=by
   rcases Nat.lt_or_ge j ds'.length with h|h
   ·have:=hq.1;omega
   ·rw[List.getElem?_eq_none h]at h2;cases h2
  exact⟨_,_,gE hi,gE hj,hq.2 j _ d (gE hj) h2⟩
 cases hr with
 |pv hr=>
  cases hr with
  |sl W es b off cap p f hp hcap hmax hW hc hs=>
   refine .pv ?_;rw[hl];refine .sl W ds b off cap p f (fun hne=>hp (fun e=>hne ?_)) (by omega) hmax ?_ ?_ ?_
   ·rw[e]at hl;exact List.eq_nil_of_length_eq_zero hl.symm
   ·intro ds' hm;obtain⟨i,hi,rfl⟩:=List.getElem_of_mem hm;have hi2:i<es.length:=by omega
    rw[←(h i _ _ (gE hi2) (gE hi)).1];exact hW _ (List.getElem_mem hi2)
   ·intro i j ds' d h1 h2;obtain⟨cs,c,g1,g2,_⟩:=get i j ds' d h1 h2;exact hc i j cs c g1 g2
   ·intro i j ds' d h1 h2;obtain⟨cs,c,g1,g2,g3⟩:=get i j ds' d h1 h2;exact g3 _ _ _ (hs i j cs c g1 g2)
def rvN(x:V):List PV:=[.v (.int .i64 x.k),.v (.int .i64 x.n),.v (.string (str x.s)),.v (.slice none 0 0)]
theorem wk_flat{l:List V}(h:∀v∈l,v.l=[]):Wk (.pv (.sl 4 (l.map rvN))) (.pv (.sl 4 (V.rows l))):=by
 refine wk_sl (by rw[z50];simp) (fun i cs ds h1 h2=> ?_);rw[z50]at h2;rw[List.getElem?_map]at h1 h2;cases hi:l[i]? with
 |none=>rw[hi]at h1;cases h1
 |some x=>
  rw[hi]at h1 h2;cases h1;cases h2;rw[row4];refine⟨rfl,fun j c d hc hd w K v hv=> ?_⟩;have hx:=h x (gM hi);rw[hx]at hd
  match j with
  |0=>cases hc;cases hd;exact hv
  |1=>cases hc;cases hd;exact hv
  |2=>cases hc;cases hd;exact hv
  |3=>
   cases hc;cases hd;cases hv;exact .sl 4 [] 0 0 0 none (fun _ _=>undef) (by simp) (by simp) (by simp) (by simp) (by simp) (by simp)
  |j+4=>cases hc
def cP:Cls:=⟨[112],[⟨[110,97,109,101],⟨2,0⟩,true⟩]⟩
def cD:Cls:=⟨[112],[⟨[111,110,101],⟨2,0⟩,false⟩,⟨[109,111,114,101],⟨2,0⟩,false⟩]⟩
def cQ:Cls:=⟨[113],[⟨[110],⟨1,0⟩,true⟩]⟩
def cM:Cls:=⟨[113],[⟨[110],⟨2,0⟩,false⟩]⟩
def hS:Chg:=⟨5,[110,97,109,101],[111,110,101],[109,111,114,101],⟨2,0⟩,[108,101,102,116,40,110,97,109,101,44,32,50,41],[102,114,111,109,40,110,97,109,101,44,32,51,41]⟩
def hT:Chg:=⟨4,[110],[],[],⟨2,0⟩,[116,101,120,116,40,110,41],[]⟩
def tx(s:List UInt8):V:=.mk 2 0 s []
theorem ap1:applyV cP hS=(cD,0):=by kernel_rfl
theorem va1:valsA cP hS [tx [97,98,32,99]]=([tx [97,98],tx [99]],0):=by kernel_rfl
theorem ap2:applyV cQ hT=(cM,0):=by kernel_rfl
theorem va2:valsA cQ hT [.mk 1 7 [] []]=([tx [55]],0):=by kernel_rfl
theorem ap3:applyV cQ hS=(⟨[],[]⟩,70):=by kernel_rfl
theorem ok1:okV cQ hT=true:=by kernel_rfl
theorem ok2:okV cP hT=false:=by kernel_rfl
theorem we2:wellV hT=true:=by kernel_rfl
theorem chS_ok(m:Nat):ChOk m hS:=⟨by unfold Short hS;decide,by unfold Short hS;decide,by unfold Short hS;decide,txOk_of m (r:=rdV hS.x) (by kernel_rfl) (by unfold hS;decide),txOk_of m (r:=rdV hS.o) (by kernel_rfl) (by unfold hS;decide)⟩
theorem chT_ok(m:Nat):ChOk m hT:=⟨by unfold Short hT;decide,by unfold Short hT;decide,by unfold Short hT;decide,txOk_of m (r:=rdV hT.x) (by kernel_rfl) (by unfold hT;decide),txOk_nil m⟩
theorem chT_fit:ChFit hT:=⟨by unfold I64 hT;decide,by unfold I64 hT;decide,by unfold I64 hT;decide,by unfold hT;decide,by unfold hT;decide,by unfold hT;decide,by unfold hT;decide,by unfold hT;decide⟩
theorem cP_ok:ClsOk cP:=⟨by unfold Short cP;decide,by unfold Short cP;decide,by unfold cP;decide⟩
theorem cQ_ok:ClsOk cQ:=⟨by unfold Short cQ;decide,by unfold Short cQ;decide,by unfold cQ;decide⟩
theorem fewF{x:V}(h:x.l=[])(hs:x.s.length≤60):VFew x∧VOk x:=⟨few0 h,by unfold VOk z106;rw[h];exact⟨by omega,by simp⟩⟩
theorem ex7_ok(a0 a1:Addr)(m:Nat):SCalls Tryz.prog (glX a0 a1 m) 22 [] [] (B true) []:=by
 have hS1:=chS_ok m;have hT1:=chT_ok m;have A1:=sc_EX (a0:=a0) (a1:=a1) (apply_ok m cP hS cP_ok hS1 (by decide));have V1:=sc_EX (a0:=a0) (a1:=a1) (changeVals_ok m cP hS [tx [97,98,32,99]] cP_ok hS1 (fun h=>by unfold hS at h;simp at h) (by intro v hv;simp at hv;subst hv;exact fewF rfl (by decide)) (by decide));have A2:=sc_EX (a0:=a0) (a1:=a1) (apply_ok m cQ hT cQ_ok hT1 (by decide));have V2:=sc_EX (a0:=a0) (a1:=a1) (changeVals_ok m cQ hT [.mk 1 7 [] []] cQ_ok hT1 (fun _ _=>freshB_flat _ _ (by decide) (by simp) (by intro v hv;simp at hv;subst hv;rfl)) (by intro v hv;simp at hv;subst hv;exact fewF rfl (by decide)) (by decide));have A3:=sc_EX (a0:=a0) (a1:=a1) (apply_ok m cQ hS cQ_ok hS1 (by decide));have R1:=sc_EX (a0:=a0) (a1:=a1) (changeRight_ok m cQ hT cQ_ok hT1);have R2:=sc_EX (a0:=a0) (a1:=a1) (changeRight_ok m cP hT cP_ok hT1);have EN:=encode7_ok a0 a1 m hT hT1 chT_fit;have le:=encC_len chT_fit;have DE:=back7_ok a0 a1 m hT hT1 chT_fit we2 [] [] (by simp only[List.nil_append,List.append_nil];omega);have DC:=cut7_ok a0 a1 m hT chT_fit ((encC hT).length / 2) (by omega) (by omega);simp only[List.nil_append,List.append_nil,List.length_nil,Nat.zero_add,Int.ofNat_zero]at DE
 unfold encT7 at EN;simp only[we2,if_true]at EN;have S1:=refSame4_ok (glX a0 a1 m) cD (by decide);have S2:=refSame4_ok (glX a0 a1 m) cM (by decide);have T1:=sameVals_ok (glX a0 a1 m) [tx [97,98],tx [99]] (by intro v hv;simp at hv;rcases hv with rfl|rfl<;>exact(fewF rfl (by decide)).1) (by decide);have T2:=sameVals_ok (glX a0 a1 m) [tx [55]] (by intro v hv;simp at hv;subst hv;exact(fewF rfl (by decide)).1) (by decide);have SS:=sameChg_ok (glX a0 a1 m) hT hT;rw[show sameChg hT hT=true by kernel_rfl]at SS;rw[ap1]at A1;rw[ap2]at A2;rw[ap3]at A3;rw[va1]at V1;rw[va2]at V2;rw[ok1]at R1;rw[ok2]at R2;have V1':SCalls Tryz.prog (glX a0 a1 m) 31 [clT cP,chT hS,.pv (.sl 4 ([tx [97,98,32,99]].map rvN))] [] (valsT ([tx [97,98],tx [99]],0)) []:=V1.inp rfl (fun j c d hc hd=>by
  match j with
  |0=>cases hc;cases hd;exact .refl _
  |1=>cases hc;cases hd;exact .refl _
  |2=>cases hc;cases hd;exact wk_flat (by intro v hv;simp at hv;subst hv;rfl)
  |j+3=>simp at hc)
 have V2':SCalls Tryz.prog (glX a0 a1 m) 31 [clT cQ,chT hT,.pv (.sl 4 ([V.mk 1 7 [] []].map rvN))] [] (valsT ([tx [55]],0)) []:=V2.inp rfl (fun j c d hc hd=>by
  match j with
  |0=>cases hc;cases hd;exact .refl _
  |1=>cases hc;cases hd;exact .refl _
  |2=>cases hc;cases hd;exact wk_flat (by intro v hv;simp at hv;subst hv;rfl)
  |j+3=>simp at hc)
 have V3:=sc_EX (a0:=a0) (a1:=a1) (changeVals_ok m cQ hT [] cQ_ok hT1 (fun _ h=>absurd rfl h) (by simp) (by decide));rw[show valsA cQ hT []=([],42) by kernel_rfl]at V3;have V3':SCalls Tryz.prog (glX a0 a1 m) 31 [clT cQ,chT hT,.pv (.v (.slice none 0 0))] [] (valsT ([],42)) []:=V3.inp rfl (fun j c d hc hd=>by
  match j with
  |0=>cases hc;cases hd;exact .refl _
  |1=>cases hc;cases hd;exact .refl _
  |2=>cases hc;cases hd;exact wk_nil 4
  |j+3=>simp at hc)
 have T1':SCalls Tryz.prog (glX a0 a1 m) 39 [.pv (.sl 4 (V.rows [tx [97,98],tx [99]])),.pv (.sl 4 ([tx [97,98],tx [99]].map rvN))] [] (B true) []:=T1.inp rfl (fun j c d hc hd=>by
  match j with
  |0=>cases hc;cases hd;exact .refl _
  |1=>cases hc;cases hd;exact wk_flat (by intro v hv;simp at hv;rcases hv with rfl|rfl<;>rfl)
  |j+2=>simp at hc)
 have T2':SCalls Tryz.prog (glX a0 a1 m) 39 [.pv (.sl 4 (V.rows [tx [55]])),.pv (.sl 4 ([tx [55]].map rvN))] [] (B true) []:=T2.inp rfl (fun j c d hc hd=>by
  match j with
  |0=>cases hc;cases hd;exact .refl _
  |1=>cases hc;cases hd;exact wk_flat (by intro v hv;simp at hv;subst hv;rfl)
  |j+2=>simp at hc)
 clear V1 V2 V3 T1 T2;unfold applyT valsT at*
 dsimp only at*
 generalize V.rows [tx [97,98],tx [99]]=r1 at*;generalize V.rows [tx [55]]=r2 at*;generalize encC hT=e at*;have w2:IntKind.i64.wrap (Int.tdiv (e.length:Int) 2)=((e.length / 2:Nat):Int):=by rw[show Int.tdiv (e.length:Int) 2=((e.length / 2:Nat):Int) from rfl,wrap64 (by omega) (by omega)]
 unfold clT chT flR hS hT cP cQ cD cM chg0 tx rvN B at*;simp only[List.map_cons,List.map_nil]at*;refine z7 hmix tf_104 rfl ?_;simp only[vcA,seval,vV];(with_reducible apply v_call);exact kv;rfl;exact A1;exact km;exact kv;simp only[vcA,seval,vV];(with_reducible apply v_call);exact kv;rfl;exact V1';exact km;exact kv;simp only[vcA,seval,vV];(with_reducible apply v_call);exact kv;rfl;exact A2;exact km;exact kv;simp only[vcA,seval,vV];(with_reducible apply v_call);exact kv;rfl;exact V2';exact km;exact kv;simp only[vcA,seval,vV];(with_reducible apply v_call);exact kv;rfl;exact A3;exact km;exact kv;simp only[vcA,seval,vV];(with_reducible apply v_call);exact kv;rfl;exact V3';exact km;exact kv;simp only[vcA,seval,vV];(with_reducible apply v_call);exact kv;rfl;exact EN;exact km;exact kv;simp only[vcA,seval,vV];(with_reducible apply v_call);exact kv;rfl;exact DE;exact km;exact kv;simp only[vcA,seval,vV,w2];refine⟨⟨by omega,by omega⟩,?_⟩;(with_reducible apply v_call);exact kv;rfl;exact DC;exact km;exact kv;simp only[vcA,seval,vV];(with_reducible apply v_call);exact kv;rfl;exact S1;exact km;exact kv;simp only[vcA,seval,vV];(with_reducible apply v_call);exact kv;rfl;exact T1';exact km;exact kv
 simp only[vcA,seval,vV];(with_reducible apply v_call);exact kv;rfl;exact S2;exact km;exact kv;simp only[vcA,seval,vV];(with_reducible apply v_call);exact kv;rfl;exact T2';exact km;exact kv;simp only[vcA,seval,vV];(with_reducible apply v_call);exact kv;rfl;exact SS;exact km;exact kv;simp only[vcA,seval,vV];(with_reducible apply v_call);exact kv;rfl;exact R1;exact km;exact kv;simp only[vcA,seval,vV];(with_reducible apply v_call);exact kv;rfl;exact R2;exact km;exact kv;simp only[vcA,seval,vV]
end Go.Proofs.YtcpaleaajdilgaaGreatDoor
end

section
namespace Go.Mor
open Go Go.RowKit
set_option maxHeartbeats 1000000
theorem mkVals_at{fs:List Fld}{l:List Int}{many:Int}{i:Nat}{f:Fld}(h:fs[i]?=some f):(mkVals fs l many)[i]?=some (mkVal f.t (rawN l i) many):=by unfold mkVals;rw[List.getElem?_mapIdx,h];rfl
theorem z164(fs:List Fld)(l:List Int)(many:Int):(mkVals fs l many).length=fs.length:=by unfold mkVals;exact List.length_mapIdx
theorem GoodC.type{c:Cls}(h:GoodC c){f:Fld}(hf:f∈c.fs):z19 f.t=true:=by
 have:=(h.fs f hf).1;unfold z26 at this;simp only[Bool.and_eq_true]at this;exact this.1.2
theorem vals_fit{c:Cls}(h:GoodC c)(l:List Int){many:Int}(hm:many≤100000){i:Nat}{f:Fld}{v:V}(hf:c.fs[i]?=some f)(hv:(mkVals c.fs l many)[i]?=some v):fitsV v f.t=true:=by
 rw[mkVals_at hf]at hv;cases hv;exact(fits_mkVal f.t _ many (h.type (gM hf)) hm).1
end Go.Mor
end

section
namespace Go.Mor
open Go
set_option maxHeartbeats 1000000
structure FitC(c:Cls)(vals:List V):Prop where
 r:z18 c=true
 len:vals.length=c.fs.length
 fit:∀(i:Nat) f v,c.fs[i]?=some f→vals[i]?=some v→fitsV v f.t=true
theorem FitC.chk{c:Cls}{vals:List V}(h:FitC c vals):check c vals=(0,0):=check_ok h.r h.len h.fit
theorem step_ok{c:Cls}{vals:List V}{h:Chg}(hf:FitC c vals)(hw:wellV h=true)(hm:mayV c h=true):applyV c h=(⟨c.n,fieldsV c h⟩,0)∧valsA c h vals=(valsV c h vals,0):=by
 have ho:okV c h=true:=by unfold okV;rw[hf.r,hw,hm];rfl
 unfold applyV valsA;rw[hf.chk,ho,hf.r];exact⟨rfl,rfl⟩
theorem putL_nil{α:Type}(l:List α)(i:Nat):putL l i []=l.eraseIdx i:=by unfold putL;rw[List.eraseIdx_eq_take_drop_succ,List.append_nil]
theorem putL_one{α:Type}{l:List α}{i:Nat}(h:i<l.length)(x:α):putL l i [x]=l.set i x:=by
 unfold putL;rw[List.set_eq_take_append_cons_drop,if_pos h,List.append_assoc];rfl
theorem dist_erase{l:List Fld}(h:Dist l)(k:Nat):Dist (l.eraseIdx k):=by
 intro i j f g hi hj he;rw[List.getElem?_eraseIdx]at hi hj;split at hi<;>split at hj<;>have:=h _ _ f g hi hj he<;>omega
theorem eqFld_iff(f g:Fld):eqFld f g=true ↔ f=g:=by
 obtain⟨n,⟨k,o⟩,ix⟩:=f;obtain⟨n',⟨k',o'⟩,ix'⟩:=g;simp[eqFld,and_assoc]
theorem eqFlds_iff:∀(l q:List Fld),eqFlds l q=true ↔ l=q
 |[],[]=>by simp[eqFlds]
 |[],_::_=>by simp[eqFlds]
 |_::_,[]=>by simp[eqFlds]
 |f::l,g::q=>by rw[eqFlds,Bool.and_eq_true,eqFld_iff,eqFlds_iff l q,List.cons.injEq]
theorem same_refl(c:Cls):sameClass c c=true:=by
 unfold sameClass;rw[(eqFlds_iff c.fs c.fs).2 rfl];simp
def hDrop(n:List UInt8):Chg:=⟨2,n,[],[],ty0,[],[]⟩
def hRen(n q:List UInt8):Chg:=⟨3,n,q,[],ty0,[],[]⟩
def hAdd(q:List UInt8)(t:Ty):Chg:=⟨1,[],q,[],t,[],[]⟩
theorem right_at{c:Cls}(h:z18 c=true){i:Nat}{f:Fld}(hi:c.fs[i]?=some f):z13 f.n=true∧fieldAt c.fs f.n=i∧z26 f=true∧i<c.fs.length:=by
 have:=(z84 c).1 h;have hf:=this.2.2.1 f (gM hi);have hr:=hf;unfold z26 at hf;simp only[Bool.and_eq_true]at hf;exact⟨hf.1.1,dist_at this.2.2.2 hi,hr,(gJ hi).1⟩
theorem has_true{l:List Fld}{s:List UInt8}{i:Nat}(h:fieldAt l s=i):hasV l s=true∧atV l s=i:=by
 unfold hasV atV;rw[h];simp
theorem free_true{l:List Fld}{s:List UInt8}(h:fieldAt l s<0)(b:List UInt8):freeV l s b=true:=by unfold freeV;simp[h]
theorem not_at{l:List Fld}{s:List UInt8}(h:∀f∈l,f.n≠s):fieldAt l s<0:=(firstAt_neg _ _).2 fun f hf=>by simpa using h f hf
theorem fit_erase{c:Cls}{vals:List V}(h:FitC c vals)(k:Nat):FitC ⟨c.n,c.fs.eraseIdx k⟩ (vals.eraseIdx k):=by
 have hr:=(z84 c).1 h.r;refine⟨(z84 _).2 ⟨hr.1,Nat.le_trans (List.length_eraseIdx_le ..) hr.2.1,fun f hf=>hr.2.2.1 f (List.mem_of_mem_eraseIdx hf),dist_erase hr.2.2.2 k⟩,?_,fun i f v hi hv=> ?_⟩
 ·simp only[List.length_eraseIdx,h.len]
 ·simp only[List.getElem?_eraseIdx]at hi hv;split at hi
  ·rw[if_pos (by assumption)]at hv;exact h.fit _ _ _ hi hv
  ·rw[if_neg (by assumption)]at hv;exact h.fit _ _ _ hi hv
theorem drop_ok{c:Cls}{vals:List V}(h:FitC c vals){k:Nat}{f:Fld}(hk:c.fs[k]?=some f):
  applyV c (hDrop f.n)=(⟨c.n,c.fs.eraseIdx k⟩,0)∧valsA c (hDrop f.n) vals=(vals.eraseIdx k,0):=by
 obtain⟨h1,h2,h3,h4⟩:=right_at h.r hk;obtain⟨h5,h6⟩:=has_true h2;have:=step_ok (h:=hDrop f.n) h (by simp[wellV,needV,hDrop,nameV,formV,h1,eqTy]) (by simp[mayV,hDrop,h5]);rw[this.1,this.2];simp[fieldsV,valsV,hDrop,h6,putL_nil]
theorem z33{l:List Fld}{i:Nat}{f:Fld}(h:l[i]?=some f):l.getD i fld0=f:=by rw[List.getD_eq_getElem?_getD,h];rfl
theorem fit_set{c:Cls}{vals:List V}(h:FitC c vals){i:Nat}{f g:Fld}(hi:c.fs[i]?=some f)(ht:g.t=f.t)(hg:z26 g=true)(hn:∀(j:Nat) y,j≠i→c.fs[j]?=some y→y.n≠g.n):FitC ⟨c.n,c.fs.set i g⟩ vals:=by
 have hr:=(z84 c).1 h.r;have hlt:=(gJ hi).1;refine⟨(z84 _).2 ⟨hr.1,by simpa using hr.2.1,fun y hy=> ?_,dist_set hr.2.2.2 hi hn⟩,by simpa using h.len,fun j y v hj hv=> ?_⟩
 ·rcases List.mem_or_eq_of_mem_set hy with hy|rfl
  ·exact hr.2.2.1 y hy
  ·exact hg
 ·dsimp only at hj
  rw[set_get hi]at hj;split at hj
  ·rename_i e;subst e;cases hj;rw[ht];exact h.fit _ _ _ hi hv
  ·exact h.fit _ _ _ hj hv
theorem ren_ok{c:Cls}{vals:List V}(h:FitC c vals){i:Nat}{f:Fld}(hi:c.fs[i]?=some f){q:List UInt8}(hq:z13 q=true)(hn:∀g∈c.fs,g.n≠q):
  applyV c (hRen f.n q)=(⟨c.n,c.fs.set i ⟨q,f.t,f.ix⟩⟩,0)∧valsA c (hRen f.n q) vals=(vals,0)∧FitC ⟨c.n,c.fs.set i ⟨q,f.t,f.ix⟩⟩ vals:=by
 obtain⟨h1,h2,h3,h4⟩:=right_at h.r hi;obtain⟨h5,h6⟩:=has_true h2;have:=step_ok (h:=hRen f.n q) h (by simp[wellV,needV,hRen,nameV,formV,h1,hq,eqTy]) (by simp[mayV,hRen,h5,free_true (not_at hn)]);rw[this.1,this.2];refine⟨?_,rfl,fit_set h hi rfl ?_ fun j y _ hy=>hn y (gM hy)⟩
 ·simp only[fieldsV,hRen,h6,z33 hi,putL_one h4,show ¬(3:Int)=1 by decide,show ¬(3:Int)=2 by decide,if_false,if_true]
 ·unfold z26 at h3 ⊢;simp only[Bool.and_eq_true]at h3 ⊢;exact⟨⟨hq,h3.1.2⟩,h3.2⟩
theorem add_ok{c:Cls}{vals:List V}(h:FitC c vals){q:List UInt8}{t:Ty}(hq:z13 q=true)(hn:∀g∈c.fs,g.n≠q)(ht:z19 t=true)(hl:c.fs.length<8):
  applyV c (hAdd q t)=(⟨c.n,c.fs++[⟨q,t,false⟩]⟩,0)∧valsA c (hAdd q t) vals=(vals++[zeroV t],0)∧FitC ⟨c.n,c.fs++[⟨q,t,false⟩]⟩ (vals++[zeroV t]):=by
 have hr:=(z84 c).1 h.r;have hne:=not_at hn;have:=step_ok (h:=hAdd q t) h (by simp[wellV,needV,hAdd,nameV,formV,hq,ht]) (by simp[mayV,hAdd,free_true hne,hl,tellV,Tl.is]);rw[this.1,this.2];refine⟨by simp[fieldsV,hAdd],by simp[valsV,hAdd,tellV,Tl.val],(z84 _).2 ⟨hr.1,by simp;omega,fun f hf=> ?_,dist_snoc hr.2.2.2 hne⟩,by simp[h.len],fun i f v hi hv=> ?_⟩
 ·rcases List.mem_append.1 hf with hf|hf
  ·exact hr.2.2.1 f hf
  ·obtain rfl:=List.mem_singleton.1 hf;simp[z26,hq,ht]
 ·dsimp only at hi
  have hl:=h.len;rw[List.getElem?_append]at hi hv;split at hi
  ·rw[if_pos (by omega)]at hv;exact h.fit _ _ _ hi hv
  ·rw[if_neg (by omega)]at hv;rw[List.getElem?_singleton]at hi hv;split at hi
   ·cases hi;rw[if_pos (by omega)]at hv;cases hv;exact fits_zero t ht
   ·cases hi
structure Step(c:Cls)(vals:List V)(h:Chg)(d:Cls)(u:List V):Prop where
 ap:applyV c h=(d,0)
 va:valsA c h vals=(u,0)
 fit:FitC d u
theorem quite_rt:z13 quite=true:=by decide
theorem st_drop{c:Cls}{vals:List V}(h:FitC c vals){k:Nat}{f:Fld}(hk:c.fs[k]?=some f):Step c vals (hDrop f.n) ⟨c.n,c.fs.eraseIdx k⟩ (vals.eraseIdx k):=
 ⟨(drop_ok h hk).1,(drop_ok h hk).2,fit_erase h k⟩
theorem st_ren{c:Cls}{vals:List V}(h:FitC c vals){i:Nat}{f:Fld}(hi:c.fs[i]?=some f){q:List UInt8}(hq:z13 q=true)(hn:∀g∈c.fs,g.n≠q):Step c vals (hRen f.n q) ⟨c.n,c.fs.set i ⟨q,f.t,f.ix⟩⟩ vals:=
 have:=ren_ok h hi hq hn
 ⟨this.1,this.2.1,this.2.2⟩
theorem st_add{c:Cls}{vals:List V}(h:FitC c vals){q:List UInt8}{t:Ty}(hq:z13 q=true)(hn:∀g∈c.fs,g.n≠q)(ht:z19 t=true)(hl:c.fs.length<8):Step c vals (hAdd q t) ⟨c.n,c.fs++[⟨q,t,false⟩]⟩ (vals++[zeroV t]):=
 have:=add_ok h hq hn ht hl
 ⟨this.1,this.2.1,this.2.2⟩
def Turns(c:Cls)(vals:List V)(h o:Chg)(t:Ty):Prop:=
 ∃a v b w d u,Step c vals h a v∧Step a v o b w∧Step c vals o d u∧Step d u h b w∧(∀x∈v,x∈vals)∧(∀x∈w,x∈vals∨x=zeroV t)∧(∀x∈u,x∈vals∨x=zeroV t)
theorem turns_ren{c:Cls}{vals:List V}(h:FitC c vals)(hn:∀g∈c.fs,g.n≠quite){i k:Nat}{f g:Fld}(hi:c.fs[i]?=some f)(hk:c.fs[k]?=some g)(hne:i≠k):Turns c vals (hDrop g.n) (hRen f.n quite) ⟨2,0⟩:=by
 have s1:=st_drop h hk;have s3:=st_ren h hi quite_rt hn;have hk':(c.fs.set i ⟨quite,f.t,f.ix⟩)[k]?=some g:=by rw[set_get hi,if_neg (fun e=>hne e.symm)];exact hk
 have s4:=st_drop s3.fit hk';have key:∃j,(c.fs.eraseIdx k)[j]?=some f∧(c.fs.set i ⟨quite,f.t,f.ix⟩).eraseIdx k=(c.fs.eraseIdx k).set j ⟨quite,f.t,f.ix⟩:=by
  rcases Nat.lt_or_ge i k with hlt|hge
  ·exact⟨i,by rw[List.getElem?_eraseIdx,if_pos hlt];exact hi,List.eraseIdx_set_gt hlt⟩
  ·have hgt:k<i:=by omega
   refine⟨i-1,?_,List.eraseIdx_set_lt hgt⟩;rw[List.getElem?_eraseIdx,if_neg (by omega),show i-1+1=i by omega];exact hi
 obtain⟨j,hj,e⟩:=key;have s2:=st_ren s1.fit hj quite_rt (fun y hy=>hn y (List.mem_of_mem_eraseIdx hy))
 dsimp only at s4
 rw[e]at s4;exact⟨_,_,_,_,_,_,s1,s2,s3,s4,fun x hx=>List.mem_of_mem_eraseIdx hx,fun x hx=> .inl (List.mem_of_mem_eraseIdx hx),fun x hx=> .inl hx⟩
theorem turns_add{c:Cls}{vals:List V}(h:FitC c vals)(hn:∀g∈c.fs,g.n≠quite)(hl:c.fs.length<8){k:Nat}{g:Fld}(hk:c.fs[k]?=some g):Turns c vals (hDrop g.n) (hAdd quite ⟨2,0⟩) ⟨2,0⟩:=by
 have s1:=st_drop h hk;have hkl:=(gJ hk).1;have s3:=st_add (t:=⟨2,0⟩) h quite_rt hn (by decide) hl;have hk':(c.fs++[⟨quite,⟨2,0⟩,false⟩])[k]?=some g:=by rw[List.getElem?_append_left hkl];exact hk
 have s4:=st_drop s3.fit hk';have s2:=st_add (t:=⟨2,0⟩) s1.fit quite_rt (fun y hy=>hn y (List.mem_of_mem_eraseIdx hy)) (by decide) (Nat.lt_of_le_of_lt (List.length_eraseIdx_le ..) hl)
 dsimp only at s4
 rw[List.eraseIdx_append_of_lt_length hkl,List.eraseIdx_append_of_lt_length (by rw[h.len];exact hkl)]at s4;have hm:∀(l:List V) x,(∀y∈l,y∈vals)→x∈l++[zeroV ⟨2,0⟩]→x∈vals∨x=zeroV ⟨2,0⟩:=fun l x hl hx=>by
  rcases List.mem_append.1 hx with hx|hx
  ·exact .inl (hl x hx)
  ·exact .inr (List.mem_singleton.1 hx)
 exact⟨_,_,_,_,_,_,s1,s2,s3,s4,fun x hx=>List.mem_of_mem_eraseIdx hx,fun x hx=>hm _ x (fun y hy=>List.mem_of_mem_eraseIdx hy) hx,fun x hx=>hm _ x (fun y hy=>hy) hx⟩
end Go.Mor
end

section
namespace Go.Proofs.YtcpaleaajdilgaaGreatDoor
open Go Go.RowKit Go.Mor Go.Sh
set_option maxHeartbeats 2000000
theorem vok_60{v:V}(h1:v.s.length≤60)(h2:∀y∈v.l,y.s.length≤60):VOk v:=⟨by unfold z106;omega,fun y hy=>by have:=h2 y hy;unfold z106;omega⟩
end Go.Proofs.YtcpaleaajdilgaaGreatDoor
end

section
namespace Go.Proofs.YtcpaleaajdilgaaGreatDoor
open Go Go.RowKit Go.Mor Go.Sh Go.Sh.Cd1 Go.Sh.Cd6
set_option maxRecDepth 100000
set_option maxHeartbeats 8000000
theorem pick4_ok(g:Sh.Glob)(c n:Int)(hc:I64 c)(hn:0<n):SCalls Tryz.prog g 45 [I c,I n] [] (I (Go.Mor.pick c n)) []:=by
 obtain⟨h0,h1⟩:=hc;refine z7 hmix tf_102 rfl ?_;have hne:¬n=0:=by omega
 unfold Go.Mor.pick;by_cases hneg:c<0
 ·rw[if_pos hneg];have w1:IntKind.i64.wrap (c+1)=c+1:=wrap64 (by omega) (by omega);have w2:IntKind.i64.wrap (0-(c+1))= -(c+1):=by rw[wrap64 (by omega) (by omega)];omega
  have hm:(-(c+1)).tmod n=(-(c+1))%n:=Int.tmod_eq_emod_of_nonneg (by omega);simp only[vcA,seval,vV,hneg,hne,w1,w2,hm]
 ·rw[if_neg hneg];have hm:c.tmod n=c%n:=Int.tmod_eq_emod_of_nonneg (by omega);simp only[vcA,seval,vV,hneg,hne,hm]
theorem txts_at{i:Nat}(h:i<8):([[PV.v (.string ⟨#[]⟩)],[.v (.string ⟨#[97]⟩)],[.v (.string ⟨#[98,99]⟩)],[.v (.string ⟨#[195,169,116,195,169]⟩)],[.v (.string ⟨#[97,32,98]⟩)],[.v (.string ⟨#[122,122,32,116,111,112]⟩)],[.v (.string ⟨#[48]⟩)],[.v (.string ⟨#[45,55]⟩)]]:List (List PV))[i]?=some [.v (.string (str (txts (i:Int))))]:=by
 have:i=0∨i=1∨i=2∨i=3∨i=4∨i=5∨i=6∨i=7:=by omega
 rcases this with rfl|rfl|rfl|rfl|rfl|rfl|rfl|rfl<;>rfl
theorem z124(k n many:Int):(mkVal1 k n many).l=[]:=by
 unfold mkVal1
 repeat' split
 all_goals rfl
theorem valOf1_ok(g:Sh.Glob)(t:Ty)(n many:Int)(ht:1≤t.k∧t.k≤4)(hn:I64 n)(hm:1≤many∧many≤100000):SCalls Tryz.prog g 47 [tyT t,I n,I many] [] (nv (mkVal1 t.k n many)) []:=by
 obtain⟨k,o⟩:=t;simp only at ht;have hk:k=1∨k=2∨k=3∨k=4:=by omega
 unfold mkVal1;unfold tyT;simp only[];have h34:∀j:Int,(j=3∨j=4)→SCalls Tryz.prog g 47 [.agg [I j,I o],I n,I many] [] (nv (if many<1∨Go.Mor.pick n 5=4 then V.nil else .mk j (1+Go.Mor.pick n many) [] [])) []:=by
  intro j hj;have P5:=pick4_ok g n 5 hn (by decide);have PM:=pick4_ok g n many hn (by omega);have hb:=z31 n many (by omega);have d1:¬many<1:=by omega
  have w1:IntKind.i64.wrap (1+Go.Mor.pick n many)=1+Go.Mor.pick n many:=wrap64 (by omega) (by omega);refine z7 hmix tf_100 rfl ?_;unfold nv;generalize Go.Mor.pick n many=b at*;generalize Go.Mor.pick n 5=a at*;by_cases h4:a=4
  ·rw[if_pos (.inr h4)];rcases hj with rfl|rfl
   ·simp only[vcA,seval,vV,d1];(with_reducible apply v_call);exact kv;rfl;exact P5;exact km;exact kv;simp only[vcA,seval,vV,h4];rfl
   ·simp only[vcA,seval,vV,d1];(with_reducible apply v_call);exact kv;rfl;exact P5;exact km;exact kv;simp only[vcA,seval,vV,h4];rfl
  ·rw[if_neg (fun h=>h.elim (fun h=>by omega) h4)];rcases hj with rfl|rfl
   ·simp only[vcA,seval,vV,d1];(with_reducible apply v_call);exact kv;rfl;exact P5;exact km;exact kv;simp only[vcA,seval,vV,h4];(with_reducible apply v_call);exact kv;rfl;exact PM;exact km;exact kv;simp only[vcA,seval,vV,w1];rfl
   ·simp only[vcA,seval,vV,d1];(with_reducible apply v_call);exact kv;rfl;exact P5;exact km;exact kv;simp only[vcA,seval,vV,h4];(with_reducible apply v_call);exact kv;rfl;exact PM;exact km;exact kv;simp only[vcA,seval,vV,w1];rfl
 rcases hk with rfl|rfl|rfl|rfl
 ·have P:=pick4_ok g n 41 hn (by decide);have hb:=z31 n 41 (by decide);have w1:IntKind.i64.wrap (Go.Mor.pick n 41-20)=Go.Mor.pick n 41-20:=wrap64 (by omega) (by omega);rw[if_pos rfl];generalize Go.Mor.pick n 41=b at*;refine z7 hmix tf_100 rfl ?_;unfold nv;simp only[vcA,seval,vV];(with_reducible apply v_call);exact kv;rfl;exact P;exact km;exact kv;simp only[vcA,seval,vV,w1];rfl
 ·have P:=pick4_ok g n 8 hn (by decide);have hb:=z31 n 8 (by decide);rw[if_neg (show ¬(2:Int)=1 by decide),if_pos rfl];obtain⟨i,hi⟩:=Int.eq_ofNat_of_zero_le hb.1;rw[hi]at P hb ⊢;have e1:=txts_at (i:=i) (by omega);refine z7 hmix tf_100 rfl ?_;unfold nv;simp only[vcA,seval,vV];(with_reducible apply v_call);exact kv;rfl;exact P;exact km;exact kv;simp only[vcA,seval,vV,e1]
 ·rw[if_neg (show ¬(3:Int)=1 by decide),if_neg (show ¬(3:Int)=2 by decide)];exact h34 3 (.inl rfl)
 ·rw[if_neg (show ¬(4:Int)=1 by decide),if_neg (show ¬(4:Int)=2 by decide)];exact h34 4 (.inr rfl)
end Go.Proofs.YtcpaleaajdilgaaGreatDoor
end

section
namespace Go.Proofs.YtcpaleaajdilgaaGreatDoor
open Go Go.RowKit Go.Mor Go.Sh
set_option maxHeartbeats 2000000
theorem mk_few{t:Ty}{n many:Int}(ht:z19 t=true)(hm:many≤100000):VFew (mkVal t n many)∧VOk (mkVal t n many):=by
 obtain⟨_,h1,h2⟩:=fits_mkVal t n many ht hm;refine⟨?_,vok_60 h1 h2⟩;unfold mkVal;split
 ·have hb:=z31 n 4 (by decide);refine .mk (by rw[List.length_map,List.length_range];omega) fun y hy=> ?_;obtain⟨i,_,rfl⟩:=List.mem_map.1 hy;exact few0 (z124 _ _ _)
 ·exact few0 (z124 _ _ _)
theorem vals_few{c:Cls}(h:GoodC c)(l:List Int){many:Int}(hm:many≤100000):∀v∈mkVals c.fs l many,VFew v∧VOk v:=by
 intro v hv;obtain⟨i,hi⟩:=List.getElem?_of_mem hv;have hl:=(gJ hi).1;rw[z164]at hl;have hf:c.fs[i]?=some (c.fs[i]):=gE hl;rw[mkVals_at hf]at hi;cases hi;exact mk_few (h.type (gM hf)) hm
end Go.Proofs.YtcpaleaajdilgaaGreatDoor
end

section
namespace Go.Proofs.YtcpaleaajdilgaaGreatDoor
open Go Go.RowKit Go.Mor Go.Sh Go.Sh.Cd1 Go.Sh.Cd6
set_option maxRecDepth 100000
set_option maxHeartbeats 8000000
def iiR(l:List Int):List (List PV):=l.map fun z=>[PV.v (.int .i64 z)]
theorem iiGet(l:List Int)(k:Nat):(iiR l)[k]?=(l[k]?).map fun z=>[PV.v (.int .i64 z)]:=by unfold iiR;rw[List.getElem?_map]
theorem iiLen(l:List Int):(iiR l).length=l.length:=by unfold iiR;rw[List.length_map]
def mkL(o n many:Int)(i:Nat):List V:=(List.range i).map fun i:Nat=>mkVal1 o (n.tdiv 4+(i:Int)) many
theorem mkL_succ(o n many:Int)(i:Nat):mkL o n many (i+1)=mkL o n many i++[mkVal1 o (n.tdiv 4+(i:Int)) many]:=by unfold mkL;rw[List.range_succ,List.map_append];rfl
theorem mkL_len(o n many:Int)(i:Nat):(mkL o n many i).length=i:=by simp[mkL]
theorem valOf5_ok(g:Sh.Glob)(o n many:Int)(ho:1≤o∧o≤4)(hn:I64 n)(hm:1≤many∧many≤100000):SCalls Tryz.prog g 47 [tyT ⟨5,o⟩,I n,I many] [] (tv (mkVal ⟨5,o⟩ n many)) []:=by
 have P4:=pick4_ok g n 4 hn (by decide);have hb:=z31 n 4 (by decide);have hn':=hn;obtain⟨n0,n1⟩:=hn';obtain⟨q,hq⟩:=Int.eq_ofNat_of_zero_le hb.1;have e1:mkVal ⟨5,o⟩ n many=.mk 5 0 [] (mkL o n many q):=by unfold mkVal mkL;rw[if_pos rfl,hq];rfl
 rw[e1];rw[hq]at P4 hb;refine z54 hmix tf_100 rfl rfl ?_;unfold tv tyT;simp only[vcA,seval,vV];refine v_loop (σ:={i:Nat // i≤q}) (fun i=>⟨[(1,I n),(2,I many),(3,.ptr 3 0),(6,.ptr 6 0),(8,.ptr 8 0),(9,I (i.1:Int))],
   [(3,[I 5,I o]),(6,[I 0,I 0,S ⟨#[]⟩,nilT]),(8,[I 5,I 0,S ⟨#[]⟩,.own 3000 4 (V.rows (mkL o n many i.1))])],[(3000,(37,4,i.1))],[]⟩) (fun i=>q-i.1) ⟨0,Nat.zero_le _⟩ ?_ ?_
 ·refine ES.Lw.trans ?_ (adB_lw (x:=8) (j:=3) (d:=3000) (e:=37) (W:=4) (.inr (by decide)) (by decide) rfl (by simp only[vcA,seval]) rfl);exact lw_eq rfl
 rintro⟨i,hi⟩;have hlen:=mkL_len o n many i;by_cases hlt:i<q
 ·have d1:(i:Int)<(q:Int):=by omega
  have w1:IntKind.i64.wrap ((i:Int)+1)=((i+1:Nat):Int):=by rw[wrap64 (by omega) (by omega)];omega
  have t0: -9223372036854775808≤n.tdiv 4∧n.tdiv 4≤2305843009213693952:=by
   rcases Int.le_total 0 n with h|h
   ·rw[Int.tdiv_eq_ediv_of_nonneg h];omega
   ·have:n.tdiv 4= -((-n).tdiv 4):=by rw[Int.neg_tdiv];omega
    rw[this,Int.tdiv_eq_ediv_of_nonneg (by omega)];omega
  have w2:IntKind.i64.wrap (n.tdiv 4)=n.tdiv 4:=wrap64 (by omega) (by omega);have w3:IntKind.i64.wrap (n.tdiv 4+(i:Int))=n.tdiv 4+(i:Int):=wrap64 (by omega) (by omega);have HV:=(valOf1_ok g ⟨o,0⟩ (n.tdiv 4+(i:Int)) many ho ⟨by omega,by omega⟩ hm).out (nv_tv (z124 _ _ _));unfold tv tyT at HV;rw[z124,V.rows_nil]at HV;simp only[vcA,seval,vV,nilT];(with_reducible apply v_call);exact kv;rfl;exact P4;exact km;exact kv;simp only[vcA,seval,vV,d1,w2,w3];refine Or.inl ?_;(with_reducible apply v_call);exact kv;rfl;exact HV;exact km;exact kv;simp only[vcA,seval,vV,hlen,w1];refine⟨⟨by omega,by unfold maxLen;omega⟩,z10 ⟨i+1,hlt⟩ (by show q-(i+1)<q-i;omega) ?_⟩;refine lw_eq ?_;simp only[mkL_succ,z86,row_of_nil (z124 _ _ _),z124,V.rows_nil]
 ·obtain rfl:i=q:=by omega
  have d1:¬(i:Int)<(i:Int):=by omega
  simp only[vcA,seval,vV,nilT];(with_reducible apply v_call);exact kv;rfl;exact P4;exact km;exact kv;simp only[vcA,seval,vV,d1];all_goals rfl
theorem mkVal_1{t:Ty}(h:¬t.k=5)(n many:Int):mkVal t n many=mkVal1 t.k n many:=by unfold mkVal;rw[if_neg h]
theorem valOf4_ok(g:Sh.Glob)(t:Ty)(n many:Int)(ht:z19 t=true)(hn:I64 n)(hm:1≤many∧many≤100000):SCalls Tryz.prog g 47 [tyT t,I n,I many] [] (tv (mkVal t n many)) []:=by
 obtain⟨k,o⟩:=t;unfold z19 at ht;by_cases h:k=5
 ·subst h;rw[if_pos rfl,decide_eq_true_iff]at ht;exact valOf5_ok g o n many ht hn hm
 ·rw[if_neg h,decide_eq_true_iff]at ht;rw[mkVal_1 h];exact(valOf1_ok g ⟨k,o⟩ n many ⟨ht.1,ht.2.1⟩ hn hm).out (nv_tv (z124 _ _ _))
theorem rawN_at{l:List Int}{i:Nat}(h:l≠[]):∃z,l[i%l.length]?=some z∧rawN l i=IntKind.i64.wrap (z+i):=by
 have hp:0<l.length:=List.length_pos_iff.2 h;refine⟨_,gE (Nat.mod_lt _ hp),?_⟩;unfold rawN;rw[if_neg h,List.getD_eq_getElem?_getD,gE (Nat.mod_lt _ hp)];rfl
theorem wrap_64(x:Int):I64 (IntKind.i64.wrap x):=by unfold I64;rw[IntKind.wrap_i64];omega
theorem valsOf4_ok(g:Sh.Glob)(c:Cls)(l:List Int)(many:Int)(hc:∀f∈c.fs,z19 f.t=true)(hl:c.fs.length≤1000)(hll:l.length≤9223372036854775807)(hm:1≤many∧many≤100000):
  SCalls Tryz.prog g 13 [clT c,.pv (.sl 1 (iiR l)),I many] [] (.pv (.sl 4 (V.rows (mkVals c.fs l many)))) []:=by
 refine z54 hmix tf_101 rfl rfl ?_;simp only[vcA,seval,vV,clV];refine v_loop (σ:={i:Nat // i≤c.fs.length}) (fun i=>⟨[(1,.pv (.sl 1 (iiR l))),(2,I many),(3,.ptr 3 0),(7,.own 3000 4 (V.rows ((mkVals c.fs l many).take i.1))),(8,I (i.1:Int))],
   [(3,[S (str c.n),.pv (.sl 4 (flR c.fs))])],[(3000,(37,4,i.1))],[]⟩) (fun i=>c.fs.length-i.1) ⟨0,Nat.zero_le _⟩ ?_ ?_
 ·refine ES.Lw.trans ?_ (adT_lw (k:=7) (d:=3000) (e:=37) (W:=4) (.inr (by decide)) rfl);exact lw_eq rfl
 rintro⟨i,hi⟩;have hlen:((mkVals c.fs l many).take i).length=i:=by rw[List.length_take,z164];omega
 by_cases hlt:i<c.fs.length
 ·have d1:(i:Int)<(c.fs.length:Int):=by omega
  obtain⟨f,ef⟩:∃f,c.fs[i]?=some f:=⟨_,gE hlt⟩
  have w1:IntKind.i64.wrap ((i:Int)+1)=((i+1:Nat):Int):=by rw[wrap64 (by omega) (by omega)];omega
  have htk:(mkVals c.fs l many).take (i+1)=(mkVals c.fs l many).take i++[mkVal f.t (rawN l i) many]:=by rw[List.take_add_one,mkVals_at ef];rfl
  have hN:I64 (rawN l i):=by
   unfold rawN;split
   ·exact⟨by omega,by omega⟩
   ·exact wrap_64 _
  have HV:=valOf4_ok g f.t (rawN l i) many (hc f (gM ef)) hN hm;unfold tv tyT at HV;by_cases h0:l=[]
  ·have hr:rawN l i=(i:Int):=by unfold rawN;rw[if_pos h0]
   have d2:¬0<(l.length:Int):=by rw[h0];decide
   rw[hr]at HV htk;simp only[vcA,seval,vV,d1,d2,iiLen,ef,clV];refine Or.inl ?_;(with_reducible apply v_call);exact kv;rfl;exact HV;exact km;exact kv;simp only[vcA,seval,vV,hlen,w1];refine⟨⟨by omega,by unfold maxLen;omega⟩,z10 ⟨i+1,hlt⟩ (by show c.fs.length-(i+1)<c.fs.length-i;omega) ?_⟩;refine lw_eq ?_;simp only[htk,z86,row4]
  ·obtain⟨z,hz,hr⟩:=rawN_at (i:=i) h0;have hp:0<l.length:=List.length_pos_iff.2 h0;have d2:0<(l.length:Int):=by omega
   have d3:¬(l.length:Int)=0:=by omega
   have hmm:(i:Int).tmod (l.length:Int)=((i%l.length:Nat):Int):=(Int.ofNat_tmod _ _).symm;rw[hr]at HV htk;simp only[vcA,seval,vV,d1,d2,iiLen,d3,hmm,iiGet,hz,ef,clV];refine Or.inl ?_;(with_reducible apply v_call);exact kv;rfl;exact HV;exact km;exact kv;simp only[vcA,seval,vV,hlen,w1];refine⟨⟨by omega,by unfold maxLen;omega⟩,z10 ⟨i+1,hlt⟩ (by show c.fs.length-(i+1)<c.fs.length-i;omega) ?_⟩;refine lw_eq ?_;simp only[htk,z86,row4]
 ·obtain rfl:i=c.fs.length:=by omega
  have d1:¬(c.fs.length:Int)<(c.fs.length:Int):=by omega
  simp only[vcA,seval,vV,d1,clV];rw[List.take_of_length_le (by rw[z164];omega)]
theorem flR_snoc(l:List Fld)(f:Fld):flR (l++[f])=flR l++[flR1 f]:=by unfold flR;rw[List.map_append];rfl
theorem field_tuple(l:List Fld)(s:List UInt8):∃(p:Int) (t:Bool),fieldT l s=.tuple [I p,.pv (.v (.bool t))]∧(fieldAt l s<0 ↔ t=false):=by
 unfold fieldT B;by_cases h:fieldAt l s<0
 ·rw[if_pos h];exact⟨0,false,rfl,fun _=>rfl,fun _=>h⟩
 ·rw[if_neg h];exact⟨_,true,rfl,fun h'=>absurd h' h,fun h'=>by cases h'⟩
theorem classOf4_ok(g:Sh.Glob)(x:Raw)(hx:RawOk x):SCalls Tryz.prog g 12 [rawT x] [] (clT (z78 x)) []:=by
 have PN:=pick4_ok g x.n 6 hx.n (by decide);have hb:=z31 x.n 6 (by decide);have hlx:=hx.len;obtain⟨q,hq⟩:=Int.eq_ofNat_of_zero_le hb.1;have ec:=nmC_at (i:=q) (by omega);have e0:z78 x=⟨nmC (q:Int),(x.fs.take 6).foldl addF []⟩:=by unfold z78;rw[hq]
 rw[e0];rw[hq]at PN;refine z54 hmix tf_99 rfl rfl ?_;unfold rawT clT;simp only[vcA,seval,vV];(with_reducible apply v_call);exact kv;rfl;exact PN;exact km;exact kv;simp only[vcA,seval,vV,ec];refine v_loop (σ:={i:Nat // i≤x.fs.length∧i≤6}) (fun i=>⟨[(1,.ptr 1 0),(2,.ptr 2 0),(3,.pv (.sl 1 [[PV.v (.string ⟨#[97]⟩)],[.v (.string ⟨#[98,50]⟩)],[.v (.string ⟨#[110,97,109,101]⟩)],[.v (.string ⟨#[110,101,120,116,95,111,110,101]⟩)],[.v (.string ⟨#[107,105,100,115]⟩)],[.v (.string ⟨#[120]⟩)]])),(4,.ptr 4 0),(5,I (i.1:Int))],
   [(1,[I x.n,.pv (.sl 4 (rfR x.fs))]),(2,[S ⟨#[]⟩,nilT]),(4,[S (str (nmC (q:Int))),.own 3000 4 (flR ((x.fs.take i.1).foldl addF []))])],[(3000,(55,4,((x.fs.take i.1).foldl addF []).length))],[]⟩) (fun i=>6-i.1) ⟨0,Nat.zero_le _,Nat.zero_le _⟩ ?_ ?_
 ·refine ES.Lw.trans ?_ (adB_lw (x:=4) (j:=1) (d:=3000) (e:=55) (W:=4) (.inr (by decide)) (by decide) rfl (by simp only[vcA,seval]) rfl);exact lw_eq rfl
 rintro⟨i,hi,hi6⟩;by_cases hlt:i<x.fs.length∧i<6
 ·obtain⟨hlt,hl6⟩:=hlt;have d1:(i:Int)<(x.fs.length:Int):=by omega
  have d2:(i:Int)<6:=by omega
  obtain⟨r,er⟩:∃r,x.fs[i]?=some r:=⟨_,gE hlt⟩
  have w1:IntKind.i64.wrap ((i:Int)+1)=((i+1:Nat):Int):=by rw[wrap64 (by omega) (by omega)];omega
  obtain⟨r1,r2,r3⟩:=hx.fs r (gM er);have P1:=pick4_ok g r.n 6 r1 (by decide);have P2:=pick4_ok g r.k 5 r2 (by decide);have P3:=pick4_ok g r.o 4 r3 (by decide);have b1:=z31 r.n 6 (by decide);have b2:=z31 r.k 5 (by decide);have b3:=z31 r.o 4 (by decide);have hst:=class_step x.fs i r er;have hal:=class_len x.fs i;rw[addF]at hst;have hF:z115 r=⟨nmF (Go.Mor.pick r.n 6),⟨1+Go.Mor.pick r.k 5,if Go.Mor.pick r.k 5=4 then 1+Go.Mor.pick r.o 4 else 0⟩,r.ix&&decide (1+Go.Mor.pick r.k 5≤3)⟩:=rfl;rw[hF]at hst;simp only[]at hst;obtain⟨j,hj⟩:=Int.eq_ofNat_of_zero_le b1.1;have ej:=nmF_at (i:=j) (by omega);rw[hj]at P1 hst;change _=(if fieldAt ((x.fs.take i).foldl addF []) (nmF (j:Int))<0 then _ else(x.fs.take i).foldl addF [])at hst;generalize(x.fs.take i).foldl addF []=acc at*;generalize Go.Mor.pick r.k 5=b at*;generalize Go.Mor.pick r.o 4=o at*;have HF:=refField_ok g ⟨nmC (q:Int),acc⟩ (nmF (j:Int)) (by show acc.length≤_;omega);obtain⟨p,t,hp,ht⟩:=field_tuple acc (nmF (j:Int));rw[show fieldT (Cls.fs ⟨nmC (q:Int),acc⟩) (nmF (j:Int))=_ from hp]at HF;unfold clT at HF;have w2:IntKind.i64.wrap (1+b)=1+b:=wrap64 (by omega) (by omega);have w3:IntKind.i64.wrap (1+o)=1+o:=wrap64 (by omega) (by omega)
  have hfl:=flLen acc;by_cases h4:b=4
  ·have d5:1+b=5:=by omega
   have d3:¬1+b≤3:=by omega
   have hix:(r.ix&&decide (1+b≤3))=false:=by rw[decide_eq_false d3,Bool.and_false]
   rw[if_pos h4,hix,d5]at hst;have w5:IntKind.i64.wrap 5=5:=wrap64 (by omega) (by omega);cases hr:r.ix;all_goals(
    simp only[vcA,seval,vV,rfGet,rfLen,rfR1,d1,d2,er,nilT];(with_reducible apply v_call);exact kv;rfl;exact P1;exact km;exact kv;simp only[vcA,seval,vV,ej];(with_reducible apply v_call);exact kv;rfl;exact P2;exact km;exact kv;simp only[vcA,seval,vV,w2,d5,w5];(with_reducible apply v_call);exact kv;rfl;exact P3;exact km;exact kv;simp only[vcA,seval,vV,w3,hr];(with_reducible apply v_call);exact kv;rfl;exact HF;exact km;exact kv;cases t
    ·rw[if_pos (ht.2 rfl)]at hst;simp only[vcA,seval,vV,hfl,w1];refine⟨⟨by omega,by unfold maxLen;omega⟩,z10 ⟨i+1,hlt,hl6⟩ (by show 6-(i+1)<6-i;omega) ?_⟩;simp only[hst,flR_snoc,List.length_append,List.length_singleton];apply lw_of<;>simp[leL,lk,sv,Nat.beq,I,S,ES.kill,has,drp,nilT,flR1]
    ·rw[if_neg (fun h=>Bool.noConfusion (ht.1 h))]at hst;simp only[vcA,seval,vV,w1];refine z10 ⟨i+1,hlt,hl6⟩ (by show 6-(i+1)<6-i;omega) ?_;simp only[hst];apply lw_of<;>simp[leL,lk,sv,Nat.beq,I,S,ES.kill,has,drp,nilT])
  ·have d5:¬1+b=5:=by omega
   rw[if_neg h4]at hst;have hc:(r.ix=false∧(True∨False)∧(r.ix&&decide (1+b≤3))=false)∨(r.ix=true∧1+b≤3∧(r.ix&&decide (1+b≤3))=true)∨(r.ix=true∧¬1+b≤3∧(r.ix&&decide (1+b≤3))=false):=by
    cases r.ix
    ·exact .inl ⟨rfl,.inl trivial,rfl⟩
    ·by_cases h:1+b≤3
     ·exact .inr (.inl ⟨rfl,h,by rw[decide_eq_true h];rfl⟩)
     ·exact .inr (.inr ⟨rfl,h,by rw[decide_eq_false h];rfl⟩)
   rcases hc with⟨hr,d3,hix⟩|⟨hr,d3,hix⟩|⟨hr,d3,hix⟩
   all_goals(
    rw[hix]at hst;simp only[vcA,seval,vV,rfGet,rfLen,rfR1,d1,d2,er,nilT];(with_reducible apply v_call);exact kv;rfl;exact P1;exact km;exact kv;simp only[vcA,seval,vV,ej];(with_reducible apply v_call);exact kv;rfl;exact P2;exact km;exact kv;simp only[vcA,seval,vV,w2,d5,hr,d3];(with_reducible apply v_call);exact kv;rfl;exact HF;exact km;exact kv;cases t
    ·rw[if_pos (ht.2 rfl)]at hst;simp only[vcA,seval,vV,hfl,w1];refine⟨⟨by omega,by unfold maxLen;omega⟩,z10 ⟨i+1,hlt,hl6⟩ (by show 6-(i+1)<6-i;omega) ?_⟩;simp only[hst,flR_snoc,List.length_append,List.length_singleton];apply lw_of<;>simp[leL,lk,sv,Nat.beq,I,S,ES.kill,has,drp,nilT,flR1]
    ·rw[if_neg (fun h=>Bool.noConfusion (ht.1 h))]at hst;simp only[vcA,seval,vV,w1];refine z10 ⟨i+1,hlt,hl6⟩ (by show 6-(i+1)<6-i;omega) ?_;simp only[hst];apply lw_of<;>simp[leL,lk,sv,Nat.beq,I,S,ES.kill,has,drp,nilT])
 ·have he:(x.fs.take i).foldl addF []=(x.fs.take 6).foldl addF []:=by
   by_cases h:i<6
   ·have h1:x.fs.length≤i:=by omega
    rw[List.take_of_length_le h1,List.take_of_length_le (by omega)]
   ·obtain rfl:i=6:=by omega
    rfl
  rw[←he];by_cases hl:i<x.fs.length
  ·have d1:(i:Int)<(x.fs.length:Int):=by omega
   have d2:¬(i:Int)<6:=by omega
   simp only[vcA,seval,vV,rfLen,d1,d2,nilT]
  ·have d1:¬(i:Int)<(x.fs.length:Int):=by omega
   simp only[vcA,seval,vV,rfLen,d1,nilT]
end Go.Proofs.YtcpaleaajdilgaaGreatDoor
end

section
namespace Go.Proofs.YtcpaleaajdilgaaGreatDoor
open Go Go.RowKit Go.Mor Go.Sh Go.Sh.Cd1 Go.Sh.Cd7
set_option maxRecDepth 100000
set_option maxHeartbeats 8000000
theorem clsR_ok{c:Cls}(h:z18 c=true):ClsOk c∧c.fs.length≤8:=by
 have hr:=(z84 c).1 h;have key:∀s,z13 s=true→Short s:=fun s hs=>by
  unfold z13 at hs;simp only[Bool.and_eq_true,decide_eq_true_eq]at hs;have:=hs.1.1.2;unfold Short;omega
 refine⟨⟨key _ hr.1,fun f hf=>key _ ?_,by omega⟩,hr.2.1⟩;have:=hr.2.2.1 f hf;unfold z26 at this;simp only[Bool.and_eq_true]at this;exact this.1.1
theorem zero_few(t:Ty):VFew (zeroV t)∧VOk (zeroV t):=by
  have h : (zeroV t).l = [] ∧ (zeroV t).s = [] := by unfold zeroV; repeat' split
                                                     all_goals exact⟨rfl,rfl⟩
  exact fewF h.1 (by rw[h.2];decide)
theorem or_few{u vals:List V}{t:Ty}(h:∀x∈u,x∈vals∨x=zeroV t)(hf:∀v∈vals,VFew v∧VOk v):∀v∈u,VFew v∧VOk v:=fun v hv=>by
 rcases h v hv with h|rfl
 ·exact hf v h
 ·exact zero_few t
theorem step_ap{a0 a1:Addr}{m:Nat}{c:Cls}{vals:List V}{h:Chg}{d:Cls}{u:List V}(hc:FitC c vals)(hs:Step c vals h d u)(hh:ChOk m h):SCalls Tryz.prog (glX a0 a1 m) 30 [clT c,chT h] [] (.tuple [clT d,I 0]) []:=by
 have hr:=clsR_ok hc.r;have:=sc_EX (a0:=a0) (a1:=a1) (apply_ok m c h hr.1 hh (by omega));rw[hs.ap]at this;exact this
theorem step_va{a0 a1:Addr}{m:Nat}{c:Cls}{vals:List V}{h:Chg}{d:Cls}{u:List V}(hc:FitC c vals)(hs:Step c vals h d u)(hh:ChOk m h)(hk:h.k≠4)(hf:∀v∈vals,VFew v∧VOk v):SCalls Tryz.prog (glX a0 a1 m) 31 [clT c,chT h,.pv (.sl 4 (V.rows vals))] [] (.tuple [.pv (.sl 4 (V.rows u)),I 0]) []:=by
 have hr:=clsR_ok hc.r;have:=sc_EX (a0:=a0) (a1:=a1) (changeVals_ok m c h vals hr.1 hh (fun h4=>absurd h4 hk) hf (by rw[hc.len];omega));rw[hs.va]at this;exact this
theorem ch_plain{m:Nat}{k:Int}{f n:List UInt8}{t:Ty}(hf:Short f)(hn:Short n):ChOk m ⟨k,f,n,[],t,[],[]⟩:=⟨hf,hn,(show Short [] by unfold Short;decide),txOk_nil m,txOk_nil m⟩
theorem quite_short:Short quite:=by unfold Short;decide
theorem changeApart_ok(a0 a1:Addr)(m:Nat)(x:Raw)(l:List Int)(i k:Nat)(hx:RawOk x)(hl:l.length≤9223372036854775807)(hi:i<256)(hk:k<256):
  SCalls Tryz.prog (glX a0 a1 m) 9 [rawT x,.pv (.sl 1 (iiR l)),.pv (.v (.int .u8 (i:Int))),.pv (.v (.int .u8 (k:Int)))] [] (.pv (.v (.bool true))) []:=by
 have HX:=ex7_ok a0 a1 m;have HC:=classOf4_ok (glX a0 a1 m) x hx;have hg:=classOf_good x;have hc6:=hg.len;have HV:=valsOf4_ok (glX a0 a1 m) (z78 x) l 5 (fun _ hf=>hg.type hf) (by omega) hl (by decide);have hvl:=z164 (z78 x).fs l 5;have hfew:=vals_few hg l (many:=5) (by decide);have hfit:FitC (z78 x) (mkVals (z78 x).fs l 5):=⟨hg.right,hvl,fun i f v hf hv=>vals_fit hg l (by decide) hf hv⟩
 have hnq:∀g∈(z78 x).fs,g.n≠quite:=fun g hgm=>quite_ne g (hg.fs g hgm).2;generalize mkVals (z78 x).fs l 5=vals at*;generalize z78 x=c at*;have hcl:=(clsR_ok hfit.r).1;have ci:IntKind.i64.wrap (i:Int)=(i:Int):=wrap64 (by omega) (by omega);have ck:IntKind.i64.wrap (k:Int)=(k:Int):=wrap64 (by omega) (by omega);unfold clT rawT B at*;refine z7 hmix tf_103 rfl ?_;simp only[vcA,seval,vV];(with_reducible apply v_call);exact kv;rfl;exact HX;exact km;exact kv;simp only[vcA,seval,vV];(with_reducible apply v_call);exact kv;rfl;exact HC;exact km;exact kv;simp only[vcA,seval,vV];(with_reducible apply v_call);exact kv;rfl;exact HV;exact km;exact kv;simp only[vcA,seval,vV];by_cases h2:c.fs.length<2
 ·have d0:(c.fs.length:Int)<2:=by omega
  simp only[vcA,seval,vV,d0,clV];exact fun h=>h.elim
 have d0:¬(c.fs.length:Int)<2:=by omega
 have hi2:=Nat.mod_lt i (show 0<c.fs.length by omega);have hk2:=Nat.mod_lt k (show 0<c.fs.length by omega);have mi:Int.tmod (i:Int) (c.fs.length:Int)=((i%c.fs.length:Nat):Int):=(Int.ofNat_tmod i _).symm;have mk:Int.tmod (k:Int) (c.fs.length:Int)=((k%c.fs.length:Nat):Int):=(Int.ofNat_tmod k _).symm;obtain⟨fi,ei⟩:∃f,c.fs[i%c.fs.length]?=some f:=⟨_,gE hi2⟩
 obtain⟨fk,ek⟩:∃f,c.fs[k%c.fs.length]?=some f:=⟨_,gE hk2⟩
 have z0:¬(c.fs.length:Int)=0:=by omega
 generalize hI:i%c.fs.length=i' at*;generalize hK:k%c.fs.length=k' at*;by_cases he:i'=k'
 ·have d1:(i':Int)=(k':Int):=by omega
  simp only[vcA,seval,vV,d0,d1,mi,mk,z0,ci,ck,clV];exact⟨fun h=>h.elim,fun h=>h.elim⟩
 have d1:¬(i':Int)=(k':Int):=by omega
 have e0:(⟨#[]⟩:ByteArray)=str []:=rfl;have qq:(⟨#[113,117,105,116,101,95,110,101,119]⟩:ByteArray)=str quite:=rfl;simp only[vcA,seval,vV,d0,d1,mi,mk,z0,ci,ck,ei,ek,e0,qq,clV];refine⟨fun h=>h.elim,fun h=>h.elim,hk2,?_⟩;intro b hb;cases hb;refine⟨by simp,?_⟩;intro b hb;cases hb;simp only[vcA,seval,vV,d0,d1,mi,mk,z0,ci,ck,ei,ek,e0,qq,clV];have cd:=fun m=>ch_plain (m:=m) (k:=2) (f:=fk.n) (n:=[]) (t:=ty0) (hcl.fs fk (gM ek)) (by unfold Short;decide);have cr:=fun m=>ch_plain (m:=m) (k:=3) (f:=fi.n) (n:=quite) (t:=ty0) (hcl.fs fi (gM ei)) quite_short;have ca:=fun m=>ch_plain (m:=m) (k:=1) (f:=[]) (n:=quite) (t:=⟨2,0⟩) (by unfold Short;decide) quite_short;have hne:i'≠k':=he;refine v_loop (σ:={i:Nat // i≤2}) (fun i=>⟨[(9,.pv (.v (.bool true))),(10,.ptr 10 0),(11,.pv (.sl 4 (V.rows vals))),(13,.ptr 13 0),(79,.pv (.sl 8 [[.v (.int .i64 3),.v (.string (str fi.n)),.v (.string (str quite)),.v (.string (str [])),.v (.int .i64 0),.v (.int .i64 0),.v (.string (str [])),.v (.string (str []))],
   [.v (.int .i64 1),.v (.string (str [])),.v (.string (str quite)),.v (.string (str [])),.v (.int .i64 2),.v (.int .i64 0),.v (.string (str [])),.v (.string (str []))]])),(80,I 2),(81,I (i.1:Int))],
  [(10,[S (str c.n),.pv (.sl 4 (flR c.fs))]),(13,[I 2,S (str fk.n),S (str []),S (str []),I 0,I 0,S (str []),S (str [])])],[],[]⟩) (fun i=>2-i.1) ⟨0,by decide⟩ ?_ ?_
 ·apply lw_of<;>simp[leL,lk,sv,Nat.beq,I,S,ES.kill,has,drp,nilT]
 rintro⟨i,hi⟩;have hi:i=0∨i=1∨i=2:=by omega
 rcases hi with rfl|rfl|rfl
 ·obtain⟨a,v,b,w,d,u,s1,s2,s3,s4,mv,mw,mu⟩:=turns_ren hfit hnq ei ek hne;have fv:∀x∈v,VFew x∧VOk x:=fun x hx=>hfew x (mv x hx);have fu:=or_few mu hfew;have fw:=or_few mw hfew;have A1:=step_ap (a0:=a0) (a1:=a1) hfit s1 (cd m);have V1:=step_va (a0:=a0) (a1:=a1) hfit s1 (cd m) (by show(2:Int)≠4;decide) hfew;have A2:=step_ap (a0:=a0) (a1:=a1) s1.fit s2 (cr m);have V2:=step_va (a0:=a0) (a1:=a1) s1.fit s2 (cr m) (by show(3:Int)≠4;decide) fv;have A3:=step_ap (a0:=a0) (a1:=a1) hfit s3 (cr m);have V3:=step_va (a0:=a0) (a1:=a1) hfit s3 (cr m) (by show(3:Int)≠4;decide) hfew;have A4:=step_ap (a0:=a0) (a1:=a1) s3.fit s4 (cd m);have V4:=step_va (a0:=a0) (a1:=a1) s3.fit s4 (cd m) (by show(2:Int)≠4;decide) fu;have hb8:=(clsR_ok s2.fit.r).2;have SB:=classSame_ok (glX a0 a1 m) b b (by omega) (by omega);rw[same_refl]at SB;have SW:=sameVals_ok (glX a0 a1 m) w (fun x hx=>(fw x hx).1) (by rw[s2.fit.len];omega);simp only[clT,chT,hDrop,hRen,hAdd,ty0,B]at A1 V1 A2 V2 A3 V3 A4 V4 SB SW;simp only[vcA,seval,vV,e0,qq];(with_reducible apply v_call);exact kv;rfl;exact A1;exact km;exact kv;simp only[vcA,seval,vV];(with_reducible apply v_call);exact kv;rfl;exact V1;exact km;exact kv;simp only[vcA,seval,vV]
  (with_reducible apply v_call);exact kv;rfl;exact A2;exact km;exact kv;simp only[vcA,seval,vV];(with_reducible apply v_call);exact kv;rfl;exact V2;exact km;exact kv;simp only[vcA,seval,vV];(with_reducible apply v_call);exact kv;rfl;exact A3;exact km;exact kv;simp only[vcA,seval,vV];(with_reducible apply v_call);exact kv;rfl;exact V3;exact km;exact kv;simp only[vcA,seval,vV];(with_reducible apply v_call);exact kv;rfl;exact A4;exact km;exact kv;simp only[vcA,seval,vV];(with_reducible apply v_call);exact kv;rfl;exact V4;exact km;exact kv;simp only[vcA,seval,vV];(with_reducible apply v_call);exact kv;rfl;exact SB;exact km;exact kv;simp only[vcA,seval,vV];(with_reducible apply v_call);exact kv;rfl;exact SW;exact km;exact kv;simp only[vcA,seval,vV];refine z10 ⟨1,by decide⟩ (by show 2-1<2-0;decide) ?_;apply lw_of<;>simp[leL,lk,sv,Nat.beq,I,S,ES.kill,has,drp,nilT,show IntKind.i64.wrap 1=1 from rfl,show IntKind.i64.wrap 2=2 from rfl]
 ·obtain⟨a,v,b,w,d,u,s1,s2,s3,s4,mv,mw,mu⟩:=turns_add hfit hnq (by omega) ek;have fv:∀x∈v,VFew x∧VOk x:=fun x hx=>hfew x (mv x hx);have fu:=or_few mu hfew;have fw:=or_few mw hfew;have A1:=step_ap (a0:=a0) (a1:=a1) hfit s1 (cd m);have V1:=step_va (a0:=a0) (a1:=a1) hfit s1 (cd m) (by show(2:Int)≠4;decide) hfew;have A2:=step_ap (a0:=a0) (a1:=a1) s1.fit s2 (ca m);have V2:=step_va (a0:=a0) (a1:=a1) s1.fit s2 (ca m) (by show(1:Int)≠4;decide) fv;have A3:=step_ap (a0:=a0) (a1:=a1) hfit s3 (ca m);have V3:=step_va (a0:=a0) (a1:=a1) hfit s3 (ca m) (by show(1:Int)≠4;decide) hfew;have A4:=step_ap (a0:=a0) (a1:=a1) s3.fit s4 (cd m);have V4:=step_va (a0:=a0) (a1:=a1) s3.fit s4 (cd m) (by show(2:Int)≠4;decide) fu;have hb8:=(clsR_ok s2.fit.r).2;have SB:=classSame_ok (glX a0 a1 m) b b (by omega) (by omega);rw[same_refl]at SB;have SW:=sameVals_ok (glX a0 a1 m) w (fun x hx=>(fw x hx).1) (by rw[s2.fit.len];omega);simp only[clT,chT,hDrop,hRen,hAdd,ty0,B]at A1 V1 A2 V2 A3 V3 A4 V4 SB SW;simp only[vcA,seval,vV,e0,qq];(with_reducible apply v_call);exact kv;rfl;exact A1;exact km;exact kv;simp only[vcA,seval,vV];(with_reducible apply v_call);exact kv;rfl;exact V1;exact km;exact kv;simp only[vcA,seval,vV]
  (with_reducible apply v_call);exact kv;rfl;exact A2;exact km;exact kv;simp only[vcA,seval,vV];(with_reducible apply v_call);exact kv;rfl;exact V2;exact km;exact kv;simp only[vcA,seval,vV];(with_reducible apply v_call);exact kv;rfl;exact A3;exact km;exact kv;simp only[vcA,seval,vV];(with_reducible apply v_call);exact kv;rfl;exact V3;exact km;exact kv;simp only[vcA,seval,vV];(with_reducible apply v_call);exact kv;rfl;exact A4;exact km;exact kv;simp only[vcA,seval,vV];(with_reducible apply v_call);exact kv;rfl;exact V4;exact km;exact kv;simp only[vcA,seval,vV];(with_reducible apply v_call);exact kv;rfl;exact SB;exact km;exact kv;simp only[vcA,seval,vV];(with_reducible apply v_call);exact kv;rfl;exact SW;exact km;exact kv;simp only[vcA,seval,vV];refine z10 ⟨2,by decide⟩ (by show 2-2<2-1;decide) ?_;apply lw_of<;>simp[leL,lk,sv,Nat.beq,I,S,ES.kill,has,drp,nilT,show IntKind.i64.wrap 1=1 from rfl,show IntKind.i64.wrap 2=2 from rfl]
 ·simp only[vcA,seval,vV]
end Go.Proofs.YtcpaleaajdilgaaGreatDoor
end

section
namespace Go.Proofs.YtcpaleaajdilgaaGreatDoor.ChangeApart
open Go.ChangeShapes Go.WideShapes Go.ChangeAt Go.RowKit Go.Lib Go.Mor Go.Deep Go.Joins
open Go.ChangeMaps (open_string shut_string)
theorem ChangeApart_any(a0 a1:Addr)(W:World)(x0:Raw)(x0v:Value)(x1:List Int)(x1v:Value)(x2:Nat)(x3:Nat)(hx0:RawOk x0)(rx0:∀r,Go.Sh.RelT W (envAll W) r (rawT x0) x0v)(hx1:x1.length≤9223372036854775807)(rx1:∀r,Go.Sh.RelT W (envAll W) r (.pv (.sl 1 (iiR x1))) x1v)(hx2:x2<256)(hx3:x3<256)(hG:(glX a0 a1 W.heap.size).G W):
  Calls Tryz.prog 9 #[x0v,x1v,.int .u8 (x2:Int),.int .u8 (x3:Int)] W fun e w'=>e=.returned (.bool true)∧Below W.heap.size W w':=
 calls_of_sc (vs:=[x0v,x1v,.int .u8 (x2:Int),.int .u8 (x3:Int)]) (changeApart_ok a0 a1 W.heap.size x0 x1 x2 x3 hx0 hx1 hx2 hx3) hG rfl (fun j q u hq hu=>by
  match j with
  |0=>simp at hq hu;subst hq;subst hu;exact rx0 _
  |1=>simp at hq hu;subst hq;subst hu;exact rx1 _
  |2=>simp at hq hu;subst hq;subst hu;exact .pv (.v _)
  |3=>simp at hq hu;subst hq;subst hu;exact .pv (.v _)
  |j+4=>simp at hq)
theorem witness_row(os:Os){H:Type}(enc:TypeId×Value→H):
  (OpenSpec.ofChange Rows.changeApartSpec).preRow enc Tryz.prog Tryz.f9 Rows.changeApartRow.domain false Rows.changeApartRow.laid ((laidWorld os).forCall (fun _ _=>0) ⟨#[],#[.agg #[.int .i64 0,.slice none 0 0],.slice none 0 0,.int .u8 0,.int .u8 0],[]⟩).memory #[.agg #[.int .i64 0,.slice none 0 0],.slice none 0 0,.int .u8 0,.int .u8 0]:=by
 have hw:(DataW.whole enc Tryz.prog ((laidWorld os).forCall (fun _ _=>0) ⟨#[],#[.agg #[.int .i64 0,.slice none 0 0],.slice none 0 0,.int .u8 0,.int .u8 0],[]⟩).memory Tryz.f9.params.toList Rows.changeApartSpec.vars false (#[.agg #[.int .i64 0,.slice none 0 0],.slice none 0 0,.int .u8 0,.int .u8 0]:Array Value).toList 8).map (fun x=>(x.1,x.2.1))=
   some ([.agg [.lit (.int .i64 0),.nil],.nil,.lit (.int .u8 0),.lit (.int .u8 0)],[]):=by kernel_rfl
 obtain⟨⟨x1,x2,x3⟩,hx,hx1⟩:=gO hw;simp only[Prod.mk.injEq]at hx1;obtain⟨rfl,rfl⟩:=hx1;exact OpenSpec.preRow_of_cond 8 hx (by kernel_rfl) (fun k hk=>by cases hk) (by kernel_rfl) (laid_metUTEW os _)
set_option maxRecDepth 100000 in
set_option maxHeartbeats 2000000 in
theorem lifted(os:Os)(started:os.Started)(H:Type)(enc:TypeId×Value→H)(F:Stop.Interp):
  ReturnsInHanded {} Tryz.checked os 9 .any ((OpenSpec.ofChange Rows.changeApartSpec).preRow enc Tryz.prog Tryz.f9 Rows.changeApartRow.domain false Rows.changeApartRow.laid) (((OpenSpec.ofChange Rows.changeApartSpec).at F).post enc Tryz.prog Tryz.f9 false true false false):=by
 refine returnsInHanded_of_row (C:=Tryz.checked) (s:=(OpenSpec.ofChange Rows.changeApartSpec)) own started (by kernel_rfl) Tryz.func9
  (witness_row_atRef (enc:=enc) (C:=Tryz.checked) false (laidWorld os) #[.agg #[.int .i64 0,.slice none 0 0],.slice none 0 0,.int .u8 0,.int .u8 0] rfl (by kernel_rfl) (by kernel_rfl) (by kernel_rfl) (witness_row os enc)) ?_
 intro W base args ds gs before hval0 hW _ hcond _ hL hsh _;have hval:∀(j:Nat) t v,Tryz.f9.params[j]?=some t→args[j]?=some v→Value.okWide Tryz.prog W .any base t v:=hval0;have hW':DataW.Whole enc Tryz.prog Tryz.f9.params.toList Rows.changeApartSpec.vars false W args.toList ds gs before:=hW;obtain⟨p,q,hA0,hV0,rfl,_,_⟩:=hW;have hA:DataW.TrodAll enc Tryz.prog W 0 (fun _=>true) true Tryz.f9.params.toList args.toList ds p:=hA0;rw[Tryz.params9]at hA hval;obtain⟨rfl,rfl⟩:=trodVars_none hV0;clear hA0 hV0 hval0;obtain⟨a0,a1,hG⟩:=glob_of_laidUTEW hL hsh;obtain⟨v0,vs0,d0,ds0,p0,q0,hargs,rfl,rfl,h0,r0⟩:=trodAll_cons hA;obtain⟨v1,vs1,d1,ds1,p1,q1,rfl,rfl,rfl,h1,r1⟩:=trodAll_cons r0;obtain⟨v2,vs2,d2,ds2,p2,q2,rfl,rfl,rfl,h2,r2⟩:=trodAll_cons r1;obtain⟨v3,vs3,d3,ds3,p3,q3,rfl,rfl,rfl,h3,r3⟩:=trodAll_cons r2;obtain⟨rfl,rfl,rfl⟩:=trodAll_nil r3;obtain rfl:args= #[v0,v1,v2,v3]:=by cases args;simp_all
 obtain⟨x0,hx0,rx0⟩:=open_raw4 (hval 0 _ v0 rfl rfl) h0;obtain⟨x1,_,hx1,rx1⟩:=open_nums Tryz.underlying25 Tryz.underlying3 (by kernel_rfl) (hval 1 _ v1 rfl rfl) h1;obtain⟨x2z,rfl,rfl,rfl,wx2⟩:=open_int Tryz.underlying5 (hval 2 _ v2 rfl rfl) h2;obtain⟨x2,rfl,hx2⟩:=u8_nat wx2;obtain⟨x3z,rfl,rfl,rfl,wx3⟩:=open_int Tryz.underlying5 (hval 3 _ v3 rfl rfl) h3;obtain⟨x3,rfl,hx3⟩:=u8_nat wx3;have hc:=ChangeApart_any a0 a1 W x0 v0 x1 v1 x2 x3 hx0 rx0 hx1 rx1 hx2 hx3 hG;refine(hc).mono ?_;rintro e W' ⟨rfl,hb⟩;exact⟨_,rfl,lifts 9 Tryz.f9 Rows.changeApartSpec rfl (by kernel_rfl) (by kernel_rfl) rfl hW' hb⟩
set_option maxHeartbeats 0 in
theorem closed:joinedFacts Tryz.pinned.checked.prog 9 Tryz.f9 (OpenSpec.ofChange Rows.changeApartSpec).bare Rows.changeApartRow=true:=by
 unfold joinedFacts
 repeat' (with_reducible refine Bool.and_eq_true_iff.2 ⟨?_,?_⟩)
 all_goals(as_aux_lemma=>kernel_rfl)
theorem said:Rows.ChangeApartSaid:=
 OpenClaim.holds_of_cond 9 Tryz.f9 rfl rfl rfl rfl rfl rfl rfl ⟨rfl,rfl,rfl,rfl,rfl⟩ rfl rfl rfl rfl rfl (by kernel_rfl) Tryz.func9 closed
  (of_decide_eq_true (by kernel_rfl)) (by unfold Func.isWrapper;rw[if_neg (of_decide_eq_false (by kernel_rfl))];exact⟨rfl,rfl⟩)
  (fun os started H enc _ F=>by rw[OpenClaim.pre_eq_preRow];exact lifted os started H enc F)
end Go.Proofs.YtcpaleaajdilgaaGreatDoor.ChangeApart
end
