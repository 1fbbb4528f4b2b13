/- Merged texts: S19 S20 S33 Cd1 Vc1 Vk Zv1 Zv2 Ze1 Cd5 Ze2 Ze3. No statement of the program is proved here. -/
import Derived.Test.YtcpaleaajdilgaaGreatDoorM1
import Derived.Test.YtcpaleaajdilgaaGreatDoorM2
import Derived.Test.YtcpaleaajdilgaaGreatDoorM3
import Derived.Test.YtcpaleaajdilgaaGreatDoorM4
import Derived.KernelRfl
set_option linter.unusedSimpArgs false
set_option linter.unusedVariables false
set_option maxRecDepth 100000
set_option maxHeartbeats 8000000
section
namespace Go.Sh
open Go Go.RowKit
def boolW(t:Bool)(A B:Prop):Prop:=(t=true→A)∧(t=false→B)
def boolK(x:Option TV)(A B:Prop):Prop:=match x with
 |some (.pv (.v (.bool t)))=>boolW t A B
 |_=>False
def guardW(x:Option TV)(want:Bool)(gs:Nat)(A B:ES→Prop)(s:ES):Prop:=match x with
 |some (.pv (.v (.bool t)))=>boolW t ((if want then A else B) (s.put (some gs) (.pv (.v (.bool true))))) ((if want then B else A) (s.put (some gs) (.pv (.v (.bool false)))))
 |some (.pv (.v _))=>B s
 |_=>False
def guardK(t:Bool)(want:Bool)(gs:Nat)(A B:ES→Prop)(s:ES):Prop:=boolW t ((if want then A else B) (s.put (some gs) (.pv (.v (.bool true))))) ((if want then B else A) (s.put (some gs) (.pv (.v (.bool false)))))
section
variable{P:Program}{g:Glob}{a b c:SCode}{Q:SExit→ES→Prop}{K:ES→Prop}{s s':ES}{l:List SOper}{A B:Prop}{o:SOper}
@[congr] theorem boolW_congr {t t':Bool} (h:t=t'):boolW t A B=boolW t' A B:=by rw[h]
@[congr] theorem boolK_congr {t t':Option TV} (h:t=t'):boolK t A B=boolK t' A B:=by rw[h]
@[congr] theorem guardW_congr {t t':Option TV} {w:Bool} {gs:Nat} {A B:ES→Prop} (h:t=t'):guardW t w gs A B s=guardW t' w gs A B s:=by rw[h]
@[congr] theorem guardK_congr {t t':Bool} {w:Bool} {gs:Nat} {A B:ES→Prop} (h:t=t'):guardK t w gs A B s=guardK t' w gs A B s:=by rw[h]
@[congr] theorem swp_congr (h:s=s'):swp P g a Q s=swp P g a Q s':=by rw[h]
@[congr] theorem opsW_congr (h:s=s'):opsW P g l K s=opsW P g l K s':=by rw[h]
@[congr] theorem stepW_congr {e e':Option (TV×Upd)} (h:e=e'):stepW P o K s e=stepW P o K s e':=by rw[h]
@[congr] theorem thenW_congr {e:SExit} (h:s=s'):thenW K Q e s=thenW K Q e s':=by rw[h]
@[congr] theorem blockW_congr {e:SExit} {id:Nat} (h:s=s'):blockW id Q e s=blockW id Q e s':=by rw[h]
theorem bW_T:boolW true A B=A:=by simp[boolW]
theorem bW_F:boolW false A B=B:=by simp[boolW]
theorem bW_d{p:Prop}[Decidable p]:boolW (decide p) A B=((p→A)∧(¬p→B)):=by simp[boolW]
theorem bW_n{t:Bool}:boolW (!t) A B=boolW t B A:=by grind [boolW]
theorem bW_a{t u:Bool}:boolW (t&&u) A B=boolW t (boolW u A B) B:=by grind [boolW]
theorem bW_o{t u:Bool}:boolW (t||u) A B=boolW t A (boolW u A B):=by grind [boolW]
theorem bK{t:Bool}:boolK (some (.pv (.v (.bool t)))) A B=boolW t A B:=rfl
theorem gW{t w:Bool}{gs:Nat}{A B:ES→Prop}:guardW (some (.pv (.v (.bool t)))) w gs A B s=guardK t w gs A B s:=rfl
theorem gW_u{w:Bool}{gs:Nat}{A B:ES→Prop}:guardW (some (.pv (.v (.nilIface)))) w gs A B s=B s:=rfl
theorem gW_i{w:Bool}{k:IntKind}{n:Int}{gs:Nat}{A B:ES→Prop}:guardW (some (.pv (.v (.int k n)))) w gs A B s=B s:=rfl
def regK(Q:SExit→ES→Prop)(kill:List Nat)(s:ES):Prop:=Q .normal (s.kill kill)
def skipK(P:Program)(g:Glob)(l:List SOper)(K:ES→Prop)(dst:Option Nat)(s:ES):Prop:=opsW P g l K (s.put dst (.pv (.v undef)))
@[congr] theorem regK_congr {kill:List Nat} (h:s=s'):regK Q kill s=regK Q kill s':=by rw[h]
theorem v_regK{kill:List Nat}:regK Q kill s=Q .normal (s.kill kill):=rfl
theorem v_skipK{dst:Option Nat}:skipK P g l K dst s=opsW P g l K (s.put dst (.pv (.v undef))):=rfl
theorem sv_same{α:Type}{k:Nat}{x:α}:∀{l:List (Nat×α)},lk l k=some x→sv l k x=l
 |[],h=>by simp[lk]at h
 |(j,y)::l,h=>by
  simp only[lk]at h;simp only[sv];cases hj:Nat.beq j k with
  |true=>
   simp_all
  |false=>rw[hj]at h;simp only[sv_same h]
theorem put_same{gs:Nat}{x:TV}(h:lk s.t gs=some x):s.put (some gs) x=s:=by
 show ES.mk _ _ _ _=_;rw[sv_same h]
theorem boolW_iff{t:Bool}:boolW t A B ↔ (if t then A else B):=by grind [boolW]
theorem v_skip:swp P g .skip Q s=Q .normal s:=rfl
theorem v_seq:swp P g (.seq a b) Q s=swp P g a (thenW (swp P g b Q) Q) s:=rfl
theorem v_exit{id:Nat}:swp P g (.exit id) Q s=Q (.exit id) s:=rfl
theorem v_ret:swp P g .ret Q s=Q .ret s:=rfl
theorem v_block{id:Nat}:swp P g (.block id a) Q s=swp P g a (blockW id Q) s:=rfl
theorem v_cond{x:Arg}:swp P g (.cond x a b) Q s=boolK (x.get s.fs) (swp P g a Q s) (swp P g b Q s):=by
 apply propext;constructor
 ·rintro⟨t,h1,h2⟩
  grind [bK,boolW_iff]
 ·intro h;unfold boolK at h;split at h
  ·rename_i t ht;exact⟨t,ht,boolW_iff.1 h⟩
  ·grind
theorem v_reg{n kill:List Nat}:swp P g (.reg [(n,l)] kill) Q s=opsW P g l (regK Q kill) (s.fgt n):=by
 show regW P g _ _ _ _=_;simp[regW];rfl
theorem v_reg2{n kill:List Nat}{x:List Nat×List SOper}{r:List (List Nat×List SOper)}:swp P g (.reg ((n,l)::x::r) kill) Q s=(opsW P g l (regK Q kill) (s.fgt n)∨swp P g (.reg (x::r) kill) Q s):=by
 show regW P g _ _ _ _=(_∨regW P g _ _ _ _)
 simp[regW];rfl
theorem v_nil:opsW P g [] K s=K s:=rfl
theorem v_op{dst fp:Option Nat}{op:SOp}(h:op.isCall=false):opsW P g (⟨dst,none,fp,op⟩::l) K s=stepW P ⟨dst,none,fp,op⟩ (opsW P g l K) s (effG P noC ⟨dst,none,fp,op⟩ s.fs):=propext (opsW_nc h)
theorem v_guard{dst fp:Option Nat}{op:SOp}{gs:Nat}{want:Bool}:opsW P g (⟨dst,some (gs,want),fp,op⟩::l) K s=
  guardW (lk s.t gs) want gs (opsW P g (⟨dst,none,fp,op⟩::l) K) (skipK P g l K dst) s:=by
 have key:∀C,effG P C ⟨dst,some (gs,want),fp,op⟩ s.fs=match lk s.t gs with
  |some (.pv (.v (.bool b)))=>if b==want then effG P C ⟨dst,none,fp,op⟩ s.fs else some (.pv (.v undef),.no)
  |some (.pv (.v _))=>some (.pv (.v undef),.no)
  |_=>none:=fun C=>rfl
 have hA:(∃C,SoundC P g C∧∃e,some (TV.pv (.v undef),Upd.no)=some e∧opsW P g l K (s.after ⟨dst,some (gs,want),fp,op⟩ e))=opsW P g l K (s.put dst (.pv (.v undef))):=by
  apply propext;constructor
  ·rintro⟨C,hC,e,he,hk⟩;cases he;exact hk
  ·intro hk;exact⟨noC,noC_sound P g,_,rfl,hk⟩
 conv=>lhs;unfold opsW
 simp only[key];unfold guardW;cases hx:lk s.t gs with
 |none=>simp
 |some x=>
  cases x with
  |pv p=>
   cases p with
   |v v=>
    cases v with
    |bool t=>
     cases t
     ·cases want
      ·simp only[bW_F,if_false,beq_self_eq_true,if_true,put_same hx,Bool.false_eq_true];rfl
      ·simp only[bW_F,if_true,put_same hx,bFT,if_false,Bool.false_eq_true];exact hA
     ·cases want
      ·simp only[bW_T,if_false,put_same hx,bTF,Bool.false_eq_true];exact hA
      ·simp only[bW_T,if_true,beq_self_eq_true,put_same hx];rfl
    |_=>exact hA
   |_=>simp
  |_=>simp
theorem gK_T1{gs:Nat}{A B:ES→Prop}:guardK true true gs A B s=A (s.put (some gs) (.pv (.v (.bool true)))):=by simp[guardK,bW_T]
theorem gK_T0{gs:Nat}{A B:ES→Prop}:guardK true false gs A B s=B (s.put (some gs) (.pv (.v (.bool true)))):=by simp[guardK,bW_T]
theorem gK_F1{gs:Nat}{A B:ES→Prop}:guardK false true gs A B s=B (s.put (some gs) (.pv (.v (.bool false)))):=by simp[guardK,bW_F]
theorem gK_F0{gs:Nat}{A B:ES→Prop}:guardK false false gs A B s=A (s.put (some gs) (.pv (.v (.bool false)))):=by simp[guardK,bW_F]
theorem gK_d1{p:Prop}[Decidable p]{gs:Nat}{A B:ES→Prop}:guardK (decide p) true gs A B s=((p→A (s.put (some gs) (.pv (.v (.bool true)))))∧(¬p→B (s.put (some gs) (.pv (.v (.bool false)))))):=by simp[guardK,bW_d]
theorem gK_d0{p:Prop}[Decidable p]{gs:Nat}{A B:ES→Prop}:guardK (decide p) false gs A B s=((p→B (s.put (some gs) (.pv (.v (.bool true)))))∧(¬p→A (s.put (some gs) (.pv (.v (.bool false)))))):=by simp[guardK,bW_d]
theorem gK_n1{t:Bool}{gs:Nat}{A B:ES→Prop}:guardK (!t) true gs A B s=boolW t (B (s.put (some gs) (.pv (.v (.bool false))))) (A (s.put (some gs) (.pv (.v (.bool true))))):=by simp[guardK,bW_n]
theorem gK_n0{t:Bool}{gs:Nat}{A B:ES→Prop}:guardK (!t) false gs A B s=boolW t (A (s.put (some gs) (.pv (.v (.bool false))))) (B (s.put (some gs) (.pv (.v (.bool true))))):=by simp[guardK,bW_n]
theorem v_then_n{K:ES→Prop}:thenW K Q .normal s=K s:=rfl
theorem v_then_r{K:ES→Prop}:thenW K Q .ret s=Q .ret s:=rfl
theorem v_then_x{K:ES→Prop}{id:Nat}:thenW K Q (.exit id) s=Q (.exit id) s:=rfl
theorem v_blk_n{id:Nat}:blockW id Q .normal s=Q .normal s:=rfl
theorem v_blk_r{id:Nat}:blockW id Q .ret s=Q .ret s:=rfl
theorem v_blk_x{id j:Nat}:blockW id Q (.exit j) s=boolW (Nat.beq j id) (Q .normal s) (Q (.exit j) s):=by
 grind [only,blockW,Nat.beq_refl,bW_T,z155,bW_F]
theorem s_some{e:TV×Upd}:stepW P o K s (some e)=K (s.after o e):=rfl
theorem s_none:stepW P o K s none=False:=rfl
theorem s_ite{c:Prop}[Decidable c]{x:Option (TV×Upd)}:stepW P o K s (if c then x else none)=(c∧stepW P o K s x):=by
 grind [stepW]
theorem s_get{α:Type}{l:List α}{k:Nat}{f:α→TV×Upd}:stepW P o K s (Option.map f l[k]?)=(k<l.length∧∀b,l[k]?=some b→K (s.after o (f b))):=by
 grind [Nat.lt_or_ge,List.getElem?_eq_getElem,stepW,List.getElem?_eq_none,Nat.not_lt]
def loopK{σ:Type}(st:σ→ES)(μ:σ→Nat)(x:σ)(s:ES):Prop:=∃y,μ y<μ x∧(st y).Lw s
@[congr] theorem loopK_congr {σ:Type} {st:σ→ES} {μ:σ→Nat} {x:σ} (h:s=s'):loopK st μ x s=loopK st μ x s':=by rw[h]
theorem v_loop{σ:Type}(st:σ→ES)(μ:σ→Nat)(x0:σ)(h0:(st x0).Lw s)(hr:∀x,swp P g a (thenW (loopK st μ x) Q) (st x)):swp P g (.loop a) Q s:=by
 refine⟨fun n s=>∃x,μ x=n∧s=st x,μ x0,⟨st x0,h0,x0,rfl,rfl⟩,?_⟩;rintro n s ⟨x,rfl,rfl⟩;refine z63 (hr x) (fun e s he=> ?_);cases e with
 |normal=>obtain⟨y,h1,h2⟩:=he;exact⟨μ y,h1,st y,h2,y,rfl,rfl⟩
 |exit id=>exact he
 |ret=>exact he
 |pan z=>exact he
theorem z13{σ:Type}{st:σ→ES}{μ:σ→Nat}{x:σ}(y:σ)(h1:μ y<μ x)(h2:(st y).Lw s):loopK st μ x s:=⟨y,h1,h2⟩
theorem lw_of{s0 s:ES}(h1:leL s0.t s.t)(h2:leL s0.b s.b)(h3:leL s0.r s.r)(h4:leL s0.i s.i):s0.Lw s:=(le_of h1 h2 h3 h4).lw
theorem lw_eq{s0 s:ES}(h:s0=s):s0.Lw s:=h▸ .refl _
def callIn(s:ES)(m:Nat)(xs:List Arg):Option (List TV×List MO×List Nat):=match seqO (fun x:Arg=>x.get s.fs) xs with
 |some args=>match seqO (TV.ren2 (rhoIn (handI s.fs m args))) args,seqO (fun d=>(s.fs.mo d).bind (MO.ren (rhoIn (handI s.fs m args)))) (handI s.fs m args)with
  |some xs',some os=>some (xs',os,handI s.fs m args)
  |_,_=>none
 |none=>none
def callOut(s:ES)(dst:Option Nat)(I:List Nat)(y:TV)(os':List MO):Option ES:=match y.ren3 (rhoOut I (dstId dst)),outs (rhoOut I (dstId dst)) 0 os' with
 |some y',some us=>some ((s.upd dst (.mem us)).put dst y')
 |_,_=>none
def fpOk:Option Nat→List Nat→Bool
 |none,_=>true
 |some d,I=>isK (only I) d
theorem opsW_callF{dst fp:Option Nat}{f m:Nat}{xs:List Arg}{args:List TV}(ha:seqO (fun x:Arg=>x.get s.fs) xs=some args)(hfp:fpOk fp (handI s.fs m args)=true)(h:opsW P g (⟨dst,none,none,.call f m xs⟩::l) K s):opsW P g (⟨dst,none,fp,.call f m xs⟩::l) K s:=by
 obtain⟨C,hC,e,he,hk⟩:=h;refine⟨C,hC,e,?_,hk⟩;have h1:footOk ⟨dst,none,fp,.call f m xs⟩ s.fs=true:=by
  unfold footOk;cases fp with
  |none=>rfl
  |some d=>
   simp only[SOp.foot,ha];exact hfp
 grind [only,effG,effF,footOk]
theorem v_call{dst fp:Option Nat}{f m:Nat}{xs:List Arg}{xs':List TV}{I:List Nat}{os os':List MO}{y:TV}(hx:callIn s m xs=some (xs',os,I))(hfp:fpOk fp I=true)(hc:SCalls P g f xs' os y os')(hmo:moOk os os'=true)(hs:callOut s dst I y os'=some s')(hk:opsW P g l K s'):
  opsW P g (⟨dst,none,fp,.call f m xs⟩::l) K s:=by
 unfold callIn at hx;split at hx
 ·rename_i args ha;split at hx
  ·rename_i a1 a2 h1 h2;cases hx;unfold callOut at hs;split at hs
   ·rename_i y' us h3 h4;cases hs;exact opsW_callF ha hfp (w_call ha rfl h1 h2 hc hmo h3 h4 rfl hk)
   ·cases hs
  ·cases hx
 ·cases hx
def callvIn(s:ES)(m:Nat)(x:Arg)(xs:List Arg):Option (Nat×List TV×List MO×List Nat):=match(x.get s.fs).bind TV.callee,seqO (fun x:Arg=>x.get s.fs) xs with
 |some (f,fa,fb),some vs=>match seqO (TV.ren2 (rhoIn (handI s.fs m (fa++vs++fb)))) (fa++vs++fb),seqO (fun d=>(s.fs.mo d).bind (MO.ren (rhoIn (handI s.fs m (fa++vs++fb))))) (handI s.fs m (fa++vs++fb))with
  |some xs',some os=>some (f,xs',os,handI s.fs m (fa++vs++fb))
  |_,_=>none
 |_,_=>none
theorem z28{dst:Option Nat}{f m:Nat}{x:Arg}{xs:List Arg}{xs':List TV}{I:List Nat}{os os':List MO}{y:TV}(hx:callvIn s m x xs=some (f,xs',os,I))(hc:SCalls P g f xs' os y os')(hmo:moOk os os'=true)(hs:callOut s dst I y os'=some s')(hk:opsW P g l K s'):
  opsW P g (⟨dst,none,none,.callv x m xs⟩::l) K s:=by
 unfold callvIn at hx;split at hx
 ·rename_i f' fa fb vs h0 h1;split at hx
  ·rename_i a1 a2 h3 h4;cases hx;unfold callOut at hs;split at hs
   ·rename_i y' us h5 h6;cases hs;refine opsW_callv ?_;rw[h0,h1];exact⟨_,rfl,xs',os,h3,h4,y,os',hc,hmo,y',us,h5,h6,hk⟩
   ·cases hs
  ·cases hx
 ·cases hx
end
end Go.Sh
namespace Go.Sh
open Go Go.RowKit
theorem nc_mov(x:Arg):(SOp.mov x).isCall=false:=rfl
theorem nc_pick(c a b:Arg):(SOp.pick c a b).isCall=false:=rfl
theorem nc_bin(op:BinOp)(t:TypeId)(x y:Arg):(SOp.bin op t x y).isCall=false:=rfl
theorem nc_un(op:UnOp)(x:Arg):(SOp.un op x).isCall=false:=rfl
theorem nc_cvi(k:IntKind)(x:Arg):(SOp.cvi k x).isCall=false:=rfl
theorem nc_cvs(x:Arg):(SOp.cvs x).isCall=false:=rfl
theorem nc_b2s(x:Arg):(SOp.b2s x).isCall=false:=rfl
theorem nc_imm(mx:Bool)(x y:Arg):(SOp.imm mx x y).isCall=false:=rfl
theorem nc_sidx(x i:Arg):(SOp.sidx x i).isCall=false:=rfl
theorem nc_ssub(x:Arg)(lo hi:Option Arg):(SOp.ssub x lo hi).isCall=false:=rfl
theorem nc_slen(x:Arg):(SOp.slen x).isCall=false:=rfl
theorem nc_new(z:List Value):(SOp.new z).isCall=false:=rfl
theorem nc_box(x:Arg):(SOp.box x).isCall=false:=rfl
theorem nc_build(z:List Value)(ps:List (Nat×Nat×Arg)):(SOp.build z ps).isCall=false:=rfl
theorem nc_bsl(W:Nat)(xs:List Arg):(SOp.bsl W xs).isCall=false:=rfl
theorem nc_bslO(e W:Nat)(xs:List Arg):(SOp.bslO e W xs).isCall=false:=rfl
theorem nc_fld(a:Bool)(o n:Nat)(x:Arg):(SOp.fld a o n x).isCall=false:=rfl
theorem nc_fldA(o:Nat)(x:Arg):(SOp.fldA o x).isCall=false:=rfl
theorem nc_ld(a:Bool)(n:Nat)(x:Arg):(SOp.ld a n x).isCall=false:=rfl
theorem nc_st(n:Nat)(x y:Arg):(SOp.st n x y).isCall=false:=rfl
theorem nc_len(x:Arg):(SOp.len x).isCall=false:=rfl
theorem nc_idxA(W:Nat)(x i:Arg):(SOp.idxA W x i).isCall=false:=rfl
theorem nc_sub(W:Nat)(x:Arg)(lo hi:Option Arg):(SOp.sub W x lo hi).isCall=false:=rfl
theorem nc_app(e W n:Nat)(x y:Arg):(SOp.app e W n x y).isCall=false:=rfl
theorem nc_appS(e n:Nat)(x y:Arg):(SOp.appS e n x y).isCall=false:=rfl
theorem nc_appN(e W n:Nat)(x y:Arg):(SOp.appN e W n x y).isCall=false:=rfl
theorem nc_appNS(e n:Nat)(x y:Arg):(SOp.appNS e n x y).isCall=false:=rfl
theorem nc_appB(e W n:Nat)(x y:Arg):(SOp.appB e W n x y).isCall=false:=rfl
theorem nc_ext(x:Arg)(i:Nat):(SOp.ext x i).isCall=false:=rfl
theorem nc_nchk(x:Arg):(SOp.nchk x).isCall=false:=rfl
theorem nc_mkf(f:Fn)(a b:List Arg):(SOp.mkf f a b).isCall=false:=rfl
theorem nc_rng(x:Arg):(SOp.rng x).isCall=false:=rfl
theorem nc_nxt(x:Arg):(SOp.nxt x).isCall=false:=rfl
theorem nc_mks(n:Nat)(z:List Value)(x:Arg):(SOp.mks n z x).isCall=false:=rfl
section
variable(P:Program)(t:TypeId)(k:IntKind)(a b:Int)(x y:ByteArray)
theorem bin_quoI:scal P (do eqGuard .quo t (.const (.int k a)) (.const (.int k b)) (.int k a) (.int k b);binOp .quo t (.int k a) (.int k b))=if b≠0 then some (.pv (.v (.int k (k.wrap (a.tdiv b)))),.no)else none:=by
 by_cases hb:b≠0
 ·rw[if_pos hb];exact bin_quo P t k a b hb
 ·have:b=0:=by omega
  subst this;rw[if_neg (by simp)];simp[scal,eqGuard,binOp,Op.intDiv];rfl
theorem bin_remI:scal P (do eqGuard .rem t (.const (.int k a)) (.const (.int k b)) (.int k a) (.int k b);binOp .rem t (.int k a) (.int k b))=if b≠0 then some (.pv (.v (.int k (a.tmod b))),.no)else none:=by
 by_cases hb:b≠0
 ·rw[if_pos hb];exact bin_rem P t k a b hb
 ·have:b=0:=by omega
  subst this;rw[if_neg (by simp)];simp[scal,eqGuard,binOp,Op.intDiv];rfl
theorem sbin_addI:scal P (do eqGuard .add t (.const (.string x)) (.const (.string y)) (.string x) (.string y);binOp .add t (.string x) (.string y))=if x.size+y.size≤9223372036854775807 then some (.pv (.v (.string (x++y))),.no)else none:=by
 by_cases hb:x.size+y.size≤9223372036854775807
 ·grind [sbin_add]
 ·rw[if_neg hb];have hm:IntKind.i64.max=9223372036854775807:=by rfl
  have h':(((x.size+y.size:Nat):Int)>IntKind.i64.max):=by omega
  simp only[scal,eqGuard,binOp,Op.stringOp,h',if_true];rfl
end
end Go.Sh
namespace Go.Sh
open Go Go.RowKit
def nilT:TV:=.pv (.v (.slice none 0 0))
def ES.adT(s:ES)(k d e W:Nat):ES:=⟨sv (s.fgt [d]).t k (.own d W []),(s.fgt [d]).b,sv (s.fgt [d]).r d (e,W,0),(s.fgt [d]).i⟩
def ES.adB(s:ES)(x:Nat)(cs:List TV)(j d e W:Nat):ES:=⟨(s.fgt [d]).t,sv (s.fgt [d]).b x (cs.set j (.own d W [])),sv (s.fgt [d]).r d (e,W,0),(s.fgt [d]).i⟩
theorem own_nil{w:World}{E:Env}{r:Rows}{d e W:Nat}{v:Value}(hr:r d=some (e,W,0))(hg:E.γ d=none)(h:RelT w E r nilT v):RelT w E r (.own d W []) v:=by
 have hv:v=.slice none 0 0:=val_rel h rfl;subst hv;refine .own d W [] _ ?_ (fun e' W' n hn=> ?_)
 ·exact .sl W [] 0 0 0 none (fun _ _=>undef) (by simp) (by simp) (by simp) (by simp) (by simp) (by simp)
 ·rw[hr]at hn;cases hn;exact⟨Nat.le_refl _,fun _=>⟨rfl,by rw[hg];rfl⟩⟩
section
variable{B:Base}{s:FS}{a:Act}{w:World}{E:Env}
theorem Sim.reT(h:Sim B s a w E){k:Nat}{x y:TV}(hk:s.t k=some x)(hy:∀v,RelT w E s.r x v→RelT w E s.r y v):Sim B (s.setT k y) a w E:=by
 refine⟨h.defers,h.size,fun j z hz=> ?_,h.mem,h.itr,h.ii⟩;rcases z34 hz with⟨rfl,rfl⟩|⟨hj,hz⟩
 ·exact⟨(h.tmp j x hk).1,hy _ (h.tmp j x hk).2⟩
 ·exact h.tmp j z hz
theorem Sim.reB(h:Sim B s a w E){k:Nat}{cs ds:List TV}(hk:s.b k=some cs)(hy:∀(j:Nat) d,ds[j]?=some d→∃c,cs[j]?=some c∧∀v,RelT w E s.r c v→RelT w E s.r d v):Sim B (s.setB k ds) a w E:=by
 refine⟨h.defers,h.size,h.tmp,⟨fun d ds' hd=> ?_,h.mem.row,fun d d' c c' h1 h2 h3=> ?_,fun d d' c q b cap h1 h2 h3=> ?_,h.mem.rr,h.mem.lt,h.mem.low,h.mem.keep,h.mem.knew,h.mem.pas⟩,h.itr,h.ii⟩
 ·rcases z34 hd with⟨rfl,rfl⟩|⟨_,hd⟩
  ·obtain⟨h1,h2⟩:=h.mem.box d cs hk;refine⟨⟨h1.lt,h1.obj,h1.fz,fun j c hc=> ?_,h1.out⟩,h2⟩;obtain⟨c0,hc0,hw⟩:=hy j c hc;obtain⟨v,q1,q2,q3⟩:=h1.cell j c0 hc0;exact⟨v,q1,q2,hw v q3⟩
  ·exact h.mem.box d ds' hd
 ·have e1:∃c,s.b d=some c:=(z34 h1).elim (fun h=>⟨cs,h.1▸hk⟩) (fun h=>⟨_,h.2⟩);have e2:∃c,s.b d'=some c:=(z34 h2).elim (fun h=>⟨cs,h.1▸hk⟩) (fun h=>⟨_,h.2⟩);obtain⟨c1,e1⟩:=e1;obtain⟨c2,e2⟩:=e2;exact h.mem.bb d d' c1 c2 e1 e2 h3
 ·have e1:∃c,s.b d=some c:=(z34 h1).elim (fun h=>⟨cs,h.1▸hk⟩) (fun h=>⟨_,h.2⟩);obtain⟨c1,e1⟩:=e1;exact h.mem.br d d' c1 q b cap e1 h2 h3
end
theorem adT_lw{s:ES}{k d e W:Nat}(hd:d<1000∨2000≤d)(hk:lk s.t k=some nilT):(s.adT k d e W).Lw s:=by
 intro B a w E hm hN hS;have h1:=z84 hS [d];have hf:Fresh (s.fgt [d]).fs d:=z64 s (by simp);obtain⟨E',e1,e2,e3,h2,h3⟩:=h1.adopt (d:=d) (fun ho=>by have:=ho.1;have:=ho.2;omega) hf e W;refine⟨E',?_⟩;have hk':(s.fgt [d]).fs.t k=some nilT:=by
  show lk ((s.fgt [d]).t) k=_;simp only[ES.fgt,lk_map,hk];rfl
 have:=h2.reT (k:=k) (x:=nilT) (y:=.own d W []) hk' (fun v hv=>own_nil (e:=e) (by simp[FS.setR,setF]) e3 hv)
 grind [only,ES.adT,ES.fs,FS.setR,FS.setT,lk_sv]
theorem adB_lw{s:ES}{x j d e W:Nat}{cs:List TV}(hd:d<1000∨2000≤d)(hne:x≠d)(hk:lk s.b x=some cs)(hc:cs.map (fgt3 [d])=cs)(hj:cs[j]?=some nilT):(s.adB x cs j d e W).Lw s:=by
 intro B a w E hm hN hS;have h1:=z84 hS [d];have hf:Fresh (s.fgt [d]).fs d:=z64 s (by simp);obtain⟨E',e1,e2,e3,h2,h3⟩:=h1.adopt (d:=d) (fun ho=>by have:=ho.1;have:=ho.2;omega) hf e W;refine⟨E',?_⟩;have hk':(s.fgt [d]).fs.b x=some cs:=by
  rw[fgt_b];have:has [d] x=false:=by simp only[has];rw[z155 (fun h=>hne h.symm)]
  rw[this,hk];simp[hc]
 have:=h2.reB (k:=x) (cs:=cs) (ds:=cs.set j (.own d W [])) hk' (fun i c hi=>by
  by_cases hij:j=i
  ·subst hij;have hl:j<cs.length:=(gJ hj).1;rw[List.getElem?_set_self hl]at hi;cases hi;exact⟨nilT,hj,fun v hv=>own_nil (e:=e) (by simp[FS.setR,setF]) e3 hv⟩
  ·rw[List.getElem?_set_ne hij]at hi;exact⟨c,hi,fun v hv=>hv⟩)
 have he:(s.adB x cs j d e W).fs=((s.fgt [d]).fs.setR d (e,W,0)).setB x (cs.set j (.own d W [])):=by
  simp only[ES.adB,ES.fs,FS.setR,FS.setB,lk_sv]
 rw[he];exact this
end Go.Sh
namespace Go.Sh
open Go
theorem reach_nil{s:FS}{rows:Bool}{n:Nat}{seen:List Nat}:reach s rows n [] seen=seen:=by cases n<;>simp[reach]
def reachM(s:FS)(rows:Bool)(n d:Nat)(l seen:List Nat):Option Nat→Option (List TV)→Option (Nat×Nat×Nat)→List Nat
 |some _,_,_=>reach s rows n l seen
 |none,some cs,_=>reach s rows n (cs.flatMap TV.ids1++l) (seen++[d])
 |none,none,some _=>if rows then reach s rows n l (seen++[d])else reach s rows n l seen
 |none,none,none=>reach s rows n l seen
theorem reach_cons{s:FS}{rows:Bool}{n d:Nat}{l seen:List Nat}:reach s rows (n+1) (d::l) seen=reachM s rows n d l seen (pos seen d) (s.b d) (s.r d):=by
 simp only[reach];cases hp:pos seen d with
 |some j=>rfl
 |none=>
  cases hb:s.b d with
  |some cs=>rfl
  |none=>
   cases hr:s.r d with
   |none=>rfl
   |some q=>cases rows<;>rfl
theorem reach_m1{s:FS}{rows:Bool}{n d j:Nat}{l seen:List Nat}{b:Option (List TV)}{r:Option (Nat×Nat×Nat)}:reachM s rows n d l seen (some j) b r=reach s rows n l seen:=rfl
theorem reach_m2{s:FS}{rows:Bool}{n d:Nat}{l seen:List Nat}{cs:List TV}{r:Option (Nat×Nat×Nat)}:reachM s rows n d l seen none (some cs) r=reach s rows n (cs.flatMap TV.ids1++l) (seen++[d]):=rfl
theorem reach_m3{s:FS}{rows:Bool}{n d:Nat}{l seen:List Nat}{q:Nat×Nat×Nat}:reachM s rows n d l seen none none (some q)=if rows then reach s rows n l (seen++[d])else reach s rows n l seen:=rfl
theorem reach_m4{s:FS}{rows:Bool}{n d:Nat}{l seen:List Nat}:reachM s rows n d l seen none none none=reach s rows n l seen:=rfl
end Go.Sh
namespace Go.Sh
open Go
section
variable{P:Program}{C:Oracle}{d e W n:Nat}{x y:Arg}{s:FS}{z:List Value}
def appNK(d e W n:Nat):Option Bool→Option (List (List PV))→Option (TV×Upd)
 |some true,some es2=>if es2.length*n≤140737488355328∧es2.length≤maxLen then some (.own d W es2,.row d (e,W,es2.length))else none
 |_,_=>none
def appNSK(d e n:Nat):Option Bool→Option ByteArray→Option (TV×Upd)
 |some true,some b=>if b.size*n≤140737488355328∧b.size≤maxLen then some (.own d 1 (bytesP b),.row d (e,1,b.size))else none
 |_,_=>none
theorem e_appN:eff P C (some d) (.appN e W n x y) s=appNK d e W n ((x.get s).map TV.isNil) ((y.get s).bind (TV.elems W)):=by
 simp only[eff];generalize(x.get s).map TV.isNil=a;generalize(y.get s).bind (TV.elems W)=b;cases a with
 |none=>rfl
 |some a=>cases a<;>cases b<;>rfl
theorem e_appN1{es:List (List PV)}:appNK d e W n (some true) (some es)=if es.length*n≤140737488355328∧es.length≤maxLen then some (.own d W es,.row d (e,W,es.length))else none:=rfl
theorem e_appN2{o:Option (List (List PV))}:appNK d e W n (some false) o=none:=by cases o<;>rfl
def appBK(d W n:Nat):Option Bool→Option (List (List PV))→Option (TV×Upd)
 |some true,some es2=>if es2.length*n≤140737488355328∧es2.length≤maxLen then(if es2.isEmpty then some (.pv (.v (.slice none 0 0)),.no)else some (.bs d 0 es2.length es2.length,.box (es2.flatten.map .pv)))else none
 |_,_=>none
theorem e_appB:eff P C (some d) (.appB e W n x y) s=appBK d W n ((x.get s).map TV.isNil) ((y.get s).bind (TV.elems W)):=by
 simp only[eff];generalize(x.get s).map TV.isNil=a;generalize(y.get s).bind (TV.elems W)=b;cases a with
 |none=>rfl
 |some a=>cases a<;>cases b<;>rfl
theorem e_appB1{es:List (List PV)}:appBK d W n (some true) (some es)=if es.length*n≤140737488355328∧es.length≤maxLen then(if es.isEmpty then some (.pv (.v (.slice none 0 0)),.no)else some (.bs d 0 es.length es.length,.box (es.flatten.map .pv)))else none:=rfl
theorem e_appNS:eff P C (some d) (.appNS e n x y) s=appNSK d e n ((x.get s).map TV.isNil) ((y.get s).bind TV.str):=by
 simp only[eff];generalize(x.get s).map TV.isNil=a;generalize(y.get s).bind TV.str=b;cases a with
 |none=>rfl
 |some a=>cases a<;>cases b<;>rfl
theorem e_appNS1{b:ByteArray}:appNSK d e n (some true) (some b)=if b.size*n≤140737488355328∧b.size≤maxLen then some (.own d 1 (bytesP b),.row d (e,1,b.size))else none:=rfl
theorem e_appNS2{o:Option ByteArray}:appNSK d e n (some false) o=none:=by cases o<;>rfl
def bslK(d e W:Nat):Option (List (List PV))→Option (TV×Upd)
 |some es=>if es.all (fun e=>e.length==W)then some (.own d W es,.row d (e,W,es.length))else none
 |none=>none
theorem e_bslO{xs:List Arg}:eff P C (some d) (.bslO e W xs) s=bslK d e W (seqO (fun x:Arg=>(x.get s).bind TV.pvs) xs):=by
 simp only[eff];generalize seqO (fun x:Arg=>(x.get s).bind TV.pvs) xs=b;cases b<;>rfl
theorem e_bslO1{es:List (List PV)}:bslK d e W (some es)=if es.all (fun e=>e.length==W)then some (.own d W es,.row d (e,W,es.length))else none:=rfl
def rngK(d:Nat):Option ByteArray→Option (TV×Upd)
 |some z=>some (.it d,.it d (z,0))
 |none=>none
theorem e_rng:eff P C (some d) (.rng x) s=rngK d ((x.get s).bind TV.str):=by
 simp only[eff];generalize(x.get s).bind TV.str=b;cases b<;>rfl
theorem e_rng1{b:ByteArray}:rngK d (some b)=some (.it d,.it d (b,0)):=rfl
def mksK(d n:Nat)(z:List Value):Option TV→Option (TV×Upd)
 |some (.pv (.v (.int .i64 k)))=>if 0≤k∧n*k≤140737488355328∧k≤maxLen then some (.bs d 0 k.toNat k.toNat,.box ((List.replicate k.toNat (z.map fun v=>TV.pv (.v v))).flatten))else none
 |_=>none
theorem e_mks:eff P C (some d) (.mks n z x) s=mksK d n z (x.get s):=by
 simp only[eff];unfold mksK
 grind
theorem e_mks1{k:Int}:mksK d n z (some (.pv (.v (.int .i64 k))))=if 0≤k∧n*k≤140737488355328∧k≤maxLen then some (.bs d 0 k.toNat k.toNat,.box ((List.replicate k.toNat (z.map fun v=>TV.pv (.v v))).flatten))else none:=rfl
end
end Go.Sh
namespace Go.Sh
open Go Go.RowKit
def PWk(c d:PV):Prop:=∀w K v,RelV w K c v→RelV w K d v
theorem PWk.refl(c:PV):PWk c c:=fun _ _ _ h=>h
theorem reB_lw{s:ES}{k:Nat}{cs ds:List TV}(hk:lk s.b k=some cs)(hl:cs.length=ds.length)(hw:∀(j:Nat) c d,cs[j]?=some c→ds[j]?=some d→Wk c d):(⟨s.t,sv s.b k ds,s.r,s.i⟩:ES).Lw s:=by
 intro B a w E _ _ hS;refine⟨E,?_⟩;have:=hS.reB (k:=k) (cs:=cs) (ds:=ds) hk (fun j d hd=>by
  have hj:j<cs.length:=by grind
  exact⟨_,gE hj,fun v hv=>hw j _ d (gE hj) hd _ _ _ _ hv⟩)
 grind [sv,only,ES.fs,FS.setB,lk_sv]
end Go.Sh
namespace Go.Sh
open Go Go.RowKit
end Go.Sh
namespace Go.Sh
open Go
section
variable{P:Program}{C:Oracle}{dst:Option Nat}{W l h:Nat}{x:Arg}{lo hi:Option Arg}{s:FS}{z:ByteArray}{es:List (List PV)}{c:Prop}[Decidable c]{o:Option Nat}
def ssubK(z:ByteArray):Option Nat→Option Nat→Option (TV×Upd)
 |some l,some h=>if l≤h∧h≤z.size then some (.pv (.v (.string (z.extract l h))),.no)else none
 |_,_=>none
def ssubM(s:FS)(lo hi:Option Arg):Option ByteArray→Option (TV×Upd)
 |some z=>ssubK z (bound s 0 lo) (bound s z.size hi)
 |none=>none
theorem e_ssub:eff P C dst (.ssub x lo hi) s=ssubM s lo hi ((x.get s).bind TV.str):=by
 simp only[eff];generalize(x.get s).bind TV.str=a
 grind [ssubM,ssubK,only,bound]
theorem e_ssub1:ssubM s lo hi (some z)=ssubK z (bound s 0 lo) (bound s z.size hi):=rfl
theorem e_ssub2:ssubK z (some l) (some h)=if l≤h∧h≤z.size then some (.pv (.v (.string (z.extract l h))),.no)else none:=rfl
theorem e_ssub3:ssubK z (some l) (if c then some h else none)=if c then ssubK z (some l) (some h)else none:=by split<;>rfl
theorem e_ssub4:ssubK z (if c then some l else none) o=if c then ssubK z (some l) o else none:=by
 split
 ·rfl
 ·cases o<;>rfl
def subK(W:Nat)(es:List (List PV)):Option Nat→Option Nat→Option (TV×Upd)
 |some l,some h=>if l≤h∧h≤es.length then some (.pv (.sl W ((es.take h).drop l)),.no)else none
 |_,_=>none
def subM(s:FS)(W:Nat)(lo hi:Option Arg):Option (List (List PV))→Option (TV×Upd)
 |some es=>subK W es (bound s 0 lo) (bound s es.length hi)
 |none=>none
theorem e_sub1:subM s W lo hi (some es)=subK W es (bound s 0 lo) (bound s es.length hi):=rfl
theorem e_sub2:subK W es (some l) (some h)=if l≤h∧h≤es.length then some (.pv (.sl W ((es.take h).drop l)),.no)else none:=rfl
theorem e_sub3:subK W es (some l) (if c then some h else none)=if c then subK W es (some l) (some h)else none:=by split<;>rfl
theorem e_sub4:subK W es (if c then some l else none) o=if c then subK W es (some l) o else none:=by
 split
 ·rfl
 ·cases o<;>rfl
def subT(s:FS)(W:Nat)(lo hi:Option Arg):Option TV→Option (TV×Upd)
 |some (.bs d off n c)=>match bound s 0 lo,bound s n hi with
   |some l,some h=>if l≤h∧h≤n∧n≤c then some (if c=l then .pv (.sl W [])else .bs d (off+l*W) (h-l) (c-l),.no)else none
   |_,_=>none
 |some t=>subM s W lo hi (t.elems W)
 |none=>none
theorem e_sub:eff P C dst (.sub W x lo hi) s=subT s W lo hi (x.get s):=by
 simp only[eff];generalize x.get s=a;cases a with
 |none=>rfl
 |some t=>
  have key:∀q:Option (List (List PV)),(match q with
    |some es=>match bound s 0 lo,bound s es.length hi with
     |some l,some h=>if l≤h∧h≤es.length then some (TV.pv (.sl W ((es.take h).drop l)),Upd.no)else none
     |_,_=>none
    |none=>none)=subM s W lo hi q:=by
   grind [subM,subK,bound]
  cases t with
  |bs d off n c=>rfl
  |pv p=>exact key ((TV.pv p).elems W)
  |own d W' es=>exact key ((TV.own d W' es).elems W)
  |_=>rfl
theorem e_subT1{p:PV}:subT s W lo hi (some (.pv p))=subM s W lo hi ((TV.pv p).elems W):=rfl
theorem e_subT2{d:Nat}{W':Nat}:subT s W lo hi (some (.own d W' es))=subM s W lo hi ((TV.own d W' es).elems W):=rfl
theorem e_subT3 {d off n c : Nat} : subT s W lo hi (some (.bs d off n c)) = (match bound s 0 lo, bound s n hi with
      |some l,some h=>if l≤h∧h≤n∧n≤c then some (if c=l then .pv (.sl W [])else .bs d (off+l*W) (h-l) (c-l),.no)else none
      |_,_=>none):=rfl
end
end Go.Sh
namespace Go.Sh
open Go
theorem gW_undef{w:Bool}{gs:Nat}{A B:ES→Prop}{s:ES}:guardW (some (.pv (.v undef))) w gs A B s=B s:=rfl
end Go.Sh
namespace Go.Sh
open Go
section
variable{P:Program}{C:Oracle}{dst:Option Nat}{x:Arg}{s:FS}{d p:Nat}{z:ByteArray}
def nxtM(d:Nat):Option (ByteArray×Nat)→Option (TV×Upd)
 |some (z,p)=>if p<z.size then some (.tuple [.pv (.v (.bool true)),.pv (.v (.int .i64 (p:Int))),.pv (.v (.int .i32 (Utf8.decode z p).1))],.it d (z,p+(Utf8.decode z p).2))else some (.tuple [.pv (.v (.bool false))],.no)
 |none=>none
def nxtK(s:FS):Option TV→Option (TV×Upd)
 |some (.it d)=>nxtM d (s.i d)
 |_=>none
theorem e_nxt:eff P C dst (.nxt x) s=nxtK s (x.get s):=by
 simp only[eff];generalize x.get s=a;cases a with
 |none=>rfl
 |some t=>
  cases t<;>rfl
theorem e_nxt1:nxtK s (some (.it d))=nxtM d (s.i d):=rfl
theorem e_nxt2:nxtM d (some (z,p))=if p<z.size then some (.tuple [.pv (.v (.bool true)),.pv (.v (.int .i64 (p:Int))),.pv (.v (.int .i32 (Utf8.decode z p).1))],.it d (z,p+(Utf8.decode z p).2))else some (.tuple [.pv (.v (.bool false))],.no):=rfl
end
theorem s_ite2{P:Program}{o:SOper}{K:ES→Prop}{s:ES}{c:Prop}[Decidable c]{a b:TV×Upd}:stepW P o K s (if c then some a else some b)=((c→K (s.after o a))∧(¬c→K (s.after o b))):=by
 grind [stepW]
end Go.Sh
namespace Go.Sh
open Go Go.RowKit
theorem nc_lkp(b:Bool)(z:Value)(x i:Arg):(SOp.lkp b z x i).isCall=false:=rfl
theorem nc_mkI(t:TypeId)(x:Arg):(SOp.mkI t x).isCall=false:=rfl
theorem nc_fnil(b:Bool)(x:Arg):(SOp.fnil b x).isCall=false:=rfl
section
variable{P:Program}{C:Oracle}{dst:Option Nat}{x:Arg}{s:FS}{ne:Bool}
def fnilK(ne:Bool)(x:Option TV):Option (TV×Upd):=(x.bind TV.fnil).map fun b=>(.pv (.v (.bool (b !=ne))),.no)
theorem e_fnil:eff P C dst (.fnil ne x) s=fnilK ne (x.get s):=rfl
theorem e_fnil1{f:Fn}{a b:List TV}:fnilK true (some (.fn f a b))=some (.pv (.v (.bool true)),.no):=rfl
theorem e_fnil2{f:Fn}{a b:List PV}:fnilK true (some (.pv (.fn f a b)))=some (.pv (.v (.bool true)),.no):=rfl
theorem e_fnil3:fnilK true (some (.pv (.v .nilFunc)))=some (.pv (.v (.bool false)),.no):=rfl
theorem e_fnil4{f:Fn}{a b:Array Value}:fnilK true (some (.pv (.v (.func f a b))))=some (.pv (.v (.bool true)),.no):=rfl
end
theorem nc_pan(x:Arg):(SOp.pan x).isCall=false:=rfl
section
variable{P:Program}{C:Oracle}{dst:Option Nat}{x i:Arg}{s:FS}{b:Bool}{z:Value}
def lkpJ(z:Value)(xs:List TV):Option (Option Nat)→Option (TV×Upd)
 |some (some j)=>(xs[j]?).map fun t=>(t,.no)
 |some none=>some (zeroT z,.no)
 |none=>none
def lkpK(b:Bool)(z:Value):Option TV→Option Value→Option (TV×Upd)
 |some (.mp ks xs),some k=>lkpJ z xs (findKs (kdOf b) k ks 0)
 |_,_=>none
theorem e_lkp:eff P C dst (.lkp b z x i) s=lkpK b z (x.get s) ((i.get s).bind TV.val1):=by
 simp only[eff]
 grind [TV.val1,lkpK,lkpJ,only,findKs,kdOf]
theorem e_lkp1{ks:List Value}{xs:List TV}{k:Value}:lkpK b z (some (.mp ks xs)) (some k)=lkpJ z xs (findKs (kdOf b) k ks 0):=rfl
theorem e_lkp2{xs:List TV}{j:Nat}:lkpJ z xs (some (some j))=(xs[j]?).map fun t=>(t,.no):=rfl
theorem e_lkp3{xs:List TV}:lkpJ z xs (some none)=some (zeroT z,.no):=rfl
end
section
variable{P:Program}{g:Glob}{Q:SExit→ES→Prop}{K:ES→Prop}{s s':ES}{l:List SOper}{D:List Nat}{R:Value→ES→Prop}
theorem v_then_p{z:Value}:thenW K Q (.pan z) s=Q (.pan z) s:=rfl
theorem v_blk_p{id:Nat}{z:Value}:blockW id Q (.pan z) s=Q (.pan z) s:=rfl
def panK(Q:SExit→ES→Prop)(z:Value)(s:ES):Prop:=Q (.pan z) s
@[congr] theorem panK_congr {z:Value} (h:s=s'):panK Q z s=panK Q z s':=by rw[h]
theorem v_panK{z:Value}:panK Q z s=Q (.pan z) s:=rfl
@[congr] theorem opsP_congr (h:s=s'):opsP P g D l R s=opsP P g D l R s':=by rw[h]
def stepP(P:Program)(g:Glob)(D:List Nat)(l:List SOper)(R:Value→ES→Prop)(o:SOper)(s:ES):Option (TV×Upd)→Prop
 |some e=>opsP P g D l R (s.after o e)
 |none=>False
@[congr] theorem stepP_congr {o:SOper} {e e':Option (TV×Upd)} (h:e=e'):stepP P g D l R o s e=stepP P g D l R o s e':=by rw[h]
theorem sp_some{o:SOper}{e:TV×Upd}:stepP P g D l R o s (some e)=opsP P g D l R (s.after o e):=rfl
theorem sp_get{α:Type}{o:SOper}{xs:List α}{k:Nat}{f:α→TV×Upd}:stepP P g D l R o s (Option.map f xs[k]?)=(k<xs.length∧∀b,xs[k]?=some b→opsP P g D l R (s.after o (f b))):=by
 grind [Nat.lt_or_ge,List.getElem?_eq_getElem,stepP,List.getElem?_eq_none,Nat.not_lt]
theorem sp_ite{o:SOper}{c:Prop}[Decidable c]{x:Option (TV×Upd)}:stepP P g D l R o s (if c then x else none)=(c∧stepP P g D l R o s x):=by
 grind [stepP]
theorem vq_n{n kill:List Nat}{r:List (List Nat×List SOper)}(h:opsW P g l (regK Q kill) (s.fgt n)):swp P g (.regq ((n,l)::r) kill) Q s:=.inl ⟨_,List.mem_cons_self ..,h⟩
theorem vq_p{n kill:List Nat}{r:List (List Nat×List SOper)}(h:opsP P g (dstOps l) l (panK Q) (s.fgt n)):swp P g (.regq ((n,l)::r) kill) Q s:=.inr ⟨_,List.mem_cons_self ..,h⟩
theorem vp_pan{dst fp:Option Nat}{x:Arg}{t:TypeId}{v:Value}(hx:x.get s.fs=some (.pv (.v (.iface t v))))(hk:R (.iface t v) (s.kill D)):opsP P g D (⟨dst,none,fp,.pan x⟩::l) R s:=
 .inl ⟨rfl,.iface t v,.no,⟨rfl,hx,⟨t,v,rfl⟩,rfl⟩,hk⟩
theorem z111{dst fp:Option Nat}{f m:Nat}{xs:List Arg}{xs':List TV}{I:List Nat}{os os':List MO}{z:Value}{us:List (Nat×MO)}(hm:Nat.beq m 3=true)(hx:callIn s m xs=some (xs',os,I))(hc:SPan P g f xs' os z os')(hmo:moOk os os'=true)(hs:outs (rhoOut I (dstId dst)) 0 os'=some us)(hk:R z ((s.upd dst (.mem us)).kill D)):
  opsP P g D (⟨dst,none,fp,.call f m xs⟩::l) R s:=by
 unfold callIn at hx;split at hx
 ·rename_i args ha;split at hx
  ·rename_i a1 a2 h1 h2;cases hx;exact .inl ⟨hm,z,.mem us,⟨rfl,args,ha,_,_,os',us,h1,h2,hc,hmo,hs,rfl⟩,hk⟩
  ·cases hx
 ·cases hx
theorem vp_ret{dst fp:Option Nat}{f m:Nat}{xs:List Arg}{xs':List TV}{I:List Nat}{os os':List MO}{y:TV}(hx:callIn s m xs=some (xs',os,I))(hfp:fpOk fp I=true)(hc:SCalls P g f xs' os y os')(hmo:moOk os os'=true)(hs:callOut s dst I y os'=some s')(hk:opsP P g D l R s'):
  opsP P g D (⟨dst,none,fp,.call f m xs⟩::l) R s:=by
 have h:opsW P g [⟨dst,none,fp,.call f m xs⟩] (opsP P g D l R) s:=v_call hx hfp hc hmo hs hk;obtain⟨C,hC,e,he,hk⟩:=h;exact .inr ⟨C,hC,e,he,hk⟩
end
def PostP(keep:Bool)(n:Nat)(z:Value)(os':List MO):SExit→ES→Prop
 | .pan z',s=>z'=z∧exitR [] keep n s=some (.tuple [],os')
 |_,_=>False
theorem pan_of{P:Program}{g:Glob}{f:Nat}{H:Nat→Option Nat→Nat}{Fp:Nat→List (Nat→Option Nat)}{K:Nat→List Nat}{keep:Bool}{F:SFunc}(hmix:P.follows .mixedOrders=true)(hF:z36 P f H Fp K keep=some F){xs:List TV}{os os':List MO}{z:Value}(hn:Nat.ble xs.length F.N=true)(hos:Nat.ble os.length 1000=true)(hmo:moOk os os'=true)
  (h:swp P g F.code (PostP keep os.length z os') (startE xs os)):SPan P g f xs os z os':=
 pan_of_swp hmix hF (Nat.le_of_ble_eq_true hn) (Nat.le_of_ble_eq_true hos) hmo (z63 h fun e s he=>by
  cases e with
  |pan z'=>exact⟨by rw[he.1],he.2⟩
  |_=>exact he.elim)
end Go.Sh
namespace Go.Sh
open Go Go.RowKit
theorem np_mov(x:Arg):mayPan (SOp.mov x)=false:=rfl
theorem np_pick(c a b:Arg):mayPan (SOp.pick c a b)=false:=rfl
theorem np_bin(op:BinOp)(t:TypeId)(x y:Arg):mayPan (SOp.bin op t x y)=false:=rfl
theorem np_un(op:UnOp)(x:Arg):mayPan (SOp.un op x)=false:=rfl
theorem np_cvi(k:IntKind)(x:Arg):mayPan (SOp.cvi k x)=false:=rfl
theorem np_cvs(x:Arg):mayPan (SOp.cvs x)=false:=rfl
theorem np_b2s(x:Arg):mayPan (SOp.b2s x)=false:=rfl
theorem np_imm(mx:Bool)(x y:Arg):mayPan (SOp.imm mx x y)=false:=rfl
theorem np_sidx(x i:Arg):mayPan (SOp.sidx x i)=false:=rfl
theorem np_ssub(x:Arg)(lo hi:Option Arg):mayPan (SOp.ssub x lo hi)=false:=rfl
theorem np_slen(x:Arg):mayPan (SOp.slen x)=false:=rfl
theorem np_new(z:List Value):mayPan (SOp.new z)=false:=rfl
theorem np_box(x:Arg):mayPan (SOp.box x)=false:=rfl
theorem np_build(z:List Value)(ps:List (Nat×Nat×Arg)):mayPan (SOp.build z ps)=false:=rfl
theorem np_bsl(W:Nat)(xs:List Arg):mayPan (SOp.bsl W xs)=false:=rfl
theorem np_bslO(e W:Nat)(xs:List Arg):mayPan (SOp.bslO e W xs)=false:=rfl
theorem np_fld(a:Bool)(o n:Nat)(x:Arg):mayPan (SOp.fld a o n x)=false:=rfl
theorem np_fldA(o:Nat)(x:Arg):mayPan (SOp.fldA o x)=false:=rfl
theorem np_ld(a:Bool)(n:Nat)(x:Arg):mayPan (SOp.ld a n x)=false:=rfl
theorem np_st(n:Nat)(x y:Arg):mayPan (SOp.st n x y)=false:=rfl
theorem np_len(x:Arg):mayPan (SOp.len x)=false:=rfl
theorem np_idxA(W:Nat)(x i:Arg):mayPan (SOp.idxA W x i)=false:=rfl
theorem np_sub(W:Nat)(x:Arg)(lo hi:Option Arg):mayPan (SOp.sub W x lo hi)=false:=rfl
theorem np_app(e W n:Nat)(x y:Arg):mayPan (SOp.app e W n x y)=false:=rfl
theorem np_appS(e n:Nat)(x y:Arg):mayPan (SOp.appS e n x y)=false:=rfl
theorem np_appN(e W n:Nat)(x y:Arg):mayPan (SOp.appN e W n x y)=false:=rfl
theorem np_appNS(e n:Nat)(x y:Arg):mayPan (SOp.appNS e n x y)=false:=rfl
theorem np_appB(e W n:Nat)(x y:Arg):mayPan (SOp.appB e W n x y)=false:=rfl
theorem np_ext(x:Arg)(i:Nat):mayPan (SOp.ext x i)=false:=rfl
theorem np_nchk(x:Arg):mayPan (SOp.nchk x)=false:=rfl
theorem np_mkf(f:Fn)(a b:List Arg):mayPan (SOp.mkf f a b)=false:=rfl
theorem np_rng(x:Arg):mayPan (SOp.rng x)=false:=rfl
theorem np_nxt(x:Arg):mayPan (SOp.nxt x)=false:=rfl
theorem np_mks(n:Nat)(z:List Value)(x:Arg):mayPan (SOp.mks n z x)=false:=rfl
theorem np_lkp(b:Bool)(z:Value)(x i:Arg):mayPan (SOp.lkp b z x i)=false:=rfl
theorem np_mkI(t:TypeId)(x:Arg):mayPan (SOp.mkI t x)=false:=rfl
theorem np_fnil(b:Bool)(x:Arg):mayPan (SOp.fnil b x)=false:=rfl
section
variable{P:Program}{g:Glob}{l:List SOper}{D:List Nat}{R:Value→ES→Prop}{s:ES}
theorem vp_opE{dst fp:Option Nat}{op:SOp}(h:op.isCall=false)(hm:mayPan op=false):opsP P g D (⟨dst,none,fp,op⟩::l) R s=stepP P g D l R ⟨dst,none,fp,op⟩ s (effG P noC ⟨dst,none,fp,op⟩ s.fs):=by
 apply propext;constructor
 ·rintro(⟨h1,_⟩|⟨C,hC,e,he,hk⟩)
  ·grind
  ·rw[effG_noC h]at he;rw[he];exact hk
 ·intro hk;cases he:effG P noC ⟨dst,none,fp,op⟩ s.fs with
  |none=>rw[he]at hk;exact hk.elim
  |some e=>rw[he]at hk;exact .inr ⟨noC,noC_sound P g,e,he,hk⟩
def panW(x:Option TV)(D:List Nat)(R:Value→ES→Prop)(s:ES):Prop:=match x with
 |some (.pv (.v (.iface t v)))=>R (.iface t v) (s.kill D)
 |_=>False
@[congr] theorem panW_congr {x x':Option TV} (h:x=x'):panW x D R s=panW x' D R s:=by rw[h]
theorem panW1{t:TypeId}{v:Value}:panW (some (.pv (.v (.iface t v)))) D R s=R (.iface t v) (s.kill D):=rfl
theorem vp_panE{dst fp:Option Nat}{x:Arg}:opsP P g D (⟨dst,none,fp,.pan x⟩::l) R s=panW (x.get s.fs) D R s:=by
 apply propext;constructor
 ·rintro(⟨_,z,u,⟨_,h2,⟨t,v,rfl⟩,rfl⟩,hk⟩|⟨C,hC,e,he,_⟩)
  ·rw[h2];exact hk
  ·simp only[effG,effF]at he;split at he
   ·cases he
   ·cases he
 ·intro h;unfold panW at h
  grind [vp_pan]
end
end Go.Sh
end

section
namespace Go.Sh
open Go Go.RowKit
section
def insAt(ops:Array Oper)(t m i:Nat):Option (Operand×Operand):=match ops[i]? with
 |some o=>match o.op,o.dst,o.guard with
  | .insert t' (.tmp m') k x,none,none=>if Nat.beq t t'&&Nat.beq m m' then some (k,x)else none
  |_,_,_=>none
 |none=>none
def insAll(ops:Array Oper)(t m:Nat):List Nat→Option (List (Operand×Operand))
 |[]=>some []
 |i::l=>match insAt ops t m i,insAll ops t m l with
  |some p,some r=>some (p::r)
  |_,_=>none
def freshK(kd:TypeDesc):List Value→List Value→Bool
 |_,[]=>true
 |ks,k::l=>(match findKs kd k ks 0 with|some none=>true|_=>false)&&freshK kd (ks++[k]) l
structure MapTurn(b:Nat)(w w':World):Prop where
 os:w'.os=w.os
 tape:w'.tape=w.tape
 output:w'.output=w.output
 size:w'.heap.size=w.heap.size
 block:∀k,k≠b→w'.heap[k]?=w.heap[k]?
theorem MapTurn.refl(b:Nat)(w:World):MapTurn b w w:=⟨rfl,rfl,rfl,rfl,fun _ _=>rfl⟩
theorem MapTurn.trans{b:Nat}{w w' w'':World}(h:MapTurn b w w')(h':MapTurn b w' w''):MapTurn b w w'':=
 ⟨h'.os.trans h.os,h'.tape.trans h.tape,h'.output.trans h.output,h'.size.trans h.size,fun k hk=>(h'.block k hk).trans (h.block k hk)⟩
section
variable{P:Program}{ops:Array Oper}{Q:Exit→Act→World→Prop}{a:Act}{w:World}{t kt et:TypeId}{text:Bool}{m b:Nat}
theorem run_ins{es:Array MapEntry}{clock:Nat}{k v:Value}(ht:P.underlying t=some (.map kt et))(hk:P.underlying kt=some (kdOf text))(hb:w.heap[b]?=some (.map es clock))(hf:findKs (kdOf text) k (es.toList.map MapEntry.key) 0=some none):
  ∃w',(Instr.mapUpdate t (.map (some b)) k v).run P w=.ok () w'∧MapTurn b w w'∧w'.heap[b]?=some (.map (es.push { key:=k,val:=v,born:=clock }) (clock+1)):=by
 have hget:=Go.MapKept.run_getObj_map (P:=P) hb;have h1:=findKs_none _ _ hf;have hset:=fun o=>Go.MapKept.run_setObj_map (P:=P) o hb;refine⟨{ w with heap:=w.heap.setIfInBounds b (.map (es.push { key:=k,val:=v,born:=clock }) (clock+1)) },by simp[Instr.mapUpdate,run_underlying ht,hget,checkKey_kd text _ _ hk,Instr.findKey,run_underlying hk,h1,hset,Result.andThen],⟨rfl,rfl,rfl,by simp,fun j hj=> ?_⟩,?_⟩
 ·grind
 ·grind
theorem wp_insAll(ht:P.underlying t=some (.map kt et))(hk:P.underlying kt=some (kdOf text))(hm:a.eval (.tmp m)=.map (some b)):∀(l:List Nat) (kvs:List (Operand×Operand)) (rest:List Nat) (w:World) (es:Array MapEntry) (clock:Nat),insAll ops t m l=some kvs→w.heap[b]?=some (.map es clock)→freshK (kdOf text) (es.toList.map MapEntry.key) (kvs.map fun p=>a.eval p.1)=true→
  (∀(es':Array MapEntry) (clock':Nat) (w':World),MapTurn b w w'→w'.heap[b]?=some (.map es' clock')→es'.toList.map MapEntry.key=es.toList.map MapEntry.key++(kvs.map fun p=>a.eval p.1)→es'.toList.map MapEntry.val=es.toList.map MapEntry.val++(kvs.map fun p=>a.eval p.2)→wpOps P ops Q rest a w')→
  wpOps P ops Q (l++rest) a w
 |[],kvs,rest,w,es,clock,h,hb,hf,hK=>by
  simp only[insAll,Option.some.injEq]at h;subst h;exact hK es clock w (.refl b w) hb (by simp) (by simp)
 |i::l,kvs,rest,w,es,clock,h,hb,hf,hK=>by
  simp only[insAll]at h;split at h<;>try(cases h;done)
  rename_i p r hp hr;cases h;simp only[List.map_cons,freshK,Bool.and_eq_true]at hf;have hf1:findKs (kdOf text) (a.eval p.1) (es.toList.map MapEntry.key) 0=some none:=by
   grind
  unfold insAt at hp;split at hp<;>try(cases hp;done)
  rename_i o ho;split at hp<;>try(cases hp;done)
  rename_i t' m' k x hop hdst hg;split at hp<;>try(cases hp;done)
  rename_i htm;rw[Bool.and_eq_true]at htm;obtain rfl:=Nat.eq_of_beq_eq_true htm.1;obtain rfl:=Nat.eq_of_beq_eq_true htm.2;cases hp;obtain⟨w1,hrun,hturn,hb1⟩:=run_ins (P:=P) (v:=a.eval x) ht hk hb hf1;rw[List.cons_append,wpOps_cons];unfold wpOp;simp only[ho];rw[if_pos (by simp[Region.wanted,hg])];refine .inl ?_;unfold Oper.wp;have hex:(execOp a.eval o).run P w=.ok .skip w1:=by simp[execOp,hop,hm,hrun,Result.andThen]
  rw[hex];show wpOps P ops Q (l++rest) (a.put o.dst undef) w1;rw[hdst];refine wp_insAll ht hk hm l r rest w1 _ _ hr hb1 (by grind) (fun es' clock' w' h1 h2 h3 h4=>hK es' clock' w' (hturn.trans h1) h2 (by grind) (by grind))
theorem z102{i:Nat}{o:Oper}{v:Value}{w':World}{K:Act→World→Prop}(ho:ops[i]?=some o)(hg:o.guard=none)(hr:(execOp a.eval o).run P w=.ok (.value v) w')(hk:K (a.put o.dst v) w'):wpOp P ops Q i K a w:=by
 unfold wpOp;simp only[ho];rw[if_pos (by simp[Region.wanted,hg])];refine .inl ?_;unfold Oper.wp;rw[hr];exact hk
end
end
def genOp(P:Program)(o:Oper)(h:Nat):Option SOp:=
 match o.op with
 | .move x| .assign x=>some (.mov (.of x))
 | .pick c a b=>some (.pick (.of c) (.of a) (.of b))
 | .alloc e=>match P.info? e with
  |some i=>match i.zero with
   |some z=>if true then some (.new z.cells.toList)else none
   |none=>none
  |none=>none
 | .box _ x=>some (.box (.of x))
 | .build t parts=>match P.info? t,P.underlying t with
  |some i,some (.struct fs)=>match i.zero with
   |some z=>if true then((seqO (fun p:Nat×Operand=>match fs[p.1]? with
     |some f=>(P.info? f.type).map fun j=>(f.offset,j.size,Arg.of p.2)
     |none=>none) parts.toList).map fun ps=> .build z.cells.toList ps)else none
   |none=>none
  |some i,some (.array _ e)=>match i.zero,P.info? e with
   |some z,some j=>if true then some (.build z.cells.toList (parts.toList.map fun p=>(p.1*j.size,j.size,Arg.of p.2)))else none
   |_,_=>none
  |_,_=>none
 | .buildSlice t len parts=>match P.underlying t with
  |some (.slice e)=>match P.info? e with
   |some i=>match i.zero with
    |some z=>if true then some (if Nat.beq h 1 then .bslO e i.size (parts.toList.map fun p=>Arg.of p.2)else .bsl i.size (parts.toList.map fun p=>Arg.of p.2))else none
    |none=>none
   |none=>none
  |_=>none
 | .load t x=>match P.underlying t,P.info? t with
  |some d,some i=>some (if d.isRow then .ld true i.size (.of x)else .ld false 1 (.of x))
  |_,_=>none
 | .store t x y=>match P.info? t with
  |some i=>some (.st i.size (.of x) (.of y))
  |none=>none
 | .nilCheck x=>some (.nchk (.of x))
 | .binOp op t x y _=>match y,op,P.underlying t with
  | .const .nilFunc,.eql,some (.func _ _ _)=>some (.fnil false (.of x))
  | .const .nilFunc,.neq,some (.func _ _ _)=>some (.fnil true (.of x))
  |_,_,_=>some (.bin op t (.of x) (.of y))
 | .unOp op _ x=>some (.un op (.of x))
 | .convert src dst x=>match P.underlying src,P.underlying dst with
  |some (.int _),some (.int k)=>some (.cvi k (.of x))
  |some .string,some .string=>some (.cvs (.of x))
  |some (.slice e),some .string=>match P.underlying e with
   |some (.int .u8)=>some (.b2s (.of x))
   |_=>none
  |_,_=>none
 | .slice t x lo hi none=>match P.underlying t with
  |some .string=>some (.ssub (.of x) (lo.map .of) (hi.map .of))
  |some (.slice e)=>match P.info? e with
   |some i=>some (.sub i.size (.of x) (lo.map .of) (hi.map .of))
   |none=>none
  |_=>none
 | .fieldAddr t x f=>match P.underlying t with
  |some (.struct fs)=>match fs[f]? with
   |some fd=>match P.info? fd.type with
    |some i=>if i.size=0 then none else some (.fldA fd.offset (.of x))
    |none=>none
   |none=>none
  |_=>none
 | .field t x f=>match P.underlying t with
  |some (.struct fs)=>match fs[f]? with
   |some fd=>match P.info? fd.type,P.underlying fd.type with
    |some i,some d=>some (.fld d.isRow fd.offset i.size (.of x))
    |_,_=>none
   |none=>none
  |_=>none
 | .indexAddr t x i=>match P.underlying t with
  |some (.slice e)=>match P.info? e with
   |some j=>some (.idxA j.size (.of x) (.of i))
   |none=>none
  |some (.array n e)=>match i,P.info? e with
   | .const (.int _ k),some j=>if 0≤k∧k<n then some (.fldA (k.toNat*j.size) (.of x))else none
   |_,_=>none
  |_=>none
 | .index t x i=>match P.underlying t with
  |some .string=>some (.sidx (.of x) (.of i))
  |_=>none
 | .lookup t x i false=>match P.underlying t with
  |some (.map k e)=>match P.info? e with
   |some j=>match j.zero with
    |some z=>if true then(match P.underlying k with
      |some .string=>some (.lkp true z (.of x) (.of i))
      |some (.int .i64)=>some (.lkp false z (.of x) (.of i))
      |_=>none)else none
    |none=>none
   |none=>none
  |_=>none
 | .makeInterface t x=>match P.underlying t with
  |some (.interface _)=>none
  |some _=>some (.mkI t (.of x))
  |none=>none
 | .panic x=>some (.pan (.of x))
 | .extract x i=>some (.ext (.of x) i)
 | .makeFunc f a b=>some (.mkf f (a.toList.map .of) (b.toList.map .of))
 | .range t x=>match P.underlying t with
  |some .string=>some (.rng (.of x))
  |_=>none
 | .next x true=>some (.nxt (.of x))
 | .makeSlice t l c=>match P.underlying t,l,c with
  |some (.slice e),.tmp a,.tmp b=>if Nat.beq a b then match P.info? e with
   |some i=>match i.zero with
    |some z=>if true then some (.mks i.bytes z.cells.toList (.tmp a))else none
    |none=>none
   |none=>none else none
  |_,_,_=>none
 | .call { callee:=.builtin .len,args,argTypes }=>match argTypes.toList,args.toList with
  |[t],[x]=>match P.underlying t with
   |some (.slice _)=>some (.len (.of x))
   |some .string=>some (.slen (.of x))
   |_=>none
  |_,_=>none
 | .call { callee:=.builtin .min,args,argTypes }=>match args.toList,argTypes.toList with
  |[x,y],[t,_]=>match P.underlying t with
   |some (.int .i64)=>some (.imm false (.of x) (.of y))
   |_=>none
  |_,_=>none
 | .call { callee:=.builtin .max,args,argTypes }=>match args.toList,argTypes.toList with
  |[x,y],[t,_]=>match P.underlying t with
   |some (.int .i64)=>some (.imm true (.of x) (.of y))
   |_=>none
  |_,_=>none
 | .call { callee:=.builtin .append,args,argTypes }=>match args.toList,argTypes.toList with
  |[x,y],[t,tx]=>match P.underlying t with
   |some (.slice e)=>match P.info? e with
    |some i=>match i.zero with
     |some z=>if true then
       match P.underlying tx with
       |some (.slice _)=>some (if Nat.beq h 2 then .appB e i.size i.bytes (.of x) (.of y)else if Nat.beq h 1 then .appN e i.size i.bytes (.of x) (.of y)else .app e i.size i.bytes (.of x) (.of y))
       |some .string=>if i.size=1 then some (if Nat.beq h 1 then .appNS e i.bytes (.of x) (.of y)else .appS e i.bytes (.of x) (.of y))else none
       |_=>none
      else none
     |none=>none
    |none=>none
   |_=>none
  |_,_=>none
 | .call { callee:=.value (.func f),args,argTypes:=_ }=>match P.funcs[f]? with
  |some fn=>if true then some (.call f h (args.toList.map .of))else none
  |none=>none
 | .call { callee:=.value (.tmp t),args,argTypes:=_ }=>some (.callv (.tmp t) h (args.toList.map .of))
 |_=>none
def lnth{α:Type}:List α→Nat→Option α
 |[],_=>none
 |x::_,0=>some x
 |_::l,n+1=>lnth l n
def genGuard(ops:List Oper):Option (Nat×Bool)→Option (Nat×Bool)
 |none=>none
 |some (j,want)=>match lnth ops j with
  |some o=>match o.dst with
   |some d=>some (d,want)
   |none=>none
  |none=>none
def genOps(P:Program)(H:Option Nat→Nat)(fps:Nat→Option Nat)(ops:List Oper):Nat→List Oper→List SOper
 |_,[]=>[]
 |j,o::l=>match genOp P o (H o.dst)with
  |some op=>⟨o.dst,genGuard ops o.guard,fps j,op⟩::genOps P H fps ops (j+1) l
  |none=>genOps P H fps ops (j+1) l
def genNews:List SOper→List Nat
 |[]=>[]
 |x::l=>x.news++genNews l
def genApp:List Oper→Bool
 |[]=>false
 |o::l=>match o.op with
  | .call { callee:=.builtin .append, .. }=>true
  |_=>genApp l
def genFs(P:Program)(H:Nat→Option Nat→Nat)(ops:List Oper)(app:Bool):List (Nat→Option Nat)→List (List Nat×List SOper)
 |[]=>[]
 |F::r=>match app with
  |true=>(genNews (genOps P (H 0) F ops 0 ops),genOps P (H 0) F ops 0 ops)::(genNews (genOps P (H 1) F ops 0 ops),genOps P (H 1) F ops 0 ops)::genFs P H ops app r
  |false=>(genNews (genOps P (H 0) F ops 0 ops),genOps P (H 0) F ops 0 ops)::genFs P H ops app r
def genCode(P:Program)(H:Nat→Option Nat→Nat)(Fp:Nat→List (Nat→Option Nat))(K:Nat→List Nat):Code→SCode
 | .skip=> .skip
 | .region id ops _=>match has (K id) 9999 with
  |true=> .regq (genFs P H ops.toList (genApp ops.toList) (Fp id)) (K id)
  |false=> .reg (genFs P H ops.toList (genApp ops.toList) (Fp id)) (K id)
 | .seq a b=> .seq (genCode P H Fp K a) (genCode P H Fp K b)
 | .cond c a b=> .cond (Arg.of c) (genCode P H Fp K a) (genCode P H Fp K b)
 | .block id a=> .block id (genCode P H Fp K a)
 | .loop a=> .loop (genCode P H Fp K a)
 | .exit id=> .exit id
 | .ret=> .ret
 |_=> .skip
def genF(P:Program)(f:Nat)(H:Nat→Option Nat→Nat)(Fp:Nat→List (Nat→Option Nat))(K:Nat→List Nat):SCode:=match lnth P.funcs.toList f with
 |some fn=>match fn.body with
  |some c=>genCode P H Fp K c
  |none=> .skip
 |none=> .skip
def exUp:Nat→Nat→List Nat
 |_,0=>[]
 |a,n+1=>a::exUp (a+1) n
def exO(a:Nat):List Nat:=match Nat.ble 2000000 a with
 |true=>[a-2000000]
 |false=>match Nat.ble 1000 a with
  |true=>match Nat.ble 1000000 a with
   |true=>exUp 0 (a%1000+1)
   |false=>exUp (a / 1000) (a%1000+1-a / 1000)
  |false=>[a]
def exR:List Nat→List Nat
 |a::l=>exO a++exR l
 |_=>[]
def exK:Nat→List (List Nat)→List (Nat×List Nat)
 |_,[]=>[]
 |n,x::l=>(n,exR x)::exK (n+1) l
structure GA where
 f:Nat
 N:Nat
 h:List (Nat×Nat)
 p:List (Nat×List (List (Nat×Nat)))
 k:List (List Nat)
 r:List SRes
 e:Bool
abbrev gD(P:Program)(a:GA):SFunc:=⟨a.N,genF P a.f (hintT a.h) (fpT a.p) (killT (exK 0 a.k)),a.r,a.e⟩
abbrev gT(P:Program)(a:GA):Prop:=z36 P a.f (hintT a.h) (fpT a.p) (killT (exK 0 a.k)) a.e=some (gD P a)
theorem iOf(n:Nat):Int.ofNat (no_index (OfNat.ofNat n))=OfNat.ofNat n:=rfl
theorem u8f(n:Nat)(h:n<2 ^ 8):UInt8.ofBitVec (BitVec.ofFin ⟨n,h⟩)=UInt8.ofNat n:=by
 apply UInt8.toNat_inj.1;show n=(UInt8.ofNat n).toNat
 grind [UInt8.toNat_ofNat',Nat.mod_eq_of_lt]
theorem u8h(n:Nat):UInt8.ofBitVec (BitVec.ofNat 8 n)=UInt8.ofNat n:=rfl
theorem u8g(n:Nat):UInt8.ofNat (no_index (OfNat.ofNat n))=OfNat.ofNat n:=rfl
theorem arO{α:Type}(l:List α):Array.mk l=l.toArray:=rfl
end Go.Sh
end

section
namespace Go.Sh
abbrev oD(d:Nat)(x:SOp):SOper:=⟨some d,none,none,x⟩
abbrev oG(d g:Nat)(b:Bool)(x:SOp):SOper:=⟨some d,some (g,b),none,x⟩
abbrev oN(x:SOp):SOper:=⟨none,none,none,x⟩
abbrev vI(n:Int):Arg:=.val (.int .i64 n)
abbrev zV:List Value:=[.int .i64 0,.int .i64 0,.string ⟨#[]⟩,.slice none 0 0]
abbrev oM(d x:Nat):SOper:=⟨some d,none,none,.mov (.tmp x)⟩
abbrev oH(d g:Nat)(b:Bool)(x:Nat):SOper:=⟨some d,some (g,b),none,.mov (.tmp x)⟩
abbrev oP(d x y:Nat)(b:Bool):SOper:=⟨some d,none,none,.pick (.tmp x) (.tmp y) (.val (.bool b))⟩
abbrev oQ(d x y:Nat)(b:Bool):SOper:=⟨some d,none,none,.pick (.tmp x) (.val (.bool b)) (.tmp y)⟩
abbrev oL(d:Nat)(b:Bool)(n x:Nat):SOper:=⟨some d,none,none,.ld b n (.tmp x)⟩
def SCode.kl:SCode→List (List Nat)
  | .reg _ k=>[k]
  | .regq _ k=>[k]
  | .seq a b=>a.kl++b.kl
  | .cond _ a b=>a.kl++b.kl
  | .block _ a=>a.kl
  | .loop a=>a.kl
  |_=>[]
def klN:Nat→List (List Nat)→List (Nat×List Nat)
  |_,[]=>[]
  |n,k::r=>(n,k)::klN (n+1) r
end Go.Sh
namespace Go.Sh
abbrev kA(d o x:Nat):SOper:=⟨some d,none,none,.fldA o (.tmp x)⟩
abbrev kS(n x y:Nat):SOper:=⟨none,none,none,.st n (.tmp x) (.tmp y)⟩
abbrev kK(d:Nat)(o:BinOp)(t x:Nat)(n:Int):SOper:=⟨some d,none,none,.bin o t (.tmp x) (vI n)⟩
abbrev kB(d:Nat)(o:BinOp)(t x y:Nat):SOper:=⟨some d,none,none,.bin o t (.tmp x) (.tmp y)⟩
abbrev kT(d:Nat)(b:Bool):SOper:=⟨some d,none,none,.mov (.val (.bool b))⟩
abbrev kI(d:Nat)(n:Int):SOper:=⟨some d,none,none,.mov (vI n)⟩
abbrev kL(d g:Nat)(b a:Bool)(n x:Nat):SOper:=⟨some d,some (g,b),none,.ld a n (.tmp x)⟩
abbrev kF(d g:Nat)(b:Bool)(o x:Nat):SOper:=⟨some d,some (g,b),none,.fldA o (.tmp x)⟩
abbrev kG(d g:Nat)(b:Bool)(o:BinOp)(t x:Nat)(n:Int):SOper:=⟨some d,some (g,b),none,.bin o t (.tmp x) (vI n)⟩
abbrev kH(d g:Nat)(b:Bool)(o:BinOp)(t x y:Nat):SOper:=⟨some d,some (g,b),none,.bin o t (.tmp x) (.tmp y)⟩
abbrev kC(d f m x:Nat):SOper:=⟨some d,none,none,.call f m [.tmp x]⟩
abbrev kD(d f m x y:Nat):SOper:=⟨some d,none,none,.call f m [.tmp x,.tmp y]⟩
abbrev kE(d f m x y z:Nat):SOper:=⟨some d,none,none,.call f m [.tmp x,.tmp y,.tmp z]⟩
abbrev kX(d w x y:Nat):SOper:=⟨some d,none,none,.idxA w (.tmp x) (.tmp y)⟩
abbrev kY(d x i:Nat):SOper:=⟨some d,none,none,.ext (.tmp x) i⟩
abbrev kZ(d x:Nat):SOper:=⟨some d,none,none,.len (.tmp x)⟩
abbrev kO(d x:Nat):SOper:=⟨some d,none,none,.box (.tmp x)⟩
abbrev kN(d x:Nat):SOper:=⟨some d,none,none,.un .not (.tmp x)⟩
abbrev kQ(d x:Nat):SOper:=⟨some d,none,none,.nchk (.tmp x)⟩
abbrev kR(o:List SOper)(k:List Nat):SCode:=.reg [([],o)] k
abbrev kV(l:List Nat)(o:List SOper)(k:List Nat):SCode:=.reg [(l,o)] k
end Go.Sh
section
namespace Go.Sh
abbrev kU(n:Nat)(h:List (Nat×Nat))(f:List (Nat×List (List (Nat×Nat))))(F:SFunc):Prop:=z36 Go.Proofs.Tryz.prog n (hintT h) (fpT f) (killT (klN 0 F.code.kl)) false=some F
end Go.Sh
end
namespace Go.Sh.Cd1
open Go Go.Sh
abbrev gQ(a:GA):Prop:=gT Go.Proofs.Tryz.prog a
theorem gK{a:GA}(h:gQ a:=by unfold gQ gT;kernel_rfl):gQ a:=h
theorem tf_158:gQ ⟨18,9,[],[],[[1000001,4],[2003,5008]],[.tmp 4],false⟩:=gK
theorem tf_159:gQ ⟨35,20,[],[],[[0],[3014],[1,15016],[1,15,17019]],[.cell true 4 2],false⟩:=gK
theorem tf_157:gQ ⟨48,76,[(73,1)],[],[[0,2],[3],[6],[1,4005,7013],[5,15],[1,4,14,16027],[14,29],[1,4,28,30043],[28,45],[46],[1,4,44,47053],[4,44,55],[1,54,56075],[1,54]],[.tmp 2],false⟩:=gK
theorem tf_154:gQ ⟨55,37,[(36,1)],[],[[1000001,4],[8012],[13],[2003,5,14015],[4005,14,16020],[21],[2003,6,22023],[4,6,22,24028],[29],[2003,7,30031],[2003,7,30,32036]],[.tmp 4],false⟩:=gK
theorem tf_155:gQ ⟨56,25,[(23,1)],[],[[1000001,4],[5018],[2003,19],[2003,19024]],[.tmp 4],false⟩:=gK
theorem tf_167:gQ ⟨73,27,[],[],[[0,2],[3004],[1,5013],[1,5,14026]],[.tmp 2],false⟩:=gK
theorem tf_119:gQ ⟨82,9,[],[],[[1000001,4],[2003,5008]],[.tmp 4],false⟩:=gK
theorem tf_160:gQ ⟨88,12,[],[],[[0,2],[1,3011]],[.tmp 2],false⟩:=gK
theorem tf_166:gQ ⟨89,21,[],[],[[2],[5011],[0,12],[0,2,12013],[],[15017],[4,18019],[14,20],[14]],[.tmp 2],false⟩:=gK
theorem tf_165:gQ ⟨90,17,[],[],[[2],[0,3016]],[.tmp 2],false⟩:=gK
theorem tf_150:gQ ⟨91,9,[(7,1)],[],[[4],[1000001,5008]],[.tmp 4],false⟩:=gK
theorem tf_162:gQ ⟨92,11,[],[],[[0,2],[1,3010]],[.tmp 2],false⟩:=gK
theorem tf_60:gQ ⟨106,20,[],[],[[4],[7008],[9010],[5],[1000001,6,11],[12],[12],[4,6,11],[1000001,13],[4,13015],[1000001,16],[1000001,4,16018],[19],[19]],[.tmp 4],false⟩:=gK
theorem tf_61:gQ ⟨107,20,[],[],[[4],[7008],[9010],[5],[1000001,6,11],[12],[12],[4,6,11],[1000001,13],[4,13015],[1000001,16],[1000001,4,16018],[19],[19]],[.tmp 4],false⟩:=gK
theorem tf_161:gQ ⟨108,36,[(26,1)],[],[[6],[9012],[],[15016],[7,17026],[27],[1000002,8,13014,28029],[6,8,28,30],[1000002,13014,31035]],[.tmp 6],false⟩:=gK
theorem tf_163:gQ ⟨109,22,[],[],[[0,4],[1002,5021]],[.tmp 4],false⟩:=gK
theorem tf_156:gQ ⟨110,9,[],[],[[0,3],[1002,4008]],[.tmp 3],false⟩:=gK
abbrev c_115_0:=kV [2,3] [kO 2 0,kO 3 1,kI 4 0] [0,1,4]
abbrev c_115_1:=kV [2044,2045,2046,2047] [kA 7 0 2,oL 8 false 1 7,kA 9 0 3,oL 10 false 1 9,kD 11 219 0 8 10,oM 5 11] [7,8,9,10,11]
abbrev c_115_2:=kR [oM 12 5,kK 13 .eql 3 12 0] [12]
abbrev c_115_3:=kV [2072,2073,2074,2075] [kA 14 1 2,oL 15 false 1 14,kA 16 1 3,oL 17 false 1 16,kD 18 219 0 15 17,oM 5 18] [13,14,15,16,17,18]
abbrev c_115_4:=kR [oM 19 5,kK 20 .eql 3 19 0,oM 21 20,kF 22 21 true 2 2,kL 23 21 true false 1 22,kF 24 21 true 2 3,kL 25 21 true false 1 24,kH 26 21 true .lss 9 23 25,oP 27 21 26 false] [13,19,20,21,22,23,24,25,26]
abbrev c_115_5:=kR [oD 5 (.mov (.val (.int .i64 (-1))))] [27]
abbrev c_115_6:=kR [oM 28 5,kK 29 .eql 3 28 0,oM 30 29,kF 31 30 true 2 2,kL 32 30 true false 1 31,kF 33 30 true 2 3,kL 34 30 true false 1 33,kH 35 30 true .gtr 9 32 34,oP 36 30 35 false] [27,28,29,30,31,32,33,34,35]
abbrev c_115_7:=kR [kI 5 1] [36]
abbrev c_115_8:=kR [kI 6 0] [36]
abbrev c_115_9:=kR [oM 37 5,kK 38 .eql 3 37 0,oM 39 38,oH 40 39 true 6,kF 41 39 true 3 2,kL 42 39 true false 1 41,oG 43 39 true (.len (.tmp 42)),kH 44 39 true .lss 3 40 43,oP 45 39 44 false,oM 46 45,oH 47 46 true 6,kF 48 46 true 3 3,kL 49 46 true false 1 48,oG 50 46 true (.len (.tmp 49)),kH 51 46 true .lss 3 47 50,oP 52 46 51 false] [37,38,39,40,41,42,43,44,45,46,47,48,49,50,51]
abbrev c_115_10:=kV [2260,2261,2262,2263] [kA 55 3 2,oL 56 false 1 55,oM 57 6,kX 58 4 56 57,oL 59 true 4 58,kA 60 3 3,oL 61 false 1 60,oM 62 6,kX 63 4 61 62,oL 64 true 4 63,kD 65 156 0 59 64,oM 5 65] [52,55,56,57,58,59,60,61,62,63,64,65]
abbrev c_115_11:=kR [oM 53 6,kK 54 .add 3 53 1,oM 6 54] [53,54]
abbrev c_115_12:SCode:=(.seq (.seq c_115_9 (.cond (.tmp 52) .skip (.exit 0))) (.seq (.block 1 c_115_10) c_115_11))
abbrev c_115_13:=kR [oM 66 5,kK 67 .eql 3 66 0] [6,66]
abbrev c_115_14:=kV [2296,2297,2298,2299] [kA 68 3 2,oL 69 false 1 68,kZ 70 69,kA 71 3 3,oL 72 false 1 71,kZ 73 72,kD 74 219 0 70 73,oM 4 74] [2,3,5,67,68,69,70,71,72,73,74]
abbrev c_115_15:=kR [oM 75 5,oM 4 75] [2,3,5,67,75]
abbrev F_115:SFunc:=⟨76,(.seq c_115_0 (.seq c_115_1 (.seq (.seq c_115_2 (.cond (.tmp 13) c_115_3 .skip)) (.seq (.seq c_115_4 (.cond (.tmp 27) c_115_5 .skip)) (.seq (.seq c_115_6 (.cond (.tmp 36) c_115_7 .skip)) (.seq (.seq c_115_8 (.block 0 (.loop c_115_12))) (.seq (.seq c_115_13 (.cond (.tmp 67) (.seq c_115_14 .ret) .skip)) (.seq c_115_15 .ret)))))))),[.tmp 4],false⟩
theorem tf_115:z36 Go.Proofs.Tryz.prog 156 (hintT [(11,0),(18,0),(65,0),(74,0)]) (fpT []) (killT [(0,[0,1,4]),(1,[7,8,9,10,11]),(2,[12]),(3,[13,14,15,16,17,18]),(4,[13,19,20,21,22,23,24,25,26]),(5,[27]),(6,[27,28,29,30,31,32,33,34,35]),(7,[36]),(8,[36]),(9,[37,38,39,40,41,42,43,44,45,46,47,48,49,50,51]),(11,[52,55,56,57,58,59,60,61,62,63,64,65]),(10,[53,54]),(12,[6,66]),(13,[2,3,5,67,68,69,70,71,72,73,74]),(14,[2,3,5,67,75])]) false=some F_115:=by kernel_rfl
theorem tf_164:gQ ⟨159,9,[],[],[[2],[0,3008]],[.tmp 2],false⟩:=gK
theorem tf_152:gQ ⟨160,19,[(16,1)],[],[[4],[6],[],[9010],[11015],[1000001,5,7008,16017],[4005,16,18],[1000001,7008]],[.tmp 4],false⟩:=gK
theorem tf_62:gQ ⟨168,6,[],[],[[2],[0,3005]],[.tmp 2],false⟩:=gK
theorem tf_63:gQ ⟨169,6,[],[],[[2],[0,3005]],[.tmp 2],false⟩:=gK
theorem tf_117:gQ ⟨219,11,[],[],[[4],[5006],[1000001,7],[1000001,4,7009],[10],[10]],[.tmp 4],false⟩:=gK
theorem tf_116:gQ ⟨232,30,[],[],[[2],[],[5007],[8012],[13025],[0,3004,26],[2,4,26029],[0,3]],[.tmp 2],false⟩:=gK
theorem tf_120:gQ ⟨271,79,[],[],[[2],[8009],[0,10],[2,10013],[14],[0,3,15],[2,15],[],[],[16020],[21],[21026],[27],[27032],[33],[33040],[0,3006,41],[2003,41],[44],[42043],[43,46],[42,45],[45,48],[42,47],[42,47,50],[49],[5006,49,51061],[0,4,62],[2,62],[63064],[2,66067,77],[65,68076],[0,4,7,77],[0,4,7,78]],[.tmp 2],false⟩:=gK
noncomputable def funcs:Nat→Option SFunc
 |_=>none
end Go.Sh.Cd1
end

section
namespace Go.Sh
open Go Go.RowKit Go.Mor
theorem vcA:type_of%(wa8 (wa8 (wa8 @iOf @u8f @u8g @u8h @arO @bFT @bTF @ES.fgt.eq_1) (wa8 @List.map_cons.{0,0} @List.map_nil.{0,0} @fgt3.eq_1 @TV.m3.eq_1 @TV.m3.eq_2 @TV.m2.eq_1 @TV.m2.eq_2 @TV.m1.eq_1) (wa8 @TV.m1.eq_2 @TV.m0.eq_1 @TV.m0.eq_2 @TV.m0.eq_3 @TV.m0.eq_4 @TV.m0.eq_5 @TV.m0.eq_6 @TV.m0.eq_7) (wa8 @TV.mF.eq_1 @TV.mF.eq_2 @TV.mE.eq_1 @TV.mE.eq_2 @TV.idsF.eq_1 @TV.idsF.eq_2 @TV.idsE.eq_1 @TV.idsE.eq_2) (wa8 @TV.renF.eq_1 @TV.renF.eq_2 @TV.renE.eq_1 @TV.renE.eq_2 @List.any_cons.{0} @List.any_nil.{0} @Bool.or_false @Bool.false_or) (wa8 @drp.eq_1 @drp.eq_2 @effG.eq_1 @effF.eq_1 @footOk.eq_1 @SOp.foot.eq_1 @SOp.foot.eq_2 @SOp.foot.eq_3) (wa8 @SOp.foot.eq_4 @only.eq_1 @only.eq_2 @isK.eq_1 @isK.eq_2 @eff.eq_1 @eff.eq_2 @eff.eq_3) (wa8 @eff.eq_4 @eff.eq_5 @eff.eq_6 @eff.eq_7 @eff.eq_8 @eff.eq_9 @eff.eq_11 @eff.eq_12)) (wa8 (wa8 @eff.eq_13 @eff.eq_14 @eff.eq_15 @eff.eq_16 @eff.eq_17 @eff.eq_18 @eff.eq_19 @eff.eq_20) (wa8 @eff.eq_21 @eff.eq_22 @eff.eq_23 @eff.eq_25 @eff.eq_28 @eff.eq_31 @eff.eq_32 @eff.eq_33) (wa8 @eff.eq_34 @eff.eq_35 @eff.eq_44 @eff.eq_45 @Arg.get.eq_1 @Arg.get.eq_2 @ES.fs.eq_1 @lk.eq_1) (wa8 @lk.eq_2 @Option.map_some.{0,0} @Option.bind_some.{0,0} @ES.after.eq_1 @ES.upd.eq_1 @ES.upd.eq_2 @ES.upd.eq_3 @ES.upd.eq_4) (wa8 @ES.upd.eq_5 @ES.upd.eq_6 @ES.upd.eq_7 @ES.put.eq_1 @ES.put.eq_2 @sv.eq_1 @sv.eq_2 @ES.kill.eq_1) (wa8 @ES.kill.eq_2 @has.eq_1 @has.eq_2 @nbeq @nble @nblt @TV.val.eq_1 @TV.val.eq_2) (wa8 @TV.val1.eq_1 @TV.val1.eq_2 @TV.int.eq_1 @TV.int.eq_2 @TV.str.eq_1 @TV.str.eq_2 @TV.cells.eq_1 @TV.cells.eq_2) (wa8 @TV.cells.eq_3 @TV.cells.eq_4 @TV.cells.eq_5 @TV.slen.eq_1 @TV.slen.eq_2 @TV.slen.eq_3 @TV.slen.eq_4 @TV.slen.eq_5)) (wa8 (wa8 @TV.toPV.eq_1 @TV.toPV.eq_2 @TV.toPV.eq_3 @TV.pvs.eq_1 @seqO.eq_1 @seqO.eq_2 @bin_lss @bin_gtr) (wa8 @bin_leq @bin_geq @bin_eql @bin_neq @bin_add @bin_sub @bin_mul @sbin_eql) (wa8 @sbin_neq @sbin_lss @sbin_gtr @un_neg @un_not @startE.eq_1 @numT.eq_1 @numT.eq_2) (wa8 @numB.eq_1 @numB.eq_2 @numB.eq_3 @numR.eq_1 @numR.eq_2 @numR.eq_3 @ansW.eq_1 @ansW.eq_2) (wa8 @resT.eq_1 @resT.eq_2 @SRes.get.eq_1 @SRes.get.eq_2 @List.flatMap_nil.{0,0} @List.flatMap_cons.{0,0} @List.append_nil.{0} @List.nil_append.{0}) (wa8 @TV.ids3.eq_1 @TV.ids3.eq_2 @TV.ids2.eq_1 @TV.ids2.eq_2 @TV.ids1.eq_1 @TV.ids1.eq_2 @TV.ids0.eq_1 @TV.ids0.eq_2) (wa8 @TV.ids0.eq_3 @TV.ids0.eq_4 @TV.ren3.eq_1 @TV.ren3.eq_2 @TV.ren2.eq_1 @TV.ren2.eq_2 @TV.ren1.eq_1 @TV.ren1.eq_2) (wa8 @TV.ren0.eq_1 @TV.ren0.eq_2 @TV.ren0.eq_3 @TV.ren0.eq_4 @TV.ren0.eq_5 @TV.ren0.eq_6 @bound.eq_1 @bound.eq_2)) (wa8 (wa8 @if_true.{1} @if_false.{1} @Bool.false_eq_true @partsT.eq_1 @fillT.eq_1 @fillT.eq_2 @splice.eq_1 @List.take_zero.{0}) (wa8 @List.take_succ_cons.{0} @List.drop_zero.{0} @List.drop_succ_cons.{0} @List.length_cons.{0} @List.length_nil.{0} @and_self @and_true @true_and) (wa8 @List.cons_append.{0} @List.getElem?_cons_zero.{0} @List.getElem?_cons_succ.{0} @Nat.zero_add @Bool.not_true @Bool.not_false @Go.Value.oneCell'.eq_1 @Go.Value.oneCell'.eq_2) (wa8 @Go.Value.oneCell'.eq_3 @Go.Mor.str_toList @Go.Mor.str_size' @Int.toNat_natCast @decide_true @decide_false @beq_self_eq_true.{0} @handI.eq_1) (wa8 @FS.mo.eq_1 @MO.ren.eq_1 @MO.ren.eq_2 @rhoIn.eq_1 @pos.eq_1 @pos.eq_2 @rhoOut.eq_1 @outs.eq_1) (wa8 @outs.eq_2 @newId.eq_1 @dstId.eq_1 @dstId.eq_2 @putMem.eq_1 @putMem.eq_2 @List.lookup.eq_1.{0,0} @List.lookup.eq_2.{0,0}) (wa8 @moOk.eq_1 @moOk.eq_2 @moOk.eq_3 @moOk.eq_4 @Nat.le_refl @Int.natCast_nonneg @v_skip @v_seq) (wa8 @v_exit @v_ret @v_block @v_cond @v_reg @v_reg2 @v_nil @v_regK)) (wa8 (wa8 @v_skipK @v_op @v_guard @gW @gW_u @PostR.eq_1 @PostR.eq_2 @PostR.eq_3) (wa8 @PostR.eq_4 @exitR.eq_1 @exitF.eq_1 @idsFrom.eq_1 @idsFrom.eq_2 @gW_undef @Nat.sub_zero @gW_i) (wa8 @gK_T1 @gK_T0 @gK_F1 @gK_F0 @gK_d1 @gK_d0 @gK_n1 @gK_n0) (wa8 @v_then_n @v_then_r @v_then_x @v_blk_n @v_blk_r @v_blk_x @s_some @s_none) (wa8 @s_ite @s_get @bW_T @bW_F @bW_d @bW_n @bW_a @bW_o) (wa8 @bK @callIn.eq_1 @callOut.eq_1 @callvIn.eq_1 @TV.callee.eq_1 @TV.callee.eq_2 @TV.callee.eq_3 @TV.callee.eq_4) (wa8 @Post0.eq_1 @Post0.eq_2 @Post0.eq_3 @Post0.eq_4 @Post1.eq_1 @Post1.eq_2 @Post1.eq_3 @Post1.eq_4) (wa8 @ansW1.eq_1 @ansW1.eq_2 @bin_quoI @bin_remI @sbin_addI @TV.elems.eq_1 @TV.elems.eq_2 @TV.elems.eq_3)) (wa8 (wa8 @TV.elems.eq_4 @TV.isNil.eq_1 @TV.isNil.eq_2 @List.all_cons.{0} @List.all_nil.{0} @Bool.and_true @Bool.true_and @Bool.and_false) (wa8 @Bool.false_and @Bool.and_self @ne_eq.{1} @not_false_eq_true @not_true_eq_false @false_and @and_false @or_false) (wa8 @or_self @false_or @imp_self @forall_const.{0} @Option.isNone_none.{0} @List.getElem?_nil.{0} @decide_eq_true_eq @eq_self.{1}) (wa8 @Go.Mor.str_list @Go.Mor.str_append @Go.Mor.str_extract @List.getElem?_map.{0,0} @Option.map_map.{0,0,0} @List.length_map.{0,0} @Function.comp_apply.{1,1,1} @List.length_append.{0}) (wa8 @List.length_set.{0} @List.set_cons_zero.{0} @List.set_cons_succ.{0} @imp_false @Decidable.not_not @e_ssub @e_ssub1 @e_ssub2) (wa8 @e_ssub3 @e_ssub4 @e_sub @e_sub1 @e_sub2 @e_sub3 @e_sub4 @e_subT1) (wa8 @e_subT2 @e_subT3 @e_appB @e_appB1 @e_appN @e_appN1 @e_appN2 @e_appNS) (wa8 @e_appNS1 @e_appNS2 @e_rng @e_rng1 @e_mks @e_mks1 @e_bslO @e_bslO1)) (wa8 (wa8 @e_nxt @e_nxt1 @e_nxt2 @s_ite2 @reach_nil @reach_cons @reach_m1 @reach_m2) (wa8 @reach_m3 @reach_m4 @Option.map_none.{0,0} @Option.bind_none.{0,0} @nc_mov @nc_pick @nc_bin @nc_un) (wa8 @nc_cvi @nc_cvs @nc_b2s @nc_imm @nc_sidx @nc_ssub @nc_slen @nc_new) (wa8 @nc_box @nc_build @nc_bsl @nc_bslO @nc_fld @nc_fldA @nc_ld @nc_st) (wa8 @nc_len @nc_idxA @nc_sub @nc_app @nc_appS @nc_appN @nc_appNS @nc_appB) (wa8 @nc_ext @nc_nchk @nc_mkf @nc_rng @nc_nxt @nc_mks @nc_lkp @nc_mkI) (wa8 @nc_fnil @e_fnil @e_fnil1 @e_fnil2 @e_fnil3 @e_fnil4 @nc_pan @e_lkp) (wa8 @e_lkp1 @e_lkp2 @e_lkp3 @findKs.eq_1 @findKs.eq_2 @kdOf.eq_1 @zeroT.eq_1 @zeroT.eq_2)) (wa7 (wa8 @v_then_p @v_blk_p @v_panK @sp_some @sp_get @sp_ite @dstOps.eq_1 @List.filterMap_cons.{0,0}) (wa8 @List.filterMap_nil.{0,0} @PostP.eq_1 @PostP.eq_2 @vp_opE @vp_panE @panW1 @np_mov @np_pick) (wa8 @np_bin @np_un @np_cvi @np_cvs @np_b2s @np_imm @np_sidx @np_ssub) (wa8 @np_slen @np_new @np_box @np_build @np_bsl @np_bslO @np_fld @np_fldA) (wa8 @np_ld @np_st @np_len @np_idxA @np_sub @np_app @np_appS @np_appN) (wa8 @np_appNS @np_appB @np_ext @np_nchk @np_mkf @np_rng @np_nxt @np_mks) (wa3 @np_lkp @np_mkI @np_fnil))):=wa8 (wa8 (wa8 @iOf @u8f @u8g @u8h @arO @bFT @bTF @ES.fgt.eq_1) (wa8 @List.map_cons.{0,0} @List.map_nil.{0,0} @fgt3.eq_1 @TV.m3.eq_1 @TV.m3.eq_2 @TV.m2.eq_1 @TV.m2.eq_2 @TV.m1.eq_1) (wa8 @TV.m1.eq_2 @TV.m0.eq_1 @TV.m0.eq_2 @TV.m0.eq_3 @TV.m0.eq_4 @TV.m0.eq_5 @TV.m0.eq_6 @TV.m0.eq_7) (wa8 @TV.mF.eq_1 @TV.mF.eq_2 @TV.mE.eq_1 @TV.mE.eq_2 @TV.idsF.eq_1 @TV.idsF.eq_2 @TV.idsE.eq_1 @TV.idsE.eq_2) (wa8 @TV.renF.eq_1 @TV.renF.eq_2 @TV.renE.eq_1 @TV.renE.eq_2 @List.any_cons.{0} @List.any_nil.{0} @Bool.or_false @Bool.false_or) (wa8 @drp.eq_1 @drp.eq_2 @effG.eq_1 @effF.eq_1 @footOk.eq_1 @SOp.foot.eq_1 @SOp.foot.eq_2 @SOp.foot.eq_3) (wa8 @SOp.foot.eq_4 @only.eq_1 @only.eq_2 @isK.eq_1 @isK.eq_2 @eff.eq_1 @eff.eq_2 @eff.eq_3) (wa8 @eff.eq_4 @eff.eq_5 @eff.eq_6 @eff.eq_7 @eff.eq_8 @eff.eq_9 @eff.eq_11 @eff.eq_12)) (wa8 (wa8 @eff.eq_13 @eff.eq_14 @eff.eq_15 @eff.eq_16 @eff.eq_17 @eff.eq_18 @eff.eq_19 @eff.eq_20) (wa8 @eff.eq_21 @eff.eq_22 @eff.eq_23 @eff.eq_25 @eff.eq_28 @eff.eq_31 @eff.eq_32 @eff.eq_33) (wa8 @eff.eq_34 @eff.eq_35 @eff.eq_44 @eff.eq_45 @Arg.get.eq_1 @Arg.get.eq_2 @ES.fs.eq_1 @lk.eq_1) (wa8 @lk.eq_2 @Option.map_some.{0,0} @Option.bind_some.{0,0} @ES.after.eq_1 @ES.upd.eq_1 @ES.upd.eq_2 @ES.upd.eq_3 @ES.upd.eq_4) (wa8 @ES.upd.eq_5 @ES.upd.eq_6 @ES.upd.eq_7 @ES.put.eq_1 @ES.put.eq_2 @sv.eq_1 @sv.eq_2 @ES.kill.eq_1) (wa8 @ES.kill.eq_2 @has.eq_1 @has.eq_2 @nbeq @nble @nblt @TV.val.eq_1 @TV.val.eq_2) (wa8 @TV.val1.eq_1 @TV.val1.eq_2 @TV.int.eq_1 @TV.int.eq_2 @TV.str.eq_1 @TV.str.eq_2 @TV.cells.eq_1 @TV.cells.eq_2) (wa8 @TV.cells.eq_3 @TV.cells.eq_4 @TV.cells.eq_5 @TV.slen.eq_1 @TV.slen.eq_2 @TV.slen.eq_3 @TV.slen.eq_4 @TV.slen.eq_5)) (wa8 (wa8 @TV.toPV.eq_1 @TV.toPV.eq_2 @TV.toPV.eq_3 @TV.pvs.eq_1 @seqO.eq_1 @seqO.eq_2 @bin_lss @bin_gtr) (wa8 @bin_leq @bin_geq @bin_eql @bin_neq @bin_add @bin_sub @bin_mul @sbin_eql) (wa8 @sbin_neq @sbin_lss @sbin_gtr @un_neg @un_not @startE.eq_1 @numT.eq_1 @numT.eq_2) (wa8 @numB.eq_1 @numB.eq_2 @numB.eq_3 @numR.eq_1 @numR.eq_2 @numR.eq_3 @ansW.eq_1 @ansW.eq_2) (wa8 @resT.eq_1 @resT.eq_2 @SRes.get.eq_1 @SRes.get.eq_2 @List.flatMap_nil.{0,0} @List.flatMap_cons.{0,0} @List.append_nil.{0} @List.nil_append.{0}) (wa8 @TV.ids3.eq_1 @TV.ids3.eq_2 @TV.ids2.eq_1 @TV.ids2.eq_2 @TV.ids1.eq_1 @TV.ids1.eq_2 @TV.ids0.eq_1 @TV.ids0.eq_2) (wa8 @TV.ids0.eq_3 @TV.ids0.eq_4 @TV.ren3.eq_1 @TV.ren3.eq_2 @TV.ren2.eq_1 @TV.ren2.eq_2 @TV.ren1.eq_1 @TV.ren1.eq_2) (wa8 @TV.ren0.eq_1 @TV.ren0.eq_2 @TV.ren0.eq_3 @TV.ren0.eq_4 @TV.ren0.eq_5 @TV.ren0.eq_6 @bound.eq_1 @bound.eq_2)) (wa8 (wa8 @if_true.{1} @if_false.{1} @Bool.false_eq_true @partsT.eq_1 @fillT.eq_1 @fillT.eq_2 @splice.eq_1 @List.take_zero.{0}) (wa8 @List.take_succ_cons.{0} @List.drop_zero.{0} @List.drop_succ_cons.{0} @List.length_cons.{0} @List.length_nil.{0} @and_self @and_true @true_and) (wa8 @List.cons_append.{0} @List.getElem?_cons_zero.{0} @List.getElem?_cons_succ.{0} @Nat.zero_add @Bool.not_true @Bool.not_false @Go.Value.oneCell'.eq_1 @Go.Value.oneCell'.eq_2) (wa8 @Go.Value.oneCell'.eq_3 @Go.Mor.str_toList @Go.Mor.str_size' @Int.toNat_natCast @decide_true @decide_false @beq_self_eq_true.{0} @handI.eq_1) (wa8 @FS.mo.eq_1 @MO.ren.eq_1 @MO.ren.eq_2 @rhoIn.eq_1 @pos.eq_1 @pos.eq_2 @rhoOut.eq_1 @outs.eq_1) (wa8 @outs.eq_2 @newId.eq_1 @dstId.eq_1 @dstId.eq_2 @putMem.eq_1 @putMem.eq_2 @List.lookup.eq_1.{0,0} @List.lookup.eq_2.{0,0}) (wa8 @moOk.eq_1 @moOk.eq_2 @moOk.eq_3 @moOk.eq_4 @Nat.le_refl @Int.natCast_nonneg @v_skip @v_seq) (wa8 @v_exit @v_ret @v_block @v_cond @v_reg @v_reg2 @v_nil @v_regK)) (wa8 (wa8 @v_skipK @v_op @v_guard @gW @gW_u @PostR.eq_1 @PostR.eq_2 @PostR.eq_3) (wa8 @PostR.eq_4 @exitR.eq_1 @exitF.eq_1 @idsFrom.eq_1 @idsFrom.eq_2 @gW_undef @Nat.sub_zero @gW_i) (wa8 @gK_T1 @gK_T0 @gK_F1 @gK_F0 @gK_d1 @gK_d0 @gK_n1 @gK_n0) (wa8 @v_then_n @v_then_r @v_then_x @v_blk_n @v_blk_r @v_blk_x @s_some @s_none) (wa8 @s_ite @s_get @bW_T @bW_F @bW_d @bW_n @bW_a @bW_o) (wa8 @bK @callIn.eq_1 @callOut.eq_1 @callvIn.eq_1 @TV.callee.eq_1 @TV.callee.eq_2 @TV.callee.eq_3 @TV.callee.eq_4) (wa8 @Post0.eq_1 @Post0.eq_2 @Post0.eq_3 @Post0.eq_4 @Post1.eq_1 @Post1.eq_2 @Post1.eq_3 @Post1.eq_4) (wa8 @ansW1.eq_1 @ansW1.eq_2 @bin_quoI @bin_remI @sbin_addI @TV.elems.eq_1 @TV.elems.eq_2 @TV.elems.eq_3)) (wa8 (wa8 @TV.elems.eq_4 @TV.isNil.eq_1 @TV.isNil.eq_2 @List.all_cons.{0} @List.all_nil.{0} @Bool.and_true @Bool.true_and @Bool.and_false) (wa8 @Bool.false_and @Bool.and_self @ne_eq.{1} @not_false_eq_true @not_true_eq_false @false_and @and_false @or_false) (wa8 @or_self @false_or @imp_self @forall_const.{0} @Option.isNone_none.{0} @List.getElem?_nil.{0} @decide_eq_true_eq @eq_self.{1}) (wa8 @Go.Mor.str_list @Go.Mor.str_append @Go.Mor.str_extract @List.getElem?_map.{0,0} @Option.map_map.{0,0,0} @List.length_map.{0,0} @Function.comp_apply.{1,1,1} @List.length_append.{0}) (wa8 @List.length_set.{0} @List.set_cons_zero.{0} @List.set_cons_succ.{0} @imp_false @Decidable.not_not @e_ssub @e_ssub1 @e_ssub2) (wa8 @e_ssub3 @e_ssub4 @e_sub @e_sub1 @e_sub2 @e_sub3 @e_sub4 @e_subT1) (wa8 @e_subT2 @e_subT3 @e_appB @e_appB1 @e_appN @e_appN1 @e_appN2 @e_appNS) (wa8 @e_appNS1 @e_appNS2 @e_rng @e_rng1 @e_mks @e_mks1 @e_bslO @e_bslO1)) (wa8 (wa8 @e_nxt @e_nxt1 @e_nxt2 @s_ite2 @reach_nil @reach_cons @reach_m1 @reach_m2) (wa8 @reach_m3 @reach_m4 @Option.map_none.{0,0} @Option.bind_none.{0,0} @nc_mov @nc_pick @nc_bin @nc_un) (wa8 @nc_cvi @nc_cvs @nc_b2s @nc_imm @nc_sidx @nc_ssub @nc_slen @nc_new) (wa8 @nc_box @nc_build @nc_bsl @nc_bslO @nc_fld @nc_fldA @nc_ld @nc_st) (wa8 @nc_len @nc_idxA @nc_sub @nc_app @nc_appS @nc_appN @nc_appNS @nc_appB) (wa8 @nc_ext @nc_nchk @nc_mkf @nc_rng @nc_nxt @nc_mks @nc_lkp @nc_mkI) (wa8 @nc_fnil @e_fnil @e_fnil1 @e_fnil2 @e_fnil3 @e_fnil4 @nc_pan @e_lkp) (wa8 @e_lkp1 @e_lkp2 @e_lkp3 @findKs.eq_1 @findKs.eq_2 @kdOf.eq_1 @zeroT.eq_1 @zeroT.eq_2)) (wa7 (wa8 @v_then_p @v_blk_p @v_panK @sp_some @sp_get @sp_ite @dstOps.eq_1 @List.filterMap_cons.{0,0}) (wa8 @List.filterMap_nil.{0,0} @PostP.eq_1 @PostP.eq_2 @vp_opE @vp_panE @panW1 @np_mov @np_pick) (wa8 @np_bin @np_un @np_cvi @np_cvs @np_b2s @np_imm @np_sidx @np_ssub) (wa8 @np_slen @np_new @np_box @np_build @np_bsl @np_bslO @np_fld @np_fldA) (wa8 @np_ld @np_st @np_len @np_idxA @np_sub @np_app @np_appS @np_appN) (wa8 @np_appNS @np_appB @np_ext @np_nchk @np_mkf @np_rng @np_nxt @np_mks) (wa3 @np_lkp @np_mkI @np_fnil))
end Go.Sh
end

section
namespace Go.Proofs.YtcpaleaajdilgaaGreatDoor
open Go Go.RowKit Go.Mor Go.Sh
abbrev zC:=SCalls Tryz.prog
theorem vW:type_of%vcA∧type_of%vV:=⟨vcA,vV⟩
theorem bS(l:zB):(⟨l.toArray⟩:ByteArray)=str l:=rfl
theorem wG{x y:Int}(h:x=y:=by omega)(h0: -9223372036854775808≤x:=by omega)(h1:x≤9223372036854775807:=by omega):IntKind.i64.wrap x=y:=by rw[wrap64 h0 h1,h]
theorem wS(i:Nat)(h:(i:Int)≤9223372036854775806:=by omega):IntKind.i64.wrap ((i:Int)+1)=((i+1:Nat):Int):=wG
theorem lwA{s0 s:ES}(h:s0.Lw s:=by apply lw_of<;>simp[leL,lk,sv,Nat.beq,I,S,ES.kill,has,drp,nilT]):s0.Lw s:=h
section
variable{g:Sh.Glob}{f:Nat}{H:Nat→Option Nat→Nat}{Fp:Nat→List (Nat→Option Nat)}{K:Nat→List Nat}{keep:Bool}{F:SFunc}{xs:List TV}{os os':List MO}{y:TV}{G:Prop}{c:SCode}
theorem z10(hF:z36 Tryz.prog f H Fp K keep=some F)(h:swp Tryz.prog g c (Post0 F.res y) (startE xs []))(hn:Nat.ble xs.length F.N=true:=by rfl)(hc:F.code=c:=by conv=>lhs;reduce):zC g f xs [] y []:=
 call_of0 hmix hF hn (hc▸h)
theorem z43(hF:z36 Tryz.prog f H Fp K keep=some F)(h:G)(hn:Nat.ble xs.length F.N=true:=by rfl)(hc:F.code=c:=by conv=>lhs;reduce)(hr:swp Tryz.prog g c (Post0 F.res y) (startE xs [])=G:=by simp only[vW,seval];rfl):zC g f xs [] y []:=
 call_of0 hmix hF hn (hc▸hr▸h)
theorem z118(hF:z36 Tryz.prog f H Fp K false=some F)(h:swp Tryz.prog g c (Post1 F.res y) (startE xs []))(hk:F.keep=false:=by rfl)(hn:Nat.ble xs.length F.N=true:=by rfl)(hc:F.code=c:=by conv=>lhs;reduce):zC g f xs [] y []:=
 call_of1 hmix hF hk hn (hc▸h)
theorem startV1(hF:z36 Tryz.prog f H Fp K false=some F)(h:G)(hk:F.keep=false:=by rfl)(hn:Nat.ble xs.length F.N=true:=by rfl)(hc:F.code=c:=by conv=>lhs;reduce)(hr:swp Tryz.prog g c (Post1 F.res y) (startE xs [])=G:=by simp only[vW,seval];rfl):zC g f xs [] y []:=
 call_of1 hmix hF hk hn (hc▸hr▸h)
theorem z22(hF:z36 Tryz.prog f H Fp K keep=some F)(h:swp Tryz.prog g c (PostR F.res F.keep os.length y os') (startE xs os))(hn:Nat.ble xs.length F.N=true:=by rfl)(hos:Nat.ble os.length 1000=true:=by rfl)(hmo:moOk os os'=true:=by rfl)(hc:F.code=c:=by conv=>lhs;reduce):zC g f xs os y os':=
 call_of hmix hF hn hos hmo (hc▸h)
theorem startV2(hF:z36 Tryz.prog f H Fp K keep=some F)(h:G)(hn:Nat.ble xs.length F.N=true:=by rfl)(hos:Nat.ble os.length 1000=true:=by rfl)(hmo:moOk os os'=true:=by rfl)(hc:F.code=c:=by conv=>lhs;reduce)(hr:swp Tryz.prog g c (PostR F.res F.keep os.length y os') (startE xs os)=G:=by simp only[vW,seval];rfl):zC g f xs os y os':=
 call_of hmix hF hn hos hmo (hc▸hr▸h)
end
section
variable{g:Sh.Glob}{f m:Nat}{dst fp:Option Nat}{xs:List Arg}{xs':List TV}{I:List Nat}{os os':List MO}{y:TV}{l:List SOper}{K:ES→Prop}{s s':ES}{G:Prop}
theorem z7(hc:zC g f xs' os y os')(hk:opsW Tryz.prog g l K s')(hx:callIn s m xs=some (xs',os,I):=by simp only[vW,seval];rfl)(hfp:fpOk fp I=true:=by rfl)(hmo:moOk os os'=true:=by first|rfl|(simp only[vcA,seval];omega))(hs:callOut s dst I y os'=some s':=by simp only[vW,seval];rfl):
  opsW Tryz.prog g (⟨dst,none,fp,.call f m xs⟩::l) K s:=v_call hx hfp hc hmo hs hk
theorem z8(hc:zC g f xs' os y os')(h:G)(hx:callIn s m xs=some (xs',os,I):=by simp only[vW,seval];rfl)(hfp:fpOk fp I=true:=by rfl)(hmo:moOk os os'=true:=by first|rfl|(simp only[vcA,seval];omega))(hs:callOut s dst I y os'=some s':=by simp only[vW,seval];rfl)(hr:opsW Tryz.prog g l K s'=G:=by simp only[vW,seval];rfl):
  opsW Tryz.prog g (⟨dst,none,fp,.call f m xs⟩::l) K s:=v_call hx hfp hc hmo hs (hr▸h)
theorem z14(hc:zC g f xs' os y os')(hx:callIn s m xs=some (xs',os,I):=by simp only[vW,seval];rfl)(hfp:fpOk fp I=true:=by rfl)(hmo:moOk os os'=true:=by first|rfl|(simp only[vcA,seval];omega))(hs:callOut s dst I y os'=some s':=by simp only[vW,seval];rfl)(hr:opsW Tryz.prog g l K s':=by simp only[vW,seval]):
  opsW Tryz.prog g (⟨dst,none,fp,.call f m xs⟩::l) K s:=v_call hx hfp hc hmo hs hr
end
end Go.Proofs.YtcpaleaajdilgaaGreatDoor
section
namespace Go.Proofs.YtcpaleaajdilgaaGreatDoor
open Go Go.Sh
theorem kv{α:Type}{a b:Option α}(h:a=b:=by simp only[vcA,seval,vV];rfl):a=b:=h
theorem km{a b:List MO}(h:moOk a b=true:=by first|rfl|(simp only[vcA,seval];omega)):moOk a b=true:=h
end Go.Proofs.YtcpaleaajdilgaaGreatDoor
end
end

section
namespace Go.Proofs.YtcpaleaajdilgaaGreatDoor
open Go Go.RowKit Go.Mor Go.Sh
section
open Go.Sh.Cd1
theorem e0:(⟨#[]⟩:ByteArray)=str []:=rfl
theorem z132(l:zB)(p:Nat):Utf8.decode (str l) p=Lib.decodeL (l.drop p):=by rw[←Lib.decodeL_drop,str_toList]
def B(b:Bool):TV:=.pv (.v (.bool b))
theorem plain_ok(g:Sh.Glob)(r:Nat):zC g 159 [.pv (.v (.int .i32 (r:Int)))] [] (B (plainR r)) []:=by
 refine z10 tf_164 ?_;have h1:decide ((32:Int)≤(r:Int))=decide (32≤r):=by rw[Bool.eq_iff_iff];simp;omega
 have h2:decide ((r:Int)=127)=(r==127):=by rw[Bool.eq_iff_iff];simp;omega
 unfold plainR B;by_cases h:32≤r
 ·have d1:(32:Int)≤(r:Int):=by omega
  simp only[vW,seval,d1,h2,h];rfl
 ·have d1:¬(32:Int)≤(r:Int):=by omega
  simp only[vW,seval,d1,h]
theorem validString_ok(m:Nat)(l:zB)(hl:l.length≤9223372036854775807):zC (gl0 m) 158 [S (str l)] [] (B (Lib.validD l)) []:=by
 have:=prim0_sound m 158 [S (str l)] [] (B (Lib.validD l)) [] (by simp[prim0,S,B,Nat.beq,str_size',hl,str_toList]);exact this
theorem rightText_ok0(m:Nat)(l:zB)(hl:l.length≤9223372036854775807):zC (gl0 m) 89 [S (str l)] [] (B (z18 l)) []:=by
 refine z10 tf_166 ?_;have HV:=validString_ok m l hl;unfold z18 B at*;by_cases h60:(l.length:Int)≤60
 ·have d1:¬(60:Int)<(l.length:Int):=by omega
  have h60':l.length≤60:=by omega
  simp only[vW,seval,d1];refine z7 HV ?_;cases hv:Lib.validD l
  ·simp only[vW,seval]
  simp only[vW,seval];refine v_loop (σ:={p:Nat // p≤l.length∧plainD l=plainD (l.drop p)}) (fun p=>⟨[(14,.it 14)],[],[],[(14,(str l,p.1))]⟩) (fun p=>l.length-p.1) ⟨0,Nat.zero_le _,rfl⟩ (lw_eq rfl) ?_;rintro⟨p,hp,hd⟩;by_cases hlt:p<l.length
  ·have hne:l.drop p≠[]:=by rw[Ne,List.drop_eq_nil_iff];omega
   rw[z169 _ hne]at hd;have hle:=Lib.decodeL_le (l.drop p) hne;have hw:=Lib.decodeL_width (l.drop p);rw[List.length_drop]at hle;have HP:=plain_ok (gl0 m) (Lib.decodeL (l.drop p)).1;unfold B at HP;simp only[vW,seval,hlt,z132];refine z7 HP ?_;cases hr:plainR (Lib.decodeL (l.drop p)).1
   ·rw[hr]at hd;simp only[vW,seval];simp[hd]
   ·simp only[vW,seval];rw[hr,Bool.true_and,List.drop_drop]at hd;refine z13 ⟨p+(Lib.decodeL (l.drop p)).2,by omega,hd⟩ (by show l.length-(p+_)<l.length-p;omega) ?_;exact lwA
  ·simp only[vW,seval,hlt,h60'];have hnil:l.drop p=[]:=List.drop_eq_nil_of_le (by omega);rw[hnil]at hd;rw[hd];rfl
 ·have d1:(60:Int)<(l.length:Int):=by omega
  have h60':¬l.length≤60:=by omega
  simp only[vW,seval,d1];simp[h60']
theorem bare_ok(g:Sh.Glob)(x:V):zC g 88 [tv x] [] (B (bare x)) []:=by
 refine z10 tf_160 ?_;have h1:decide ((x.l.length:Int)=0)=(x.l.length==0):=by rw[Bool.eq_iff_iff];simp
 unfold bare B;cases h:x.s==[]
 ·simp only[vW,seval,e0,h]
 ·simp only[vW,seval,e0,h,h1]
theorem rightID_ok(g:Sh.Glob)(n:Int):zC g 90 [I n] [] (B (z110 n)) []:=by
 refine z10 tf_165 ?_;unfold B;simp only[vW,seval];unfold z110
 repeat' (first|(apply And.intro)|(intro _))
 all_goals(first|rfl|(simp;omega)|(simp_all;done)|(simp_all;omega))
theorem right1_mk(k n:Int)(s:zB)(l:List V):right1 (.mk k n s l)=if k=0 then bare (.mk k n s l)&&n==0
 else if k=1 then bare (.mk k n s l)&&decide (-1000000000000000≤n)&&decide (n≤1000000000000000)
 else if k=2 then n==0&&l.length==0&&z18 s
 else if k=3∨k=4 then bare (.mk k n s l)&&z110 n
 else false:=rfl
theorem right1_ok0(m:Nat)(x:V)(hs:z88 x)(h5:x.k≠5):zC (gl0 m) 48 [tv x] [] (B (right1 x)) []:=by
 obtain⟨k,n,s,l⟩:=x;have HB:=bare_ok (gl0 m) (.mk k n s l);have HI:=rightID_ok (gl0 m) n;have HT:=rightText_ok0 m s hs;have hln:decide ((l.length:Int)=0)=(l.length==0):=by rw[Bool.eq_iff_iff];simp
 have k5:¬k=5:=h5;clear h5 hs;rw[right1_mk];generalize bare (.mk k n s l)=b at HB ⊢;refine z10 tf_157 ?_;unfold B at*;by_cases k0:k=0
 ·subst k0;have hn0:decide (n=0)=(n==0):=by rw[Bool.eq_iff_iff];simp
  simp only[vW,seval];refine z7 HB ?_;cases b<;>simp only[vW,seval,hn0]
 rw[if_neg k0];by_cases k1:k=1
 ·subst k1;simp only[vW,seval];refine z7 HB ?_;cases b
  ·simp only[vW,seval]
  ·by_cases q1: -1000000000000000≤n<;>by_cases q2:n≤1000000000000000<;>simp only[vW,seval,q1,q2]
 rw[if_neg k1];by_cases k2:k=2
 ·subst k2;by_cases n0:n=0
  ·subst n0;cases hl:l.length==0
   ·simp only[vW,seval,hln,hl]
   ·simp only[vW,seval,hln,hl];exact z14 HT
  ·have hn0:(n==0)=false:=by simpa using n0
   simp only[vW,seval,n0,hn0]
 rw[if_neg k2];by_cases k3:k=3
 ·subst k3;simp only[vW,seval];refine z7 HB ?_;cases b
  ·simp only[vW,seval]
  ·simp only[vW,seval];exact z14 HI
 by_cases k4:k=4
 ·subst k4;simp only[vW,seval];refine z7 HB ?_;cases b
  ·simp only[vW,seval]
  ·simp only[vW,seval];exact z14 HI
 simp only[vW,seval,k0,k1,k2,k3,k4,k5]
theorem noItem_ok0(m:Nat)(x:V)(hs:z88 x):zC (gl0 m) 92 [tv x] [] (B (noItem x)) []:=by
 refine z10 tf_162 ?_;unfold noItem B;by_cases k5:x.k=5
 ·have h:(x.k==5)=true:=by simp[k5]
  have d:decide (x.k=5)=true:=by simp[k5]
  simp only[vW,seval,d,h];rfl
 ·have HR:=right1_ok0 m x hs k5;have h:(x.k==5)=false:=by simpa using k5
  unfold B at HR;simp only[vW,seval,k5,h];exact z14 HR
theorem z121{α:Type}(p:α→Bool):∀(l:List α) (i:Nat),(∀j x,j<i→l[j]?=some x→p x=false)→∀x,l[i]?=some x→p x=true→z54 p l=i
 |[],i,_,x,hx,_=>by simp at hx
 |a::l,0,_,x,hx,hp=>by simp at hx;subst hx;simp[z54,List.findIdx?_cons,hp]
 |a::l,i+1,h,x,hx,hp=>by
  have h0:=h 0 a (by omega) rfl;have:=z121 p l i (fun j y hj hy=>h (j+1) y (by omega) (by simpa using hy)) x (by simpa using hx) hp;unfold z54 at this ⊢;rw[List.findIdx?_cons,h0];cases hf:l.findIdx? p with
  |none=>rw[hf]at this;simp only at this;omega
  |some q=>rw[hf]at this;simp only at this ⊢;simp;omega
theorem z122{α:Type}(p:α→Bool)(l:List α)(h:∀x∈l,p x=false):z54 p l= -1:=by
 have:l.findIdx? p=none:=List.findIdx?_eq_none_iff.2 h;unfold z54;rw[this]
theorem firstAt_any{α:Type}(p:α→Bool)(l:List α):decide (0≤z54 p l)=l.any p:=by
 rw[Bool.eq_iff_iff,decide_eq_true_eq,List.any_eq_true];constructor
 ·intro h;by_cases hn:∀x∈l,p x=false
  ·rw[z122 p l hn]at h;omega
  ·obtain⟨x,hx⟩:=Classical.not_forall.1 hn;obtain⟨hx,hp⟩:=Classical.not_imp.1 hx;exact⟨x,hx,by simpa using hp⟩
 ·rintro⟨x,hx,hp⟩;unfold z54;cases hf:l.findIdx? p with
  |none=>rw[List.findIdx?_eq_none_iff.1 hf x hx]at hp;cases hp
  |some i=>simp
theorem indexNo_ok(m:Nat)(l:List V)(hl:l.length≤maxLen)(hs:∀x∈l,z88 x):zC (gl0 m) 160 [.pv (.sl 4 (V.rows l)),.pv (.v (.func (.func 92) #[] #[]))] [] (I (z54 noItem l)) []:=by
 refine z10 tf_152 ?_;have hm:maxLen=9223372036854775807:=rfl;simp only[vW,seval];refine v_loop (σ:={i:Nat // i≤l.length∧∀j x,j<i→l[j]?=some x→noItem x=false}) (fun i=>⟨[(0,.pv (.sl 4 (V.rows l))),(1,.pv (.v (.func (.func 92) #[] #[]))),(7,I (l.length:Int)),(8,I (i.1:Int))],[],[],[]⟩) (fun i=>l.length-i.1) ⟨0,Nat.zero_le _,fun j x hj=>by omega⟩ (lw_eq (by simp[I])) ?_;rintro⟨i,hi,hno⟩;by_cases hlt:i<l.length
 ·have d1:(i:Int)<(l.length:Int):=by omega
  obtain⟨x,ex⟩:∃x,l[i]?=some x:=⟨_,gE hlt⟩
  have HN:=noItem_ok0 m x (hs x (gM ex));have w1:=wS i;unfold tv B at HN;simp only[vW,seval,d1,ex];(with_reducible apply z28);exact kv;exact HN;rfl;exact kv;cases hp:noItem x
  ·simp only[vW,seval,w1];refine z13 ⟨i+1,by omega,fun j y hj hy=> ?_⟩ (by show l.length-(i+1)<l.length-i;omega) ?_
   ·by_cases hji:j=i
    ·subst hji;rw[ex]at hy;cases hy;exact hp
    ·exact hno j y (by omega) hy
   ·exact lwA
  ·simp only[vW,seval];rw[z121 noItem l i hno x ex hp]
 ·have d1:¬(i:Int)<(l.length:Int):=by omega
  simp only[vW,seval,d1];rw[z122 noItem l (fun x hx=>by
   obtain⟨j,hj⟩:=List.getElem?_of_mem hx;exact hno j x (by have:=(gJ hj).1;omega) hj)]
theorem containsNo_ok(m:Nat)(l:List V)(hl:l.length≤maxLen)(hs:∀x∈l,z88 x):zC (gl0 m) 91 [.pv (.sl 4 (V.rows l)),.pv (.v (.func (.func 92) #[] #[]))] [] (B (l.any noItem)) []:=by
 refine z10 tf_150 ?_;have HI:=indexNo_ok m l hl hs;rw[←firstAt_any];unfold B;simp only[vW,seval];exact z14 HI
theorem rightV_ok0(m:Nat)(x:V)(hx:VOk x):zC (gl0 m) 48 [tv x] [] (B (rightV x)) []:=by
 unfold rightV;by_cases k5:x.k=5
 ·rw[if_pos k5];obtain⟨k,n,s,l⟩:=x;simp only[Vk]at k5;subst k5;simp only[Vn,Vs,Vl];refine z10 tf_157 ?_;unfold B;by_cases n0:n=0
  ·subst n0;cases hs:s==[]
   ·simp only[vW,seval,e0,hs]
   ·by_cases h12:l.length≤12
    ·have d1:(l.length:Int)≤12:=by omega
     have HC:=containsNo_ok m l (by unfold maxLen;omega) (fun y hy=>hx.2 y hy);unfold B at HC;simp only[vW,seval,e0,hs,d1,h12];exact z14 HC
    ·have d1:¬(l.length:Int)≤12:=by omega
     simp only[vW,seval,e0,hs,d1,h12]
  ·have hn0:(n==0)=false:=by simpa using n0
   simp only[vW,seval,n0,hn0]
 ·rw[if_neg k5];exact right1_ok0 m x hx.1 k5
theorem rightType_ok(g:Sh.Glob)(t:Ty):zC g 73 [tyT t] [] (B (z16 t)) []:=by
 refine z10 tf_167 ?_;obtain⟨k,o⟩:=t;unfold B;simp only[vW,seval];unfold z16
 repeat' (first|(apply And.intro)|(intro _))
 all_goals(first|(simp_all;done)|(simp_all;omega))
theorem ofKind_ok(g:Sh.Glob)(x:V)(k:Int):zC g 109 [tv x,I k] [] (B (ofKind x k)) []:=by
 refine z10 tf_163 ?_;unfold B;simp only[vW,seval];unfold ofKind
 repeat' (first|(apply And.intro)|(intro _))
 all_goals(first|(simp_all;done)|(simp only[Option.some.injEq,TV.pv.injEq,PV.v.injEq,Value.bool.injEq];rw[Bool.eq_iff_iff];simp_all;done)|(simp only[Option.some.injEq,TV.pv.injEq,PV.v.injEq,Value.bool.injEq];rw[Bool.eq_iff_iff];simp_all;omega))
theorem fits1_ok(g:Sh.Glob)(x:V)(t:Ty):zC g 110 [tv x,.ptr 1000 0] [.box [I t.k,I t.o]] (B (!ofKind x t.o)) [.box [I t.k,I t.o]]:=by
 refine z22 tf_156 ?_;have HK:=ofKind_ok g x t.o;unfold B at*;simp only[vW,seval];exact z14 HK
theorem indexFits_ok(g:Sh.Glob)(l:List V)(t:Ty)(hl:l.length≤maxLen):zC g 160 [.pv (.sl 4 (V.rows l)),.fn (.func 110) [] [.ptr 1000 0]] [.box [I t.k,I t.o]] (I (z54 (fun y=> !ofKind y t.o) l)) [.box [I t.k,I t.o]]:=by
 refine z22 tf_152 ?_;have hm:maxLen=9223372036854775807:=rfl;simp only[vW,seval];refine v_loop (σ:={i:Nat // i≤l.length∧∀j x,j<i→l[j]?=some x→(!ofKind x t.o)=false}) (fun i=>⟨[(0,.pv (.sl 4 (V.rows l))),(1,.fn (.func 110) [] [.ptr 1000 0]),(7,I (l.length:Int)),(8,I (i.1:Int))],[(1000,[I t.k,I t.o])],[],[]⟩) (fun i=>l.length-i.1) ⟨0,Nat.zero_le _,fun j x hj=>by omega⟩ (lw_eq (by simp[I])) ?_;rintro⟨i,hi,hno⟩;by_cases hlt:i<l.length
 ·have d1:(i:Int)<(l.length:Int):=by omega
  obtain⟨x,ex⟩:∃x,l[i]?=some x:=⟨_,gE hlt⟩
  have HN:=fits1_ok g x t;have w1:=wS i;unfold tv B at HN;simp only[vW,seval,d1,ex];(with_reducible apply z28);exact kv;exact HN;rfl;exact kv;cases hp:ofKind x t.o
  ·simp only[vW,seval];rw[z121 (fun y=> !ofKind y t.o) l i hno x ex (by simp[hp])]
  ·simp only[vW,seval,w1];refine z13 ⟨i+1,by omega,fun j y hj hy=> ?_⟩ (by show l.length-(i+1)<l.length-i;omega) ?_
   ·by_cases hji:j=i
    ·subst hji;rw[ex]at hy;cases hy;simp[hp]
    ·exact hno j y (by omega) hy
   ·exact lwA
 ·have d1:¬(i:Int)<(l.length:Int):=by omega
  simp only[vW,seval,d1];rw[z122 (fun y=> !ofKind y t.o) l (fun x hx=>by
   obtain⟨j,hj⟩:=List.getElem?_of_mem hx;exact hno j x (by have:=(gJ hj).1;omega) hj)]
theorem containsFits_ok(g:Sh.Glob)(l:List V)(t:Ty)(hl:l.length≤maxLen):zC g 91 [.pv (.sl 4 (V.rows l)),.fn (.func 110) [] [.ptr 1000 0]] [.box [I t.k,I t.o]] (B (l.any fun y=> !ofKind y t.o)) [.box [I t.k,I t.o]]:=by
 refine z22 tf_150 ?_;have HI:=indexFits_ok g l t hl;rw[←firstAt_any];unfold B;simp only[vW,seval];exact z14 HI
theorem fits_ok0(m:Nat)(x:V)(t:Ty)(hx:VOk x)(hl:x.l.length≤maxLen):zC (gl0 m) 56 [tv x,tyT t] [] (B (fitsV x t)) []:=by
 refine z10 tf_155 ?_;have HR:=rightV_ok0 m x hx;have HT:=rightType_ok (gl0 m) t;have HK:=ofKind_ok (gl0 m) x t.k;have HC:=containsFits_ok (gl0 m) x.l t hl;unfold fitsV B at*;simp only[vW,seval];refine z7 HR ?_;cases rightV x
 ·simp only[vW,seval]
 simp only[vW,seval];refine z7 HT ?_;cases z16 t
 ·simp only[vW,seval]
 simp only[vW,seval];refine z7 HK ?_;cases ofKind x t.k
 ·simp only[vW,seval]
 simp only[vW,seval];exact z14 HC
end
section
def bindL:List (zB×Int):=[([42],4),([47],4),([37],4),([43],3),([45],3),([38],2),([61],1),([60,62],1),([60],1),([60,61],1),([62],1),([62,61],1)]
def bindKs:List Value:=bindL.map fun p=> .string (str p.1)
def bindM:TV:=.mp bindKs (bindL.map fun p=>I p.2)
theorem bindings_ok(g:Sh.Glob):zC g 74 [] [] bindM []:=by
 refine⟨z56 (by kernel_rfl),fun w E us hG hm hX hl hr=> ?_⟩;obtain rfl:us=[]:=List.eq_nil_of_length_eq_zero hl.symm;refine calls_of_wp Tryz.func74 rfl ?_;refine wp_seq (wp_region ?_);show wpOps _ _ _ [0] _ _;rw[wpOps_cons];refine z102 rfl rfl (v:=.map none) (w':=w) rfl ?_;show(Code.seq _ _).wp _ _ { tmps:= #[.map none,undef,undef],defers:=[] } _;refine wp_seq (wp_region ?_);show wpOps _ _ _ (0::([1,2,3,4,5,6,7,8,9,10,11,12]++[13,14])) _ _;rw[wpOps_cons];refine z102 rfl rfl (v:=.map (some w.heap.size)) (w':=w.alloc (.map #[] 0)) rfl ?_;have hnew:(w.alloc (.map #[] 0)).heap[w.heap.size]?=some (.map #[] 0):=heap_alloc_new w _;refine wp_insAll (t:=133) (m:=1) (kt:=9) (et:=3) (text:=true) (b:=w.heap.size) (by kernel_rfl) (by kernel_rfl) rfl _ _ _ _ #[] 0 rfl hnew (by rfl) ?_;intro es clock w' hturn hb hks hvs;show wpOps _ _ _ [13,14] { tmps:= #[.map none,.map (some w.heap.size),undef],defers:=[] } _;rw[wpOps_cons];refine z102 rfl rfl (v:=.map (some w.heap.size)) (w':=w') rfl ?_;rw[wpOps_cons];refine z102 rfl rfl (v:=.map (some w.heap.size)) (w':=w') rfl ?_;show Code.ret.wp _ _ { tmps:= #[.map (some w.heap.size),.map (some w.heap.size),.map (some w.heap.size)],defers:=[] } _
 refine wp_ret ?_;have hbel:Below w.heap.size w w':=by
  refine⟨hturn.os,hturn.tape,hturn.output,by rw[hturn.size];exact(((Below.refl w.heap.size w)).alloc (Nat.le_refl _) (.map #[] 0)).size,fun k hk=> ?_⟩;rw[hturn.block k (by omega)];exact(((Below.refl w.heap.size w)).alloc (Nat.le_refl _) _).block k hk
 refine⟨rfl,.map (some w.heap.size),by simp[results,Tryz.results74],.map (some w.heap.size),E,rfl,?_,?_,⟨fun _ _ _=>rfl,fun _ _ _ _=>rfl,fun d e W n hd=>by obtain⟨j,_,hj⟩:=z30 hd;simp at hj⟩⟩
 ·exact MSim.ext (s:=⟨fun _=>none,objB [],objR [],fun _=>none⟩) hm hbel E (fun _ _ h=>h) (fun _ _ h=> .inl h) (fun _ _=>⟨rfl,rfl⟩) (fun _ _ _=>rfl) (fun _ _=>⟨rfl,rfl⟩)
 ·have hlen:es.toList.length=12:=by have:=congrArg List.length hks;simpa using this
  refine .mp bindKs _ w.heap.size es clock (fun j=>(es.toList.map MapEntry.val).getD j undef) hb hks rfl (fun j e he=>by simp[he]) (fun j x hx=> ?_);rw[hvs];have hj:j<12:=(gJ hx).1;simp only[bindL,List.getElem?_map]at hx
  match j,hj with
  |0,_|1,_|2,_|3,_|4,_|5,_|6,_|7,_|8,_|9,_|10,_|11,_=>cases hx;exact .pv (.v _)
theorem bm_m1(ids:List Nat):TV.m1 ids bindM=false:=rfl
theorem bm_m2(ids:List Nat):TV.m2 ids bindM=false:=rfl
theorem bm_m3(ids:List Nat):TV.m3 ids bindM=false:=rfl
theorem bm_ids1:TV.ids1 bindM=[]:=rfl
theorem bm_ids2:TV.ids2 bindM=[]:=rfl
theorem bm_ids3:TV.ids3 bindM=[]:=rfl
theorem bm_ren1(ρ:Nat→Option Nat):TV.ren1 ρ bindM=some bindM:=rfl
theorem bm_ren2(ρ:Nat→Option Nat):TV.ren2 ρ bindM=some bindM:=rfl
theorem bm_ren3(ρ:Nat→Option Nat):TV.ren3 ρ bindM=some bindM:=rfl
theorem bm_cells:TV.cells bindM=some [bindM]:=rfl
theorem same_str(a b:zB):Instr.sameNow (kdOf true) (.string (str a)) (.string (str b))=some (a==b):=by
 have:(str a==str b)=(a==b):=by
  show(a.toArray==b.toArray)=(a==b)
  simp
 first
  |(simp[Instr.sameNow,kdOf,this];done)
  |(simp[Instr.sameNow,kdOf];exact this)
theorem bm_find(s:zB):∀(l:List (zB×Int)) (i:Nat),findKs (kdOf true) (.string (str s)) (l.map fun p=> .string (str p.1)) i=some ((l.findIdx? fun p=>s==p.1).map (·+i))
 |[],i=>rfl
 |p::l,i=>by
  rw[List.map_cons,findKs,same_str,List.findIdx?_cons];cases h:(s==p.1)with
  |true=>simp
  |false=>
   simp only[Bool.false_eq_true,if_false,bm_find s l (i+1),Option.map_map];congr 2;funext j;simp;omega
theorem bm_lk(s:zB):lkpK true (.int .i64 0) (some bindM) (some (.string (str s)))=some (.pv (.v (.int .i64 (bindsV s))),.no):=by
 show lkpJ _ _ (findKs (kdOf true) (.string (str s)) bindKs 0)=_;unfold bindKs;rw[bm_find s bindL 0];simp only[bindL,List.findIdx?_cons,List.findIdx?_nil,bindsV];by_cases h1:s=[42];· subst h1;rfl
 by_cases h2:s=[47];· subst h2;rfl
 by_cases h3:s=[37];· subst h3;rfl
 by_cases h4:s=[43];· subst h4;rfl
 by_cases h5:s=[45];· subst h5;rfl
 by_cases h6:s=[38];· subst h6;rfl
 by_cases h7:s=[61];· subst h7;rfl
 by_cases h8:s=[60,62];· subst h8;rfl
 by_cases h9:s=[60];· subst h9;rfl
 by_cases h10:s=[60,61];· subst h10;rfl
 by_cases h11:s=[62];· subst h11;rfl
 by_cases h12:s=[62,61];· subst h12;rfl
 simp[h1,h2,h3,h4,h5,h6,h7,h8,h9,h10,h11,h12,lkpJ,zeroT]
theorem bmV:(type_of% @bm_m1)∧(type_of% @bm_m2)∧(type_of% @bm_m3)∧(type_of% @bm_ids1)∧(type_of% @bm_ids2)∧(type_of% @bm_ids3)∧(type_of% @bm_ren1)∧(type_of% @bm_ren2)∧(type_of% @bm_ren3)∧(type_of% @bm_cells)∧(type_of% @bm_lk):=⟨@bm_m1,@bm_m2,@bm_m3,@bm_ids1,@bm_ids2,@bm_ids3,@bm_ren1,@bm_ren2,@bm_ren3,@bm_cells,@bm_lk⟩
section
variable{g:Sh.Glob}{f m:Nat}{dst fp:Option Nat}{xs:List Arg}{xs':List TV}{I:List Nat}{os os':List MO}{y:TV}{l:List SOper}{K:ES→Prop}{s s':ES}{G:Prop}
theorem z27(hc:zC g f xs' os y os')(hk:opsW Tryz.prog g l K s')(hx:callIn s m xs=some (xs',os,I):=by simp only[vW,seval,bmV];rfl)(hfp:fpOk fp I=true:=by rfl)(hmo:moOk os os'=true:=by first|rfl|(simp only[vcA,seval];omega))(hs:callOut s dst I y os'=some s':=by simp only[vW,seval,bmV];rfl):
  opsW Tryz.prog g (⟨dst,none,fp,.call f m xs⟩::l) K s:=v_call hx hfp hc hmo hs hk
theorem z35(hc:zC g f xs' os y os')(h:G)(hx:callIn s m xs=some (xs',os,I):=by simp only[vW,seval,bmV];rfl)(hfp:fpOk fp I=true:=by rfl)(hmo:moOk os os'=true:=by first|rfl|(simp only[vcA,seval];omega))(hs:callOut s dst I y os'=some s':=by simp only[vW,seval,bmV];rfl)(hr:opsW Tryz.prog g l K s'=G:=by simp only[vW,seval,bmV];rfl):
  opsW Tryz.prog g (⟨dst,none,fp,.call f m xs⟩::l) K s:=v_call hx hfp hc hmo hs (hr▸h)
theorem z91(hc:zC g f xs' os y os')(hx:callIn s m xs=some (xs',os,I):=by simp only[vW,seval,bmV];rfl)(hfp:fpOk fp I=true:=by rfl)(hmo:moOk os os'=true:=by first|rfl|(simp only[vcA,seval];omega))(hs:callOut s dst I y os'=some s':=by simp only[vW,seval,bmV];rfl)(hr:opsW Tryz.prog g l K s':=by simp only[vW,seval,bmV]):
  opsW Tryz.prog g (⟨dst,none,fp,.call f m xs⟩::l) K s:=v_call hx hfp hc hmo hs hr
end
end
end Go.Proofs.YtcpaleaajdilgaaGreatDoor
end

section
namespace Go.Sh.Cd5
open Go Go.Sh
abbrev gQ(a:GA):Prop:=gT Go.Proofs.Tryz.prog a
theorem gK{a:GA}(h:gQ a:=by unfold gQ gT;kernel_rfl):gQ a:=h
abbrev c_92_0:=kV [2,3,4] [oD 2 (.new zV),oD 3 (.new [(.int .i64 0)]),oD 4 (.new [(.int .i64 0)])] []
abbrev c_92_1:=kR [oM 10 0,oD 11 (.slen (.tmp 10)),kK 12 .gtr 3 11 200] [10,11]
abbrev c_92_2:=kR [oD 13 (.build zV []),kS 4 2 13,oN (.st 1 (.tmp 3) (vI 200)),oN (.st 1 (.tmp 4) (vI 50))] [0,12,13]
abbrev c_92_3:=kV [2068,2069,2070,2071,5] [oM 14 0,oD 15 (.slen (.tmp 14)),oD 16 (.build [(.slice none 0 0),(.int .i64 0),(.int .i64 0)] [(2,1,(.tmp 15))]),oD 17 (.call 74 0 []),oD 18 (.build [(.slice none 0 0),(.int .i64 0),(.int .i64 0),(.map none)] [(0,3,(.tmp 16)),(3,1,(.tmp 17))]),oD 5 (.new [(.slice none 0 0),(.int .i64 0),(.int .i64 0),(.map none)]),kS 4 5 18] [12,14,15,16,17,18]
abbrev c_92_4:=kV [2080,2081,2082,2083] [oM 19 0,kC 20 75 0 19] [0,19]
abbrev c_92_5:=kV [2148,2149,2150,2151,7] [kC 37 76 1 5,oM 36 37,kY 38 36 0,kY 39 36 1,kY 40 36 2,oD 7 (.new zV),kS 4 7 38,oM 8 39,oM 9 40] [5,20,36,37,38,39,40]
abbrev c_92_6:=kR [oM 41 9,kN 42 41] [9,41]
abbrev c_92_7:=kR [oD 43 (.build zV []),oM 44 8,kS 4 2 43,kS 1 3 44,oN (.st 1 (.tmp 4) (vI 50))] [7,8,42,43,44]
abbrev c_92_8:=kV [2184,2185,2186,2187] [oL 45 true 4 7,kC 46 77 0 45,kN 47 46] [8,42,45,46]
abbrev c_92_9:=kR [oD 48 (.build zV []),kS 4 2 48,oN (.st 1 (.tmp 3) (vI 0)),oN (.st 1 (.tmp 4) (vI 51))] [7,47,48]
abbrev c_92_10:=kR [oL 49 true 4 7,kS 4 2 49,oN (.st 1 (.tmp 3) (vI 0)),oN (.st 1 (.tmp 4) (vI 0))] [7,47,49]
noncomputable abbrev F_92:SFunc:=⟨50,(.seq c_92_0 (.seq (.seq c_92_1 (.cond (.tmp 12) (.seq c_92_2 .ret) .skip)) (.seq c_92_3 (.seq (.seq c_92_4 (.block 0 (.raw 50 (rawOf Go.Proofs.Tryz.prog 36 0)))) (.seq c_92_5 (.seq (.seq c_92_6 (.cond (.tmp 42) (.seq c_92_7 .ret) .skip)) (.seq (.seq c_92_8 (.cond (.tmp 47) (.seq c_92_9 .ret) .skip)) (.seq c_92_10 .ret)))))))),[.cell true 4 2,.cell false 1 3,.cell false 1 4],false⟩
theorem tf_92:z36 Go.Proofs.Tryz.prog 36 (hintT [(17,0),(20,0),(32,0),(37,1),(46,0)]) (fpT []) (killT [(1,[10,11]),(2,[0,12,13]),(3,[12,14,15,16,17,18]),(4,[0,19]),(9,[5,20,36,37,38,39,40]),(10,[9,41]),(11,[7,8,42,43,44]),(12,[8,42,45,46]),(13,[7,47,48]),(14,[7,47,49])]) false=some F_92:=by kernel_rfl
theorem tf_95:gQ ⟨75,4,[],[],[[0,2],[1,3]],[.tmp 2],false⟩:=gK
theorem tf_93:gQ ⟨77,8,[(7,1)],[],[[0,2],[4005],[1,3,6007]],[.tmp 2],false⟩:=gK
abbrev c_expr_pieces_1_0:=kR [kI 3 0] []
abbrev c_expr_pieces_1_1:=kR [oM 6 3,oL 7 false 1 1,oD 8 (.slen (.tmp 7)),kB 9 .lss 3 6 8,oM 10 9,kL 11 10 true false 1 1,oH 12 10 true 3,oG 13 10 true (.sidx (.tmp 11) (.tmp 12)),oG 14 10 true (.bin .eql 5 (.tmp 13) (.val (.int .u8 32))),oP 15 10 14 false] [6,7,8,9,10,11,12,13,14]
abbrev c_expr_pieces_1_2:=kR [oM 16 3,kK 17 .add 3 16 1,oM 3 17] [15,16,17]
abbrev c_expr_pieces_1_3:SCode:=(.seq (.seq c_expr_pieces_1_1 (.cond (.tmp 15) .skip (.exit 2))) (.block 3 c_expr_pieces_1_2))
abbrev c_expr_pieces_1_4:=kR [oM 18 3,oL 19 false 1 1,oD 20 (.slen (.tmp 19)),kB 21 .eql 3 18 20] [18,19,20]
abbrev c_expr_pieces_1_5:=kV [2104,2105,2106,2107,4] [oL 23 false 1 1,oM 24 3,oD 25 (.ssub (.tmp 23) (some (.tmp 24)) none),kC 26 130 0 25,oM 22 26,kY 27 22 0,kY 28 22 1,oD 4 (.new [(.int .i64 0),(.int .i64 0),(.string ⟨#[]⟩),(.int .i64 0)]),kS 4 4 27,oM 5 28] [21,22,23,24,25,26,27,28]
abbrev c_expr_pieces_1_6:=kR [oM 29 3,kA 30 3 4,kS 1 30 29] [29,30]
abbrev c_expr_pieces_1_8:=kR [oM 39 3,oM 40 5,kB 41 .add 3 39 40,oM 3 41] [5,38,39,40,41]
theorem tf_96:gQ ⟨130,47,[],[],[[3],[6007],[9014],[0,4,8,15018],[8,20025],[0,4,19,26029],[4,19,31032],[0,30,33036],[0,3,30,37039],[40],[5,41042],[5,41,43046]],[.cell true 4 2,.tmp 3],false⟩:=gK
theorem tf_24:gQ ⟨132,48,[(9,3),(13,1),(45,3)],[(7,[[(1,6),(2,5),(9,5),(6,1000)]])],[[],[8009,2009999],[10013],[14020],[21027],[1000001,5007,28029],[28,30038],[6007,39047,2009999]],[.cell true 4 4],false⟩:=gK
theorem tf_28:gQ ⟨133,28,[],[],[[],[3011],[0,12022],[0,12,23027]],[.cell true 4 2],false⟩:=gK
theorem tf_23:gQ ⟨134,45,[(28,1),(42,1)],[],[[1,6],[9015],[16029],[0,2,4,30],[4,6,30031],[],[35037],[8,38042],[0,2,32034,43],[6,43044],[0,2,32034]],[.tmp 6],false⟩:=gK
theorem tf_122:gQ ⟨170,56,[],[],[[2],[6012],[0,13],[2,13],[14016],[2,18019,55],[17,20029],[30045],[4005,46054],[0,3,55],[0,3]],[.tmp 2],false⟩:=gK
theorem tf_118:gQ ⟨176,138,[],[],[[0,2],[6],[9],[1,7008,10023],[8,25],[1,7,24,26044],[24,46],[7,45,47049],[1,3,50067],[45,69],[70],[1,7,68,71099],[7,68,101],[100,102114],[1,115],[2,115],[116119],[2,121122,137],[120,123128],[1,4,129],[2,129135],[5,136],[1,4,137],[1,4],[1,100]],[.tmp 2],false⟩:=gK
theorem tf_98:gQ ⟨204,39,[],[],[[3],[],[6020],[21030],[31032],[0,33],[4005,34035],[4005,34,36038]],[.cell true 4 2,.tmp 3],false⟩:=gK
theorem tf_97:gQ ⟨205,52,[],[],[[3],[],[5037],[38040],[41044],[0,4,45046],[0,4,45,47051]],[.cell true 4 2,.tmp 3],false⟩:=gK
theorem tf_99:gQ ⟨206,55,[(19,0),(52,0)],[],[[3],[],[],[6008],[10011],[9,12013],[16],[0,14015,17019],[4005,20021],[4005,20,22026],[14015,28],[27,29030],[31045],[0,4005,46047],[3,27,46,48053],[0,4005,54]],[.cell true 4 2,.tmp 3],false⟩:=gK
theorem tf_94:gQ ⟨207,27,[],[],[[4],[],[1],[],[11013],[14022],[7,23024],[7,23,25],[0,5,8010,26]],[.tmp 4],false⟩:=gK
theorem tf_26:gQ ⟨208,75,[(9,1),(11,3),(15,3),(20,1),(22,3),(28,1),(61,1),(67,3)],[(17,[[(1,4),(6,2),(4,1000)]])],[[],[6008],[9011,2009999],[0,12015,2009999],[3,16],[9,17019],[0,20024,2009999],[20,25028],[29037],[38],[41],[0,4,39040,42044],[40,46],[0,4,39,45,47049],[39,45,51],[50,52054],[55061],[0,4005,62068,2009999],[0,4005,62,69071],[0,4,50,72074,2009999]],[.cell true 4 2],false⟩:=gK
theorem tf_22:gQ ⟨209,100,[],[],[[1,4],[5011],[0,3,12],[4,12013],[16],[0,3,14015,17035],[15,37],[0,3,14,36,38046],[36,48],[0,3,14,47,49057],[47,59],[0,3,14,58,60073],[0,58,75],[3,14,74,76084],[14,74,86],[3,85,87099],[3,85]],[.tmp 4],false⟩:=gK
theorem tf_130:gQ ⟨230,6,[],[],[[0,2],[1,3005]],[.tmp 2],false⟩:=gK
theorem tf_100:gQ ⟨244,6,[],[],[[2],[0,3005]],[.tmp 2],false⟩:=gK
theorem tf_101:gQ ⟨245,6,[],[],[[2],[0,3005]],[.tmp 2],false⟩:=gK
theorem tf_153:gQ ⟨246,8,[],[],[[4],[1000001,5007]],[.tmp 4],false⟩:=gK
theorem tf_29:gQ ⟨247,24,[(7,1)],[],[[4],[6007],[1,5,8015],[0,16],[0,4,16023]],[.tmp 4],false⟩:=gK
theorem tf_27:gQ ⟨248,12,[(6,1),(9,1)],[],[[1,4006],[0,7011,2009999]],[],false⟩:=gK
theorem tf_102:gQ ⟨249,17,[],[],[[2],[0],[5],[6],[7],[3004],[4,9],[10],[11],[12],[13],[14],[3,8],[3,8,16],[15],[15]],[.tmp 2],false⟩:=gK
theorem tf_25:gQ ⟨250,28,[(16,3),(19,3),(20,0),(26,3)],[],[[4],[],[1],[],[9010],[6,11],[12016,2009999],[12,17021,2009999],[22],[0,7008,23026,2009999],[5,27]],[.tmp 4],false⟩:=gK
theorem tf_128:gQ ⟨266,20,[],[],[[2],[0],[5],[6],[7],[3004],[4,9],[10],[3,8],[8,12],[3,11],[11,14],[15],[16],[17],[18],[3,19],[3,13],[3,13]],[.tmp 2],false⟩:=gK
theorem tf_134:gQ ⟨268,42,[],[],[[0,6],[8017],[1003,18],[6,18020],[],[21028],[30031],[29,32040],[1003,7,41]],[.tmp 6],false⟩:=gK
theorem tf_103:gQ ⟨282,18,[],[],[[4],[1000001,5017]],[.tmp 4],false⟩:=gK
theorem tf_127:gQ ⟨298,17,[],[],[[2],[0],[5],[6],[7],[3004],[4,9],[10],[11],[12],[13],[14],[3,8],[3,8,16],[15],[15]],[.tmp 2],false⟩:=gK
theorem tf_133:gQ ⟨301,112,[],[],[[0,2],[3],[6],[1,4005,7025],[5,27],[1,4,26,28042],[26,44],[1,4,43,45058],[43,60],[1,4,59,61075],[59,77],[1,4,76,78091],[4,76,93],[1,92,94111],[1,92]],[.tmp 2],false⟩:=gK
noncomputable def funcs:Nat→Option SFunc
 |_=>none
end Go.Sh.Cd5
end

section
namespace Go.Proofs.YtcpaleaajdilgaaGreatDoor
open Go Go.RowKit Go.Mor Go.Sh Go.Sh.Cd1 Go.Sh.Cd5
def pcR(q:Pc):List PV:=[.v (.int .i64 q.k),.v (.int .i64 q.n),.v (.string (str q.s)),.v (.int .i64 (q.p:Int))]
def pcT(q:Pc):TV:=.agg [I q.k,I q.n,S (str q.s),I (q.p:Int)]
def pcs(L:List Pc):TV:=.pv (.sl 4 (L.map pcR))
def pB(L:List Pc)(p sz:Nat):List TV:=[pcs L,I (p:Int),I (sz:Int),bindM]
theorem peek_ok(g:Sh.Glob)(L:List Pc)(p sz:Nat)(hL:L.length≤maxLen):zC g 133 [.ptr 1000 0] [.box (pB L p sz)] (pcT (pkP L sz p)) [.box (pB L p sz)]:=by
 refine z22 tf_28 ?_;unfold pB pcs pcT;by_cases hlt:p<L.length
 ·have d1:(p:Int)<(L.length:Int):=by omega
  obtain⟨q,eq⟩:∃q,L[p]?=some q:=⟨_,gE hlt⟩
  have hq:pkP L sz p=q:=by simp[pkP,eq]
  rw[hq];simp only[vW,seval,d1,eq,pcR,bmV]
 ·have d1:¬(p:Int)<(L.length:Int):=by omega
  have hq:pkP L sz p=⟨0,0,[],sz⟩:=by simp[pkP,List.getElem?_eq_none (Nat.le_of_not_lt hlt)]
  rw[hq];simp only[vW,seval,d1,bmV];rfl
theorem take_ok(g:Sh.Glob)(L:List Pc)(p sz:Nat)(t:zB)(hL:L.length≤maxLen)(hp:p<maxLen):zC g 247 [.ptr 1000 0,S (str t)] [.box (pB L p sz)] (B (isSg (pkP L sz p) t)) [.box (pB L (if isSg (pkP L sz p) t then p+1 else p) sz)]:=by
 refine z22 tf_29 ?_;have HP:=peek_ok g L p sz hL;have w1:IntKind.i64.wrap ((p:Int)+1)=((p+1:Nat):Int):=by unfold maxLen at hp;rw[wrap64 (by omega) (by omega)];omega
 unfold isSg at*;generalize pkP L sz p=q at*;unfold pB pcs pcT B at*;by_cases hk:q.k=4
 ·have hb:(q.k==4)=true:=by simp[hk]
  cases ht:q.s==t
  ·simp only[vW,seval];refine z27 HP ?_;simp only[vW,seval,bmV,hk,hb,ht]
  ·simp only[vW,seval];refine z27 HP ?_;simp only[vW,seval,bmV,hk,hb,ht,w1]
 ·have hb:(q.k==4)=false:=by simp[hk]
  simp only[vW,seval];refine z27 HP ?_;simp only[vW,seval,bmV,hk,hb]
def wrongV(a:Nat):Value:=.iface 212 (.int .i64 (a:Int))
theorem need_ok(g:Sh.Glob)(L:List Pc)(p sz:Nat)(t:zB)(hL:L.length≤maxLen)(hp:p<maxLen)(h:isSg (pkP L sz p) t=true):zC g 248 [.ptr 1000 0,S (str t)] [.box (pB L p sz)] (.tuple []) [.box (pB L (p+1) sz)]:=by
 refine z22 tf_27 ?_;have HT:=take_ok g L p sz t hL hp;rw[h,if_pos rfl]at HT;unfold pB pcs B at*;simp only[vW,seval];exact z91 HT
theorem need_pan(g:Sh.Glob)(L:List Pc)(p sz:Nat)(t:zB)(hL:L.length≤maxLen)(hp:p<maxLen)(h:isSg (pkP L sz p) t=false):SPan Tryz.prog g 248 [.ptr 1000 0,S (str t)] [.box (pB L p sz)] (wrongV (pkP L sz p).p) [.box (pB L p sz)]:=by
 refine pan_of hmix tf_27 rfl rfl rfl ?_
 conv in SFunc.code _=>reduce
 have HT:=take_ok g L p sz t hL hp;have HP:=peek_ok g L p sz hL;rw[h,if_neg (by simp)]at HT;unfold pB pcs B pcT wrongV at*;simp only[vW,seval];refine z35 HT ?_;(with_reducible apply vq_p);simp only[vW,seval];(with_reducible apply vp_ret);(· simp only[vW,seval,bmV];with_reducible rfl);(· rfl);(· exact HP);(· first|rfl|(simp only[vcA,seval];omega));(· simp only[vW,seval,bmV];with_reducible rfl);simp only[vW,seval,bmV]
theorem takes_ok(g:Sh.Glob)(s:zB):zC g 249 [S (str s)] [] (I (takesV s)) []:=by
 refine z10 tf_102 ?_;have q1:=bS [108,101,110];have q2:=bS [116,101,120,116];have q3:=bS [110,117,109];have q4:=bS [108,101,102,116];have q5:=bS [114,105,103,104,116];have q6:=bS [102,114,111,109];have q7:=bS [102,105,110,100];have q8:=bS [109,105,110];have q9:=bS [109,97,120];have q10:=bS [105,102];have hb:∀t:zB,(s==t)=decide (s=t):=fun t=>by rw[Bool.eq_iff_iff];simp
 unfold takesV;simp only[vW,seval,q1,q2,q3,q4,q5,q6,q7,q8,q9,q10,hb]
 repeat' (first|(apply And.intro)|(intro _))
 all_goals simp_all
end Go.Proofs.YtcpaleaajdilgaaGreatDoor
end
