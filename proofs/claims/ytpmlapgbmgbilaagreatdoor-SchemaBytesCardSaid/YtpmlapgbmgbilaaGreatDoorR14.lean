/- Merged texts: S19. No statement of the program is proved here. -/
import Derived.Test.YtpmlapgbmgbilaaGreatDoorR12
set_option linter.unusedSimpArgs false
set_option linter.unusedVariables false
set_option maxRecDepth 100000
set_option maxHeartbeats 8000000
section
namespace Go.Sh
open Go Go.RowKit
def z0z(t:Bool)(A B:Prop):Prop:=(t=true→A)∧(t=false→B)
def z7u(x:Option TV)(A B:Prop):Prop:=match x with
 |some (.pv (.v (.bool t)))=>z0z t A B
 |_=>False
def z5m(x:Option TV)(want:Bool)(gs:Nat)(A B:ES→Prop)(s:ES):Prop:=match x with
 |some (.pv (.v (.bool t)))=>z0z t ((if want then A else B) (s.put (some gs) (.pv (.v (.bool true))))) ((if want then B else A) (s.put (some gs) (.pv (.v (.bool false)))))
 |some (.pv (.v _))=>B s
 |_=>False
def z1i(t:Bool)(want:Bool)(gs:Nat)(A B:ES→Prop)(s:ES):Prop:=z0z t ((if want then A else B) (s.put (some gs) (.pv (.v (.bool true))))) ((if want then B else A) (s.put (some gs) (.pv (.v (.bool false)))))
section
variable{P:Program}{g:Glob}{a b c:SCode}{Q:SExit→ES→Prop}{K:ES→Prop}{s s':ES}{l:List SOper}{A B:Prop}{o:SOper}
@[congr] theorem boolW_congr {t t':Bool} (h:t=t'):z0z t A B=z0z t' A B:=by rw[h]
@[congr] theorem boolK_congr {t t':Option TV} (h:t=t'):z7u t A B=z7u t' A B:=by rw[h]
@[congr] theorem guardW_congr {t t':Option TV} {w:Bool} {gs:Nat} {A B:ES→Prop} (h:t=t'):z5m t w gs A B s=z5m t' w gs A B s:=by rw[h]
@[congr] theorem guardK_congr {t t':Bool} {w:Bool} {gs:Nat} {A B:ES→Prop} (h:t=t'):z1i t w gs A B s=z1i t' w gs A B s:=by rw[h]
@[congr] theorem swp_congr (h:s=s'):swp P g a Q s=swp P g a Q s':=by rw[h]
@[congr] theorem opsW_congr (h:s=s'):zQ P g l K s=zQ P g l K s':=by rw[h]
@[congr] theorem stepW_congr {e e':Option (TV×Upd)} (h:e=e'):z3J P o K s e=z3J P o K s e':=by rw[h]
@[congr] theorem thenW_congr {e:SExit} (h:s=s'):z2G K Q e s=z2G K Q e s':=by rw[h]
@[congr] theorem blockW_congr {e:SExit} {id:Nat} (h:s=s'):z1q id Q e s=z1q id Q e s':=by rw[h]
theorem bW_T:z0z true A B=A:=by simp[z0z]
theorem bW_F:z0z false A B=B:=by simp[z0z]
theorem bW_d{p:Prop}[Decidable p]:z0z (decide p) A B=((p→A)∧(¬p→B)):=by simp[z0z]
theorem bW_n{t:Bool}:z0z (!t) A B=z0z t B A:=by grind [z0z]
theorem bW_a{t u:Bool}:z0z (t&&u) A B=z0z t (z0z u A B) B:=by grind [z0z]
theorem bW_o{t u:Bool}:z0z (t||u) A B=z0z t A (z0z u A B):=by grind [z0z]
theorem bK{t:Bool}:z7u (some (.pv (.v (.bool t)))) A B=z0z t A B:=rfl
theorem gW{t w:Bool}{gs:Nat}{A B:ES→Prop}:z5m (some (.pv (.v (.bool t)))) w gs A B s=z1i t w gs A B s:=rfl
theorem gW_u{w:Bool}{gs:Nat}{A B:ES→Prop}:z5m (some (.pv (.v (.nilIface)))) w gs A B s=B s:=rfl
theorem gW_i{w:Bool}{k:IntKind}{n:Int}{gs:Nat}{A B:ES→Prop}:z5m (some (.pv (.v (.int k n)))) w gs A B s=B s:=rfl
def zcT(Q:SExit→ES→Prop)(kill:List Nat)(s:ES):Prop:=Q .normal (s.kill kill)
def zpr(P:Program)(g:Glob)(l:List SOper)(K:ES→Prop)(dst:Option Nat)(s:ES):Prop:=zQ P g l K (s.put dst (.pv (.v undef)))
@[congr] theorem regK_congr {kill:List Nat} (h:s=s'):zcT Q kill s=zcT Q kill s':=by rw[h]
theorem v_regK{kill:List Nat}:zcT Q kill s=Q .normal (s.kill kill):=rfl
theorem v_skipK{dst:Option Nat}:zpr P g l K dst s=zQ P g l K (s.put dst (.pv (.v undef))):=rfl
theorem zib{α:Type}{k:Nat}{x:α}:∀{l:List (Nat×α)},lk l k=some x→sv l k x=l
 |[],h=>by simp[lk]at h
 |(j,y)::l,h=>by
  simp only[lk]at h;simp only[sv];cases hj:Nat.beq j k with
  |true=>
   simp_all
  |false=>rw[hj]at h;simp only[zib h]
theorem z7X{gs:Nat}{x:TV}(h:lk s.t gs=some x):s.put (some gs) x=s:=by
 show ES.mk _ _ _ _=_;rw[zib h]
theorem z6p{t:Bool}:z0z t A B ↔ (if t then A else B):=by grind [z0z]
theorem v_skip:swp P g .skip Q s=Q .normal s:=rfl
theorem v_seq:swp P g (.seq a b) Q s=swp P g a (z2G (swp P g b Q) Q) s:=rfl
theorem v_exit{id:Nat}:swp P g (.exit id) Q s=Q (.exit id) s:=rfl
theorem v_ret:swp P g .ret Q s=Q .ret s:=rfl
theorem v_block{id:Nat}:swp P g (.block id a) Q s=swp P g a (z1q id Q) s:=rfl
theorem v_cond{x:Arg}:swp P g (.cond x a b) Q s=z7u (x.get s.fs) (swp P g a Q s) (swp P g b Q s):=by
 apply propext;constructor
 ·rintro⟨t,h1,h2⟩
  grind [bK,z6p]
 ·intro h;unfold z7u at h;split at h
  ·rename_i t ht;exact⟨t,ht,z6p.1 h⟩
  ·grind
theorem v_reg{n kill:List Nat}:swp P g (.reg [(n,l)] kill) Q s=zQ P g l (zcT Q kill) (s.fgt n):=by
 show z82 P g _ _ _ _=_;simp[z82];rfl
theorem v_reg2{n kill:List Nat}{x:List Nat×List SOper}{r:List (List Nat×List SOper)}:swp P g (.reg ((n,l)::x::r) kill) Q s=(zQ P g l (zcT Q kill) (s.fgt n)∨swp P g (.reg (x::r) kill) Q s):=by
 show z82 P g _ _ _ _=(_∨z82 P g _ _ _ _)
 simp[z82];rfl
theorem v_nil:zQ P g [] K s=K s:=rfl
theorem v_op{dst fp:Option Nat}{op:SOp}(h:op.isCall=false):zQ P g (⟨dst,none,fp,op⟩::l) K s=z3J P ⟨dst,none,fp,op⟩ (zQ P g l K) s (effG P noC ⟨dst,none,fp,op⟩ s.fs):=propext (zqh h)
theorem v_guard{dst fp:Option Nat}{op:SOp}{gs:Nat}{want:Bool}:zQ P g (⟨dst,some (gs,want),fp,op⟩::l) K s=
  z5m (lk s.t gs) want gs (zQ P g (⟨dst,none,fp,op⟩::l) K) (zpr P g l K dst) s:=by
 have key:∀C,effG P C ⟨dst,some (gs,want),fp,op⟩ s.fs=match lk s.t gs with
  |some (.pv (.v (.bool b)))=>if b==want then effG P C ⟨dst,none,fp,op⟩ s.fs else some (.pv (.v undef),.no)
  |some (.pv (.v _))=>some (.pv (.v undef),.no)
  |_=>none:=fun C=>rfl
 have hA:(∃C,z3O P g C∧∃e,some (TV.pv (.v undef),Upd.no)=some e∧zQ P g l K (s.after ⟨dst,some (gs,want),fp,op⟩ e))=zQ P g l K (s.put dst (.pv (.v undef))):=by
  apply propext;constructor
  ·rintro⟨C,hC,e,he,hk⟩;cases he;exact hk
  ·intro hk;exact⟨noC,z8Q P g,_,rfl,hk⟩
 conv=>lhs;unfold zQ
 simp only[key];unfold z5m;cases hx:lk s.t gs with
 |none=>simp
 |some x=>
  cases x with
  |pv p=>
   cases p with
   |v v=>
    cases v with
    |bool t=>
     cases t
     ·cases want
      ·simp only[bW_F,if_false,beq_self_eq_true,if_true,z7X hx,Bool.false_eq_true];rfl
      ·simp only[bW_F,if_true,z7X hx,bFT,if_false,Bool.false_eq_true];exact hA
     ·cases want
      ·simp only[bW_T,if_false,z7X hx,bTF,Bool.false_eq_true];exact hA
      ·simp only[bW_T,if_true,beq_self_eq_true,z7X hx];rfl
    |_=>exact hA
   |_=>simp
  |_=>simp
theorem gK_T1{gs:Nat}{A B:ES→Prop}:z1i true true gs A B s=A (s.put (some gs) (.pv (.v (.bool true)))):=by simp[z1i,bW_T]
theorem gK_T0{gs:Nat}{A B:ES→Prop}:z1i true false gs A B s=B (s.put (some gs) (.pv (.v (.bool true)))):=by simp[z1i,bW_T]
theorem gK_F1{gs:Nat}{A B:ES→Prop}:z1i false true gs A B s=B (s.put (some gs) (.pv (.v (.bool false)))):=by simp[z1i,bW_F]
theorem gK_F0{gs:Nat}{A B:ES→Prop}:z1i false false gs A B s=A (s.put (some gs) (.pv (.v (.bool false)))):=by simp[z1i,bW_F]
theorem gK_d1{p:Prop}[Decidable p]{gs:Nat}{A B:ES→Prop}:z1i (decide p) true gs A B s=((p→A (s.put (some gs) (.pv (.v (.bool true)))))∧(¬p→B (s.put (some gs) (.pv (.v (.bool false)))))):=by simp[z1i,bW_d]
theorem gK_d0{p:Prop}[Decidable p]{gs:Nat}{A B:ES→Prop}:z1i (decide p) false gs A B s=((p→B (s.put (some gs) (.pv (.v (.bool true)))))∧(¬p→A (s.put (some gs) (.pv (.v (.bool false)))))):=by simp[z1i,bW_d]
theorem gK_n1{t:Bool}{gs:Nat}{A B:ES→Prop}:z1i (!t) true gs A B s=z0z t (B (s.put (some gs) (.pv (.v (.bool false))))) (A (s.put (some gs) (.pv (.v (.bool true))))):=by simp[z1i,bW_n]
theorem gK_n0{t:Bool}{gs:Nat}{A B:ES→Prop}:z1i (!t) false gs A B s=z0z t (A (s.put (some gs) (.pv (.v (.bool false))))) (B (s.put (some gs) (.pv (.v (.bool true))))):=by simp[z1i,bW_n]
theorem v_then_n{K:ES→Prop}:z2G K Q .normal s=K s:=rfl
theorem v_then_r{K:ES→Prop}:z2G K Q .ret s=Q .ret s:=rfl
theorem v_then_x{K:ES→Prop}{id:Nat}:z2G K Q (.exit id) s=Q (.exit id) s:=rfl
theorem v_blk_n{id:Nat}:z1q id Q .normal s=Q .normal s:=rfl
theorem v_blk_r{id:Nat}:z1q id Q .ret s=Q .ret s:=rfl
theorem v_blk_x{id j:Nat}:z1q id Q (.exit j) s=z0z (Nat.beq j id) (Q .normal s) (Q (.exit j) s):=by
 grind [only,z1q,Nat.beq_refl,bW_T,z4g,bW_F]
theorem s_some{e:TV×Upd}:z3J P o K s (some e)=K (s.after o e):=rfl
theorem s_none:z3J P o K s none=False:=rfl
theorem s_ite{c:Prop}[Decidable c]{x:Option (TV×Upd)}:z3J P o K s (if c then x else none)=(c∧z3J P o K s x):=by
 grind [z3J]
theorem s_get{α:Type}{l:List α}{k:Nat}{f:α→TV×Upd}:z3J P o K s (Option.map f l[k]?)=(k<l.length∧∀b,l[k]?=some b→K (s.after o (f b))):=by
 grind [Nat.lt_or_ge,List.getElem?_eq_getElem,z3J,List.getElem?_eq_none,Nat.not_lt]
def z9J{σ:Type}(st:σ→ES)(μ:σ→Nat)(x:σ)(s:ES):Prop:=∃y,μ y<μ x∧(st y).Lw s
@[congr] theorem loopK_congr {σ:Type} {st:σ→ES} {μ:σ→Nat} {x:σ} (h:s=s'):z9J st μ x s=z9J st μ x s':=by rw[h]
theorem zk{σ:Type}(st:σ→ES)(μ:σ→Nat)(x0:σ)(h0:(st x0).Lw s)(hr:∀x,swp P g a (z2G (z9J st μ x) Q) (st x)):swp P g (.loop a) Q s:=by
 refine⟨fun n s=>∃x,μ x=n∧s=st x,μ x0,⟨st x0,h0,x0,rfl,rfl⟩,?_⟩;rintro n s ⟨x,rfl,rfl⟩;refine z1c (hr x) (fun e s he=> ?_);cases e with
 |normal=>obtain⟨y,h1,h2⟩:=he;exact⟨μ y,h1,st y,h2,y,rfl,rfl⟩
 |exit id=>exact he
 |ret=>exact he
 |pan z=>exact he
theorem zc{σ:Type}{st:σ→ES}{μ:σ→Nat}{x:σ}(y:σ)(h1:μ y<μ x)(h2:(st y).Lw s):z9J st μ x s:=⟨y,h1,h2⟩
theorem z0e{s0 s:ES}(h1:leL s0.t s.t)(h2:leL s0.b s.b)(h3:leL s0.r s.r)(h4:leL s0.i s.i):s0.Lw s:=(zsU h1 h2 h3 h4).lw
theorem z18{s0 s:ES}(h:s0=s):s0.Lw s:=h▸ .refl _
def callIn(s:ES)(m:Nat)(xs:List Arg):Option (List TV×List MO×List Nat):=match seqO (fun x:Arg=>x.get s.fs) xs with
 |some args=>match seqO (TV.ren2 (rhoIn (handI s.fs m args))) args,seqO (fun d=>(s.fs.mo d).bind (MO.ren (rhoIn (handI s.fs m args)))) (handI s.fs m args)with
  |some xs',some os=>some (xs',os,handI s.fs m args)
  |_,_=>none
 |none=>none
def callOut(s:ES)(dst:Option Nat)(I:List Nat)(y:TV)(os':List MO):Option ES:=match y.ren3 (rhoOut I (dstId dst)),outs (rhoOut I (dstId dst)) 0 os' with
 |some y',some us=>some ((s.upd dst (.mem us)).put dst y')
 |_,_=>none
def z4V:Option Nat→List Nat→Bool
 |none,_=>true
 |some d,I=>isK (only I) d
theorem zjw{dst fp:Option Nat}{f m:Nat}{xs:List Arg}{args:List TV}(ha:seqO (fun x:Arg=>x.get s.fs) xs=some args)(hfp:z4V fp (handI s.fs m args)=true)(h:zQ P g (⟨dst,none,none,.call f m xs⟩::l) K s):zQ P g (⟨dst,none,fp,.call f m xs⟩::l) K s:=by
 obtain⟨C,hC,e,he,hk⟩:=h;refine⟨C,hC,e,?_,hk⟩;have h1:footOk ⟨dst,none,fp,.call f m xs⟩ s.fs=true:=by
  unfold footOk;cases fp with
  |none=>rfl
  |some d=>
   simp only[SOp.foot,ha];exact hfp
 grind [only,effG,effF,footOk]
theorem zF{dst fp:Option Nat}{f m:Nat}{xs:List Arg}{xs':List TV}{I:List Nat}{os os':List MO}{y:TV}(hx:callIn s m xs=some (xs',os,I))(hfp:z4V fp I=true)(hc:SCalls P g f xs' os y os')(hmo:moOk os os'=true)(hs:callOut s dst I y os'=some s')(hk:zQ P g l K s'):
  zQ P g (⟨dst,none,fp,.call f m xs⟩::l) K s:=by
 unfold callIn at hx;split at hx
 ·rename_i args ha;split at hx
  ·rename_i a1 a2 h1 h2;cases hx;unfold callOut at hs;split at hs
   ·rename_i y' us h3 h4;cases hs;exact zjw ha hfp (zsp ha rfl h1 h2 hc hmo h3 h4 rfl hk)
   ·cases hs
  ·cases hx
 ·cases hx
def callvIn(s:ES)(m:Nat)(x:Arg)(xs:List Arg):Option (Nat×List TV×List MO×List Nat):=match(x.get s.fs).bind TV.callee,seqO (fun x:Arg=>x.get s.fs) xs with
 |some (f,fa,fb),some vs=>match seqO (TV.ren2 (rhoIn (handI s.fs m (fa++vs++fb)))) (fa++vs++fb),seqO (fun d=>(s.fs.mo d).bind (MO.ren (rhoIn (handI s.fs m (fa++vs++fb))))) (handI s.fs m (fa++vs++fb))with
  |some xs',some os=>some (f,xs',os,handI s.fs m (fa++vs++fb))
  |_,_=>none
 |_,_=>none
theorem zr{dst:Option Nat}{f m:Nat}{x:Arg}{xs:List Arg}{xs':List TV}{I:List Nat}{os os':List MO}{y:TV}(hx:callvIn s m x xs=some (f,xs',os,I))(hc:SCalls P g f xs' os y os')(hmo:moOk os os'=true)(hs:callOut s dst I y os'=some s')(hk:zQ P g l K s'):
  zQ P g (⟨dst,none,none,.callv x m xs⟩::l) K s:=by
 unfold callvIn at hx;split at hx
 ·rename_i f' fa fb vs h0 h1;split at hx
  ·rename_i a1 a2 h3 h4;cases hx;unfold callOut at hs;split at hs
   ·rename_i y' us h5 h6;cases hs;refine zjx ?_;rw[h0,h1];exact⟨_,rfl,xs',os,h3,h4,y,os',hc,hmo,y',us,h5,h6,hk⟩
   ·cases hs
  ·cases hx
 ·cases hx
end
end Go.Sh
namespace Go.Sh
open Go Go.RowKit
theorem nc_mov(x:Arg):(SOp.mov x).isCall=false:=rfl
theorem nc_pick(c a b:Arg):(SOp.pick c a b).isCall=false:=rfl
theorem nc_bin(op:BinOp)(t:TypeId)(x y:Arg):(SOp.bin op t x y).isCall=false:=rfl
theorem nc_un(op:UnOp)(x:Arg):(SOp.un op x).isCall=false:=rfl
theorem nc_cvi(k:IntKind)(x:Arg):(SOp.cvi k x).isCall=false:=rfl
theorem nc_cvs(x:Arg):(SOp.cvs x).isCall=false:=rfl
theorem nc_b2s(x:Arg):(SOp.b2s x).isCall=false:=rfl
theorem nc_imm(mx:Bool)(x y:Arg):(SOp.imm mx x y).isCall=false:=rfl
theorem nc_sidx(x i:Arg):(SOp.sidx x i).isCall=false:=rfl
theorem nc_ssub(x:Arg)(lo hi:Option Arg):(SOp.ssub x lo hi).isCall=false:=rfl
theorem nc_slen(x:Arg):(SOp.slen x).isCall=false:=rfl
theorem nc_new(z:List Value):(SOp.new z).isCall=false:=rfl
theorem nc_box(x:Arg):(SOp.box x).isCall=false:=rfl
theorem nc_build(z:List Value)(ps:List (Nat×Nat×Arg)):(SOp.build z ps).isCall=false:=rfl
theorem nc_bsl(W:Nat)(xs:List Arg):(SOp.bsl W xs).isCall=false:=rfl
theorem nc_bslO(e W:Nat)(xs:List Arg):(SOp.bslO e W xs).isCall=false:=rfl
theorem nc_bslB(W:Nat)(xs:List Arg):(SOp.bslB W xs).isCall=false:=rfl
theorem nc_fld(a:Bool)(o n:Nat)(x:Arg):(SOp.fld a o n x).isCall=false:=rfl
theorem nc_fldA(o:Nat)(x:Arg):(SOp.fldA o x).isCall=false:=rfl
theorem nc_ld(a:Bool)(n:Nat)(x:Arg):(SOp.ld a n x).isCall=false:=rfl
theorem nc_st(n:Nat)(x y:Arg):(SOp.st n x y).isCall=false:=rfl
theorem nc_len(x:Arg):(SOp.len x).isCall=false:=rfl
theorem nc_idxA(W:Nat)(x i:Arg):(SOp.idxA W x i).isCall=false:=rfl
theorem nc_sub(W:Nat)(x:Arg)(lo hi:Option Arg):(SOp.sub W x lo hi).isCall=false:=rfl
theorem nc_app(e W n:Nat)(x y:Arg):(SOp.app e W n x y).isCall=false:=rfl
theorem nc_appS(e n:Nat)(x y:Arg):(SOp.appS e n x y).isCall=false:=rfl
theorem nc_appN(e W n:Nat)(x y:Arg):(SOp.appN e W n x y).isCall=false:=rfl
theorem nc_appNS(e n:Nat)(x y:Arg):(SOp.appNS e n x y).isCall=false:=rfl
theorem nc_appB(e W n:Nat)(x y:Arg):(SOp.appB e W n x y).isCall=false:=rfl
theorem nc_ext(x:Arg)(i:Nat):(SOp.ext x i).isCall=false:=rfl
theorem nc_nchk(x:Arg):(SOp.nchk x).isCall=false:=rfl
theorem nc_mkf(f:Fn)(a b:List Arg):(SOp.mkf f a b).isCall=false:=rfl
theorem nc_rng(x:Arg):(SOp.rng x).isCall=false:=rfl
theorem nc_nxt(x:Arg):(SOp.nxt x).isCall=false:=rfl
theorem nc_mks(t:Bool)(n:Nat)(z:List Value)(x:Arg):(SOp.mks t n z x).isCall=false:=rfl
section
variable(P:Program)(t:TypeId)(k:IntKind)(a b:Int)(x y:ByteArray)
theorem bin_quoI:z05 P (do eqGuard .quo t (.const (.int k a)) (.const (.int k b)) (.int k a) (.int k b);binOp .quo t (.int k a) (.int k b))=if b≠0 then some (.pv (.v (.int k (k.wrap (a.tdiv b)))),.no)else none:=by
 by_cases hb:b≠0
 ·rw[if_pos hb];exact zpE P t k a b hb
 ·have:b=0:=by omega
  subst this;rw[if_neg (by simp)];simp[z05,eqGuard,binOp,Op.intDiv];rfl
theorem bin_remI:z05 P (do eqGuard .rem t (.const (.int k a)) (.const (.int k b)) (.int k a) (.int k b);binOp .rem t (.int k a) (.int k b))=if b≠0 then some (.pv (.v (.int k (a.tmod b))),.no)else none:=by
 by_cases hb:b≠0
 ·rw[if_pos hb];exact zpF P t k a b hb
 ·have:b=0:=by omega
  subst this;rw[if_neg (by simp)];simp[z05,eqGuard,binOp,Op.intDiv];rfl
theorem sbin_addI:z05 P (do eqGuard .add t (.const (.string x)) (.const (.string y)) (.string x) (.string y);binOp .add t (.string x) (.string y))=if x.size+y.size≤9223372036854775807 then some (.pv (.v (.string (x++y))),.no)else none:=by
 by_cases hb:x.size+y.size≤9223372036854775807
 ·grind [zoz]
 ·rw[if_neg hb];have hm:IntKind.i64.max=9223372036854775807:=by rfl
  have h':(((x.size+y.size:Nat):Int)>IntKind.i64.max):=by omega
  simp only[z05,eqGuard,binOp,Op.stringOp,h',if_true];rfl
end
end Go.Sh
namespace Go.Sh
open Go Go.RowKit
def zn:TV:=.pv (.v (.slice none 0 0))
def ES.adT(s:ES)(k d e W:Nat):ES:=⟨sv (s.fgt [d]).t k (.own d W []),(s.fgt [d]).b,sv (s.fgt [d]).r d (e,W,0),(s.fgt [d]).i⟩
def ES.adB(s:ES)(x:Nat)(cs:List TV)(j d e W:Nat):ES:=⟨(s.fgt [d]).t,sv (s.fgt [d]).b x (cs.set j (.own d W [])),sv (s.fgt [d]).r d (e,W,0),(s.fgt [d]).i⟩
theorem zhZ{w:World}{E:Env}{r:Rows}{d e W:Nat}{v:Value}(hr:r d=some (e,W,0))(hg:E.γ d=none)(h:RelT w E r zn v):RelT w E r (.own d W []) v:=by
 have hv:v=.slice none 0 0:=val_rel h rfl;subst hv;refine .own d W [] _ ?_ (fun e' W' n hn=> ?_)
 ·exact .sl W [] 0 0 0 none (fun _ _=>undef) (by simp) (by simp) (by simp) (by simp) (by simp) (by simp)
 ·rw[hr]at hn;cases hn;exact⟨Nat.le_refl _,fun _=>⟨rfl,by rw[hg];rfl⟩⟩
section
variable{B:Base}{s:FS}{a:Act}{w:World}{E:Env}
theorem Sim.reT(h:Sim B s a w E){k:Nat}{x y:TV}(hk:s.t k=some x)(hy:∀v,RelT w E s.r x v→RelT w E s.r y v):Sim B (s.setT k y) a w E:=by
 refine⟨h.defers,h.size,fun j z hz=> ?_,h.mem,h.itr,h.ii⟩;rcases z0d hz with⟨rfl,rfl⟩|⟨hj,hz⟩
 ·exact⟨(h.tmp j x hk).1,hy _ (h.tmp j x hk).2⟩
 ·exact h.tmp j z hz
theorem Sim.reB(h:Sim B s a w E){k:Nat}{cs ds:List TV}(hk:s.b k=some cs)(hy:∀(j:Nat) d,ds[j]?=some d→∃c,cs[j]?=some c∧∀v,RelT w E s.r c v→RelT w E s.r d v):Sim B (s.setB k ds) a w E:=by
 refine⟨h.defers,h.size,h.tmp,⟨fun d ds' hd=> ?_,h.mem.row,fun d d' c c' h1 h2 h3=> ?_,fun d d' c q b cap h1 h2 h3=> ?_,h.mem.rr,h.mem.lt,h.mem.low,h.mem.keep,h.mem.knew,h.mem.pas⟩,h.itr,h.ii⟩
 ·rcases z0d hd with⟨rfl,rfl⟩|⟨_,hd⟩
  ·obtain⟨h1,h2⟩:=h.mem.box d cs hk;refine⟨⟨h1.lt,h1.obj,h1.fz,fun j c hc=> ?_,h1.out⟩,h2⟩;obtain⟨c0,hc0,hw⟩:=hy j c hc;obtain⟨v,q1,q2,q3⟩:=h1.cell j c0 hc0;exact⟨v,q1,q2,hw v q3⟩
  ·exact h.mem.box d ds' hd
 ·have e1:∃c,s.b d=some c:=(z0d h1).elim (fun h=>⟨cs,h.1▸hk⟩) (fun h=>⟨_,h.2⟩);have e2:∃c,s.b d'=some c:=(z0d h2).elim (fun h=>⟨cs,h.1▸hk⟩) (fun h=>⟨_,h.2⟩);obtain⟨c1,e1⟩:=e1;obtain⟨c2,e2⟩:=e2;exact h.mem.bb d d' c1 c2 e1 e2 h3
 ·have e1:∃c,s.b d=some c:=(z0d h1).elim (fun h=>⟨cs,h.1▸hk⟩) (fun h=>⟨_,h.2⟩);obtain⟨c1,e1⟩:=e1;exact h.mem.br d d' c1 q b cap e1 h2 h3
end
theorem z8p{s:ES}{k d e W:Nat}(hd:d<1000∨2000≤d)(hk:lk s.t k=some zn):(s.adT k d e W).Lw s:=by
 intro B a w E hm hN hS;have h1:=z1K hS [d];have hf:z0y (s.fgt [d]).fs d:=z1J s (by simp);obtain⟨E',e1,e2,e3,h2,h3⟩:=h1.adopt (d:=d) (fun ho=>by have:=ho.1;have:=ho.2;omega) hf e W;refine⟨E',?_⟩;have hk':(s.fgt [d]).fs.t k=some zn:=by
  show lk ((s.fgt [d]).t) k=_;simp only[ES.fgt,z8M,hk];rfl
 have:=h2.reT (k:=k) (x:=zn) (y:=.own d W []) hk' (fun v hv=>zhZ (e:=e) (by simp[FS.setR,z0I]) e3 hv)
 grind [only,ES.adT,ES.fs,FS.setR,FS.setT,z1z]
theorem z5k{s:ES}{x j d e W:Nat}{cs:List TV}(hd:d<1000∨2000≤d)(hne:x≠d)(hk:lk s.b x=some cs)(hc:cs.map (fgt3 [d])=cs)(hj:cs[j]?=some zn):(s.adB x cs j d e W).Lw s:=by
 intro B a w E hm hN hS;have h1:=z1K hS [d];have hf:z0y (s.fgt [d]).fs d:=z1J s (by simp);obtain⟨E',e1,e2,e3,h2,h3⟩:=h1.adopt (d:=d) (fun ho=>by have:=ho.1;have:=ho.2;omega) hf e W;refine⟨E',?_⟩;have hk':(s.fgt [d]).fs.b x=some cs:=by
  rw[zen];have:has [d] x=false:=by simp only[has];rw[z4g (fun h=>hne h.symm)]
  rw[this,hk];simp[hc]
 have:=h2.reB (k:=x) (cs:=cs) (ds:=cs.set j (.own d W [])) hk' (fun i c hi=>by
  by_cases hij:j=i
  ·subst hij;have hl:j<cs.length:=(gJ hj).1;rw[List.getElem?_set_self hl]at hi;cases hi;exact⟨zn,hj,fun v hv=>zhZ (e:=e) (by simp[FS.setR,z0I]) e3 hv⟩
  ·rw[List.getElem?_set_ne hij]at hi;exact⟨c,hi,fun v hv=>hv⟩)
 have he:(s.adB x cs j d e W).fs=((s.fgt [d]).fs.setR d (e,W,0)).setB x (cs.set j (.own d W [])):=by
  simp only[ES.adB,ES.fs,FS.setR,FS.setB,z1z]
 rw[he];exact this
end Go.Sh
namespace Go.Sh
open Go
theorem reach_nil{s:FS}{rows:Bool}{n:Nat}{seen:List Nat}:zx s rows n [] seen=seen:=by cases n<;>simp[zx]
def z91(s:FS)(rows:Bool)(n d:Nat)(l seen:List Nat):Option Nat→Option (List TV)→Option (Nat×Nat×Nat)→List Nat
 |some _,_,_=>zx s rows n l seen
 |none,some cs,_=>zx s rows n (cs.flatMap TV.ids1++l) (seen++[d])
 |none,none,some _=>if rows then zx s rows n l (seen++[d])else zx s rows n l seen
 |none,none,none=>zx s rows n l seen
theorem reach_cons{s:FS}{rows:Bool}{n d:Nat}{l seen:List Nat}:zx s rows (n+1) (d::l) seen=z91 s rows n d l seen (pos seen d) (s.b d) (s.r d):=by
 simp only[zx];cases hp:pos seen d with
 |some j=>rfl
 |none=>
  cases hb:s.b d with
  |some cs=>rfl
  |none=>
   cases hr:s.r d with
   |none=>rfl
   |some q=>cases rows<;>rfl
theorem reach_m1{s:FS}{rows:Bool}{n d j:Nat}{l seen:List Nat}{b:Option (List TV)}{r:Option (Nat×Nat×Nat)}:z91 s rows n d l seen (some j) b r=zx s rows n l seen:=rfl
theorem reach_m2{s:FS}{rows:Bool}{n d:Nat}{l seen:List Nat}{cs:List TV}{r:Option (Nat×Nat×Nat)}:z91 s rows n d l seen none (some cs) r=zx s rows n (cs.flatMap TV.ids1++l) (seen++[d]):=rfl
theorem reach_m3{s:FS}{rows:Bool}{n d:Nat}{l seen:List Nat}{q:Nat×Nat×Nat}:z91 s rows n d l seen none none (some q)=if rows then zx s rows n l (seen++[d])else zx s rows n l seen:=rfl
theorem reach_m4{s:FS}{rows:Bool}{n d:Nat}{l seen:List Nat}:z91 s rows n d l seen none none none=zx s rows n l seen:=rfl
end Go.Sh
namespace Go.Sh
open Go
section
variable{P:Program}{C:z0m}{d e W n:Nat}{x y:Arg}{s:FS}{z:List Value}
def z7t(d e W n:Nat):Option TV→Option (List (List PV))→Option (TV×Upd)
 |some (.pv (.v (.slice none 0 0))),some es2=>if es2.length*n≤140737488355328∧es2.length≤maxLen then some (.own d W es2,.row d (e,W,es2.length))else none
 |some (.tsl W' es),some es2=>if W'=W∧0<es2.length∧(es.length+es2.length)*n≤140737488355328∧es.length+es2.length≤maxLen then some (.own d W (es++es2),.row d (e,W,es.length+es2.length))else none
 |_,_=>none
def zeF(d e n:Nat):Option Bool→Option ByteArray→Option (TV×Upd)
 |some true,some b=>if b.size*n≤140737488355328∧b.size≤maxLen then some (.own d 1 (z0C b),.row d (e,1,b.size))else none
 |_,_=>none
theorem e_appN:eff P C (some d) (.appN e W n x y) s=z7t d e W n (x.get s) ((y.get s).bind (TV.elems W)):=by
 simp only[eff];unfold z7t;generalize x.get s=a;generalize(y.get s).bind (TV.elems W)=b
 grind
theorem e_appN3{es es2:List (List PV)}{W':Nat}:z7t d e W n (some (.tsl W' es)) (some es2)=if W'=W∧0<es2.length∧(es.length+es2.length)*n≤140737488355328∧es.length+es2.length≤maxLen then some (.own d W (es++es2),.row d (e,W,es.length+es2.length))else none:=rfl
theorem e_appN1{es:List (List PV)}:z7t d e W n (some (.pv (.v (.slice none 0 0)))) (some es)=if es.length*n≤140737488355328∧es.length≤maxLen then some (.own d W es,.row d (e,W,es.length))else none:=rfl
theorem e_appN2{o:Option (List (List PV))}{a b:Nat}{es:List (List PV)}:z7t d e W n (some (.own a b es)) o=none:=by cases o<;>rfl
theorem e_appN4{o:Option (List (List PV))}{b:Nat}{es:List (List PV)}:z7t d e W n (some (.pv (.sl b es))) o=none:=by cases o<;>rfl
def zoZ(d W n:Nat):Option Bool→Option (List (List PV))→Option (TV×Upd)
 |some true,some es2=>if es2.length*n≤140737488355328∧es2.length≤maxLen then(if es2.isEmpty then some (.pv (.v (.slice none 0 0)),.no)else some (.bs d 0 es2.length es2.length,.box (es2.flatten.map .pv)))else none
 |_,_=>none
theorem e_appB:eff P C (some d) (.appB e W n x y) s=zoZ d W n ((x.get s).map TV.isNil) ((y.get s).bind (TV.elems W)):=by
 simp only[eff];generalize(x.get s).map TV.isNil=a;generalize(y.get s).bind (TV.elems W)=b;cases a with
 |none=>rfl
 |some a=>cases a<;>cases b<;>rfl
theorem e_appB1{es:List (List PV)}:zoZ d W n (some true) (some es)=if es.length*n≤140737488355328∧es.length≤maxLen then(if es.isEmpty then some (.pv (.v (.slice none 0 0)),.no)else some (.bs d 0 es.length es.length,.box (es.flatten.map .pv)))else none:=rfl
theorem e_appNS:eff P C (some d) (.appNS e n x y) s=zeF d e n ((x.get s).map TV.isNil) ((y.get s).bind TV.str):=by
 simp only[eff];generalize(x.get s).map TV.isNil=a;generalize(y.get s).bind TV.str=b;cases a with
 |none=>rfl
 |some a=>cases a<;>cases b<;>rfl
theorem e_appNS1{b:ByteArray}:zeF d e n (some true) (some b)=if b.size*n≤140737488355328∧b.size≤maxLen then some (.own d 1 (z0C b),.row d (e,1,b.size))else none:=rfl
theorem e_appNS2{o:Option ByteArray}:zeF d e n (some false) o=none:=by cases o<;>rfl
def zr7(d e W:Nat):Option (List (List PV))→Option (TV×Upd)
 |some es=>if es.all (fun e=>e.length==W)then some (.own d W es,.row d (e,W,es.length))else none
 |none=>none
theorem e_bslO{xs:List Arg}:eff P C (some d) (.bslO e W xs) s=zr7 d e W (seqO (fun x:Arg=>(x.get s).bind TV.pvs) xs):=by
 simp only[eff];generalize seqO (fun x:Arg=>(x.get s).bind TV.pvs) xs=b;cases b<;>rfl
theorem e_bslO1{es:List (List PV)}:zr7 d e W (some es)=if es.all (fun e=>e.length==W)then some (.own d W es,.row d (e,W,es.length))else none:=rfl
def zp6(d W:Nat):Option (List (List TV))→Option (TV×Upd)
 |some es=>if es.all (fun e=>e.length==W)then some (.bs d 0 es.length es.length,.box es.flatten)else none
 |none=>none
theorem e_bslB{xs:List Arg}:eff P C (some d) (.bslB W xs) s=zp6 d W (seqO (fun x:Arg=>(x.get s).bind TV.cells) xs):=by
 simp only[eff];generalize seqO (fun x:Arg=>(x.get s).bind TV.cells) xs=b;cases b<;>rfl
theorem e_bslB1{es:List (List TV)}:zp6 d W (some es)=if es.all (fun e=>e.length==W)then some (.bs d 0 es.length es.length,.box es.flatten)else none:=rfl
def zs4(d:Nat):Option ByteArray→Option (TV×Upd)
 |some z=>some (.it d,.it d (z,0))
 |none=>none
theorem e_rng:eff P C (some d) (.rng x) s=zs4 d ((x.get s).bind TV.str):=by
 simp only[eff];generalize(x.get s).bind TV.str=b;cases b<;>rfl
theorem e_rng1{b:ByteArray}:zs4 d (some b)=some (.it d,.it d (b,0)):=rfl
def zji(t:Bool)(d n:Nat)(z:List Value):Option TV→Option (TV×Upd)
 |some (.pv (.v (.int .i64 k)))=>if 0≤k∧n*k≤140737488355328∧k≤maxLen then some (.bs d 0 k.toNat (if t then 0 else k.toNat),.box ((List.replicate k.toNat (z.map fun v=>TV.pv (.v v))).flatten))else none
 |_=>none
theorem e_mks{t:Bool}:eff P C (some d) (.mks t n z x) s=zji t d n z (x.get s):=by
 simp only[eff];unfold zji
 grind
theorem e_mksT{k:Int}:zji true d n z (some (.pv (.v (.int .i64 k))))=if 0≤k∧n*k≤140737488355328∧k≤maxLen then some (.bs d 0 k.toNat 0,.box ((List.replicate k.toNat (z.map fun v=>TV.pv (.v v))).flatten))else none:=rfl
theorem e_mks1{k:Int}:zji false d n z (some (.pv (.v (.int .i64 k))))=if 0≤k∧n*k≤140737488355328∧k≤maxLen then some (.bs d 0 k.toNat k.toNat,.box ((List.replicate k.toNat (z.map fun v=>TV.pv (.v v))).flatten))else none:=rfl
end
end Go.Sh
namespace Go.Sh
open Go Go.RowKit
def PWk(c d:PV):Prop:=∀w K v,RelV w K c v→RelV w K d v
theorem PWk.refl(c:PV):PWk c c:=fun _ _ _ h=>h
theorem zqp(W:Nat):PWk (.v (.slice none 0 0)) (.sl W []):=by
 intro w K v h;cases h;exact .sl W [] 0 0 0 none (fun _ _=>undef) (by simp) (by simp) (by simp) (by simp) (by simp) (by simp)
theorem zrY{W:Nat}{es es':List (List PV)}(hl:es.length=es'.length)(h:∀(i:Nat) cs ds,es[i]?=some cs→es'[i]?=some ds→cs.length=ds.length∧∀(j:Nat) c d,cs[j]?=some c→ds[j]?=some d→PWk c d):PWk (.sl W es) (.sl W es'):=by
 intro w K v hv;have key:∀(i j:Nat) (ds:List PV) (d:PV),es'[i]?=some ds→ds[j]?=some d→∃cs c,es[i]?=some cs∧cs[j]?=some c∧PWk c d:=by
  grind
 cases hv with
 |sl W es b off cap p f hp hcap hmax hW hc hs=>
  rw[hl];refine .sl W es' b off cap p f (fun hne=>hp (fun h0=>hne (List.eq_nil_of_length_eq_zero (by grind)))) (by omega) hmax (fun ds hds=> ?_) (fun i j ds d h1 h2=> ?_) (fun i j ds d h1 h2=> ?_)
  ·obtain⟨i,hi⟩:=List.getElem?_of_mem hds;have hi':i<es.length:=by grind
   rw[←(h i _ ds (gE hi') hi).1]
   grind
  ·grind
  ·obtain⟨cs,c,h3,h4,h5⟩:=key i j ds d h1 h2;exact h5 _ _ _ (hs i j cs c h3 h4)
theorem zkm{c d:PV}(h:PWk c d):Wk (.pv c) (.pv d):=by
 intro w E r v hv;cases hv with
 |pv hv=>exact .pv (h _ _ _ hv)
theorem zc2{s:ES}{k:Nat}{cs ds:List TV}(hk:lk s.b k=some cs)(hl:cs.length=ds.length)(hw:∀(j:Nat) c d,cs[j]?=some c→ds[j]?=some d→Wk c d):(⟨s.t,sv s.b k ds,s.r,s.i⟩:ES).Lw s:=by
 intro B a w E _ _ hS;refine⟨E,?_⟩;have:=hS.reB (k:=k) (cs:=cs) (ds:=ds) hk (fun j d hd=>by
  have hj:j<cs.length:=by grind
  exact⟨_,gE hj,fun v hv=>hw j _ d (gE hj) hd _ _ _ _ hv⟩)
 grind [sv,only,ES.fs,FS.setB,z1z]
end Go.Sh
namespace Go.Sh
open Go Go.RowKit
theorem zdV{d W:Nat}{es es':List (List PV)}(h:PWk (.sl W es) (.sl W es')):Wk (.own d W es) (.pv (.sl W es')):=by
 intro w E r v hv;cases hv with
 |own d W es v h1 h2=>exact .pv (h _ _ _ h1)
theorem zol{W:Nat}{es:List (List PV)}{cs ds:List PV}(hl:cs.length=ds.length)(h:∀(j:Nat) c d,cs[j]?=some c→ds[j]?=some d→PWk c d):PWk (.sl W (es++[cs])) (.sl W (es++[ds])):=by
 refine zrY (by simp) (fun i a b h1 h2=> ?_);by_cases hi:i<es.length
 ·rw[List.getElem?_append_left hi]at h1 h2;rw[h1]at h2;cases h2;exact⟨rfl,fun j c d h3 h4=>by rw[h3]at h4;cases h4;exact .refl c⟩
 ·grind
end Go.Sh
namespace Go.Sh
open Go
section
variable{P:Program}{C:z0m}{dst:Option Nat}{W l h:Nat}{x:Arg}{lo hi:Option Arg}{s:FS}{z:ByteArray}{es:List (List PV)}{c:Prop}[Decidable c]{o:Option Nat}
def z6G(z:ByteArray):Option Nat→Option Nat→Option (TV×Upd)
 |some l,some h=>if l≤h∧h≤z.size then some (.pv (.v (.string (z.extract l h))),.no)else none
 |_,_=>none
def zk8(s:FS)(lo hi:Option Arg):Option ByteArray→Option (TV×Upd)
 |some z=>z6G z (bound s 0 lo) (bound s z.size hi)
 |none=>none
theorem e_ssub:eff P C dst (.ssub x lo hi) s=zk8 s lo hi ((x.get s).bind TV.str):=by
 simp only[eff];generalize(x.get s).bind TV.str=a
 grind [zk8,z6G,only,bound]
theorem e_ssub1:zk8 s lo hi (some z)=z6G z (bound s 0 lo) (bound s z.size hi):=rfl
theorem e_ssub2:z6G z (some l) (some h)=if l≤h∧h≤z.size then some (.pv (.v (.string (z.extract l h))),.no)else none:=rfl
theorem e_ssub3:z6G z (some l) (if c then some h else none)=if c then z6G z (some l) (some h)else none:=by split<;>rfl
theorem e_ssub4:z6G z (if c then some l else none) o=if c then z6G z (some l) o else none:=by
 split
 ·rfl
 ·cases o<;>rfl
def z9k(W:Nat)(es:List (List PV)):Option Nat→Option Nat→Option (TV×Upd)
 |some l,some h=>if l≤h∧h≤es.length then some (.pv (.sl W ((es.take h).drop l)),.no)else none
 |_,_=>none
def zcY(s:FS)(W:Nat)(lo hi:Option Arg):Option (List (List PV))→Option (TV×Upd)
 |some es=>z9k W es (bound s 0 lo) (bound s es.length hi)
 |none=>none
theorem e_sub1:zcY s W lo hi (some es)=z9k W es (bound s 0 lo) (bound s es.length hi):=rfl
theorem e_sub2:z9k W es (some l) (some h)=if l≤h∧h≤es.length then some (.pv (.sl W ((es.take h).drop l)),.no)else none:=rfl
theorem e_sub3:z9k W es (some l) (if c then some h else none)=if c then z9k W es (some l) (some h)else none:=by split<;>rfl
theorem e_sub4:z9k W es (if c then some l else none) o=if c then z9k W es (some l) o else none:=by
 split
 ·rfl
 ·cases o<;>rfl
def zk9(s:FS)(W:Nat)(lo hi:Option Arg):Option TV→Option (TV×Upd)
 |some (.bs d off n c)=>match bound s 0 lo,bound s n hi with
   |some l,some h=>if l≤h∧h≤n∧n≤c then some (if c=l then .pv (.sl W [])else .bs d (off+l*W) (h-l) (c-l),.no)else none
   |_,_=>none
 |some t=>zcY s W lo hi (t.elems W)
 |none=>none
theorem e_sub:eff P C dst (.sub W x lo hi) s=zk9 s W lo hi (x.get s):=by
 simp only[eff];generalize x.get s=a;cases a with
 |none=>rfl
 |some t=>
  have key:∀q:Option (List (List PV)),(match q with
    |some es=>match bound s 0 lo,bound s es.length hi with
     |some l,some h=>if l≤h∧h≤es.length then some (TV.pv (.sl W ((es.take h).drop l)),Upd.no)else none
     |_,_=>none
    |none=>none)=zcY s W lo hi q:=by
   grind [zcY,z9k,bound]
  cases t with
  |bs d off n c=>rfl
  |pv p=>exact key ((TV.pv p).elems W)
  |own d W' es=>exact key ((TV.own d W' es).elems W)
  |_=>rfl
theorem e_subT1{p:PV}:zk9 s W lo hi (some (.pv p))=zcY s W lo hi ((TV.pv p).elems W):=rfl
theorem e_subT2{d:Nat}{W':Nat}:zk9 s W lo hi (some (.own d W' es))=zcY s W lo hi ((TV.own d W' es).elems W):=rfl
theorem e_subT3 {d off n c : Nat} : zk9 s W lo hi (some (.bs d off n c)) = (match bound s 0 lo, bound s n hi with
      |some l,some h=>if l≤h∧h≤n∧n≤c then some (if c=l then .pv (.sl W [])else .bs d (off+l*W) (h-l) (c-l),.no)else none
      |_,_=>none):=rfl
end
end Go.Sh
namespace Go.Sh
open Go
theorem gW_undef{w:Bool}{gs:Nat}{A B:ES→Prop}{s:ES}:z5m (some (.pv (.v undef))) w gs A B s=B s:=rfl
end Go.Sh
namespace Go.Sh
open Go
section
variable{P:Program}{C:z0m}{dst:Option Nat}{x:Arg}{s:FS}{d p:Nat}{z:ByteArray}
def zo6(d:Nat):Option (ByteArray×Nat)→Option (TV×Upd)
 |some (z,p)=>if p<z.size then some (.tuple [.pv (.v (.bool true)),.pv (.v (.int .i64 (p:Int))),.pv (.v (.int .i32 (Utf8.decode z p).1))],.it d (z,p+(Utf8.decode z p).2))else some (.tuple [.pv (.v (.bool false))],.no)
 |none=>none
def zrR(s:FS):Option TV→Option (TV×Upd)
 |some (.it d)=>zo6 d (s.i d)
 |_=>none
theorem e_nxt:eff P C dst (.nxt x) s=zrR s (x.get s):=by
 simp only[eff];generalize x.get s=a;cases a with
 |none=>rfl
 |some t=>
  cases t<;>rfl
theorem e_nxt1:zrR s (some (.it d))=zo6 d (s.i d):=rfl
theorem e_nxt2:zo6 d (some (z,p))=if p<z.size then some (.tuple [.pv (.v (.bool true)),.pv (.v (.int .i64 (p:Int))),.pv (.v (.int .i32 (Utf8.decode z p).1))],.it d (z,p+(Utf8.decode z p).2))else some (.tuple [.pv (.v (.bool false))],.no):=rfl
end
theorem s_ite2{P:Program}{o:SOper}{K:ES→Prop}{s:ES}{c:Prop}[Decidable c]{a b:TV×Upd}:z3J P o K s (if c then some a else some b)=((c→K (s.after o a))∧(¬c→K (s.after o b))):=by
 grind [z3J]
end Go.Sh
namespace Go.Sh
open Go Go.RowKit
theorem nc_lkp(b:Bool)(z:Value)(x i:Arg):(SOp.lkp b z x i).isCall=false:=rfl
theorem nc_mkI(t:TypeId)(x:Arg):(SOp.mkI t x).isCall=false:=rfl
theorem nc_fnil(b:Bool)(x:Arg):(SOp.fnil b x).isCall=false:=rfl
theorem nc_bad:SOp.bad.isCall=false:=rfl
theorem nc_bsl0(W:Nat):(SOp.bsl0 W).isCall=false:=rfl
theorem nc_mkm:SOp.mkm.isCall=false:=rfl
section
variable{P:Program}{C:z0m}{dst:Option Nat}{x:Arg}{s:FS}{ne:Bool}
def z9B(ne:Bool)(x:Option TV):Option (TV×Upd):=(x.bind TV.fnil).map fun b=>(.pv (.v (.bool (b !=ne))),.no)
theorem e_fnil:eff P C dst (.fnil ne x) s=z9B ne (x.get s):=rfl
theorem e_fnil1{f:Fn}{a b:List TV}:z9B true (some (.fn f a b))=some (.pv (.v (.bool true)),.no):=rfl
theorem e_fnil2{f:Fn}{a b:List PV}:z9B true (some (.pv (.fn f a b)))=some (.pv (.v (.bool true)),.no):=rfl
theorem e_fnil3:z9B true (some (.pv (.v .nilFunc)))=some (.pv (.v (.bool false)),.no):=rfl
theorem e_fnil4{f:Fn}{a b:Array Value}:z9B true (some (.pv (.v (.func f a b))))=some (.pv (.v (.bool true)),.no):=rfl
end
theorem nc_pan(x:Arg):(SOp.pan x).isCall=false:=rfl
section
variable{P:Program}{C:z0m}{dst:Option Nat}{x i:Arg}{s:FS}{b:Bool}{z:Value}
def zaU(z:Value)(xs:List TV):Option (Option Nat)→Option (TV×Upd)
 |some (some j)=>(xs[j]?).map fun t=>(t,.no)
 |some none=>some (zeroT z,.no)
 |none=>none
def zfy(b:Bool)(z:Value):Option TV→Option Value→Option (TV×Upd)
 |some (.mp ks xs),some k=>zaU z xs (findKs (kdOf b) k ks 0)
 |_,_=>none
theorem e_lkp:eff P C dst (.lkp b z x i) s=zfy b z (x.get s) ((i.get s).bind TV.val1):=by
 simp only[eff]
 grind [TV.val1,zfy,zaU,only,findKs,kdOf]
theorem e_lkp1{ks:List Value}{xs:List TV}{k:Value}:zfy b z (some (.mp ks xs)) (some k)=zaU z xs (findKs (kdOf b) k ks 0):=rfl
theorem e_lkp2{xs:List TV}{j:Nat}:zaU z xs (some (some j))=(xs[j]?).map fun t=>(t,.no):=rfl
theorem e_lkp3{xs:List TV}:zaU z xs (some none)=some (zeroT z,.no):=rfl
end
section
variable{P:Program}{g:Glob}{Q:SExit→ES→Prop}{K:ES→Prop}{s s':ES}{l:List SOper}{D:List Nat}{R:Value→ES→Prop}
theorem v_then_p{z:Value}:z2G K Q (.pan z) s=Q (.pan z) s:=rfl
theorem v_blk_p{id:Nat}{z:Value}:z1q id Q (.pan z) s=Q (.pan z) s:=rfl
def zjz(Q:SExit→ES→Prop)(z:Value)(s:ES):Prop:=Q (.pan z) s
@[congr] theorem panK_congr {z:Value} (h:s=s'):zjz Q z s=zjz Q z s':=by rw[h]
theorem v_panK{z:Value}:zjz Q z s=Q (.pan z) s:=rfl
@[congr] theorem opsP_congr (h:s=s'):z2Z P g D l R s=z2Z P g D l R s':=by rw[h]
def z5R(P:Program)(g:Glob)(D:List Nat)(l:List SOper)(R:Value→ES→Prop)(o:SOper)(s:ES):Option (TV×Upd)→Prop
 |some e=>z2Z P g D l R (s.after o e)
 |none=>False
@[congr] theorem stepP_congr {o:SOper} {e e':Option (TV×Upd)} (h:e=e'):z5R P g D l R o s e=z5R P g D l R o s e':=by rw[h]
theorem sp_some{o:SOper}{e:TV×Upd}:z5R P g D l R o s (some e)=z2Z P g D l R (s.after o e):=rfl
theorem sp_get{α:Type}{o:SOper}{xs:List α}{k:Nat}{f:α→TV×Upd}:z5R P g D l R o s (Option.map f xs[k]?)=(k<xs.length∧∀b,xs[k]?=some b→z2Z P g D l R (s.after o (f b))):=by
 grind [Nat.lt_or_ge,List.getElem?_eq_getElem,z5R,List.getElem?_eq_none,Nat.not_lt]
theorem sp_ite{o:SOper}{c:Prop}[Decidable c]{x:Option (TV×Upd)}:z5R P g D l R o s (if c then x else none)=(c∧z5R P g D l R o s x):=by
 grind [z5R]
theorem z3d{n kill:List Nat}{r:List (List Nat×List SOper)}(h:zQ P g l (zcT Q kill) (s.fgt n)):swp P g (.regq ((n,l)::r) kill) Q s:=.inl ⟨_,List.mem_cons_self ..,h⟩
theorem z4R{n kill:List Nat}{r:List (List Nat×List SOper)}(h:z2Z P g (dstOps l) l (zjz Q) (s.fgt n)):swp P g (.regq ((n,l)::r) kill) Q s:=.inr ⟨_,List.mem_cons_self ..,h⟩
theorem zso{dst fp:Option Nat}{x:Arg}{t:TypeId}{v:Value}(hx:x.get s.fs=some (.pv (.v (.iface t v))))(hk:R (.iface t v) (s.kill D)):z2Z P g D (⟨dst,none,fp,.pan x⟩::l) R s:=
 .inl ⟨rfl,.iface t v,.no,⟨rfl,hx,⟨t,v,rfl⟩,rfl⟩,hk⟩
theorem z2S{dst fp:Option Nat}{f m:Nat}{xs:List Arg}{xs':List TV}{I:List Nat}{os os':List MO}{z:Value}{us:List (Nat×MO)}(hm:Nat.beq m 3=true)(hx:callIn s m xs=some (xs',os,I))(hc:z8o P g f xs' os z os')(hmo:moOk os os'=true)(hs:outs (rhoOut I (dstId dst)) 0 os'=some us)(hk:R z ((s.upd dst (.mem us)).kill D)):
  z2Z P g D (⟨dst,none,fp,.call f m xs⟩::l) R s:=by
 unfold callIn at hx;split at hx
 ·rename_i args ha;split at hx
  ·rename_i a1 a2 h1 h2;cases hx;exact .inl ⟨hm,z,.mem us,⟨rfl,args,ha,_,_,os',us,h1,h2,hc,hmo,hs,rfl⟩,hk⟩
  ·cases hx
 ·cases hx
theorem zmI{dst fp:Option Nat}{f m:Nat}{xs:List Arg}{xs':List TV}{I:List Nat}{os os':List MO}{y:TV}(hx:callIn s m xs=some (xs',os,I))(hfp:z4V fp I=true)(hc:SCalls P g f xs' os y os')(hmo:moOk os os'=true)(hs:callOut s dst I y os'=some s')(hk:z2Z P g D l R s'):
  z2Z P g D (⟨dst,none,fp,.call f m xs⟩::l) R s:=by
 have h:zQ P g [⟨dst,none,fp,.call f m xs⟩] (z2Z P g D l R) s:=zF hx hfp hc hmo hs hk;obtain⟨C,hC,e,he,hk⟩:=h;exact .inr ⟨C,hC,e,he,hk⟩
end
def PostP(keep:Bool)(n:Nat)(z:Value)(os':List MO):SExit→ES→Prop
 | .pan z',s=>z'=z∧exitR [] keep n s=some (.tuple [],os')
 |_,_=>False
theorem z8X{P:Program}{g:Glob}{f:Nat}{H:Nat→Option Nat→Nat}{Fp:Nat→List (Nat→Option Nat)}{K:Nat→List Nat}{keep:Bool}{F:SFunc}(ze:P.follows .mixedOrders=true)(hF:zW P f H Fp K keep=some F){xs:List TV}{os os':List MO}{z:Value}(hn:Nat.ble xs.length F.N=true)(hos:Nat.ble os.length 1000=true)(hmo:moOk os os'=true)
  (h:swp P g F.code (PostP keep os.length z os') (startE xs os)):z8o P g f xs os z os':=
 zjA ze hF (Nat.le_of_ble_eq_true hn) (Nat.le_of_ble_eq_true hos) hmo (z1c h fun e s he=>by
  cases e with
  |pan z'=>exact⟨by rw[he.1],he.2⟩
  |_=>exact he.elim)
end Go.Sh
namespace Go.Sh
open Go Go.RowKit
theorem np_mov(x:Arg):zI (SOp.mov x)=false:=rfl
theorem np_pick(c a b:Arg):zI (SOp.pick c a b)=false:=rfl
theorem np_bin(op:BinOp)(t:TypeId)(x y:Arg):zI (SOp.bin op t x y)=false:=rfl
theorem np_un(op:UnOp)(x:Arg):zI (SOp.un op x)=false:=rfl
theorem np_cvi(k:IntKind)(x:Arg):zI (SOp.cvi k x)=false:=rfl
theorem np_cvs(x:Arg):zI (SOp.cvs x)=false:=rfl
theorem np_b2s(x:Arg):zI (SOp.b2s x)=false:=rfl
theorem np_imm(mx:Bool)(x y:Arg):zI (SOp.imm mx x y)=false:=rfl
theorem np_sidx(x i:Arg):zI (SOp.sidx x i)=false:=rfl
theorem np_ssub(x:Arg)(lo hi:Option Arg):zI (SOp.ssub x lo hi)=false:=rfl
theorem np_slen(x:Arg):zI (SOp.slen x)=false:=rfl
theorem np_new(z:List Value):zI (SOp.new z)=false:=rfl
theorem np_box(x:Arg):zI (SOp.box x)=false:=rfl
theorem np_build(z:List Value)(ps:List (Nat×Nat×Arg)):zI (SOp.build z ps)=false:=rfl
theorem np_bsl(W:Nat)(xs:List Arg):zI (SOp.bsl W xs)=false:=rfl
theorem np_bslO(e W:Nat)(xs:List Arg):zI (SOp.bslO e W xs)=false:=rfl
theorem np_bslB(W:Nat)(xs:List Arg):zI (SOp.bslB W xs)=false:=rfl
theorem np_fld(a:Bool)(o n:Nat)(x:Arg):zI (SOp.fld a o n x)=false:=rfl
theorem np_fldA(o:Nat)(x:Arg):zI (SOp.fldA o x)=false:=rfl
theorem np_ld(a:Bool)(n:Nat)(x:Arg):zI (SOp.ld a n x)=false:=rfl
theorem np_st(n:Nat)(x y:Arg):zI (SOp.st n x y)=false:=rfl
theorem np_len(x:Arg):zI (SOp.len x)=false:=rfl
theorem np_idxA(W:Nat)(x i:Arg):zI (SOp.idxA W x i)=false:=rfl
theorem np_sub(W:Nat)(x:Arg)(lo hi:Option Arg):zI (SOp.sub W x lo hi)=false:=rfl
theorem np_app(e W n:Nat)(x y:Arg):zI (SOp.app e W n x y)=false:=rfl
theorem np_appS(e n:Nat)(x y:Arg):zI (SOp.appS e n x y)=false:=rfl
theorem np_appN(e W n:Nat)(x y:Arg):zI (SOp.appN e W n x y)=false:=rfl
theorem np_appNS(e n:Nat)(x y:Arg):zI (SOp.appNS e n x y)=false:=rfl
theorem np_appB(e W n:Nat)(x y:Arg):zI (SOp.appB e W n x y)=false:=rfl
theorem np_ext(x:Arg)(i:Nat):zI (SOp.ext x i)=false:=rfl
theorem np_nchk(x:Arg):zI (SOp.nchk x)=false:=rfl
theorem np_mkf(f:Fn)(a b:List Arg):zI (SOp.mkf f a b)=false:=rfl
theorem np_rng(x:Arg):zI (SOp.rng x)=false:=rfl
theorem np_nxt(x:Arg):zI (SOp.nxt x)=false:=rfl
theorem np_mks(t:Bool)(n:Nat)(z:List Value)(x:Arg):zI (SOp.mks t n z x)=false:=rfl
theorem np_lkp(b:Bool)(z:Value)(x i:Arg):zI (SOp.lkp b z x i)=false:=rfl
theorem np_mkI(t:TypeId)(x:Arg):zI (SOp.mkI t x)=false:=rfl
theorem np_fnil(b:Bool)(x:Arg):zI (SOp.fnil b x)=false:=rfl
theorem np_bad:zI SOp.bad=false:=rfl
theorem np_bsl0(W:Nat):zI (SOp.bsl0 W)=false:=rfl
theorem np_mkm:zI SOp.mkm=false:=rfl
section
variable{P:Program}{g:Glob}{l:List SOper}{D:List Nat}{R:Value→ES→Prop}{s:ES}
theorem vp_opE{dst fp:Option Nat}{op:SOp}(h:op.isCall=false)(hm:zI op=false):z2Z P g D (⟨dst,none,fp,op⟩::l) R s=z5R P g D l R ⟨dst,none,fp,op⟩ s (effG P noC ⟨dst,none,fp,op⟩ s.fs):=by
 apply propext;constructor
 ·rintro(⟨h1,_⟩|⟨C,hC,e,he,hk⟩)
  ·grind
  ·rw[zf2 h]at he;rw[he];exact hk
 ·intro hk;cases he:effG P noC ⟨dst,none,fp,op⟩ s.fs with
  |none=>rw[he]at hk;exact hk.elim
  |some e=>rw[he]at hk;exact .inr ⟨noC,z8Q P g,e,he,hk⟩
def zfP(x:Option TV)(D:List Nat)(R:Value→ES→Prop)(s:ES):Prop:=match x with
 |some (.pv (.v (.iface t v)))=>R (.iface t v) (s.kill D)
 |_=>False
@[congr] theorem panW_congr {x x':Option TV} (h:x=x'):zfP x D R s=zfP x' D R s:=by rw[h]
theorem panW1{t:TypeId}{v:Value}:zfP (some (.pv (.v (.iface t v)))) D R s=R (.iface t v) (s.kill D):=rfl
theorem vp_panE{dst fp:Option Nat}{x:Arg}:z2Z P g D (⟨dst,none,fp,.pan x⟩::l) R s=zfP (x.get s.fs) D R s:=by
 apply propext;constructor
 ·rintro(⟨_,z,u,⟨_,h2,⟨t,v,rfl⟩,rfl⟩,hk⟩|⟨C,hC,e,he,_⟩)
  ·rw[h2];exact hk
  ·simp only[effG,effF]at he;split at he
   ·cases he
   ·cases he
 ·intro h;unfold zfP at h
  grind [zso]
end
end Go.Sh
end
