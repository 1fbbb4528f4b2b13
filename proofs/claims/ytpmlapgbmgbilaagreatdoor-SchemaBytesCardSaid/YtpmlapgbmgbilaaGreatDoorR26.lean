/- Merged texts: Vy Ze13 Ze23 Ze26. No statement of the program is proved here. -/
import Derived.Test.YtpmlapgbmgbilaaGreatDoorR24
import Derived.Test.YtpmlapgbmgbilaaGreatDoorR25
set_option linter.unusedSimpArgs false
set_option linter.unusedVariables false
set_option maxRecDepth 100000
set_option maxHeartbeats 8000000
section
namespace Go.Proofs.YtpmlapgbmgbilaaGreatDoor
open Go Go.RowKit Go.Mor Go.Sh
section
section
variable{P:Program}{g:Sh.Glob}{R:RY}{yv:Value}{Q:Option SExit→SExit→ES→Prop}{K:SExit→ES→Prop}{s s' s0:ES}{ph:Option SExit}{e:SExit}{A:ES→Prop}{c:SCode}{n kill I:List Nat}{os:List MO}
@[congr] theorem swpY_congr {y:YD} (h:s=s'):z1M P g R yv y Q s=z1M P g R yv y Q s':=by rw[h]
@[congr] theorem yldK_congr {d:Option Nat} {x:Arg} {xs:List Arg} {q:List SOper} (h:s=s'):zgC P g R yv n d x xs q kill Q s=zgC P g R yv n d x xs q kill Q s':=by rw[h]
@[congr] theorem yieldW_congr {x:Arg} {xs:List Arg} (h:s=s'):z9p P g R yv x xs K s=z9p P g R yv x xs K s':=by rw[h]
@[congr] theorem ansK_congr {d:Option Nat} {q:List SOper} (h:s=s'):zeE P g n d q kill Q e s=zeE P g n d q kill Q e s':=by rw[h]
@[congr] theorem kilK_congr (h:s=s'):zaS kill Q e s=zaS kill Q e s':=by rw[h]
@[congr] theorem thenB_congr (h:s=s'):z6I A P g c Q ph e s=z6I A P g c Q ph e s':=by rw[h]
@[congr] theorem blkB_congr {id:Nat} (h:s=s'):zeI id Q ph e s=zeI id Q ph e s':=by rw[h]
@[congr] theorem lopB_congr (h:s=s'):zaV A Q ph e s=zaV A Q ph e s':=by rw[h]
@[congr] theorem endY_congr (h:s=s'):zaG s0 os I K e s=zaG s0 os I K e s':=by rw[h]
@[congr] theorem endF_congr {K:SExit→ES→Prop} (h:s=s'):z8v s0 os I K ph e s=z8v s0 os I K ph e s':=by rw[h]
@[congr] theorem endK_congr {x x':Option (TV×List MO)} (h:x=x'):z5A s0 os I A x=z5A s0 os I A x':=by rw[h]
@[congr] theorem endS_congr {x x':Option ES} (h:x=x'):zcF A x=zcF A x':=by rw[h]
@[congr] theorem phK_congr {K:SExit→ES→Prop} (h:s=s'):phK K ph s=phK K ph s':=by rw[h]
theorem zin:z1M P g R yv (.plain c) Q s=swp P g c (Q none) s:=rfl
theorem zpy{p q:List SOper}{d:Option Nat}{x:Arg}{xs:List Arg}:z1M P g R yv (.yld n p d x xs q kill) Q s=zQ P g p (zgC P g R yv n d x xs q kill Q) (s.fgt n):=rfl
theorem zmS{q:List SOper}{d:Option Nat}{x:Arg}{xs:List Arg}:zgC P g R yv n d x xs q kill Q s=z9p P g R yv x xs (zeE P g n d q kill Q) (s.fgt y4):=rfl
theorem zpx{a b:YD}:z1M P g R yv (.seq a b c) Q s=z1M P g R yv a (z6I (z1M P g R yv b Q) P g c Q) s:=rfl
theorem zmO{x:Arg}{a b:YD}:z1M P g R yv (.cond x a b) Q s=z7u (x.get s.fs) (z1M P g R yv a Q s) (z1M P g R yv b Q s):=by
 apply propext;constructor
 ·rintro⟨t,h1,h2⟩
  grind [bK,z6p]
 ·intro h;unfold z7u at h;split at h
  ·rename_i t ht;exact⟨t,ht,z6p.1 h⟩
  ·grind
theorem zim{id:Nat}{a:YD}:z1M P g R yv (.block id a) Q s=z1M P g R yv a (zeI id Q) s:=rfl
theorem zmN{q:List SOper}{d:Option Nat}:zeE P g n d q kill Q e s=zQ P g q (zaS kill Q e) ((s.put d (.pv (.v (.bool (onN e))))).fgt n):=rfl
theorem zmP:zaS kill Q .normal s=Q none .normal (s.kill kill):=rfl
theorem zmQ:zaS kill Q .ret s=Q (some .ret) .normal (s.kill kill):=rfl
theorem zmR{id:Nat}:zaS kill Q (.exit id) s=Q (some (.exit id)) .normal (s.kill kill):=rfl
theorem zsJ:z6I A P g c Q none .normal s=A s:=rfl
theorem zsI{p:SExit}:z6I A P g c Q (some p) .normal s=swp P g c (Q (some p)) s:=rfl
theorem zsK:z6I A P g c Q ph .ret s=Q ph .ret s:=by cases ph<;>rfl
theorem zsL{id:Nat}:z6I A P g c Q ph (.exit id) s=Q ph (.exit id) s:=by cases ph<;>rfl
theorem zpw{id:Nat}:zeI id Q ph e s=z1q id (Q ph) e s:=rfl
theorem zsz:zaV A Q none .normal s=A s:=rfl
theorem zsA:zaV A Q ph .ret s=Q ph .ret s:=by cases ph<;>rfl
theorem zsB{id:Nat}:zaV A Q ph (.exit id) s=Q ph (.exit id) s:=by cases ph<;>rfl
theorem zst:zaG s0 os I K .normal s=z5A s0 os I (K .normal) (exitR [] true os.length s):=rfl
theorem zsu:zaG s0 os I K .ret s=z5A s0 os I (K .ret) (exitR [] true os.length s):=rfl
theorem zsw{id:Nat}:zaG s0 os I K (.exit id) s=z5A s0 os I (K (.exit id)) (exitR [] true os.length s):=rfl
theorem zss{y:TV}{os':List MO}:z5A s0 os I A (some (y,os'))=(moOk os os'=true∧zcF A (callOut s0 none I (.tuple []) os')):=rfl
theorem zsv:zcF A (some s)=A s:=rfl
theorem zsx{K:SExit→ES→Prop}:z8v s0 os I K ph .normal s=z5A s0 os I (phK K ph) (exitR [] true os.length s):=rfl
theorem zsy{K:SExit→ES→Prop}:z8v s0 os I K ph .ret s=z5A s0 os I (phK K ph) (exitR [] true os.length s):=rfl
theorem zsF{K:SExit→ES→Prop}:phK K none s=K .normal s:=rfl
theorem zsG{K:SExit→ES→Prop}:phK K (some .ret) s=K .ret s:=rfl
theorem zsH{K:SExit→ES→Prop}{id:Nat}:phK K (some (.exit id)) s=K (.exit id) s:=rfl
theorem zsC:onN .normal=true:=rfl
theorem zsD:onN .ret=false:=rfl
theorem zsE{id:Nat}:onN (.exit id)=false:=rfl
theorem zcu{σ:Type}{a:YD}(st:σ→ES)(μ:σ→Nat)(x0:σ)(h0:(st x0).Lw s)(hr:∀x,z1M P g R yv a (zaV (z9J st μ x) Q) (st x)):z1M P g R yv (.loop a) Q s:=by
 refine⟨fun n s=>∃x,μ x=n∧s=st x,μ x0,⟨st x0,h0,x0,rfl,rfl⟩,?_⟩;rintro n s ⟨x,rfl,rfl⟩;have he:(fun s'=>∃m,m<μ x∧∃s0,s0.Lw s'∧∃y,μ y=m∧s0=st y)=z9J st μ x:=by
  funext s';apply propext;constructor
  ·rintro⟨_,h1,_,h2,y,rfl,rfl⟩;exact⟨y,h1,h2⟩
  ·rintro⟨y,h1,h2⟩;exact⟨_,h1,_,h2,y,rfl,rfl⟩
 rw[he];exact hr x
end
theorem zpv:y4=[5600,5601,5602,5603]:=rfl
theorem vcY:(type_of% @zin)∧(type_of% @zpy)∧(type_of% @zmS)∧(type_of% @zpx)∧(type_of% @zmO)∧(type_of% @zim)∧(type_of% @zmN)∧(type_of% @zmP)∧(type_of% @zmQ)∧(type_of% @zmR)∧(type_of% @zsJ)∧(type_of% @zsI)∧(type_of% @zsK)∧(type_of% @zsL)∧(type_of% @zpw)∧(type_of% @zsz)∧(type_of% @zsA)∧(type_of% @zsB)∧(type_of% @zst)∧(type_of% @zsu)∧(type_of% @zsw)∧(type_of% @zss)∧(type_of% @zsv)∧(type_of% @zsx)∧(type_of% @zsy)∧(type_of% @zsF)∧(type_of% @zsG)∧(type_of% @zsH)∧(type_of% @zsC)∧(type_of% @zsD)∧(type_of% @zsE)∧(type_of% @zpv)∧(type_of% @z5Y.eq_1)∧(type_of% @handT.eq_1)∧(type_of% @z7q.eq_1)∧(type_of% @roundW.eq_1)∧(type_of% @List.zip_cons_cons.{0,0})∧(type_of% @List.zip_nil_right.{0,0})∧(type_of% @List.zip_nil_left.{0,0})∧type_of% @vcA∧type_of% @vV:=
 ⟨@zin,@zpy,@zmS,@zpx,@zmO,@zim,@zmN,@zmP,@zmQ,@zmR,@zsJ,@zsI,@zsK,@zsL,@zpw,@zsz,@zsA,@zsB,@zst,@zsu,@zsw,@zss,@zsv,@zsx,@zsy,@zsF,@zsG,@zsH,@zsC,@zsD,@zsE,@zpv,@z5Y.eq_1,@handT.eq_1,@z7q.eq_1,@roundW.eq_1,@List.zip_cons_cons,@List.zip_nil_right,@List.zip_nil_left,vcA,vV⟩
section
variable{g:Sh.Glob}{R:RY}{yv:Value}{K:SExit→ES→Prop}{s:ES}{us:List TV}{os:List MO}{I:List Nat}{G:Prop}
theorem z6O{x:Arg}{xs:List Arg}(h:G)(hy:x.get s.fs=some (.pv (.v yv)):=by simp only[vcY,seval])(hx:z7q R s xs=some (us,os,I):=by simp only[vcY,seval];rfl)(ho:Nat.ble os.length 1000=true:=by rfl)(hr:roundW Tryz.prog g R s os I us K=G:=by simp only[vcY,seval];rfl):z9p Tryz.prog g R yv x xs K s:=
 ⟨hy,us,os,I,hx,ho,hr▸h⟩
theorem zc0{f k N gi n2:Nat}{H H2:Nat→Option Nat→Nat}{Fp Fp2:Nat→List (Nat→Option Nat)}{Kk K2:Nat→List Nat}{keep:Bool}{F2:SFunc}{x:Arg}{ps lug:List Nat}{sa sb:SCode}{c2:YD}{uc:List TV}{lt:List (Nat×TV)}{Q:SExit→ES→Prop}{G:Value→Prop}(hF:zW Tryz.prog gi H2 Fp2 K2 keep=some F2)(h:∀yv,G yv)
  (hres:F2.res=[]:=by rfl) (hT:zg7 Tryz.prog f k N H Fp Kk=some (zk1 Tryz.prog f k H Fp Kk):=by kernel_rfl) (hok:zk2 Tryz.prog N gi lug (zg7 Tryz.prog f k N H Fp Kk)=true:=by kernel_rfl) (hd:zk1 Tryz.prog f k H Fp Kk=(x,ps,sa,sb):=by conv=>lhs;reduce) (hc2:(F2.N,toY F2.code)=(n2,c2):=by conv=>lhs;reduce) (hin:z5Y (s.fgt y4) x gi lug n2=some (uc,lt,os,I):=by simp only[vcY,seval];rfl) (hos:Nat.ble os.length 1000=true:=by rfl)
  (hr:∀yv,z1M Tryz.prog g ⟨lt,ps,sa,sb⟩ yv c2 (z8v (s.fgt y4) os I Q) ⟨(0,.pv (.v yv))::numT 1 uc,numB 1000 os,numR 1000 os,[]⟩=G yv:=by intro yv;simp only[vcY,seval];rfl):swp Tryz.prog g (.raw N (z6C Tryz.prog f k)) Q s:=
 zqP ze hF hres hT hok hd hc2 hin hos fun yv=>hr yv▸h yv
end
section
variable{g:Sh.Glob}{f m:Nat}{dst fp:Option Nat}{xs:List Arg}{xs':List TV}{I:List Nat}{os os':List MO}{y:TV}{l:List SOper}{K:ES→Prop}{s s':ES}{G:Prop}
theorem z2o(hc:zC g f xs' os y os')(h:G)(hx:callIn s m xs=some (xs',os,I):=by simp only[vcY,seval];rfl)(hfp:z4V fp I=true:=by rfl)(hmo:moOk os os'=true:=by first|rfl|(simp only[vcA,seval];omega))(hs:callOut s dst I y os'=some s':=by simp only[vcY,seval];rfl)(hr:zQ Tryz.prog g l K s'=G:=by simp only[vcY,seval];rfl):
  zQ Tryz.prog g (⟨dst,none,fp,.call f m xs⟩::l) K s:=zF hx hfp hc hmo hs (hr▸h)
end
end
section
open Go.Sh.Cd1 Go.Sh.Cd5
theorem zlY(g:Sh.Glob)(s:zB):zC g 138 [S (str s)] [] (.fn (.func 165) [] [.ptr 1000 0]) [.box [S (str s)]]:=by
 refine zj tf_101 ?_;simp only[vW,seval]
def zcQ(r:Option (Pc×Nat))(k:Nat):Pc×Nat:=match r with
 |some (q,z)=>(q,z)
 |none=>(⟨0,0,[],k⟩,0)
theorem zrV(l:zB)(k:Nat):p0T (z0l l 0)=.tuple [.agg [I (zcQ (z0l l k) k).1.k,I (zcQ (z0l l k) k).1.n,S (str (zcQ (z0l l k) k).1.s),I 0],I ((zcQ (z0l l k) k).2:Int)]:=by
 rw[zon l k];cases h:z0l l 0 with
 |none=>rfl
 |some x=>
  obtain⟨q,z⟩:=x;have hq:q.p=0:=by
   cases l with
   |nil=>simp[z0l]at h
   |cons b r=>exact(z92 h).2.2.2
  simp[p0T,zcQ,Option.map]
def sI(yv:Value)(s:zB)(k:Nat)(L:List Pc):ES:=⟨[(0,.pv (.v yv)),(1,.ptr 1000 0),(3,I (k:Int))],[(1000,[S (str s)]),(1001,[.own 3000 4 (L.map pcR),I 0,I (s.length:Int),z0M]),(1002,zH),(1003,[I 0]),(1004,[I 0])],[(3000,(221,4,L.length))],[]⟩
inductive Rst(m:Nat)(L:List Pc)(sz:Nat):TV→Prop where
 |bad (p a:Nat) (h:zC (gl0 m) 139 [.ptr 1000 0] [.box (pB L 0 sz)] (.tuple [.agg zH,I (a:Int),B false]) [.box (pB L p sz)]):Rst m L sz (.tuple [.agg zH,I (a:Int),I 50])
 |deep (p:Nat) (e:V) (h:zC (gl0 m) 139 [.ptr 1000 0] [.box (pB L 0 sz)] (.tuple [tv e,I 0,B true]) [.box (pB L p sz)]) (he:ESmall e) (hr:z15 e=false):Rst m L sz (.tuple [.agg zH,I 0,I 51])
 |right (p:Nat) (e:V) (h:zC (gl0 m) 139 [.ptr 1000 0] [.box (pB L 0 sz)] (.tuple [tv e,I 0,B true]) [.box (pB L p sz)]) (he:ESmall e) (hr:z15 e=true):Rst m L sz (.tuple [tv e,I 0,I 0])
theorem z5o(m:Nat){s:zB}(hs:s.length≤200){R:Lx}(hR:∃f,z10 f s 0 []=some R){y:TV}(hy:(∃q:Nat,R=.bad q∧y=.tuple [.agg zH,I (q:Int),I 50])∨∃L,R=.ok L∧Rst m L s.length y):zC (gl0 m) 101 [S (str s)] [] y []:=by
 have HB:=zac (gl0 m);have HP:=zlY (gl0 m) s;have d1:¬(200:Int)<(s.length:Int):=by omega
 refine za tf_98 ?_ (hc:=rfl);simp only[vcY,seval,bmV,d1];(with_reducible apply zF);simp only[vW,seval,bmV];rfl;rfl;exact HB;exact km;simp only[vW,seval,bmV];rfl;simp only[vcY,seval,bmV,d1];(with_reducible apply zF);simp only[vW,seval,bmV];rfl;rfl;exact HP;exact km;simp only[vW,seval,bmV];rfl;simp only[vcY,seval,bmV,d1];refine zc0 (H:=z3D []) (Fp:=fpT [(7,[[(2,6),(3,1002),(4,1003),(5,1004)]])]) (Kk:=z3E []) (lug:=[5,2,3,4]) (hin:=by simp only[vcY,seval,bmV];rfl) (hr:=by intro yv;simp only[vcY,seval,bmV];rfl) tf_102 ?_;intro yv;obtain⟨f0,hf0⟩:=hR;refine zcu (σ:={z:Nat×List Pc // z.1≤s.length∧z.2.length≤z.1∧∃f,z10 f (s.drop z.1) z.1 z.2=some R}) (fun z=>sI yv s z.1.1 z.1.2) (fun z=>s.length-z.1.1) ⟨(0,[]),Nat.zero_le _,Nat.le_refl _,f0,hf0⟩ ?_ ?_
 ·unfold sI zH;refine ES.Lw.trans ?_ (z5k (x:=1001) (j:=0) (d:=3000) (e:=221) (W:=4) (.inr (by decide)) (by decide) rfl (by simp only[vcY,seval,bmV]) rfl);exact z18 rfl
 rintro⟨⟨k,L⟩,hk,hL,f,hf⟩;have hk:k≤s.length:=hk;have hL:L.length≤k:=hL;unfold sI zH;simp only[vcY,seval,bmV];refine zk (σ:={z:Nat // k≤z∧z≤s.length∧∃f,z10 f (s.drop z) z L=some R}) (fun z=>sI yv s z.1 L) (fun z=>s.length-z.1) ⟨k,Nat.le_refl _,hk,f,hf⟩ ?_ ?_
 ·unfold sI zH;exact lwA
 rintro⟨z,hz,hzl,f,hf⟩;unfold sI zH;by_cases hlt:z<s.length
 ·have d1:(z:Int)<(s.length:Int):=by omega
  have d2:¬(z:Int)=(s.length:Int):=by omega
  obtain⟨x,ex⟩:∃x,s[z]?=some x:=⟨_,gE hlt⟩
  have w1:=wS z;have hdr:s.drop z=x::s.drop (z+1):=by rw[List.drop_eq_getElem_cons hlt];congr 1;exact(gJ ex).2
  have ht:List.take (s.length-z) (s.drop z)=s.drop z:=List.take_of_length_le (by rw[List.length_drop];exact Nat.le_refl _);have HR:=zqu m x (s.drop (z+1)) (by rw[List.length_drop];omega);rw[zrV _ z,←hdr]at HR;simp only[vcY,seval,bmV,d1,d2,ex,w1,ht];refine⟨fun h=> ?_,fun h=> ?_⟩
  ·have hx32:x=32:=UInt8.toNat_inj.1 (by show x.toNat=32;omega);rw[hdr]at hf;cases f with
   |zero=>simp[z10]at hf
   |succ f=>
    simp only[z10,hx32,if_true]at hf;refine zc ⟨z+1,by omega,by omega,f,hf⟩ (by show s.length-(z+1)<s.length-z;omega) ?_;exact lwA
  ·refine⟨hzl,z2o HR ?_ (hx:=by simp only[vcY,seval,bmV];rfl) (hs:=by simp only[vcY,seval,bmV];rfl) (hr:=by simp only[vcY,seval,bmV];rfl)⟩;refine z6O ?_ (hx:=by simp only[vcY,seval,bmV];rfl) (hr:=by simp only[vcY,seval,bmV];rfl) (hy:=by simp only[vcY,seval,bmV]);have hx32:x≠32:=fun e=>h (by subst e;rfl);obtain⟨q,n,hqn⟩:∃q n,zcQ (z0l (s.drop z) z) z=(q,n):=⟨_,_,rfl⟩
   have hfact:(1≤n∧z+n≤s.length∧q.k≠0∧q.p=z∧∃f,z10 f (s.drop (z+n)) (z+n) (L++[q])=some R)∨(q.k=0∧R=.bad z):=by
    rw[hdr]at hf hqn;cases f with
    |zero=>simp[z10]at hf
    |succ f=>
     simp only[z10,hx32,if_false]at hf;cases hr:z0l (x::s.drop (z+1)) z with
     |none=>
      rw[hr]at hf hqn;simp only[Option.some.injEq]at hf;cases hqn;exact .inr ⟨rfl,hf.symm⟩
     |some y=>
      obtain⟨q',z'⟩:=y;rw[hr]at hf hqn;cases hqn;obtain⟨p1,p2,p3,p4⟩:=z92 hr;have hlen:(x::s.drop (z+1)).length=s.length-z:=by rw[←hdr,List.length_drop]
      refine .inl ⟨p1,by omega,p3,p4,f,?_⟩;simp only[]at hf;rw[←hf,←hdr,List.drop_drop]
   rw[hqn];rcases hfact with⟨h1,h2,h3,h4,h5⟩|⟨h1,h2⟩
   ·refine⟨fun h=>absurd h h3,fun _=>⟨⟨by omega,by unfold maxLen;omega⟩,by omega,fun h=>absurd h (by show ¬(n:Int)=0;omega),fun _=> ?_⟩⟩;refine zc ⟨(z+n,L++[q]),h2,by simp;omega,h5⟩ (by show s.length-(z+n)<s.length-k;omega) ?_;have hw:IntKind.i64.wrap ((z:Int)+(n:Int))=((z+n:Nat):Int):=wG;simp only[hw,List.map_append,List.map_cons,List.map_nil,pcR,h4,List.length_append,List.length_cons,List.length_nil];exact lwA
   ·refine⟨fun _=> ?_,fun h=>absurd h1 h⟩;rcases hy with⟨q',e1,e2⟩|⟨L',e1,_⟩
    ·rw[h2]at e1;cases e1;rw[e2];rfl
    ·rw[h2]at e1;cases e1
 ·have hzz:z=s.length:=by omega
  subst hzz;have d1:¬(s.length:Int)<(s.length:Int):=by omega
  simp only[vcY,seval,bmV,d1];have hRL:R=.ok L:=by
   rw[List.drop_eq_nil_of_le (Nat.le_refl _)]at hf;cases f with
   |zero=>simp[z10]at hf
   |succ f=>simp only[z10,Option.some.injEq]at hf;exact hf.symm
  rcases hy with⟨q',e1,_⟩|⟨L',e1,hy⟩
  ·rw[hRL]at e1;cases e1
  rw[hRL]at e1;cases e1;cases hy with
  |bad p a HW=>
   unfold pB pcs zH B at HW;(with_reducible apply zF);simp only[vW,seval,bmV];rfl;rfl;exact HW;exact km;simp only[vW,seval,bmV];rfl;simp only[vW,seval,bmV];rfl
  |deep p e HW he hr=>
   have HR:=z64 m e he;rw[hr]at HR;unfold pB pcs B at*;(with_reducible apply zF);simp only[vW,seval,bmV];rfl;rfl;exact HW;exact km;simp only[vW,seval,bmV];rfl;simp only[vW,seval,bmV];(with_reducible apply zF);simp only[vW,seval,bmV];rfl;rfl;exact HR;exact km;simp only[vW,seval,bmV];rfl;simp only[vW,seval,bmV];rfl
  |right p e HW he hr=>
   have HR:=z64 m e he;rw[hr]at HR;unfold pB pcs B at*;(with_reducible apply zF);simp only[vW,seval,bmV];rfl;rfl;exact HW;exact km;simp only[vW,seval,bmV];rfl;simp only[vW,seval,bmV];(with_reducible apply zF);simp only[vW,seval,bmV];rfl;rfl;exact HR;exact km;simp only[vW,seval,bmV];rfl;simp only[vW,seval,bmV]
def zfQ(r:V×Int×Int):TV:=.tuple [if r.2.2=0 then tv r.1 else .agg zH,I r.2.1,I r.2.2]
theorem zog(m f:Nat)(s:zB)(hs:s.length≤200){r:V×Int×Int}(h:z2P f s=some r)(hsm:∀L e p,z10 (s.length+1) s 0 []=some (.ok L)→pE L s.length f 1 0=some (.ok e p)→ESmall e)(hLl:∀L,z10 (s.length+1) s 0 []=some (.ok L)→L.length≤4611686018427387904):
  zC (gl0 m) 101 [S (str s)] [] (zfQ r) []:=by
 unfold z2P at h;rw[if_neg (by omega)]at h;cases hl:z10 (s.length+1) s 0 []with
 |none=>rw[hl]at h;cases h
 |some R=>
  rw[hl]at h;cases R with
  |bad a=>
   cases h;exact z5o m hs ⟨_,hl⟩ (.inl ⟨a,rfl,rfl⟩)
  |ok L=>
   have hL:=hLl L hl;simp only[]at h;cases hp:pE L s.length f 1 0 with
   |none=>rw[hp]at h;cases h
   |some x=>
    rw[hp]at h;cases x with
    |bad a p=>
     cases h;exact z5o m hs ⟨_,hl⟩ (.inr ⟨L,rfl,.bad p _ (zmJ hL hp)⟩)
    |ok e p=>
     simp only[]at h;have he:=hsm L e p hl hp;by_cases hlt:p<L.length
     ·rw[if_pos hlt]at h;cases h;exact z5o m hs ⟨_,hl⟩ (.inr ⟨L,rfl,.bad p _ (zkk hL hp hlt)⟩)
     ·rw[if_neg hlt]at h;cases hr:z15 e
      ·rw[hr]at h;cases h;exact z5o m hs ⟨_,hl⟩ (.inr ⟨L,rfl,.deep p e (zgy hL hp hlt) he hr⟩)
      ·rw[hr]at h;cases h;exact z5o m hs ⟨_,hl⟩ (.inr ⟨L,rfl,.right p e (zgy hL hp hlt) he hr⟩)
theorem zjB(m:Nat)(s:zB)(hs:200<s.length):zC (gl0 m) 101 [S (str s)] [] (.tuple [.agg zH,I 200,I 50]) []:=by
 have d1:(200:Int)<(s.length:Int):=by omega
 refine za tf_98 ?_ (hc:=rfl);unfold zH;simp only[vW,seval,bmV,d1]
theorem esm{k n:Int}{s:zB}{l:List V}(h:s.length≤60)(hl:l.length≤60)(hs:∀y∈l,ESmall y):ESmall (.mk k n s l):=.mk (by omega) (by omega) hs
theorem z5U:ESmall V.nil:=esm (by simp) (by simp) (by simp)
theorem z6W{L:List Pc}(hL:∀q∈L,q.s.length≤60)(sz:Nat):∀(f:Nat),
  (∀zu p e p',pE L sz f zu p=some (.ok e p')→ESmall e)∧(∀zu e p e' p',ESmall e→pL L sz f zu e p=some (.ok e' p')→ESmall e')∧
  (∀p e p',pT L sz f p=some (.ok e p')→ESmall e)∧(∀n k p acc l p',acc.length=k→k≤n→(∀x∈acc,ESmall x)→pH L sz f n k p acc=some (.ok l p')→l.length=n∧∀x∈l,ESmall x):=by
 intro f
 induction f with
 |zero=>exact⟨fun _ _ _ _ h=>by simp[pE]at h,fun _ _ _ _ _ _ h=>by simp[pL]at h,fun _ _ _ h=>by simp[pT]at h,fun _ _ _ _ _ _ _ _ _ h=>by simp[pH]at h⟩
 |succ f ih=>
  obtain⟨iE,iL,iT,iH⟩:=ih;refine⟨?_,?_,?_,?_⟩
  ·intro zu p e p' h;rw[pE]at h;split at h
   ·rename_i e1 p1 h1;exact iL _ _ _ _ _ (iT _ _ _ h1) h
   ·cases h
   ·cases h
  ·intro zu e p e' p' he h;rw[pL]at h;split at h
   ·cases h;exact he
   ·split at h
    ·rename_i e2 p2 h2;refine iL _ _ _ _ _ (esm (zbY hL sz p) (by simp) fun y hy=> ?_) h;simp only[List.mem_cons,List.not_mem_nil,or_false]at hy;rcases hy with rfl|rfl
     ·exact he
     ·exact iE _ _ _ _ h2
    ·cases h
    ·cases h
  ·intro p e p' h;rw[pT]at h;split at h
   ·split at h
    ·rename_i e1 p1 h1;split at h
     ·cases h;exact iE _ _ _ _ h1
     ·cases h
    ·cases h
    ·cases h
   ·split at h
    ·split at h
     ·rename_i e1 p1 h1;cases h;refine esm (by simp) (by simp) fun y hy=> ?_;simp only[List.mem_cons,List.not_mem_nil,or_false]at hy;subst hy;exact iT _ _ _ h1
     ·cases h
     ·cases h
    ·split at h
     ·cases h;exact esm (by simp) (by simp) (by simp)
     ·split at h
      ·cases h;exact esm (zbY hL sz p) (by simp) (by simp)
      ·split at h
       ·split at h
        ·split at h
         ·rename_i l1 p1 h1;cases h;have h3:=z7l (pkP L sz p).s;obtain⟨q1,q2⟩:=iH _ 0 _ [] _ _ rfl (Nat.zero_le _) (by simp) h1;exact esm (zbY hL sz p) (by omega) q2
         ·cases h
         ·cases h
        ·cases h;exact esm (zbY hL sz p) (by simp) (by simp)
       ·cases h
  ·intro n k p acc l p' hk hkn ha h;rw[pH]at h;split at h
   ·split at h
    ·cases h
    ·split at h
     ·rename_i e1 p1 h1;refine iH _ _ _ _ _ _ (by simp[hk]) (by omega) (fun x hx=> ?_) h;rcases List.mem_append.1 hx with hx|hx
      ·exact ha x hx
      ·rw[List.mem_singleton]at hx;subst hx;exact iE _ _ _ _ h1
     ·cases h
     ·cases h
   ·split at h
    ·cases h;exact⟨by omega,ha⟩
    ·cases h
theorem zlX(m:Nat)(s:zB){f:Nat}{r:V×Int×Int}(h:z2P f s=some r):zC (gl0 m) 101 [S (str s)] [] (zfQ r) []:=by
 by_cases hs:s.length≤200
 ·refine zog m f s hs h (fun L e p hl hp=> ?_) (fun L hl=> ?_)
  ·exact(z6W (z3F _ _ _ _ _ (by simp) hl).1 _ f).1 _ _ _ _ hp
  ·have:=(z3F _ _ _ _ _ (by simp) hl).2;simp at this;omega
 ·unfold z2P at h;rw[if_pos (by omega)]at h;cases h;exact zjB m s (by omega)
end
end Go.Proofs.YtpmlapgbmgbilaaGreatDoor
end
