/- Merged texts: Ze14 Ze8 Ze9 Ze15. No statement of the program is proved here. -/
import Derived.Test.YtcpaleaajdilgaaGreatDoorQ24
import Derived.Recover
import Derived.RangeFuncNested
set_option linter.unusedSimpArgs false
set_option linter.unusedVariables false
set_option maxRecDepth 100000
set_option maxHeartbeats 8000000
section
namespace Go.Proofs.YtcpaleaajdilgaaGreatDoor
open Go Go.RowKit Go.Mor Go.Sh Go.Sh.Cd1 Go.Sh.Cd5
theorem zhZ(m n l:Nat){s:zB}(hs:s.length<70368744177664){O:List Nat}{β:Nat}{J Jx:List Pc→World→Prop}
  (hJ:∀pre W W',J pre W→W.grownBy W' none→J pre W') (hJx:∀pre W W',Jx pre W→W.grownBy W' none→Jx pre W')
  (hY:∀pre q W,J pre W→pre.length<s.length+1→YieldAt Fence.wide (n-1) Tryz.prog l (zdY q) W fun e W'=>(e=.returned (.bool true)∧J (pre++[q]) W'∧Kp O β (gl0 m).n W W')∨(e=.returned (.bool false)∧Jx (pre++[q]) W'))
  {b off:Nat} {W:World} (hW:PW (gl0 m) s O β J b off [] W) {R:Lx} (hR:∃f,z0w f s 0 []=some R):
  CallsIn Fence.wide n Tryz.prog 129 #[.func (.yield l) #[] #[],.pointer (some ⟨b,off,none⟩)] W fun e W'=>(∃v,e=.returned v)∧((∃xs,SP R xs∧J xs W')∨∃pre,SpP R pre∧Jx pre W'):=by
 obtain⟨c0,cA,cB,cC,cD,id,ops,cE,cF,hb,t0,tA,tB,⟨sc,tC,rfl⟩,tD,tR,tE,tF⟩:=zlc;refine callsIn_of_wp Tryz.func129 hb trivial ?_ rfl;generalize hfv:Value.func (.yield l) #[] #[]=fv;have hret:∀(a':Act) W',a'.defers=[]→((∃xs,SP R xs∧J xs W')∨∃pre,SpP R pre∧Jx pre W')→bodyPost Tryz.prog Tryz.f129 (fun e W'=>(∃v,e=.returned v)∧((∃xs,SP R xs∧J xs W')∨∃pre,SpP R pre∧Jx pre W')) .ret a' W':=by
  intro a' W' hd h;exact bodyPost_ret (results_none rfl _ _ _) hd ⟨⟨_,rfl⟩,h⟩
 have hbK:∀(K:Nat→Nat→Prop),(∀j o,K j o→j=b∧o=off)→∀j o,K j o→j<W.heap.size:=fun K h j o hj=>by
  obtain⟨o',ho,_⟩:=z29 hW.cell;rw[(h j o hj).1];exact(gA ho).1
 rw[Tryz.ntmps129];obtain⟨a0,ha0,h00,h01,h0s,h0d⟩:∃a0:Act,a0={ tmps:= #[fv,.pointer (some ⟨b,off,none⟩)]++Array.replicate (42-(#[fv,Value.pointer (some ⟨b,off,none⟩)]:Array Value).size) undef,defers:=[] }∧a0.tmps.getD 0 undef=fv∧a0.tmps.getD 1 undef=.pointer (some ⟨b,off,none⟩)∧a0.tmps.size=42∧a0.defers=[]:=by
  refine⟨_,rfl,?_,?_,?_,rfl⟩
  ·simp[Array.getD]
  ·simp[Array.getD]
  ·simp
 rw[←ha0];clear ha0;have hS0:Sim (Sh.start W (EK fun j o=>j=b∧o=off) [] 42) (ES.fs ⟨[(0,.pv (.v fv)),(1,elS s)],[],[],[]⟩) a0 W (EK fun j o=>j=b∧o=off):=by
  refine zio (hbK _ fun j o h=>h) h0s h0d _ (fun j x hx=> ?_);simp only[List.mem_cons,List.not_mem_nil,or_false,Prod.mk.injEq]at hx;rcases hx with⟨rfl,rfl⟩|⟨rfl,rfl⟩
  ·rw[h00];exact⟨by decide,.pv (.v _)⟩
  ·rw[h01];exact⟨by decide,hW.el ⟨rfl,rfl⟩⟩
 have hw0:swp Tryz.prog (gl0 m) c_expr_pieces_1_0 (fun e s'=>e=.normal∧s'=sI s fv 0) ⟨[(0,.pv (.v fv)),(1,elS s)],[],[],[]⟩:=by
  unfold sI elS;simp only[vW,seval]
  trace_state
 have hX0:∀d b',(Sh.start W (EK fun j o=>j=b∧o=off) [] 42).X d b'→(gl0 m).n≤b':=z3H;have h0:=z0v (B:=Sh.start W (EK fun j o=>j=b∧o=off) [] 42) (H:=iH) (Fp:=iF) (K:=iK) zf (by show 0≤1000;decide) (by show 42≤1000;decide) (g:=gl0 m) hW.G hX0 (c:=c0) (sc:=c_expr_pieces_1_0) t0 hw0 hS0;refine wpIn_seq (wpIn_mono (wpIn_wide.2 h0) ?_);clear h0 hw0 hS0;rintro x a1 W1 ⟨e,s1,E1,rfl,⟨rfl,rfl⟩,hS1⟩;have hP1:PI (gl0 m) s O β J R fv 0 [] a1 W1:=PI.back hJ hW hS1 rfl rfl rfl (by simpa using hR) (Nat.zero_le _) (Nat.le_refl _);clear hS1;refine wpIn_block (wpIn_loop (fun a W=>∃k pre,PI (gl0 m) s O β J R fv k pre a W) (fun a _=>s.length-kOf a) ⟨0,[],hP1⟩ ?_);rintro a W ⟨k,pre,hP⟩;obtain⟨b,off,hw,hS⟩:=hP.sim;have hA:=z0v (H:=iH) (Fp:=iF) (K:=iK) zf (by show 0≤1000;decide) (by show 42≤1000;decide) (g:=gl0 m) hw.G z3H (c:=cA) (sc:=.block 2 (.loop c_expr_pieces_1_3)) tA (zqB (fv:=fv) (gl0 m) hs k hP.le hP.lex) hS;refine wpIn_block (wpIn_seq (wpIn_mono (wpIn_wide.2 hA) ?_));rintro x a1 W1 ⟨e,s1,E1,rfl,⟨rfl,k1,hk1,hk1l,hx1,hne,l0,l1,l3⟩,hS1⟩;have hP1:PI (gl0 m) s O β J R fv k1 pre a1 W1:=PI.back hJ hw hS1 l0 l1 l3 hx1 hk1l (Nat.le_trans hP.pk hk1);have hkOf:kOf a=k:=by unfold kOf;rw[hP.t3];simp
 clear hS hA hS1 hw b off hP;obtain⟨b,off,hw,hS⟩:=hP1.sim;have hB:=z0v (H:=iH) (Fp:=iF) (K:=iK) zf (by show 0≤1000;decide) (by show 42≤1000;decide) (g:=gl0 m) hw.G z3H (c:=cB) (sc:=.seq c_expr_pieces_1_4 (.cond (.tmp 21) .ret .skip)) tB (zqC (s:=s) (fv:=fv) (gl0 m) k1 hk1l) hS;refine wpIn_seq (wpIn_mono (wpIn_wide.2 hB) ?_);rintro x a2 W2 ⟨e,s2,E2,rfl,(⟨rfl,rfl⟩|⟨rfl,hlt,l0,l1,l3⟩),hS2⟩
 ·refine hret a2 W2 hS2.defers (.inl ⟨pre,.inl ?_,hJ _ _ _ hw.j (z4x hS2)⟩);obtain⟨f,hf⟩:=hx1;rw[List.drop_length]at hf;cases f with
  |zero=>simp[z0w]at hf
  |succ f=>simp only[z0w,Option.some.injEq]at hf;exact hf.symm
 have hP2:PI (gl0 m) s O β J R fv k1 pre a2 W2:=PI.back hJ hw hS2 l0 l1 l3 hx1 hk1l hP1.pk;clear hS hB hS2 hw b off hP1;obtain⟨b,off,hw,hS⟩:=hP2.sim;obtain⟨bb,r,hd⟩:∃bb r,s.drop k1=bb::r:=by
  cases hd:s.drop k1 with
  |nil=>have:=congrArg List.length hd;rw[List.length_drop]at this;simp at this;omega
  |cons x y=>exact⟨x,y,rfl⟩
 have hC:=z0v (H:=iH) (Fp:=iF) (K:=iK) zf (by show 0≤1000;decide) (by show 42≤1000;decide) (g:=gl0 m) hw.G z3H (c:=cC) (sc:=c_expr_pieces_1_5) tC (zqD (fv:=fv) m hs k1 hd) hS;refine wpIn_seq (wpIn_mono (wpIn_wide.2 hC) ?_);have hq1:=zpG bb r k1;obtain⟨q,z,hqz⟩:∃q z,z7v (z0b (bb::r) k1) k1=(q,z):=⟨_,_,rfl⟩
 rw[hqz]at hq1 ⊢;simp only[]at hq1 ⊢;rintro x a3 W3 ⟨e,s3,E3,rfl,⟨rfl,rfl⟩,hS3⟩;have hD:=z0v (H:=iH) (Fp:=iF) (K:=iK) zf (by show 0≤1000;decide) (by show 42≤1000;decide) (g:=gl0 m) hw.G z3H (c:=cD) (sc:=c_expr_pieces_1_6) tD (zqE (gl0 m) k1 q z) hS3;refine wpIn_seq (wpIn_mono (wpIn_wide.2 hD) ?_);rintro x a4 W4 ⟨e,s4,E4,rfl,⟨rfl,rfl⟩,hS4⟩;clear hC hD hS3 hS;have hnw:c7o.flatMap SOper.news=[2132,2133,2134,2135]:=rfl;have hfr:∀(s:ES),∀d∈c7o.flatMap SOper.news,z0x (s.fgt [2132,2133,2134,2135]).fs d:=fun s d hd=>z13 s (by rw[←hnw];exact hd);obtain⟨tR,o,aT,ho2,hog,hod,hop⟩:=tR;let K2:Act→World→Prop:=fun a W=>∃t v1,a.tmps.size=42∧a.defers=[]∧a.tmps.getD 0 undef=fv∧a.tmps.getD 1 undef=v1∧a.tmps.getD 3 undef=.int .i64 (k1:Int)∧a.tmps.getD 5 undef=.int .i64 (z:Int)∧a.tmps.getD 33 undef=.bool t
  ∧(t=true→∃b off,v1=.pointer (some ⟨b,off,none⟩)∧PW (gl0 m) s O β J b off (pre++[q]) W)∧(t=false→Jx (pre++[q]) W)
 let QF:Act→World→Prop:=fun a W=>∃t v1,a.tmps.size=42∧a.defers=[]∧a.tmps.getD 0 undef=fv∧a.tmps.getD 1 undef=v1∧a.tmps.getD 3 undef=.int .i64 (k1:Int)∧a.tmps.getD 5 undef=.int .i64 (z:Int)∧a.tmps.getD 38 undef=.bool (!t||z==0)
  ∧(t=true→∃b off,v1=.pointer (some ⟨b,off,none⟩)∧PW (gl0 m) s O β J b off (pre++[q]) W)∧(t=false→Jx (pre++[q]) W)
 have hRg:(Code.region id ops false).wpIn Fence.wide n Tryz.prog (fun x a W=>x=.normal∧QF a W) a4 W4:=by
  refine zeS (ro:=none) (g:=gl0 m) (g2:=g00) tR 2 (by decide) (by show 0≤1000;decide) rfl (by decide) hw.G z3H (hfr (sC s fv k1 q z k1)) (zqF (fv:=fv) (gl0 m) k1 q z) (z1N hS4 _) (by rintro⟨_,_,h,_⟩;cases h) K2 ?_ ?_
  ·rintro s5 a5 W5 E5 rfl hS5;have hw5:=hw.back hJ hS5 rfl;obtain⟨b5,off5,hv1,hw5⟩:=hw5;have e0:=z0O (hS5.tmp 0 _ rfl).2;have e3:=z0O (hS5.tmp 3 _ rfl).2;have e5:=z0O (hS5.tmp 5 _ rfl).2;have e31:a5.eval (.tmp 31)=fv:=z0O (hS5.tmp 31 _ rfl).2;have e32:a5.eval (.tmp 32)=.agg #[.int .i64 q.k,.int .i64 q.n,.string (str q.s),.int .i64 (k1:Int)]:=zkT (hS5.tmp 32 _ rfl).2;have hsz5:a5.tmps.size=42:=hS5.size;have hdf5:=hS5.defers;clear hS5;obtain⟨fn,tmps,assign,body,hy,hRo⟩:=hY pre q W5 hw5.j (by have:=hP2.pk;omega);unfold wpOpIn;rw[ho2];simp only[];rw[if_pos (by simp[Region.wanted,hog])];refine⟨fun _ _=>trivial,?_⟩;have hrun:(o.semAt none a5.eval).run Tryz.prog W5=.ok (.round l fn tmps assign body) W5:=by
    rw[Oper.semAt_none];unfold zdY at hy;rw[hq1]at hy;rw[←hfv]at e31;obtain⟨dst,op,ty,pos,after,gd⟩:=o;simp only[]at hop;subst hop;simp[execOp,resolve,e31,e32,invoke];exact hy
   rw[hrun];refine⟨fun h=>(by cases h),hRo.mono ?_⟩;rintro e W6 (⟨rfl,hj,hk⟩|⟨rfl,hjx⟩)
   ·show K2 (a5.put o.dst (.bool true)) W6;rw[hod];exact⟨true,_,by rw[←hsz5];simp[Act.put],hdf5,(z1S (by decide)).trans e0,(z1S (by decide)).trans hv1,(z1S (by decide)).trans e3,(z1S (by decide)).trans e5,zas (by rw[hsz5];decide),fun _=>⟨b5,off5,rfl,hw5.kept hk hj⟩,fun h=>(by cases h)⟩
   ·show K2 (a5.put o.dst (.bool false)) W6;rw[hod];exact⟨false,_,by rw[←hsz5];simp[Act.put],hdf5,(z1S (by decide)).trans e0,(z1S (by decide)).trans hv1,(z1S (by decide)).trans e3,(z1S (by decide)).trans e5,zas (by rw[hsz5];decide),fun h=>(by cases h),fun _=>hjx⟩
  ·rintro a5 W5 ⟨t,v1,x1,x2,x3,x4,x5,x6,x7,x8,x9⟩;have hS5:Sim (Sh.start W5 (EK fun _ _=>False) [] 42) (sF fv v1 k1 z t).fs a5 W5 (EK fun _ _=>False):=by
    refine zio (fun _ _ h=>h.elim) x1 x2 _ (fun j x hx=> ?_);simp only[List.mem_cons,List.not_mem_nil,or_false,Prod.mk.injEq]at hx;rcases hx with⟨rfl,rfl⟩|⟨rfl,rfl⟩|⟨rfl,rfl⟩|⟨rfl,rfl⟩|⟨rfl,rfl⟩
    ·rw[x3];exact⟨by decide,.pv (.v _)⟩
    ·rw[x4];exact⟨by decide,.pv (.v _)⟩
    ·rw[x5];exact⟨by decide,.pv (.v _)⟩
    ·rw[x6];exact⟨by decide,.pv (.v _)⟩
    ·rw[x7];exact⟨by decide,.pv (.v _)⟩
   refine⟨_,_,_,_,by show 0≤1000;decide,rfl,trivial,z3H,z1N hS5 _,hfr _,zqG (fv:=fv) g00 v1 k1 z t,?_⟩;rintro s6 a6 W6 E6 ⟨l0,l1,l3,l5,l38⟩ hS6;have hg:=z4x hS6;refine⟨rfl,t,v1,hS6.size,hS6.defers,z0O (hS6.tmp 0 _ l0).2,z0O (hS6.tmp 1 _ l1).2,z0O (hS6.tmp 3 _ l3).2,z0O (hS6.tmp 5 _ l5).2,z0O (hS6.tmp 38 _ l38).2,fun ht=> ?_,fun ht=>hJx _ _ _ (x9 ht) hg⟩;obtain⟨b7,off7,e7,hw7⟩:=x8 ht;exact⟨b7,off7,e7,hw7.grown hJ hg⟩
 have hfact:(1≤z∧k1+z≤s.length∧q.k≠0∧∃f,z0w f (s.drop (k1+z)) (k1+z) (pre++[q])=some R)∨(q=⟨0,0,[],k1⟩∧z=0∧R=.bad k1):=by
  obtain⟨f,hf⟩:=hx1;rw[hd]at hf;have hb32:bb≠32:=hne bb (by have:=congrArg (·[0]?) hd;simpa using this);have hlen:(bb::r).length=s.length-k1:=by rw[←hd,List.length_drop]
  cases f with
  |zero=>simp[z0w]at hf
  |succ f=>
   simp only[z0w,hb32,if_false]at hf;cases hr:z0b (bb::r) k1 with
   |none=>
    rw[hr]at hf hqz;simp only[Option.some.injEq]at hf;cases hqz;exact .inr ⟨rfl,rfl,hf.symm⟩
   |some y=>
    obtain⟨q',z'⟩:=y;rw[hr]at hf hqz;cases hqz;obtain⟨p1,p2,p3,_⟩:=z6e hr;refine .inl ⟨p1,by omega,p3,f,?_⟩;simp only[]at hf;rw[←hf,←hd,List.drop_drop]
 refine wpIn_seq (wpIn_seq (wpIn_mono hRg ?_));rintro x a5 W5 ⟨rfl,t,v1,x1,x2,x3,x4,x5,x6,x7,x8,x9⟩;have hS5:Sim (Sh.start W5 (EK fun _ _=>False) [] 42) (ES.fs ⟨[(0,.pv (.v fv)),(1,.pv (.v v1)),(3,I (k1:Int)),(5,I (z:Int)),(38,B (!t||z==0))],[],[],[]⟩) a5 W5 (EK fun _ _=>False):=by
  refine zio (fun _ _ h=>h.elim) x1 x2 _ (fun j x hx=> ?_);simp only[List.mem_cons,List.not_mem_nil,or_false,Prod.mk.injEq]at hx;rcases hx with⟨rfl,rfl⟩|⟨rfl,rfl⟩|⟨rfl,rfl⟩|⟨rfl,rfl⟩|⟨rfl,rfl⟩
  ·rw[x3];exact⟨by decide,.pv (.v _)⟩
  ·rw[x4];exact⟨by decide,.pv (.v _)⟩
  ·rw[x5];exact⟨by decide,.pv (.v _)⟩
  ·rw[x6];exact⟨by decide,.pv (.v _)⟩
  ·rw[x7];exact⟨by decide,.pv (.v _)⟩
 have hE:=z0v (H:=iH) (Fp:=iF) (K:=iK) zf (by show 0≤1000;decide) (by show 42≤1000;decide) (g:=g00) trivial z3H (c:=cE) (sc:=.cond (.tmp 38) .ret .skip) tE (Q:=fun e s'=>(e=.ret∧(!t||z==0)=true)∨(e=.normal∧(!t||z==0)=false∧s'=⟨[(0,.pv (.v fv)),(1,.pv (.v v1)),(3,I (k1:Int)),(5,I (z:Int)),(38,B (!t||z==0))],[],[],[]⟩)) (by
   generalize(!t||z==0)=u;unfold B;cases u
   ·simp only[vW,seval]
   ·simp only[vW,seval]) hS5
 refine wpIn_mono (wpIn_wide.2 hE) ?_;rintro x a6 W6 ⟨e,s6,E6,rfl,(⟨rfl,hu⟩|⟨rfl,hu,rfl⟩),hS6⟩
 ·
  refine hret a6 W6 hS6.defers ?_;have hg:=z4x hS6;cases t with
  |false=>
   refine .inr ⟨_,⟨pre,q,rfl,?_⟩,hJx _ _ _ (x9 rfl) hg⟩;rcases hfact with⟨_,_,h3,_⟩|⟨_,_,h3⟩
   ·exact .inl h3
   ·exact .inr (by rw[h3,hq1])
  |true=>
   obtain⟨b7,off7,e7,hw7⟩:=x8 rfl;have hz:z=0:=by simpa using hu
   rcases hfact with⟨h1,_⟩|⟨h1,_,h3⟩
   ·omega
   ·exact .inl ⟨_,.inr ⟨k1,pre,h3,by rw[h1]⟩,hJ _ _ _ hw7.j hg⟩
 ·
  have hg:=z4x hS6;have ht:t=true:=by cases t<;>simp_all
  subst ht;have hz:z≠0:=by simpa using hu
  obtain⟨b7,off7,e7,hw7⟩:=x8 rfl;rcases hfact with⟨h1,h2,h3,h4⟩|⟨_,h1,_⟩
  ·have w1:IntKind.i64.wrap ((k1:Int)+(z:Int))=((k1+z:Nat):Int):=wG;have hF:=z0v (H:=iH) (Fp:=iF) (K:=iK) zf (by show 0≤1000;decide) (by show 42≤1000;decide) (g:=g00) trivial z3H (c:=cF) (sc:=c_expr_pieces_1_8) tF (Q:=fun e s'=>e=.normal∧lk s'.t 0=some (.pv (.v fv))∧lk s'.t 1=some (.pv (.v v1))∧lk s'.t 3=some (I ((k1+z:Nat):Int))) (by
    generalize(!true||z==0)=u;unfold B;simp only[vW,seval,w1]) hS6
   refine wpIn_mono (wpIn_wide.2 hF) ?_;rintro x a7 W7 ⟨e,s7,E7,rfl,⟨rfl,l0,l1,l3⟩,hS7⟩;have hg7:=z4x hS7;have e3:=z0O (hS7.tmp 3 _ l3).2;refine⟨⟨k1+z,pre++[q],⟨hS7.size,hS7.defers,z0O (hS7.tmp 0 _ l0).2,e3,⟨b7,off7,(z0O (hS7.tmp 1 _ l1).2).trans e7,(hw7.grown hJ hg7)⟩,h4,h2,?_⟩⟩,?_⟩
   ·have:=hP2.pk;rw[List.length_append,List.length_singleton];omega
   ·rw[hkOf];have:kOf a7=k1+z:=by unfold kOf;rw[e3];simp only[];omega
    rw[this];omega
  ·exact absurd h1 hz
section
abbrev cW0:SCode:=.reg [([2,3,4],[⟨some 2,none,none,.new [.int .i64 0,.int .i64 0,.string ⟨#[]⟩,.slice none 0 0]⟩,⟨some 3,none,none,.new [.int .i64 0]⟩,⟨some 4,none,none,.new [.bool false]⟩])] []
abbrev cW2:SCode:=.regq [([newId 7 0,newId 7 1,newId 7 2,newId 7 3],[⟨some 6,none,none,.mov (.tmp 0)⟩,⟨some 7,none,none,.call 132 3 [.tmp 6,.val (.int .i64 1)]⟩,⟨none,none,none,.st 4 (.tmp 2) (.tmp 7)⟩])] [9999]
abbrev cW3:SCode:=.reg [([],[⟨some 8,none,none,.mov (.tmp 0)⟩,⟨some 9,none,none,.nchk (.tmp 8)⟩,⟨some 10,none,none,.fldA 0 (.tmp 9)⟩,⟨some 11,none,none,.fldA 1 (.tmp 10)⟩,⟨some 12,none,none,.ld false 1 (.tmp 11)⟩,⟨some 13,none,none,.mov (.tmp 0)⟩,⟨some 14,none,none,.nchk (.tmp 13)⟩,⟨some 15,none,none,.fldA 0 (.tmp 14)⟩,⟨some 16,none,none,.fldA 0 (.tmp 15)⟩,⟨some 17,none,none,.ld false 1 (.tmp 16)⟩,⟨some 18,none,none,.len (.tmp 17)⟩,⟨some 19,none,none,.bin .lss 3 (.tmp 12) (.tmp 18)⟩])] []
abbrev cW4:SCode:=.regq [([newId 23 0,newId 23 1,newId 23 2,newId 23 3],[⟨some 20,none,none,.mov (.tmp 0)⟩,⟨some 21,none,none,.nchk (.tmp 20)⟩,⟨some 22,none,none,.fldA 0 (.tmp 21)⟩,⟨some 23,none,none,.call 133 1 [.tmp 22]⟩,⟨some 24,none,none,.fld false 3 1 (.tmp 23)⟩,⟨some 25,none,none,.mkI 212 (.tmp 24)⟩,⟨none,none,none,.pan (.tmp 25)⟩])] [9999]
abbrev cW5:SCode:=.reg [([],[⟨some 26,none,none,.ld true 4 (.tmp 2)⟩,⟨none,none,none,.st 4 (.tmp 2) (.tmp 26)⟩,⟨none,none,none,.st 1 (.tmp 3) (.val (.int .i64 0))⟩,⟨none,none,none,.st 1 (.tmp 4) (.val (.bool true))⟩])] []
abbrev cWr:SCode:=.seq cW2 (.seq (.seq cW3 (.cond (.tmp 19) cW4 .skip)) (.seq cW5 .ret))
def wH:Nat→Option Nat→Nat:=z62 [(7,3),(23,1)]
def wF:Nat→List (Nat→Option Nat):=fpT []
def wK:Nat→List Nat:=z5l [(2,[9999]),(4,[9999])]
def zk:List TV:=[I 0,I 0,S ⟨#[]⟩,.pv (.v (.slice none 0 0))]
def sW(L:List Pc)(p sz:Nat):ES:=⟨[(0,.ptr 1000 0),(2,.ptr 2 0),(3,.ptr 3 0),(4,.ptr 4 0)],[(1000,pB L p sz),(2,zk),(3,[I 0]),(4,[B false])],[],[]⟩
def sV(L:List Pc)(p sz:Nat):ES:=⟨[(0,.ptr 1000 0),(2,.ptr 1001 0),(3,.ptr 1002 0),(4,.ptr 1003 0)],[(1000,pB L p sz),(1001,zk),(1002,[I 0]),(1003,[B false])],[],[]⟩
def osV(L:List Pc)(p sz:Nat)(c2:List TV)(c3 c4:TV):List MO:=[.box (pB L p sz),.box c2,.box [c3],.box [c4]]
def eC(e:V):List TV:=[I e.k,I e.n,S (str e.s),.pv (.sl 4 (V.rows e.l))]
section
variable{g:Sh.Glob}{L:List Pc}{sz:Nat}
theorem zog(hL:L.length≤4611686018427387904){f:Nat}{e:V}{p:Nat}(h:pE L sz f 1 0=some (.ok e p))(hp:¬p<L.length):
  swp Tryz.prog g cWr (PostR [.cell true 4 2,.cell false 1 3,.cell false 1 4] false 4 (.tuple [tv e,I 0,B true]) (osV L p sz (eC e) (I 0) (B true))) (sV L 0 sz):=by
 have HE:=(z8C (g:=g) hL f).1 1 0 e p (by omega) (by omega) (Nat.zero_le _) h;have d1:¬(p:Int)<(L.length:Int):=by omega
 unfold sV osV zk eC pB pcs B at*;simp only[vW,seval,bmV];(with_reducible apply z30);simp only[vW,seval,bmV];refine zt HE ?_;simp only[vW,seval,bmV,d1]
def zkR(L:List Pc)(sz p a:Nat):SExit→ES→Prop:=fun e s=>e=.pan (zQ a)∧lk s.t 2=some (.ptr 1001 0)∧lk s.t 3=some (.ptr 1002 0)∧lk s.t 4=some (.ptr 1003 0)∧(∃cs,lk s.b 1001=some cs∧cs.length=4)∧(∃c,lk s.b 1002=some [c])∧(∃c,lk s.b 1003=some [c])∧lk s.b 1000=some (pB L p sz)∧s.r=[]
theorem zmf(hL:L.length≤4611686018427387904){f a p:Nat}(h:pE L sz f 1 0=some (.bad a p)):swp Tryz.prog g cWr (zkR L sz p a) (sV L 0 sz):=by
 have HE:=(z8C (g:=g) hL f).2.1 1 0 a p (by omega) (by omega) (Nat.zero_le _) h;unfold sV zk pB pcs B at*;simp only[vW,seval,bmV];(with_reducible apply z4s);simp only[vW,seval,bmV];(with_reducible apply z2B);(· rfl);(· simp only[vW,seval,bmV];with_reducible rfl);(· exact HE);(· first|rfl|(simp only[vcA,seval];omega));(· simp only[vW,seval,bmV];with_reducible rfl);simp only[vW,seval,bmV];exact⟨rfl,rfl,rfl,rfl,⟨_,rfl,rfl⟩,⟨_,rfl⟩,⟨_,rfl⟩,rfl,rfl⟩
theorem zkg(hL:L.length≤4611686018427387904){f:Nat}{e:V}{p:Nat}(h:pE L sz f 1 0=some (.ok e p))(hp:p<L.length):swp Tryz.prog g cWr (zkR L sz p (pkP L sz p).p) (sV L 0 sz):=by
 have HE:=(z8C (g:=g) hL f).1 1 0 e p (by omega) (by omega) (Nat.zero_le _) h;have HP:=z4E g L p sz (by unfold maxLen;omega);have d1:(p:Int)<(L.length:Int):=by omega
 unfold sV zk pB pcs B pcT at*;simp only[vW,seval,bmV];(with_reducible apply z30);simp only[vW,seval,bmV];refine zt HE ?_;simp only[vW,seval,bmV,d1];(with_reducible apply z4s);simp only[vW,seval,bmV];(with_reducible apply zkN);(· simp only[vW,seval,bmV];with_reducible rfl);(· rfl);(· exact HP);(· first|rfl|(simp only[vcA,seval];omega));(· simp only[vW,seval,bmV];with_reducible rfl);simp only[vW,seval,bmV];exact⟨rfl,rfl,rfl,rfl,⟨_,rfl,rfl⟩,⟨_,rfl⟩,⟨_,rfl⟩,rfl,rfl⟩
end
theorem zf4{P:Program}{B:Base}{s:FS}{a:Act}{w:World}{E:Env}(h:Sim B s a w E){d:Nat}{cs xs:List TV}{us:List Value}(hb:s.b d=some cs)(hl:xs.length=us.length)(hle:xs.length≤cs.length)
  (hrel:∀(j:Nat) x v,xs[j]?=some x→us[j]?=some v→RelT w E s.r x v) (ho:∀v∈us,one v) {t:TypeId} {i:TypeInfo} (hi:P.info? t=some i) (hsz:us.length=i.size) {v:Value} (hv:v.cells=us.toArray):
  (storeVar t ⟨E.β d,0,none⟩ v).run P w=.ok () (w.setCells (E.β d) 0 us)∧Sim B (s.setB d (splice cs 0 xs)) a (w.setCells (E.β d) 0 us) E:=by
 obtain⟨hbox,_⟩:=h.mem.box d cs hb;refine⟨z5T (P:=P) (w:=w) (E.β d) 0 t i v us hv hi hsz (fun j hj=>⟨?_,hbox.fz _⟩) ho,h.wr hb xs us hl (by omega) hrel ho⟩;obtain⟨c,hc⟩:∃c,cs[0+j]?=some c:=⟨_,gE (by omega)⟩
 obtain⟨v,h1,_⟩:=hbox.cell _ c hc;rw[h1];rfl
section
variable{P:Program}{ops:Array Oper}{Q:Exit→Act→List Frame→World→Prop}{a:Act}{w w':World}{cs cs':List Frame}{i:Nat}{zy:List Nat}{o:Oper}{v:Value}
theorem zm4(ho:ops[i]?=some o)(hg:o.guard=none)(hr:(execOp a.eval o).run P w=.ok .recover w')(hc:recoverD cs=some (v,cs'))(hk:wpOpsS P ops Q zy (a.put o.dst v) cs' w'):wpOpsS P ops Q (i::zy) a cs w:=by
 rw[wpOpsS,ho];simp only;rw[if_pos (by simp[Region.wanted,hg]),hr];simp only[hc];exact hk
theorem zhR(ho:ops[i]?=some o)(hg:o.guard=none)(hr:(execOp a.eval o).run P w=.ok .recover w')(hc:recoverD cs=none)(hk:wpOpsS P ops Q zy (a.put o.dst .nilIface) cs w'):wpOpsS P ops Q (i::zy) a cs w:=by
 rw[wpOpsS,ho];simp only;rw[if_pos (by simp[Region.wanted,hg]),hr];simp only[hc];exact hk
theorem z10(ho:ops[i]?=some o)(hg:o.guard=none)(hr:(execOp a.eval o).run P w=.ok (.value v) w')(hk:wpOpsS P ops Q zy (a.put o.dst v) cs w'):wpOpsS P ops Q (i::zy) a cs w:=by
 rw[wpOpsS,ho];simp only;rw[if_pos (by simp[Region.wanted,hg]),hr];exact hk
theorem z8y(ho:ops[i]?=some o)(hg:o.guard=none)(hr:(execOp a.eval o).run P w=.ok .skip w')(hk:wpOpsS P ops Q zy (a.put o.dst undef) cs w'):wpOpsS P ops Q (i::zy) a cs w:=by
 rw[wpOpsS,ho];simp only;rw[if_pos (by simp[Region.wanted,hg]),hr];exact hk
end
theorem zhu{c:Frame}{u:FrameMode}(h:c.mode=u):c={ c with mode:=u }:=by subst h;rfl
theorem zmc(v2 v3 v4:Value)(w:World)(R:Ending→FrameMode→World→Prop)(hR:∀v,R (.returned v) .returning w):CallsD Tryz.prog 131 #[v2,v3,v4] .returning w R:=by
 refine callsD_of_wpS Tryz.func131 rfl (fun c0 cs hu=> ?_);show(Code.seq _ _).wpS _ _ { tmps:= #[v2,v3,v4,undef,undef,undef,undef,undef,undef,undef,undef,undef,undef,undef,undef,undef],defers:=[] } _ _;refine wpS_seq (wpS_region ?_);show wpOpsS _ _ _ [0,1] _ _ _;refine zhR rfl rfl (w':=w) rfl (by simp[recoverD,hu]) ?_;refine z10 rfl rfl (v:=.nilIface) (w':=w) rfl ?_;show(Code.seq _ _).wpS _ _ { tmps:= #[v2,v3,v4,.nilIface,undef,undef,.nilIface,undef,undef,undef,undef,undef,undef,undef,undef,undef],defers:=[] } _ _;refine wpS_seq (wpS_region ?_);show wpOpsS _ _ _ [0,1] _ _ _;refine z10 rfl rfl (v:=.nilIface) (w':=w) rfl ?_;refine z10 rfl rfl (v:=.bool false) (w':=w) (by simp[execOp,Act.eval,Act.put,go_sem]) ?_;show(Code.cond _ _ _).wpS _ _ { tmps:= #[v2,v3,v4,.nilIface,undef,undef,.nilIface,.nilIface,.bool false,undef,undef,undef,undef,undef,undef,undef],defers:=[] } _ _;refine wpS_cond (t:=false) rfl (wpS_of_wp (wp_skip ?_));exact⟨rfl,.returning,by rw[←zhu hu],.tuple #[],by simp[results,Tryz.results131],hR _⟩
theorem zoA:Tryz.prog.underlying 212=some (.int .i64):=by kernel_rfl
theorem zbO{t:TypeId}{n:Nat}(h:(Tryz.prog.info? t).map (·.size)=some n):∃i,Tryz.prog.info? t=some i∧i.size=n:=by
 obtain⟨i,h1,h2⟩:=gO h;exact⟨i,h1,h2⟩
theorem zpj:∃i,Tryz.prog.info? 76=some i∧i.size=4:=zbO (by kernel_rfl)
theorem zqn:∃i,Tryz.prog.info? 3=some i∧i.size=1:=zbO (by kernel_rfl)
theorem zpi:∃i,Tryz.prog.info? 4=some i∧i.size=1:=zbO (by kernel_rfl)
theorem zaC{a:Act}{o:Oper}{w w':World}{t:TypeId}{x y:Operand}{ad:Addr}(ho:o.op=.store t x y)(hx:a.eval x=.pointer (some ad))(hr:(storeVar t ad (a.eval y)).run Tryz.prog w=.ok () w'):(execOp a.eval o).run Tryz.prog w=.ok .skip w':=by
 simp[execOp,ho,hx,Instr.storeAt,Instr.sureAddr,hr,Result.andThen]
theorem zoc{Bs:Base}{s:FS}{a:Act}{w:World}{E:Env}(h:Sim Bs s a w E){c2:List TV}{c3 c4:TV}(h2:s.b 1001=some c2)(l2:c2.length=4)(h3:s.b 1002=some [c3])(h4:s.b 1003=some [c4])(n:Nat)(R:Ending→FrameMode→World→Prop)
  (hR:∀v w',Sim Bs (((s.setB 1001 zk).setB 1002 [I (n:Int)]).setB 1003 [B false]) a w' E→R (.returned v) (.panicking [{ v:=zQ n,recovered:=true }]) w'):
  CallsD Tryz.prog 131 #[.pointer (some ⟨E.β 1001,0,none⟩),.pointer (some ⟨E.β 1002,0,none⟩),.pointer (some ⟨E.β 1003,0,none⟩)] (.panicking [{ v:=zQ n,recovered:=false }]) w R:=by
 obtain⟨ie,he1,he2⟩:=zpj;obtain⟨ii,hi1,hi2⟩:=zqn;obtain⟨ib,hb1,hb2⟩:=zpi;have st2:=zf4 (P:=Tryz.prog) h (xs:=zk) (us:=[.int .i64 0,.int .i64 0,.string ⟨#[]⟩,.slice none 0 0]) h2 rfl (by rw[l2];exact Nat.le_refl _) (fun j x v hx hv=>by
  match j with
  |0|1|2|3=>cases hx;cases hv;exact .pv (.v _)
  |j+4=>cases hx) (by simp[one,Value.oneCell']) he1 (by rw[he2];rfl) (v:=.agg #[.int .i64 0,.int .i64 0,.string ⟨#[]⟩,.slice none 0 0]) rfl
 obtain⟨r2,S2⟩:=st2;have e2:splice c2 0 zk=zk:=by
  match c2,l2 with
  |[x0,x1,x2,x3],_=>rfl
 rw[e2]at S2;have st3:=zf4 (P:=Tryz.prog) S2 (d:=1002) (cs:=[c3]) (xs:=[I (n:Int)]) (us:=[.int .i64 (n:Int)]) (by rw[FS.setB];simp[z0I,h3]) rfl (Nat.le_refl _) (fun j x v hx hv=>by
  match j with
  |0=>cases hx;cases hv;exact .pv (.v _)
  |j+1=>cases hx) (by simp[one,Value.oneCell']) hi1 (by rw[hi2];rfl) (v:=.int .i64 (n:Int)) rfl
 obtain⟨r3,S3⟩:=st3;have st4:=zf4 (P:=Tryz.prog) S3 (d:=1003) (cs:=[c4]) (xs:=[B false]) (us:=[.bool false]) (by simp[FS.setB,z0I,h4]) rfl (Nat.le_refl _) (fun j x v hx hv=>by
  match j with
  |0=>cases hx;cases hv;exact .pv (.v _)
  |j+1=>cases hx) (by simp[one,Value.oneCell']) hb1 (by rw[hb2];rfl) (v:=.bool false) rfl
 obtain⟨r4,S4⟩:=st4;have hfin:=fun v=>hR v _ S4;clear S2 S3 S4 hR h;generalize E.β 1001=b2 at*;generalize E.β 1002=b3 at*;generalize E.β 1003=b4 at*;refine callsD_of_wpS Tryz.func131 rfl (fun c0 cs hu=> ?_);generalize hp2:Value.pointer (some ⟨b2,0,none⟩)=p2;generalize hp3:Value.pointer (some ⟨b3,0,none⟩)=p3;generalize hp4:Value.pointer (some ⟨b4,0,none⟩)=p4;show(Code.seq _ _).wpS _ _ { tmps:= #[p2,p3,p4,undef,undef,undef,undef,undef,undef,undef,undef,undef,undef,undef,undef,undef],defers:=[] } _ _;refine wpS_seq (wpS_region ?_);show wpOpsS _ _ _ [0,1] _ _ _;refine zm4 rfl rfl (w':=w) rfl (v:=zQ n) (by simp only[recoverD,hu];rfl) ?_;refine z10 rfl rfl (v:=zQ n) (w':=w) rfl ?_;show(Code.seq _ _).wpS _ _ { tmps:= #[p2,p3,p4,zQ n,undef,undef,zQ n,undef,undef,undef,undef,undef,undef,undef,undef,undef],defers:=[] } _ _;refine wpS_seq (wpS_region ?_);show wpOpsS _ _ _ [0,1] _ _ _;refine z10 rfl rfl (v:=zQ n) (w':=w) rfl ?_;refine z10 rfl rfl (v:=.bool true) (w':=w) (by simp[execOp,Act.eval,Act.put,go_sem,zQ]) ?_;show(Code.cond _ _ _).wpS _ _ { tmps:= #[p2,p3,p4,zQ n,undef,undef,zQ n,zQ n,.bool true,undef,undef,undef,undef,undef,undef,undef],defers:=[] } _ _
 refine wpS_cond (t:=true) rfl ?_;show(Code.seq _ _).wpS _ _ { tmps:= #[p2,p3,p4,zQ n,undef,undef,zQ n,zQ n,.bool true,undef,undef,undef,undef,undef,undef,undef],defers:=[] } _ _;refine wpS_seq (wpS_region ?_);show wpOpsS _ _ _ [0,1,2,3,4,5,6] _ _ _;refine z10 rfl rfl (v:=zQ n) (w':=w) rfl ?_;refine z10 rfl rfl (v:=.tuple #[.int .i64 (n:Int),.bool true]) (w':=w) (by simp[execOp,Act.eval,Act.put,Instr.typeAssert,run_underlying zoA,zQ,Result.andThen]) ?_;refine z10 rfl rfl (v:=.tuple #[.int .i64 (n:Int),.bool true]) (w':=w) rfl ?_;refine z10 rfl rfl (v:=.int .i64 (n:Int)) (w':=w) rfl ?_;refine z10 rfl rfl (v:=.bool true) (w':=w) rfl ?_;refine z10 rfl rfl (v:=.int .i64 (n:Int)) (w':=w) rfl ?_;refine z10 rfl rfl (v:=.bool true) (w':=w) rfl ?_;show(Code.region _ _ _).wpS _ _ { tmps:= #[p2,p3,p4,zQ n,.int .i64 (n:Int),.bool true,zQ n,zQ n,.bool true,.tuple #[.int .i64 (n:Int),.bool true],zQ n,.tuple #[.int .i64 (n:Int),.bool true],.int .i64 (n:Int),.bool true,undef,undef],defers:=[] } _ _;refine wpS_region ?_;show wpOpsS _ _ _ [0,1,2,3,4] _ _ _;refine z10 rfl rfl (v:=.agg #[.int .i64 0,.int .i64 0,.string ⟨#[]⟩,.slice none 0 0]) (w':=w) (by kernel_rfl) ?_
 refine z10 rfl rfl (v:=.int .i64 (n:Int)) (w':=w) rfl ?_;refine z8y rfl rfl (zaC rfl hp2.symm r2) ?_;refine z8y rfl rfl (zaC rfl hp3.symm r3) ?_;refine z8y rfl rfl (zaC rfl hp4.symm r4) ?_;exact⟨rfl,_,rfl,.tuple #[],by simp[results,Tryz.results131],hfin _⟩
end
section
theorem zmH{P:Program}{ops:Array Oper}{Q:Exit→Act→World→Prop}{a:Act}{w:World}{i:Nat}{o:Oper}{d:Deferred}{K:Act→World→Prop}(ho:ops[i]?=some o)(hg:o.guard=none)(hr:(execOp a.eval o).run P w=.ok (.defer d) w)(hk:K ({ a with defers:=d::a.defers }.put o.dst undef) w):wpOp P ops Q i K a w:=by
 unfold wpOp;simp only[ho];rw[if_pos (by simp[Region.wanted,hg])];refine .inl ?_;unfold Oper.wp;rw[hr];exact hk
def QN(s0:ES):SExit→ES→Prop:=fun e s=>e=.normal∧s=s0
section
variable{g:Sh.Glob}{L:List Pc}{sz:Nat}
theorem zqK:swp Tryz.prog g cW0 (QN (sW L 0 sz)) (startE [.ptr 1000 0] [.box (pB L 0 sz)]):=by
 unfold pB pcs sW zk;simp only[vW,seval,bmV];exact⟨rfl,rfl⟩
theorem z4F{w:World}{E:Env}{r:Sh.Rows}{d:Nat}{v:Value}(h:RelT w E r (.ptr d 0) v):v=.pointer (some ⟨E.β d,0,none⟩):=by cases h;rfl
def QW(L:List Pc)(sz:Nat)(y:TV)(os':List MO)(p a:Nat):SExit→ES→Prop:=fun e s=>
 PostR [.cell true 4 2,.cell false 1 3,.cell false 1 4] false 4 y os' e s∨(zkR L sz p a e s∧y=.tuple [.agg zk,I (a:Int),B false]∧os'=osV L p sz zk (I (a:Int)) (B false))
theorem z0C{α:Type}:∀{l:List (Nat×α)} {k:Nat} {x:α},lk l k=some x→(k,x)∈l
 |[],_,_,h=>by simp[lk]at h
 |(j,y)::l,k,x,h=>by
  simp only[lk]at h;split at h
  ·rename_i hb;rw[Nat.eq_of_beq_eq_true hb]at*;cases h;exact List.mem_cons_self ..
  ·exact List.mem_cons_of_mem _ (z0C h)
def uW(L:List Pc)(p sz:Nat)(c2:List TV)(c3 c4:TV):List (Nat×MO):=[(1000,.box (pB L p sz)),(2,.box c2),(3,.box [c3]),(4,.box [c4])]
theorem zpD(p:Nat)(c2:List TV)(c3 c4:TV)(h2:∀ρ,seqO (TV.ren1 ρ) c2=some c2)(h3:∀ρ,TV.ren1 ρ c3=some c3)(h4:∀ρ,TV.ren1 ρ c4=some c4):outs (rhoOut [1000,2,3,4] 900) 0 (osV L p sz c2 c3 c4)=some (uW L p sz c2 c3 c4):=by
 have hp:∀ρ,seqO (TV.ren1 ρ) (pB L p sz)=some (pB L p sz):=fun ρ=>rfl;have h3':∀ρ,seqO (TV.ren1 ρ) [c3]=some [c3]:=fun ρ=>by simp[seqO,h3]
 have h4':∀ρ,seqO (TV.ren1 ρ) [c4]=some [c4]:=fun ρ=>by simp[seqO,h4]
 have r0:rhoOut [1000,2,3,4] 900 (1000+0)=some 1000:=rfl;have r1:rhoOut [1000,2,3,4] 900 (1000+(0+1))=some 2:=rfl;have r2:rhoOut [1000,2,3,4] 900 (1000+(0+1+1))=some 3:=rfl;have r3:rhoOut [1000,2,3,4] 900 (1000+(0+1+1+1))=some 4:=rfl;simp only[osV,outs,MO.ren,hp,h2,h3',h4',Option.map_some,r0,r1,r2,r3,uW]
theorem zpa(p:Nat)(c2:List TV)(c3 c4:TV){y:TV}(hy:∀ρ,y.ren3 ρ=some y)(hy2:y.ids3=[]):z7f y false 1 ((sW L 0 sz).upd none (.mem (uW L p sz c2 c3 c4)))=some (y,[.box (pB L p sz)]):=by
 unfold z7f;simp only[hy2,hy,List.nil_append];rfl
theorem zpv:∀i∈[1000,2,3,4],(sW L 0 sz).fs.ment i:=by
 intro i hi;simp only[List.mem_cons,List.not_mem_nil,or_false]at hi;rcases hi with rfl|rfl|rfl|rfl
 ·exact .inl ⟨0,_,rfl,.ptr _⟩
 ·exact .inl ⟨2,_,rfl,.ptr _⟩
 ·exact .inl ⟨3,_,rfl,.ptr _⟩
 ·exact .inl ⟨4,_,rfl,.ptr _⟩
theorem znC:∀q<4,z0x (sW L 0 sz).fs (newId 900 q):=by
 intro q hq;have hf:(sW L 0 sz).fgt [5600,5601,5602,5603]=sW L 0 sz:=rfl;rw[←hf];exact z13 _ (by unfold newId;match q,hq with|0,_|1,_|2,_|3,_=>simp)
theorem z8Z(p a:Nat)(y:TV)(c2:List TV)(c3 c4:TV)(hy:∀ρ,y.ren3 ρ=some y)(hy2:y.ids3=[])(h2:∀ρ,seqO (TV.ren1 ρ) c2=some c2)(h3:∀ρ,TV.ren1 ρ c3=some c3)(h4:∀ρ,TV.ren1 ρ c4=some c4)
  (hsw:swp Tryz.prog g cWr (QW L sz y (osV L p sz c2 c3 c4) p a) (sV L 0 sz)):
  zC g 76 [.ptr 1000 0] [.box (pB L 0 sz)] y [.box (pB L p sz)]:=by
 refine⟨z0A (by kernel_rfl),fun w E vs hG hm hX hl hr=> ?_⟩;have hS0:=z6k (N:=27) (xs:=[.ptr 1000 0]) (by decide) hm hl hr;refine calls_of_wp_defers Tryz.func76 rfl ?_;refine wp_seq (wp_mono (z0v (B:=Sh.start w E [.box (pB L 0 sz)] 27) (H:=wH) (Fp:=wF) (K:=wK) zf (by show 1≤1000;decide) (by show 27≤1000;decide) hG hX (sc:=cW0) (by kernel_rfl) (zqK (g:=g)) hS0) ?_);rintro x a1 w1 ⟨e,s1,E1,rfl,⟨rfl,rfl⟩,hS1⟩;show(Code.seq _ _).wp _ _ a1 w1;refine wp_seq (wp_region ?_);show wpOps _ _ _ [0,1] a1 w1;have v2:=z4F (hS1.tmp 2 (.ptr 2 0) rfl).2;have v3:=z4F (hS1.tmp 3 (.ptr 3 0) rfl).2;have v4:=z4F (hS1.tmp 4 (.ptr 4 0) rfl).2;have v0:=z4F (hS1.tmp 0 (.ptr 1000 0) rfl).2;have hsz:=hS1.size;have hos:seqO (fun d=>((sW L 0 sz).fs.mo d).bind (MO.ren (rhoIn [1000,2,3,4]))) [1000,2,3,4]=some (osV L 0 sz zk (I 0) (B false)):=rfl;have hMp:=z2E (I:=[1000,2,3,4]) hS1 (by decide) hos;generalize hfv:Value.func (.func 131) #[] #[a1.eval (.tmp 2),a1.eval (.tmp 3),a1.eval (.tmp 4)]=fv;generalize hd:({ target:=.fn (.func 131) #[a1.eval (.tmp 2),a1.eval (.tmp 3),a1.eval (.tmp 4)],args:= #[] }:Deferred)=d;rw[wpOps_cons]
 refine z2i rfl rfl (v:=fv) (w':=w1) (by rw[←hfv];simp[execOp,Instr.makeFunc,Result.andThen]) ?_;rw[wpOps_cons];have e5:(a1.put (some 5) fv).eval (.tmp 5)=fv:=by
  show(a1.tmps.setIfInBounds 5 fv).getD 5 undef=fv;have:5<a1.tmps.size:=by rw[hsz];show 5<27;decide
  simp[Array.getD,this]
 refine zmH (d:=d) rfl rfl (by
  have e5':(a1.put (some 5) fv).eval (.tmp 5)=.func (.func 131) #[] #[a1.eval (.tmp 2),a1.eval (.tmp 3),a1.eval (.tmp 4)]:=e5.trans hfv.symm;rw[←hd];show(execOp (a1.put (some 5) fv).eval _).run _ _=_;simp[execOp,resolve,Deferred.ofValue,e5',Result.andThen]) ?_
 show(Code.seq _ _).wp Tryz.prog _ { tmps:=a1.tmps.setIfInBounds 5 fv,defers:=d::a1.defers } w1;rw[show a1.defers=[] from hS1.defers];have hS2:Sim { Sh.start w1 (zo E1 [1000,2,3,4]) (osV L 0 sz zk (I 0) (B false)) 27 with ds:=[d] } (sV L 0 sz).fs { tmps:=a1.tmps.setIfInBounds 5 fv,defers:=[d] } w1 (zo E1 [1000,2,3,4]):=by
  have hb:(sV L 0 sz).fs.b=z01 (osV L 0 sz zk (I 0) (B false)):=by funext d;show lk (numB 1000 (osV L 0 sz zk (I 0) (B false))) d=_;rw[z5x];rfl
  have hr':(sV L 0 sz).fs.r=zm (osV L 0 sz zk (I 0) (B false)):=by funext d;show lk (numR 1000 (osV L 0 sz zk (I 0) (B false))) d=_;rw[z5y];rfl
  have hset:∀k,k≠5→(a1.tmps.setIfInBounds 5 fv).getD k undef=a1.tmps.getD k undef:=fun k hk=>by
   rw[Array.getD_eq_getD_getElem?,Array.getElem?_setIfInBounds_ne (Ne.symm hk),←Array.getD_eq_getD_getElem?]
  refine⟨rfl,by rw[Array.size_setIfInBounds];exact hsz,fun k x hx=> ?_,?_,fun d z p hd=>(by cases hd),fun d d' q q' hd=>(by cases hd)⟩
  ·have hm:(k,x)∈[(0,TV.ptr 1000 0),(2,TV.ptr 1001 0),(3,TV.ptr 1002 0),(4,TV.ptr 1003 0)]:=z0C hx;simp only[List.mem_cons,List.not_mem_nil,or_false,Prod.mk.injEq]at hm;rcases hm with⟨rfl,rfl⟩|⟨rfl,rfl⟩|⟨rfl,rfl⟩|⟨rfl,rfl⟩
   ·refine⟨by show 0<27;decide,?_⟩;show RelT _ _ _ _ ((a1.tmps.setIfInBounds 5 fv).getD 0 undef);rw[hset 0 (by decide),v0];exact .ptr 1000 0
   ·refine⟨by show 2<27;decide,?_⟩;show RelT _ _ _ _ ((a1.tmps.setIfInBounds 5 fv).getD 2 undef);rw[hset 2 (by decide),v2];exact .ptr 1001 0
   ·refine⟨by show 3<27;decide,?_⟩;show RelT _ _ _ _ ((a1.tmps.setIfInBounds 5 fv).getD 3 undef);rw[hset 3 (by decide),v3];exact .ptr 1002 0
   ·refine⟨by show 4<27;decide,?_⟩;show RelT _ _ _ _ ((a1.tmps.setIfInBounds 5 fv).getD 4 undef);rw[hset 4 (by decide),v4];exact .ptr 1003 0
  ·rw[hb,hr'];exact⟨hMp.box,hMp.row,hMp.bb,hMp.br,hMp.rr,hMp.lt,hMp.low,hMp.keep,hMp.knew,⟨hMp.pas.β,hMp.pas.γ,hMp.pas.row⟩⟩
 have hn0:=g.le _ hG;have hw0:=hS1.mem.low.size;have hG1:g.G w1:=g.st _ _ hG (fun k hk=>hS1.mem.low.block k (Nat.lt_of_lt_of_le hk hn0) (fun d hd=>by have:=hX d k hd;omega));have hX1:∀d b,z1w (zo E1 [1000,2,3,4]) (osV L 0 sz zk (I 0) (B false)) d b→g.n≤b:=by
  intro d b hx;obtain⟨hlen,hB,hR⟩:=z2Q hos;rcases hx with⟨cs,e1,e2⟩|⟨⟨e,W,n⟩,cap,e1,e2⟩
  ·obtain⟨j,rfl,hj⟩:=z0D e1;obtain⟨i,c,b1,b2,_⟩:=hB j cs hj;have e3:E1.β i=b:=by rw[←e2];simp only[zo];rw[getD_of b1]
   rcases(hS1.mem.box i c b2).2 with e4|e4
   ·rw[e3]at e4;exact Nat.le_trans hn0 e4
   ·rw[e3]at e4;exact hX _ _ e4
  ·obtain⟨j,rfl,hj⟩:=zY e1;obtain⟨i,b1,b2,b3⟩:=hR j e W n hj;cases b3
 refine wp_mono (z0v (B:={ Sh.start w1 (zo E1 [1000,2,3,4]) (osV L 0 sz zk (I 0) (B false)) 27 with ds:=[d] }) (H:=wH) (Fp:=wF) (K:=wK) zf (by show 4≤1000;decide) (by show 27≤1000;decide) hG1 hX1 (sc:=cWr) (by kernel_rfl) hsw hS2) ?_;have hhrs:seqO (z1m Tryz.prog) Tryz.f76.results.toList=some [.cell true 4 2,.cell false 1 3,.cell false 1 4]:=by kernel_rfl
 have FIN:∀(s3:ES) (a3:Act) (w3:World) (E3:Env),Sim { Sh.start w1 (zo E1 [1000,2,3,4]) (osV L 0 sz zk (I 0) (B false)) 27 with ds:=[d] } s3.fs a3 w3 E3→exitR [.cell true 4 2,.cell false 1 3,.cell false 1 4] false 4 s3=some (y,osV L p sz c2 c3 c4)→
   ∃v,(results Tryz.f76 a3.tmps).run Tryz.prog w3=.ok v w3∧∃v_1 E'_1,Ending.returned v=Ending.returned v_1∧MSim (Sh.start w E [.box (pB L 0 sz)] 0) (z01 [.box (pB L p sz)]) (zm [.box (pB L p sz)]) w3 E'_1∧RelT w3 E'_1 (zm [.box (pB L p sz)]) y v_1∧Sh.Left E [.box (pB L 0 sz)] E'_1 [.box (pB L p sz)]:=by
  intro s3 a3 w3 E3 hS3 hex;obtain⟨v,hrun,v',E4,hv,hm4,hr4,hl4⟩:=z6N (F:=⟨0,.skip,[.cell true 4 2,.cell false 1 3,.cell false 1 4],false⟩) rfl rfl hhrs (os:=osV L 0 sz zk (I 0) (B false)) (os':=osV L p sz c2 c3 c4) rfl hS3 hex;cases hv;obtain⟨hS5,hren⟩:=z4V hS1 (by decide) zpv (by show 1≤1000;decide) znC hos rfl (zpD p c2 c3 c4 h2 h3 h4) hm4 hl4 none;rw[←ES.upd_fs]at hS5;have hrel:=z3U hren (fun _ _ _ h _=>h) hr4 (hy _);rw[←ES.upd_fs]at hrel;obtain⟨E6,m6,r6,l6⟩:=zn0 (ds:=[]) (os:=[.box (pB L 0 sz)]) (os':=[.box (pB L p sz)]) rfl hS5 hrel (zpa p c2 c3 c4 hy hy2);exact⟨v,hrun,v,E6,rfl,m6,r6,l6⟩
 rintro x a3 w3 ⟨e,s3,E3,rfl,hQ,hS3⟩;have hdf:a3.defers=[d]:=hS3.defers;have hinv:(invoke d.target d.args).run Tryz.prog w3=.ok (.enter 131 #[a1.eval (.tmp 2),a1.eval (.tmp 3),a1.eval (.tmp 4)]) w3:=by
  rw[←hd];exact zj9 Tryz.func131 rfl rfl _ w3
 have htar:d.target=.fn (.func 131) #[a1.eval (.tmp 2),a1.eval (.tmp 3),a1.eval (.tmp 4)]:=by rw[←hd]
 rcases hQ with hQ|⟨hQ,hya,hosa⟩
 ·have hfin:exitR [.cell true 4 2,.cell false 1 3,.cell false 1 4] false 4 s3=some (y,osV L p sz c2 c3 c4)→Leaves Tryz.prog Tryz.f76 a3.tmps (fun e w'=>∃v E',e=.returned v∧MSim (Sh.start w E [.box (pB L 0 sz)] 0) (z01 [.box (pB L p sz)]) (zm [.box (pB L p sz)]) w' E'∧RelT w' E' (zm [.box (pB L p sz)]) y v∧Sh.Left E [.box (pB L 0 sz)] E' [.box (pB L p sz)]) a3.defers .returning w3:=by
   intro hex;rw[hdf];refine⟨by simp,_,_,_,_,htar,hinv,zmc _ _ _ _ _ (fun v=> ?_)⟩;exact FIN s3 a3 w3 E3 hS3 hex
  cases e with
  |ret=>exact hfin hQ
  |normal=>exact hfin hQ
  |exit id=>exact hQ.elim
  |pan z=>exact hQ.elim
 ·obtain⟨rfl,q2,q3,q4,⟨cs2,b2,l2⟩,⟨cs3,b3⟩,⟨cs4,b4⟩,b0,hr0⟩:=hQ;show Leaves Tryz.prog Tryz.f76 a3.tmps _ a3.defers (.panicking [{ v:=zQ a,recovered:=false }]) w3;rw[hdf];have ebt:∀d,1000≤d→d<1004→E3.β d=(zo E1 [1000,2,3,4]).β d:=fun d h1 h2=>hS3.mem.pas.β d ⟨h1,h2⟩;have w2:a1.eval (.tmp 2)=.pointer (some ⟨E3.β 1001,0,none⟩):=by rw[ebt 1001 (by decide) (by decide)];exact v2
  have w3':a1.eval (.tmp 3)=.pointer (some ⟨E3.β 1002,0,none⟩):=by rw[ebt 1002 (by decide) (by decide)];exact v3
  have w4:a1.eval (.tmp 4)=.pointer (some ⟨E3.β 1003,0,none⟩):=by rw[ebt 1003 (by decide) (by decide)];exact v4
  rw[w2,w3',w4]at hinv htar;refine⟨by simp,_,_,_,_,htar,hinv,zoc hS3 b2 l2 b3 b4 a _ (fun v w4 hS4=> ?_)⟩;let s5:ES:=⟨s3.t,sv (sv (sv s3.b 1001 zk) 1002 [I (a:Int)]) 1003 [B false],s3.r,s3.i⟩
  have e5:s5.fs=((s3.fs.setB 1001 zk).setB 1002 [I (a:Int)]).setB 1003 [B false]:=by simp only[s5,ES.fs,FS.setB,z2c]
  rw[←e5]at hS4;refine FIN s5 a3 w4 E3 hS4 ?_;rw[hya,hosa];have t2:s5.fs.t 2=some (.ptr 1001 0):=q2;have t3:s5.fs.t 3=some (.ptr 1002 0):=q3;have t4:s5.fs.t 4=some (.ptr 1003 0):=q4;have B0:s5.fs.b 1000=some (pB L p sz):=by rw[e5];show lk s3.b 1000=_;exact b0
  have B1:s5.fs.b 1001=some zk:=by rw[e5];simp[FS.setB,z0I]
  have B2:s5.fs.b 1002=some [I (a:Int)]:=by rw[e5];simp[FS.setB,z0I]
  have B3:s5.fs.b 1003=some [B false]:=by rw[e5];simp[FS.setB,z0I]
  have R0:∀d,s5.fs.r d=none:=fun d=>by show lk s3.r d=none;rw[hr0];rfl
  have hres:resT s5.fs [.cell true 4 2,.cell false 1 3,.cell false 1 4]=some (.tuple [.agg zk,I (a:Int),B false]):=by
   simp[resT,seqO,SRes.get,t2,t3,t4,B1,B2,B3,zk]
  generalize s5=s6 at*;rw[znz hres];have m0:s6.fs.mo 1000=some (.box (pB L p sz)):=by simp[FS.mo,B0,R0]
  have m1:s6.fs.mo 1001=some (.box zk):=by simp[FS.mo,B1,R0]
  have m2:s6.fs.mo 1002=some (.box [I (a:Int)]):=by simp[FS.mo,B2,R0]
  have m3:s6.fs.mo 1003=some (.box [B false]):=by simp[FS.mo,B3,R0]
  have hfl:(idsFrom 1000 4).flatMap (zaO s6.fs)=[]:=by
   simp only[idsFrom,List.flatMap_cons,List.flatMap_nil,zaO,B0,B1,B2,B3];rfl
  have hal:zx s6.fs false 64 ((TV.tuple [.agg zk,I (a:Int),B false]).ids3++(idsFrom 1000 4).flatMap (zaO s6.fs)) (idsFrom 1000 4)=[1000,1001,1002,1003]:=by
   rw[hfl];rfl
  unfold zmZ;rw[hal];unfold zmN;simp only[seqO,m0,m1,m2,m3,Option.bind_some];rfl
theorem zfh(hL:L.length≤4611686018427387904){f:Nat}{e:V}{p:Nat}(h:pE L sz f 1 0=some (.ok e p))(hp:¬p<L.length):
  zC g 76 [.ptr 1000 0] [.box (pB L 0 sz)] (.tuple [tv e,I 0,B true]) [.box (pB L p sz)]:=
 z8Z p 0 _ (eC e) (I 0) (B true) (fun _=>rfl) rfl (fun _=>rfl) (fun _=>rfl) (fun _=>rfl) (z11 (zog hL h hp) fun _ _ h=> .inl h)
theorem zkO(hL:L.length≤4611686018427387904){f a p:Nat}(h:pE L sz f 1 0=some (.bad a p)):
  zC g 76 [.ptr 1000 0] [.box (pB L 0 sz)] (.tuple [.agg zk,I (a:Int),B false]) [.box (pB L p sz)]:=
 z8Z p a _ zk (I (a:Int)) (B false) (fun _=>rfl) rfl (fun _=>rfl) (fun _=>rfl) (fun _=>rfl) (z11 (zmf hL h) fun _ _ h=> .inr ⟨h,rfl,rfl⟩)
theorem ziC(hL:L.length≤4611686018427387904){f:Nat}{e:V}{p:Nat}(h:pE L sz f 1 0=some (.ok e p))(hp:p<L.length):
  zC g 76 [.ptr 1000 0] [.box (pB L 0 sz)] (.tuple [.agg zk,I ((pkP L sz p).p:Int),B false]) [.box (pB L p sz)]:=
 z8Z p (pkP L sz p).p _ zk (I ((pkP L sz p).p:Int)) (B false) (fun _=>rfl) rfl (fun _=>rfl) (fun _=>rfl) (fun _=>rfl) (z11 (zkg hL h hp) fun _ _ h=> .inr ⟨h,rfl,rfl⟩)
end
end
theorem zk2(g:Sh.Glob)(s:zB):zC g 75 [S (str s)] [] (.fn (.func 129) [] [.ptr 1000 0]) [.box [S (str s)]]:=by
 refine zp tf_99 ?_;simp only[vW,seval]
def rH:Nat→Option Nat→Nat:=z62 [(17,0),(20,0),(32,0),(37,1),(46,0)]
def rF:Nat→List (Nat→Option Nat):=fpT [(7,[[(2,1005),(3,1001),(4,1002),(5,1003)]])]
def rK:Nat→List Nat:=z5l []
abbrev cR0:SCode:=.reg [([6],[⟨some 6,none,none,.new [.int .i64 0,.int .i64 0,.string ⟨#[]⟩,.int .i64 0]⟩,⟨none,none,none,.st 4 (.tmp 6) (.tmp 21)⟩])] []
abbrev cR1:SCode:=.reg [([],[⟨some 22,none,none,.fldA 0 (.tmp 6)⟩,⟨some 23,none,none,.ld false 1 (.tmp 22)⟩,⟨some 24,none,none,.bin .eql 3 (.tmp 23) (.val (.int .i64 0))⟩])] []
abbrev cR2:SCode:=.reg [([],[⟨some 25,none,none,.build [.int .i64 0,.int .i64 0,.string ⟨#[]⟩,.slice none 0 0] []⟩,⟨some 26,none,none,.fldA 3 (.tmp 6)⟩,⟨some 27,none,some 1005,.ld false 1 (.tmp 26)⟩,⟨none,none,some 1001,.st 4 (.tmp 2) (.tmp 25)⟩,⟨none,none,some 1002,.st 1 (.tmp 3) (.tmp 27)⟩,⟨none,none,some 1003,.st 1 (.tmp 4) (.val (.int .i64 50))⟩])] []
abbrev cRo(b:Bool):List SOper:=[⟨some 28,none,none,.fldA 0 (.tmp 5)⟩,⟨some 29,none,none,.fldA 0 (.tmp 28)⟩,⟨some 30,none,none,.ld false 1 (.tmp 29)⟩,⟨some 31,none,none,.ld true 4 (.tmp 6)⟩,⟨some 32,none,none,.bsl 4 [.tmp 31]⟩,⟨some 33,none,none,if b then .appN 141 4 40 (.tmp 30) (.tmp 32)else .app 141 4 40 (.tmp 30) (.tmp 32)⟩,⟨some 34,none,none,.fldA 0 (.tmp 5)⟩,⟨some 35,none,none,.fldA 0 (.tmp 34)⟩,⟨none,none,none,.st 1 (.tmp 35) (.tmp 33)⟩]
abbrev cR3:SCode:=.reg [([],cRo false),([33],cRo true)] []
abbrev cRB:SCode:=.block 1 (.seq (.seq cR1 (.cond (.tmp 24) (.seq cR2 .ret) .skip)) cR3)
theorem zle:∃a b,zdv Tryz.prog 36 0=.rangeFunc (.tmp 20) #[21] a b∧ze Tryz.prog 50 rH rF rK a=some cR0∧ze Tryz.prog 50 rH rF rK b=some cRB:=by
 refine⟨_,_,rfl,?_,?_⟩
 ·kernel_rfl
 ·kernel_rfl
def osB(L:List Pc)(sz:Nat)(mv:Value)(at_ er:Int)(q:Pc):List MO:=[.box [.own 1004 4 (L.map pcR),I 0,I (sz:Int),.pv (.v mv)],.box zk,.box [I at_],.box [I er],.row 141 4 L.length,.box [I q.k,I q.n,S (str q.s),I (q.p:Int)]]
abbrev slB:List (Nat×TV):=[(2,.ptr 1001 0),(3,.ptr 1002 0),(4,.ptr 1003 0),(5,.ptr 1000 0),(6,.ptr 1005 0)]
def zq5(L:List Pc)(sz:Nat)(mv:Value)(q:Pc):ES:=⟨slB,numB 1000 (osB L sz mv 0 0 q),numR 1000 (osB L sz mv 0 0 q),[]⟩
def osA(L:List Pc)(sz:Nat)(mv:Value):List MO:=[.box [.own 1004 4 (L.map pcR),I 0,I (sz:Int),.pv (.v mv)],.box zk,.box [I 0],.box [I 0],.row 141 4 L.length]
abbrev slA(q:Pc):List (Nat×TV):=[(2,.ptr 1001 0),(3,.ptr 1002 0),(4,.ptr 1003 0),(5,.ptr 1000 0),(6,.pv (.el (pcR q)))]
def zq4(L:List Pc)(sz:Nat)(mv:Value)(q:Pc):ES:=⟨slA q,numB 1000 (osA L sz mv),numR 1000 (osA L sz mv),[]⟩
theorem ziO(g:Sh.Glob)(L:List Pc)(sz:Nat)(mv:Value)(q:Pc)(hq:q.k≠0)(hL:L.length<1000000):
  swp Tryz.prog g cRB (fun e s'=>e=.normal∧lk s'.b 1000=some [.own 1004 4 ((L++[q]).map pcR),I 0,I (sz:Int),.pv (.v mv)]∧lk s'.r 1004=some (141,4,L.length+1)∧z7f (.tuple []) false 5 s'=some (.tuple [],osA (L++[q]) sz mv)) (zq4 L sz mv q):=by
 unfold zq4 osA zk slA pcR;simp only[numB,numR];simp only[vW,seval,hq];rw[List.map_append];exact⟨⟨by omega,by unfold maxLen;omega⟩,rfl,rfl⟩
theorem ziP(g:Sh.Glob)(L:List Pc)(sz:Nat)(mv:Value)(q:Pc)(hq:q.k=0):
  swp Tryz.prog g cRB (fun e s'=>e=.ret∧z7f (.tuple []) false 6 s'=some (.tuple [],osB L sz mv (q.p:Int) 50 q)) (zq5 L sz mv q):=by
 unfold zq5 osB zk;simp only[numB,numR];simp only[vW,seval,hq];rfl
end Go.Proofs.YtcpaleaajdilgaaGreatDoor
end
