/- Merged texts: Ze9. No statement of the program is proved here. -/
import Derived.Test.YtpmlapgbmgbilaaGreatDoorR23
set_option linter.unusedSimpArgs false
set_option linter.unusedVariables false
set_option maxRecDepth 100000
set_option maxHeartbeats 8000000
section
namespace Go.Proofs.YtpmlapgbmgbilaaGreatDoor
open Go Go.RowKit Go.Mor Go.Sh Go.Sh.Cd1 Go.Sh.Cd5
section
theorem zoU{P:Program}{ops:Array Oper}{Q:Exit→Act→World→Prop}{a:Act}{w:World}{i:Nat}{o:Oper}{d:Deferred}{K:Act→World→Prop}(ho:ops[i]?=some o)(hg:o.guard=none)(hr:(execOp a.eval o).run P w=.ok (.defer d) w)(hk:K ({ a with defers:=d::a.defers }.put o.dst undef) w):wpOp P ops Q i K a w:=by
 unfold wpOp;simp only[ho];rw[if_pos (by simp[Region.wanted,hg])];refine .inl ?_;unfold Oper.wp;rw[hr];exact hk
def QN(s0:ES):SExit→ES→Prop:=fun e s=>e=.normal∧s=s0
section
variable{g:Sh.Glob}{L:List Pc}{sz:Nat}
theorem zta:swp Tryz.prog g cW0 (QN (sW L 0 sz)) (startE [.ptr 1000 0] [.box (pB L 0 sz)]):=by
 unfold pB pcs sW zH;simp only[vW,seval,bmV];exact⟨rfl,rfl⟩
theorem z9V{w:World}{E:Env}{r:Sh.Rows}{d:Nat}{v:Value}(h:RelT w E r (.ptr d 0) v):v=.pointer (some ⟨E.β d,0,none⟩):=by cases h;rfl
def QW(L:List Pc)(sz:Nat)(y:TV)(os':List MO)(p a:Nat):SExit→ES→Prop:=fun e s=>
 PostR [.cell true 4 2,.cell false 1 3,.cell false 1 4] false 4 y os' e s∨(zmU L sz p a e s∧y=.tuple [.agg zH,I (a:Int),B false]∧os'=osV L p sz zH (I (a:Int)) (B false))
theorem z7f{α:Type}:∀{l:List (Nat×α)} {k:Nat} {x:α},lk l k=some x→(k,x)∈l
 |[],_,_,h=>by simp[lk]at h
 |(j,y)::l,k,x,h=>by
  simp only[lk]at h;split at h
  ·rename_i hb;rw[Nat.eq_of_beq_eq_true hb]at*;cases h;exact List.mem_cons_self ..
  ·exact List.mem_cons_of_mem _ (z7f h)
def uW(L:List Pc)(p sz:Nat)(c2:List TV)(c3 c4:TV):List (Nat×MO):=[(1000,.box (pB L p sz)),(2,.box c2),(3,.box [c3]),(4,.box [c4])]
theorem zrU(p:Nat)(c2:List TV)(c3 c4:TV)(h2:∀ρ,seqO (TV.ren1 ρ) c2=some c2)(h3:∀ρ,TV.ren1 ρ c3=some c3)(h4:∀ρ,TV.ren1 ρ c4=some c4):outs (rhoOut [1000,2,3,4] 900) 0 (osV L p sz c2 c3 c4)=some (uW L p sz c2 c3 c4):=by
 have hp:∀ρ,seqO (TV.ren1 ρ) (pB L p sz)=some (pB L p sz):=fun ρ=>rfl;have h3':∀ρ,seqO (TV.ren1 ρ) [c3]=some [c3]:=fun ρ=>by simp[seqO,h3]
 have h4':∀ρ,seqO (TV.ren1 ρ) [c4]=some [c4]:=fun ρ=>by simp[seqO,h4]
 have r0:rhoOut [1000,2,3,4] 900 (1000+0)=some 1000:=rfl;have r1:rhoOut [1000,2,3,4] 900 (1000+(0+1))=some 2:=rfl;have r2:rhoOut [1000,2,3,4] 900 (1000+(0+1+1))=some 3:=rfl;have r3:rhoOut [1000,2,3,4] 900 (1000+(0+1+1+1))=some 4:=rfl;simp only[osV,outs,MO.ren,hp,h2,h3',h4',Option.map_some,r0,r1,r2,r3,uW]
theorem zrp(p:Nat)(c2:List TV)(c3 c4:TV){y:TV}(hy:∀ρ,y.ren3 ρ=some y)(hy2:y.ids3=[]):z9w y false 1 ((sW L 0 sz).upd none (.mem (uW L p sz c2 c3 c4)))=some (y,[.box (pB L p sz)]):=by
 unfold z9w;simp only[hy2,hy,List.nil_append];rfl
theorem zpV:∀q<4,z0y (sW L 0 sz).fs (newId 900 q):=by
 intro q hq;have hf:(sW L 0 sz).fgt [5600,5601,5602,5603]=sW L 0 sz:=rfl;rw[←hf];exact z1J _ (by unfold newId;match q,hq with|0,_|1,_|2,_|3,_=>simp)
theorem z9o(p a:Nat)(y:TV)(c2:List TV)(c3 c4:TV)(hy:∀ρ,y.ren3 ρ=some y)(hy2:y.ids3=[])(h2:∀ρ,seqO (TV.ren1 ρ) c2=some c2)(h3:∀ρ,TV.ren1 ρ c3=some c3)(h4:∀ρ,TV.ren1 ρ c4=some c4)
  (hsw:swp Tryz.prog g cWr (QW L sz y (osV L p sz c2 c3 c4) p a) (sV L 0 sz)):
  zC g 139 [.ptr 1000 0] [.box (pB L 0 sz)] y [.box (pB L p sz)]:=by
 refine⟨z1k (by kernel_rfl),fun w E vs hG hm hX hl hr=> ?_⟩;have hS0:=z5u (lp:=false) (N:=27) (xs:=[.ptr 1000 0]) (by decide) hm hl hr;refine calls_of_wp_defers Tryz.func139 rfl ?_;refine wp_seq (wp_mono (z5v (B:={ Sh.start w E [.box (pB L 0 sz)] 27 with lp:=false }) (H:=wH) (Fp:=wF) (K:=wK) ze (by show 1≤1000;decide) (by show 27≤1000;decide) hG hX (sc:=cW0) (by kernel_rfl) (.inr rfl) (zta (g:=g)) hS0) ?_);rintro x a1 w1 ⟨e,s1,E1,rfl,⟨rfl,rfl⟩,hS1⟩;show(Code.seq _ _).wp _ _ a1 w1;refine wp_seq (wp_region ?_);show wpOps _ _ _ [0,1] a1 w1;have v2:=z9V (hS1.tmp 2 (.ptr 2 0) rfl).2;have v3:=z9V (hS1.tmp 3 (.ptr 3 0) rfl).2;have v4:=z9V (hS1.tmp 4 (.ptr 4 0) rfl).2;have v0:=z9V (hS1.tmp 0 (.ptr 1000 0) rfl).2;have hsz:=hS1.size;have hos:seqO (fun d=>((sW L 0 sz).fs.mo d).bind (MO.ren (rhoIn [1000,2,3,4]))) [1000,2,3,4]=some (osV L 0 sz zH (I 0) (B false)):=rfl;have hMp:=z4T (I:=[1000,2,3,4]) hS1 (by decide) hos;generalize hfv:Value.func (.func 167) #[] #[a1.eval (.tmp 2),a1.eval (.tmp 3),a1.eval (.tmp 4)]=fv;generalize hd:({ target:=.fn (.func 167) #[a1.eval (.tmp 2),a1.eval (.tmp 3),a1.eval (.tmp 4)],args:= #[] }:Deferred)=d;rw[wpOps_cons]
 refine z2v rfl rfl (v:=fv) (w':=w1) (by rw[←hfv];simp[execOp,Instr.makeFunc,Result.andThen]) ?_;rw[wpOps_cons];have e5:(a1.put (some 5) fv).eval (.tmp 5)=fv:=by
  show(a1.tmps.setIfInBounds 5 fv).getD 5 undef=fv;have:5<a1.tmps.size:=by rw[hsz];show 5<27;decide
  simp[Array.getD,this]
 refine zoU (d:=d) rfl rfl (by
  have e5':(a1.put (some 5) fv).eval (.tmp 5)=.func (.func 167) #[] #[a1.eval (.tmp 2),a1.eval (.tmp 3),a1.eval (.tmp 4)]:=e5.trans hfv.symm;rw[←hd];show(execOp (a1.put (some 5) fv).eval _).run _ _=_;simp[execOp,resolve,Deferred.ofValue,e5',Result.andThen]) ?_
 show(Code.seq _ _).wp Tryz.prog _ { tmps:=a1.tmps.setIfInBounds 5 fv,defers:=d::a1.defers } w1;rw[show a1.defers=[] from hS1.defers.nil rfl];have hS2:Sim { Sh.start w1 (zw E1 [1000,2,3,4]) (osV L 0 sz zH (I 0) (B false)) 27 with ds:=[d],lp:=false } (sV L 0 sz).fs { tmps:=a1.tmps.setIfInBounds 5 fv,defers:=[d] } w1 (zw E1 [1000,2,3,4]):=by
  have hb:(sV L 0 sz).fs.b=z0q (osV L 0 sz zH (I 0) (B false)):=by funext d;show lk (numB 1000 (osV L 0 sz zH (I 0) (B false))) d=_;rw[z9H];rfl
  have hr':(sV L 0 sz).fs.r=zA (osV L 0 sz zH (I 0) (B false)):=by funext d;show lk (numR 1000 (osV L 0 sz zH (I 0) (B false))) d=_;rw[z9I];rfl
  have hset:∀k,k≠5→(a1.tmps.setIfInBounds 5 fv).getD k undef=a1.tmps.getD k undef:=fun k hk=>by
   rw[Array.getD_eq_getD_getElem?,Array.getElem?_setIfInBounds_ne (Ne.symm hk),←Array.getD_eq_getD_getElem?]
  refine⟨⟨⟨[],fun _=>rfl,.nil,rfl,fun _ h=>by cases h⟩,fun _ h=>by cases h⟩,by rw[Array.size_setIfInBounds];exact hsz,fun k x hx=> ?_,?_,fun d z p hd=>(by cases hd),fun d d' q q' hd=>(by cases hd)⟩
  ·have hm:(k,x)∈[(0,TV.ptr 1000 0),(2,TV.ptr 1001 0),(3,TV.ptr 1002 0),(4,TV.ptr 1003 0)]:=z7f hx;simp only[List.mem_cons,List.not_mem_nil,or_false,Prod.mk.injEq]at hm;rcases hm with⟨rfl,rfl⟩|⟨rfl,rfl⟩|⟨rfl,rfl⟩|⟨rfl,rfl⟩
   ·refine⟨by show 0<27;decide,?_⟩;show RelT _ _ _ _ ((a1.tmps.setIfInBounds 5 fv).getD 0 undef);rw[hset 0 (by decide),v0];exact .ptr 1000 0
   ·refine⟨by show 2<27;decide,?_⟩;show RelT _ _ _ _ ((a1.tmps.setIfInBounds 5 fv).getD 2 undef);rw[hset 2 (by decide),v2];exact .ptr 1001 0
   ·refine⟨by show 3<27;decide,?_⟩;show RelT _ _ _ _ ((a1.tmps.setIfInBounds 5 fv).getD 3 undef);rw[hset 3 (by decide),v3];exact .ptr 1002 0
   ·refine⟨by show 4<27;decide,?_⟩;show RelT _ _ _ _ ((a1.tmps.setIfInBounds 5 fv).getD 4 undef);rw[hset 4 (by decide),v4];exact .ptr 1003 0
  ·rw[hb,hr'];exact⟨hMp.box,hMp.row,hMp.bb,hMp.br,hMp.rr,hMp.lt,hMp.low,hMp.keep,hMp.knew,⟨hMp.pas.β,hMp.pas.γ,hMp.pas.row⟩⟩
 have hn0:=g.le _ hG;have hw0:=hS1.mem.low.size;have hG1:g.G w1:=g.st _ _ hG (fun k hk=>hS1.mem.low.block k (Nat.lt_of_lt_of_le hk hn0) (fun d hd=>by have:=hX d k hd;omega));have hX1:∀d b,z2j (zw E1 [1000,2,3,4]) (osV L 0 sz zH (I 0) (B false)) d b→g.n≤b:=by
  intro d b hx;obtain⟨hlen,hB,hR⟩:=z4E hos;rcases hx with⟨cs,e1,e2⟩|⟨⟨e,W,n⟩,cap,e1,e2⟩
  ·obtain⟨j,rfl,hj⟩:=z2x e1;obtain⟨i,c,b1,b2,_⟩:=hB j cs hj;have e3:E1.β i=b:=by rw[←e2];simp only[zw];rw[getD_of b1]
   rcases(hS1.mem.box i c b2).2 with e4|e4
   ·rw[e3]at e4;exact Nat.le_trans hn0 e4
   ·rw[e3]at e4;exact hX _ _ e4
  ·obtain⟨j,rfl,hj⟩:=z0V e1;obtain⟨i,b1,b2,b3⟩:=hR j e W n hj;cases b3
 refine wp_mono (z5v (B:={ Sh.start w1 (zw E1 [1000,2,3,4]) (osV L 0 sz zH (I 0) (B false)) 27 with ds:=[d],lp:=false }) (H:=wH) (Fp:=wF) (K:=wK) ze (by show 4≤1000;decide) (by show 27≤1000;decide) hG1 hX1 (sc:=cWr) (by kernel_rfl) (.inr rfl) hsw hS2) ?_;have hhrs:seqO (z2c Tryz.prog) Tryz.f139.results.toList=some [.cell true 4 2,.cell false 1 3,.cell false 1 4]:=by kernel_rfl
 have FIN:∀(s3:ES) (a3:Act) (w3:World) (E3:Env),Sim { Sh.start w1 (zw E1 [1000,2,3,4]) (osV L 0 sz zH (I 0) (B false)) 27 with ds:=[d],lp:=false } s3.fs a3 w3 E3→exitR [.cell true 4 2,.cell false 1 3,.cell false 1 4] false 4 s3=some (y,osV L p sz c2 c3 c4)→
   ∃v,(results Tryz.f139 a3.tmps).run Tryz.prog w3=.ok v w3∧∃v_1 E'_1,Ending.returned v=Ending.returned v_1∧MSim (Sh.start w E [.box (pB L 0 sz)] 0) (z0q [.box (pB L p sz)]) (zA [.box (pB L p sz)]) w3 E'_1∧RelT w3 E'_1 (zA [.box (pB L p sz)]) y v_1∧Sh.Left E [.box (pB L 0 sz)] E'_1 [.box (pB L p sz)]:=by
  intro s3 a3 w3 E3 hS3 hex;obtain⟨v,hrun,v',E4,hv,hm4,hr4,hl4⟩:=zl7 (F:=⟨0,.skip,[.cell true 4 2,.cell false 1 3,.cell false 1 4],false⟩) rfl rfl hhrs (os:=osV L 0 sz zH (I 0) (B false)) (os':=osV L p sz c2 c3 c4) rfl hS3 hex;cases hv;obtain⟨hS5,hren⟩:=z6q hS1 (by decide) (by show 1≤1000;decide) zpV hos rfl (zrU p c2 c3 c4 h2 h3 h4) hm4 hl4 none;rw[←ES.upd_fs]at hS5;have hrel:=zb5 hren (fun _ _ _ h _=>h) hr4 (hy _);rw[←ES.upd_fs]at hrel;obtain⟨E6,m6,r6,l6⟩:=zeo (ds:=[]) (os:=[.box (pB L 0 sz)]) (os':=[.box (pB L p sz)]) rfl hS5 hrel (zrp p c2 c3 c4 hy hy2);exact⟨v,hrun,v,E6,rfl,m6,r6,l6⟩
 rintro x a3 w3 ⟨e,s3,E3,rfl,hQ,hS3⟩;have hdf:a3.defers=[d]:=hS3.defers.nil rfl;have hinv:(invoke d.target d.args).run Tryz.prog w3=.ok (.enter 167 #[a1.eval (.tmp 2),a1.eval (.tmp 3),a1.eval (.tmp 4)]) w3:=by
  rw[←hd];exact zkW Tryz.func167 rfl rfl _ w3
 have htar:d.target=.fn (.func 167) #[a1.eval (.tmp 2),a1.eval (.tmp 3),a1.eval (.tmp 4)]:=by rw[←hd]
 rcases hQ with hQ|⟨hQ,hya,hosa⟩
 ·have hfin:exitR [.cell true 4 2,.cell false 1 3,.cell false 1 4] false 4 s3=some (y,osV L p sz c2 c3 c4)→Leaves Tryz.prog Tryz.f139 a3.tmps (fun e w'=>∃v E',e=.returned v∧MSim (Sh.start w E [.box (pB L 0 sz)] 0) (z0q [.box (pB L p sz)]) (zA [.box (pB L p sz)]) w' E'∧RelT w' E' (zA [.box (pB L p sz)]) y v∧Sh.Left E [.box (pB L 0 sz)] E' [.box (pB L p sz)]) a3.defers .returning w3:=by
   intro hex;rw[hdf];refine⟨by simp,_,_,_,_,htar,hinv,zoo _ _ _ _ _ (fun v=> ?_)⟩;exact FIN s3 a3 w3 E3 hS3 hex
  cases e with
  |ret=>exact hfin hQ
  |normal=>exact hfin hQ
  |exit id=>exact hQ.elim
  |pan z=>exact hQ.elim
 ·obtain⟨rfl,q2,q3,q4,⟨cs2,b2,l2⟩,⟨cs3,b3⟩,⟨cs4,b4⟩,b0,hr0⟩:=hQ;show Leaves Tryz.prog Tryz.f139 a3.tmps _ a3.defers (.panicking [{ v:=zX a,recovered:=false }]) w3;rw[hdf];have ebt:∀d,1000≤d→d<1004→E3.β d=(zw E1 [1000,2,3,4]).β d:=fun d h1 h2=>hS3.mem.pas.β d ⟨h1,h2⟩;have w2:a1.eval (.tmp 2)=.pointer (some ⟨E3.β 1001,0,none⟩):=by rw[ebt 1001 (by decide) (by decide)];exact v2
  have w3':a1.eval (.tmp 3)=.pointer (some ⟨E3.β 1002,0,none⟩):=by rw[ebt 1002 (by decide) (by decide)];exact v3
  have w4:a1.eval (.tmp 4)=.pointer (some ⟨E3.β 1003,0,none⟩):=by rw[ebt 1003 (by decide) (by decide)];exact v4
  rw[w2,w3',w4]at hinv htar;refine⟨by simp,_,_,_,_,htar,hinv,zqv hS3 b2 l2 b3 b4 a _ (fun v w4 hS4=> ?_)⟩;let s5:ES:=⟨s3.t,sv (sv (sv s3.b 1001 zH) 1002 [I (a:Int)]) 1003 [B false],s3.r,s3.i⟩
  have e5:s5.fs=((s3.fs.setB 1001 zH).setB 1002 [I (a:Int)]).setB 1003 [B false]:=by simp only[s5,ES.fs,FS.setB,z1z]
  rw[←e5]at hS4;refine FIN s5 a3 w4 E3 hS4 ?_;rw[hya,hosa];have t2:s5.fs.t 2=some (.ptr 1001 0):=q2;have t3:s5.fs.t 3=some (.ptr 1002 0):=q3;have t4:s5.fs.t 4=some (.ptr 1003 0):=q4;have B0:s5.fs.b 1000=some (pB L p sz):=by rw[e5];show lk s3.b 1000=_;exact b0
  have B1:s5.fs.b 1001=some zH:=by rw[e5];simp[FS.setB,z0I]
  have B2:s5.fs.b 1002=some [I (a:Int)]:=by rw[e5];simp[FS.setB,z0I]
  have B3:s5.fs.b 1003=some [B false]:=by rw[e5];simp[FS.setB,z0I]
  have R0:∀d,s5.fs.r d=none:=fun d=>by show lk s3.r d=none;rw[hr0];rfl
  have hres:resT s5.fs [.cell true 4 2,.cell false 1 3,.cell false 1 4]=some (.tuple [.agg zH,I (a:Int),B false]):=by
   simp[resT,seqO,SRes.get,t2,t3,t4,B1,B2,B3,zH]
  generalize s5=s6 at*;rw[zpR hres];have m0:s6.fs.mo 1000=some (.box (pB L p sz)):=by simp[FS.mo,B0,R0]
  have m1:s6.fs.mo 1001=some (.box zH):=by simp[FS.mo,B1,R0]
  have m2:s6.fs.mo 1002=some (.box [I (a:Int)]):=by simp[FS.mo,B2,R0]
  have m3:s6.fs.mo 1003=some (.box [B false]):=by simp[FS.mo,B3,R0]
  have hfl:(idsFrom 1000 4).flatMap (zbt s6.fs)=[]:=by
   simp only[idsFrom,List.flatMap_cons,List.flatMap_nil,zbt,B0,B1,B2,B3];rfl
  have hal:zx s6.fs false 64 ((TV.tuple [.agg zH,I (a:Int),B false]).ids3++(idsFrom 1000 4).flatMap (zbt s6.fs)) (idsFrom 1000 4)=[1000,1001,1002,1003]:=by
   rw[hfl];rfl
  unfold zpf;rw[hal];unfold zp1;simp only[seqO,m0,m1,m2,m3,Option.bind_some];rfl
theorem zgy(hL:L.length≤4611686018427387904){f:Nat}{e:V}{p:Nat}(h:pE L sz f 1 0=some (.ok e p))(hp:¬p<L.length):
  zC g 139 [.ptr 1000 0] [.box (pB L 0 sz)] (.tuple [tv e,I 0,B true]) [.box (pB L p sz)]:=
 z9o p 0 _ (eC e) (I 0) (B true) (fun _=>rfl) rfl (fun _=>rfl) (fun _=>rfl) (fun _=>rfl) (z1c (zqz hL h hp) fun _ _ h=> .inl h)
theorem zmJ(hL:L.length≤4611686018427387904){f a p:Nat}(h:pE L sz f 1 0=some (.bad a p)):
  zC g 139 [.ptr 1000 0] [.box (pB L 0 sz)] (.tuple [.agg zH,I (a:Int),B false]) [.box (pB L p sz)]:=
 z9o p a _ zH (I (a:Int)) (B false) (fun _=>rfl) rfl (fun _=>rfl) (fun _=>rfl) (fun _=>rfl) (z1c (zoq hL h) fun _ _ h=> .inr ⟨h,rfl,rfl⟩)
theorem zkk(hL:L.length≤4611686018427387904){f:Nat}{e:V}{p:Nat}(h:pE L sz f 1 0=some (.ok e p))(hp:p<L.length):
  zC g 139 [.ptr 1000 0] [.box (pB L 0 sz)] (.tuple [.agg zH,I ((pkP L sz p).p:Int),B false]) [.box (pB L p sz)]:=
 z9o p (pkP L sz p).p _ zH (I ((pkP L sz p).p:Int)) (B false) (fun _=>rfl) rfl (fun _=>rfl) (fun _=>rfl) (fun _=>rfl) (z1c (zmb hL h hp) fun _ _ h=> .inr ⟨h,rfl,rfl⟩)
end
end
end Go.Proofs.YtpmlapgbmgbilaaGreatDoor
end
