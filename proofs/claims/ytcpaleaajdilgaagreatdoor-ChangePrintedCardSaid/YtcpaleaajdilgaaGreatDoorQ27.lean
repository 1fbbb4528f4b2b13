/- Merged texts: Ze21 Ze22 Ze23 Ze26. No statement of the program is proved here. -/
import Derived.Test.YtcpaleaajdilgaaGreatDoorQ26
set_option linter.unusedSimpArgs false
set_option linter.unusedVariables false
set_option maxRecDepth 100000
set_option maxHeartbeats 8000000
section
namespace Go.Proofs.YtcpaleaajdilgaaGreatDoor
open Go Go.RowKit Go.Mor Go.Sh Go.Sh.Cd1 Go.Sh.Cd5
section
section
variable{w W:World}{E E2:Env}{a:Act}{L:List Pc}{sz:Nat}{mv:Value}
abbrev zay:List SRes:=[.cell true 4 2,.cell false 1 3,.cell false 1 4]
theorem zlt(p:Nat)(hS:Sim (Sh.start w E [] 50) (sPx L sz mv (p:Int) 50).fs a W E2):
  ∃v,(results Tryz.f36 a.tmps).run Tryz.prog W=.ok v W∧∃v_1 E'_1,Ending.returned v=Ending.returned v_1∧MSim (Sh.start w E [] 0) (z01 []) (zm []) W E'_1∧RelT W E'_1 (zm []) (.tuple [.agg zk,I (p:Int),I 50]) v_1∧Sh.Left E [] E'_1 []:=by
 have hhrs:seqO (z1m Tryz.prog) Tryz.f36.results.toList=some zay:=by kernel_rfl
 exact z6N (F:=⟨0,.skip,zay,false⟩) rfl rfl hhrs (os:=[]) (os':=[]) (ds:=[]) rfl hS (by rfl)
theorem zgq{D:Nat}{Rr:Ending→World→Prop}(hd:a.defers=[{ target:=.collected D,args:= #[] }])(hK:W.heap[D]?=some (.deferred (some [])))(h:∃v,(results Tryz.f36 a.tmps).run Tryz.prog (W.putObj D (.deferred none))=.ok v (W.putObj D (.deferred none))∧Rr (.returned v) (W.putObj D (.deferred none))):
  bodyPostM Fence.wide 9 Tryz.prog Tryz.f36 Rr .ret a W:=by
 show LeavesInM _ _ _ _ _ _ a.defers .returning W;rw[hd];obtain⟨v,h1,h2⟩:=h;exact⟨by simp,.inl ⟨_,_,rfl,run_takeDeferred hK,v,h1,h2⟩⟩
def z4H(c2:List TV)(c3 c4:TV):ES:=⟨[(2,.ptr 2 0),(3,.ptr 3 0),(4,.ptr 4 0)],[(2,c2),(3,[c3]),(4,[c4])],[],[]⟩
theorem zls{p1 p2 p3 p4:PV}{x y:Int}{a3:Act}{D:Nat}(hS:Sim (Sh.start w E [] 50) (z4H [.pv p1,.pv p2,.pv p3,.pv p4] (I x) (I y)).fs a W E2)(hsz:a3.tmps.size=50)(hd:a3.defers=[{ target:=.collected D,args:= #[] }])(hsm:∀k,k=2∨k=3∨k=4→a3.tmps.getD k undef=a.tmps.getD k undef)(hD:w.heap.size≤D)(hK:W.heap[D]?=some (.deferred (some []))):
  bodyPostM Fence.wide 9 Tryz.prog Tryz.f36 (fun e' w'=>∃v E'_1,e'=.returned v∧MSim (Sh.start w E [] 0) (z01 []) (zm []) w' E'_1∧RelT w' E'_1 (zm []) (.tuple [.agg [.pv p1,.pv p2,.pv p3,.pv p4],I x,I y]) v∧Sh.Left E [] E'_1 []) .ret a3 W:=by
 have hslots:∀k z,(z4H [.pv p1,.pv p2,.pv p3,.pv p4] (I x) (I y)).fs.t k=some z→(k=2∨k=3∨k=4)∧∃d o,z=.ptr d o:=fun k z hz=>by
  have hm:=z0C (l:=(z4H [.pv p1,.pv p2,.pv p3,.pv p4] (I x) (I y)).t) hz;simp only[z4H,List.mem_cons,List.not_mem_nil,or_false,Prod.mk.injEq]at hm;rcases hm with⟨rfl,rfl⟩|⟨rfl,rfl⟩|⟨rfl,rfl⟩
  ·exact⟨by simp,_,_,rfl⟩
  ·exact⟨by simp,_,_,rfl⟩
  ·exact⟨by simp,_,_,rfl⟩
 have hflat:∀d cs,(z4H [.pv p1,.pv p2,.pv p3,.pv p4] (I x) (I y)).fs.b d=some cs→∀c∈cs,c.flat:=fun d cs hd c hc=>by
  have hm:=z0C (l:=(z4H [.pv p1,.pv p2,.pv p3,.pv p4] (I x) (I y)).b) hd;simp only[z4H,List.mem_cons,List.not_mem_nil,or_false,Prod.mk.injEq]at hm;rcases hm with⟨_,rfl⟩|⟨_,rfl⟩|⟨_,rfl⟩<;>simp only[List.mem_cons,List.not_mem_nil,or_false]at hc
  ·rcases hc with rfl|rfl|rfl|rfl<;>exact .inl ⟨_,rfl⟩
  ·subst hc;exact .inl ⟨_,rfl⟩
  ·subst hc;exact .inl ⟨_,rfl⟩
 have hS2:=Sim.grown hS (fun k z hz=> .inr (hslots k z hz).2) (fun _=>rfl) hflat (grownBy_putObj' W D (.deferred none)) (fun k hk=>by cases hk;exact⟨hD,_,hK,rfl⟩);have hS3:Sim { Sh.start w E [] 50 with ds:=[{ target:=.collected D,args:= #[] }] } (z4H [.pv p1,.pv p2,.pv p3,.pv p4] (I x) (I y)).fs a3 (W.putObj D (.deferred none)) E2:=by
  refine⟨hd,hsz,fun k z hz=>⟨(hS2.tmp k z hz).1,?_⟩,⟨hS2.mem.box,hS2.mem.row,hS2.mem.bb,hS2.mem.br,hS2.mem.rr,hS2.mem.lt,hS2.mem.low,hS2.mem.keep,hS2.mem.knew,⟨hS2.mem.pas.β,hS2.mem.pas.γ,hS2.mem.pas.row⟩⟩,hS2.itr,hS2.ii⟩;rw[hsm k (hslots k z hz).1];exact(hS2.tmp k z hz).2
 have hhrs:seqO (z1m Tryz.prog) Tryz.f36.results.toList=some zay:=by kernel_rfl
 obtain⟨v,hrun,v1,E3,hv,hm,hr,hl⟩:=z6N (F:=⟨0,.skip,zay,false⟩) (y:=.tuple [.agg [.pv p1,.pv p2,.pv p3,.pv p4],I x,I y]) rfl rfl hhrs (os:=[]) (os':=[]) rfl hS3 (by rfl);exact zgq hd hK ⟨v,hrun,v1,E3,hv,hm,hr,hl⟩
def qH:Nat→Option Nat→Nat:=rH
def qF:Nat→List (Nat→Option Nat):=fpT []
def qK:Nat→List Nat:=z5l [(1,[10,11]),(2,[0,12,13]),(3,[12,14,15,16,17,18]),(4,[0,19]),(9,[5,20,36,37,38,39,40]),(10,[9,41]),(11,[7,8,42,43,44]),(12,[8,42,45,46]),(13,[7,47,48]),(14,[7,47,49])]
def sY(L:List Pc)(sz:Nat):ES:=⟨[(2,.ptr 2 0),(3,.ptr 3 0),(4,.ptr 4 0),(5,.ptr 5 0)],[(5,pB L 0 sz),(2,zk),(3,[I 0]),(4,[I 0])],[],[]⟩
theorem zgX{m p D:Nat}{p1 p2 p3 p4:PV}{x y:Int}{c:Code}(tc:ze Tryz.prog 50 qH qF qK c=some cPr)(hG:(gl0 m).G W)(hn:(gl0 m).n≤w.heap.size)(hS:Sim (Sh.start w E [] 50) (sPx L sz mv 0 0).fs a W E2)(hmr:∀E2 r,RelT W E2 r z0c mv)(hD:w.heap.size≤D)(hK:W.heap[D]?=some (.deferred (some [])))
  (hsw:swp Tryz.prog (gl0 m) cPr (PostP' (.tuple [.agg [.pv p1,.pv p2,.pv p3,.pv p4],I x,I y]) (osP L p sz [.pv p1,.pv p2,.pv p3,.pv p4] (I x) (I y))) (sP1 L sz)):
  c.wpIn Fence.wide 9 Tryz.prog (bodyPostM Fence.wide 9 Tryz.prog Tryz.f36 (fun e' w'=>∃v E'_1,e'=.returned v∧MSim (Sh.start w E [] 0) (z01 []) (zm []) w' E'_1∧RelT w' E'_1 (zm []) (.tuple [.agg [.pv p1,.pv p2,.pv p3,.pv p4],I x,I y]) v∧Sh.Left E [] E'_1 [])) { a with defers:={ target:=.collected D,args:= #[] }::a.defers } W:=by
 have had:a.defers=[]:=hS.defers;have hsz:a.tmps.size=50:=hS.size;rw[had];have h1:=hS.cells (d:=5) (cs:=[.own 3000 4 (L.map pcR),I 0,I (sz:Int),.pv (.v mv)]) (cs':=pB L 0 sz) rfl (fun j c' hj=>by
  unfold pB pcs at hj
  match j,hj with
  |0,hj=>
   cases hj;refine⟨_,rfl,fun v _ hv=> ?_⟩;cases hv with|own _ _ _ _ hh _=>exact .pv hh
  |1,hj=>cases hj;exact⟨_,rfl,fun _ _ h=>h⟩
  |2,hj=>cases hj;exact⟨_,rfl,fun _ _ h=>h⟩
  |3,hj=>
   cases hj;refine⟨_,rfl,fun v _ hv=> ?_⟩;rw[z0O hv];exact hmr _ _
  |j+4,hj=>simp at hj)
 have h2:Sim (Sh.start w E [] 50) (sY L sz).fs a W E2:=by
  refine h1.less (fun k x hx=> .inl hx) (fun d cs hd=>⟨cs,?_,fun j c h=> .inl h⟩) (fun d q hd=>(by cases hd)) (fun d q hd=>hd);have hm:=z0C (l:=(sY L sz).b) hd;simp only[sY,List.mem_cons,List.not_mem_nil,or_false,Prod.mk.injEq]at hm;rcases hm with⟨rfl,rfl⟩|⟨rfl,rfl⟩|⟨rfl,rfl⟩|⟨rfl,rfl⟩<;>rfl
 have hos:seqO (fun d=>((sY L sz).fs.mo d).bind (MO.ren (rhoIn [5,2,3,4]))) [5,2,3,4]=some (osP L 0 sz zk (I 0) (I 0)):=rfl;have hnd:[5,2,3,4].Nodup:=by decide
 have hi:=z64 (N:=50) (a2:={ a with defers:=[{ target:=.collected D,args:= #[] }] }) (ds:=[{ target:=.collected D,args:= #[] }]) h2 hnd hos hsz rfl [(2,.ptr 1001 0),(3,.ptr 1002 0),(4,.ptr 1003 0),(5,.ptr 1000 0)] (fun k x hx=>by
  simp only[List.mem_cons,List.not_mem_nil,or_false,Prod.mk.injEq]at hx;rcases hx with⟨rfl,rfl⟩|⟨rfl,rfl⟩|⟨rfl,rfl⟩|⟨rfl,rfl⟩
  ·exact⟨by decide,.inl ⟨.ptr 2 0,rfl,(h2.tmp 2 _ rfl).2⟩⟩
  ·exact⟨by decide,.inl ⟨.ptr 3 0,rfl,(h2.tmp 3 _ rfl).2⟩⟩
  ·exact⟨by decide,.inl ⟨.ptr 4 0,rfl,(h2.tmp 4 _ rfl).2⟩⟩
  ·exact⟨by decide,.inl ⟨.ptr 5 0,rfl,(h2.tmp 5 _ rfl).2⟩⟩)
 have hIX:=zbP h2 hos hn z9z;have hr:=z0v (B:={ Sh.start W (zo E2 [5,2,3,4]) (osP L 0 sz zk (I 0) (I 0)) 50 with ds:=[{ target:=.collected D,args:= #[] }] }) (H:=qH) (Fp:=qF) (K:=qK) zf (by show 4≤1000;decide) (by show 50≤1000;decide) hG hIX (c:=c) tc hsw hi;refine wpIn_mono (wpIn_wide.2 hr) ?_;rintro x3 a3 W3 ⟨ex,s',E3,rfl,⟨hP,l2,l3,l4⟩,hS'⟩;have hhrs:seqO (z1m Tryz.prog) Tryz.f36.results.toList=some zay:=by kernel_rfl
 have hfin:exitR zay false 4 s'=some (.tuple [.agg [.pv p1,.pv p2,.pv p3,.pv p4],I x,I y],osP L p sz [.pv p1,.pv p2,.pv p3,.pv p4] (I x) (I y))→bodyPostM Fence.wide 9 Tryz.prog Tryz.f36 (fun e' w'=>∃v E'_1,e'=.returned v∧MSim (Sh.start w E [] 0) (z01 []) (zm []) w' E'_1∧RelT w' E'_1 (zm []) (.tuple [.agg [.pv p1,.pv p2,.pv p3,.pv p4],I x,I y]) v∧Sh.Left E [] E'_1 []) .ret a3 W3:=by
  intro hex;obtain⟨v,hrun,v1,E4,hv,hm,hrr,hl⟩:=z6N (F:=⟨0,.skip,zay,false⟩) rfl rfl hhrs (os:=osP L 0 sz zk (I 0) (I 0)) (os':=osP L p sz [.pv p1,.pv p2,.pv p3,.pv p4] (I x) (I y)) (by unfold osP;simp[moOk]) hS' hex;obtain⟨h5,_⟩:=z4V (k:=8) (us:=[(5,.box (pB L p sz)),(2,.box [.pv p1,.pv p2,.pv p3,.pv p4]),(3,.box [I x]),(4,.box [I y])]) h2 hnd (fun i hi=>by
   simp only[List.mem_cons,List.not_mem_nil,or_false]at hi;rcases hi with rfl|rfl|rfl|rfl
   ·exact .inl ⟨5,_,rfl,.ptr _⟩
   ·exact .inl ⟨2,_,rfl,.ptr _⟩
   ·exact .inl ⟨3,_,rfl,.ptr _⟩
   ·exact .inl ⟨4,_,rfl,.ptr _⟩) (by show 0≤1000;decide) (fun q hq=>by
   have hf:(sY L sz).fgt [2032,2033,2034,2035]=sY L sz:=rfl;rw[←hf];exact z13 _ (by unfold newId;match q,hq with|0,_|1,_|2,_|3,_=>simp)) hos (by unfold osP;simp[moOk]) (by rfl) hm hl none
  rw[←ES.upd_fs]at h5;have h6:Sim (Sh.start w E [] 50) (z4H [.pv p1,.pv p2,.pv p3,.pv p4] (I x) (I y)).fs a W3 _:=h5.less (fun k z hz=>by
    have hmm:=z0C (l:=(z4H [.pv p1,.pv p2,.pv p3,.pv p4] (I x) (I y)).t) hz;simp only[z4H,List.mem_cons,List.not_mem_nil,or_false,Prod.mk.injEq]at hmm;rcases hmm with⟨rfl,rfl⟩|⟨rfl,rfl⟩|⟨rfl,rfl⟩<;>exact .inl rfl) (fun d cs hd=>⟨cs,by
    have hmm:=z0C (l:=(z4H [.pv p1,.pv p2,.pv p3,.pv p4] (I x) (I y)).b) hd;simp only[z4H,List.mem_cons,List.not_mem_nil,or_false,Prod.mk.injEq]at hmm;rcases hmm with⟨rfl,rfl⟩|⟨rfl,rfl⟩|⟨rfl,rfl⟩<;>rfl,fun j c h=> .inl h⟩) (fun d q hd=>(by cases hd)) (fun d q hd=>(by cases hd))
  have hpt:∀k j,(k=2∧j=1001)∨(k=3∧j=1002)∨(k=4∧j=1003)→a3.tmps.getD k undef=a.tmps.getD k undef:=fun k j hkj=>by
   rcases hkj with⟨rfl,rfl⟩|⟨rfl,rfl⟩|⟨rfl,rfl⟩
   ·rw[z26 hS' l2,z26 h2 (k:=2) (d:=2) rfl,hS'.mem.pas.β 1001 ⟨by decide,by show 1001<1000+4;decide⟩];rfl
   ·rw[z26 hS' l3,z26 h2 (k:=3) (d:=3) rfl,hS'.mem.pas.β 1002 ⟨by decide,by show 1002<1000+4;decide⟩];rfl
   ·rw[z26 hS' l4,z26 h2 (k:=4) (d:=4) rfl,hS'.mem.pas.β 1003 ⟨by decide,by show 1003<1000+4;decide⟩];rfl
  exact zls h6 hS'.size hS'.defers (fun k hk=>by
   rcases hk with rfl|rfl|rfl
   ·exact hpt 2 1001 (by simp)
   ·exact hpt 3 1002 (by simp)
   ·exact hpt 4 1003 (by simp)) hD (z6x h2 hnd hos hS' D _ hK rfl)
 cases ex with
 |ret=>exact hfin hP
 |normal=>exact hfin hP
 |exit id=>exact hP.elim
 |pan z=>exact hP.elim
end
end
section
theorem zld:∃c0 c1 c3 c4 cR,Tryz.f36.body=some (.seq c0 (.seq c1 (.seq c3 (.seq (.seq c4 (.block 0 (zdv Tryz.prog 36 0))) cR))))∧ze Tryz.prog 50 qH qF qK c0=some c_95_0
  ∧ze Tryz.prog 50 qH qF qK c1=some (.seq c_95_1 (.cond (.tmp 12) (.seq c_95_2 .ret) .skip))∧ze Tryz.prog 50 qH qF qK c3=some c_95_3∧ze Tryz.prog 50 qH qF qK c4=some c_95_4∧ze Tryz.prog 50 qH qF qK cR=some cPr:=by
 refine⟨_,_,_,_,_,rfl,?_,?_,?_,?_,?_⟩
 ·kernel_rfl
 ·kernel_rfl
 ·kernel_rfl
 ·kernel_rfl
 ·kernel_rfl
section
variable{s:zB}
def t0P(s:zB):ES:=⟨[(0,S (str s)),(2,.ptr 2 0),(3,.ptr 3 0),(4,.ptr 4 0)],[(2,zk),(3,[I 0]),(4,[I 0])],[],[]⟩
def t3P(s:zB):ES:=⟨[(0,S (str s)),(2,.ptr 2 0),(3,.ptr 3 0),(4,.ptr 4 0),(5,.ptr 5 0)],[(2,zk),(3,[I 0]),(4,[I 0]),(5,[.pv (.v (.slice none 0 0)),I 0,I (s.length:Int),z0c])],[],[]⟩
theorem zqU(g:Sh.Glob):swp Tryz.prog g c_95_0 (fun e s'=>e=.normal∧s'=t0P s) ⟨[(0,S (str s))],[],[],[]⟩:=by
 unfold t0P zk;simp only[vW,seval,bmV]
theorem zqV(g:Sh.Glob)(hs:s.length≤200):swp Tryz.prog g (.seq c_95_1 (.cond (.tmp 12) (.seq c_95_2 .ret) .skip)) (fun e s'=>e=.normal∧lk s'.t 0=some (S (str s))∧lk s'.t 2=some (.ptr 2 0)∧lk s'.t 3=some (.ptr 3 0)∧lk s'.t 4=some (.ptr 4 0)∧s'.b=(t0P s).b∧s'.r=[]∧s'.i=[]) (t0P s):=by
 have d1:¬(200:Int)<(s.length:Int):=by omega
 unfold t0P zk;simp only[vW,seval,bmV,d1]
theorem zqW(g:Sh.Glob)(hs:s.length≤200):swp Tryz.prog g c_95_3 (fun e s'=>e=.normal∧s'=t3P s) (t0P s):=by
 have HB:=z6s g;unfold t0P t3P zk;simp only[vW,seval,bmV];exact z1h HB
theorem zqX(g:Sh.Glob):swp Tryz.prog g c_95_4 (fun e s'=>e=.normal∧s'.t=[(2,.ptr 2 0),(3,.ptr 3 0),(4,.ptr 4 0),(5,.ptr 5 0),(20,.fn (.func 129) [] [.ptr 2080 0])]∧s'.b=[(2,zk),(3,[I 0]),(4,[I 0]),(5,[.pv (.v (.slice none 0 0)),I 0,I (s.length:Int),z0c]),(2080,[S (str s)])]∧s'.r=[]∧s'.i=[]) (t3P s):=by
 have HB:=zk2 g s;unfold t3P zk;simp only[vW,seval,bmV];exact z1h HB
theorem z52(m:Nat)(hs:s.length≤200){R:Lx}(hR:∃f,z0w f s 0 []=some R){p1 p2 p3 p4:PV}{x y:Int}
  (hcase:(∃q:Nat,R=.bad q∧[TV.pv p1,.pv p2,.pv p3,.pv p4]=zk∧x=(q:Int)∧y=50)∨∃L p,R=.ok L∧swp Tryz.prog (gl0 m) cPr (PostP' (.tuple [.agg [.pv p1,.pv p2,.pv p3,.pv p4],I x,I y]) (osP L p s.length [.pv p1,.pv p2,.pv p3,.pv p4] (I x) (I y))) (sP1 L s.length)):
  zC (gl0 m) 36 [S (str s)] [] (.tuple [.agg [.pv p1,.pv p2,.pv p3,.pv p4],I x,I y]) []:=by
 obtain⟨c0,c1,c3,c4,cR,hb,u0,u1,u3,u4,uR⟩:=zld;refine⟨z0A (by kernel_rfl),fun w E vs hG hm hX hl hr=> ?_⟩;have hS0:=z6k (N:=50) (xs:=[S (str s)]) (by show 1≤50;decide) hm hl hr;refine callsIn_wide.1 (callsIn_of_wp_marks (n:=9) Tryz.func36 hb trivial ?_ rfl);rw[Tryz.ntmps36];generalize({ tmps:=vs.toArray++Array.replicate (50-vs.toArray.size) undef,defers:=[] }:Act)=a0 at hS0 ⊢;have hx0:∀d b,(Sh.start w E [] 50).X d b→(gl0 m).n≤b:=z9z;have k0:=z0v (H:=qH) (Fp:=qF) (K:=qK) zf (by show 0≤1000;decide) (by show 50≤1000;decide) hG hx0 (c:=c0) (sc:=c_95_0) u0 (zqU (s:=s) (gl0 m)) hS0;refine wpIn_seq (wpIn_mono (wpIn_wide.2 k0) ?_);rintro z a1 W1 ⟨e,s1,E1,rfl,⟨rfl,rfl⟩,hS1⟩;have k1:=z0v (H:=qH) (Fp:=qF) (K:=qK) zf (by show 0≤1000;decide) (by show 50≤1000;decide) hG hx0 (c:=c1) (sc:=.seq c_95_1 (.cond (.tmp 12) (.seq c_95_2 .ret) .skip)) u1 (zqV (gl0 m) hs) hS1;refine wpIn_seq (wpIn_mono (wpIn_wide.2 k1) ?_);rintro z a2 W2 ⟨e,s2,E2,rfl,⟨rfl,l0,l2,l3,l4,lb,lr,li⟩,hS2⟩;have hS2':Sim (Sh.start w E [] 50) (t0P s).fs a2 W2 E2:=hS2.less (fun k z hz=>by
  have hmm:=z0C (l:=(t0P s).t) hz;simp only[t0P,List.mem_cons,List.not_mem_nil,or_false,Prod.mk.injEq]at hmm;rcases hmm with⟨rfl,rfl⟩|⟨rfl,rfl⟩|⟨rfl,rfl⟩|⟨rfl,rfl⟩
  ·exact .inl l0
  ·exact .inl l2
  ·exact .inl l3
  ·exact .inl l4) (fun d cs hd=>⟨cs,by show lk s2.b d=_;rw[lb];exact hd,fun j c h=> .inl h⟩) (fun d q hd=>(by cases hd)) (fun d q hd=>(by cases hd))
 have k3:=z0v (H:=qH) (Fp:=qF) (K:=qK) zf (by show 0≤1000;decide) (by show 50≤1000;decide) hG hx0 (c:=c3) (sc:=c_95_3) u3 (zqW (gl0 m) hs) hS2';refine wpIn_seq (wpIn_mono (wpIn_wide.2 k3) ?_);rintro z a3 W3 ⟨e,s3,E3,rfl,⟨rfl,rfl⟩,hS3⟩;have k4:=z0v (H:=qH) (Fp:=qF) (K:=qK) zf (by show 0≤1000;decide) (by show 50≤1000;decide) hG hx0 (c:=c4) (sc:=c_95_4) u4 (zqX (s:=s) (gl0 m)) hS3;refine wpIn_seq (wpIn_seq (wpIn_mono (wpIn_wide.2 k4) ?_));rintro z a4 W4 ⟨e,s4,E4,rfl,⟨rfl,lt,lb,lr,li⟩,hS4⟩;have hL0:Sim (Sh.start w E [] 50) (sL0 s).fs a4 W4 E4:=hS4.less (fun k z hz=> .inl (by show lk s4.t k=_;rw[lt];exact hz)) (fun d cs hd=>⟨cs,by
  have hmm:=z0C (l:=(sL0 s).b) hd;simp only[sL0,List.mem_cons,List.not_mem_nil,or_false,Prod.mk.injEq]at hmm;show lk s4.b d=_;rw[lb];rcases hmm with⟨rfl,rfl⟩|⟨rfl,rfl⟩|⟨rfl,rfl⟩|⟨rfl,rfl⟩|⟨rfl,rfl⟩<;>rfl,fun j c h=> .inl h⟩) (fun d q hd=>(by cases hd)) (fun d q hd=>(by cases hd))
 obtain⟨E5,mv,bm,om,hP,hmr,hmv,hom,hoc,hne,hcell,h20,hrb⟩:=zov rfl (by show 0≤1000;decide) hL0;have hlow:=hL0.mem.low;have hgn:(gl0 m).n≤w.heap.size:=(gl0 m).le _ hG;have hG4:(gl0 m).G W4:=(gl0 m).st _ _ hG fun k hk=>hlow.block k (by show k<w.heap.size;omega) fun d hx=>by have:=hx0 d k hx;omega
 have hsz4:w.heap.size≤W4.heap.size:=hlow.size;refine wpIn_block (znO (B:=Sh.start w E [] 50) m rfl (by show 0≤1000;decide) hG4 hgn hx0 hP h20 hcell hne hom hoc hs hR hrb (fun D xs W hD hRx hI hK=> ?_) (fun D q L W hD hRq hSq hK=> ?_))
 ·
  obtain⟨E6,hS6⟩:=hI.sim;rcases hcase with⟨q,h1,_⟩|⟨L,p,h1,h2⟩
  ·rw[h1]at hRx;cases hRx
  ·rw[h1]at hRx;cases hRx;exact zgX uR hI.G hgn hS6 (fun E2 r=>hmr W E2 r hI.map) (by omega) hK h2
 ·
  obtain⟨E6,hS6⟩:=hSq;rcases hcase with⟨q',h1,h2,rfl,rfl⟩|⟨L,p,h1,_⟩
  ·rw[h1]at hRq;have hqq:q'=q.p:=by cases hRq;rfl
   subst hqq;have hgr:=Sim.grown hS6 (fun k z hz=>z9x hz) (fun _=>rfl) ze4 (grownBy_putObj' W D (.deferred none)) (fun k hk=>by cases hk;exact⟨by show w.heap.size≤D;omega,_,hK,rfl⟩);obtain⟨v,hrun,v1,E7,hv,hm7,hr7,hl7⟩:=zlt q.p hgr;rw[h2];exact zgq (by show _::a4.defers=_;rw[show a4.defers=[] from hL0.defers]) hK ⟨v,hrun,v1,E7,hv,hm7,hr7,hl7⟩
  ·rw[h1]at hRq;cases hRq
end
end
def zbT(r:V×Int×Int):TV:=.tuple [if r.2.2=0 then tv r.1 else .agg zk,I r.2.1,I r.2.2]
theorem zm5(m f:Nat)(s:zB)(hs:s.length≤200){r:V×Int×Int}(h:z1W f s=some r)(hsm:∀L e p,z0w (s.length+1) s 0 []=some (.ok L)→pE L s.length f 1 0=some (.ok e p)→ESmall e)(hLl:∀L,z0w (s.length+1) s 0 []=some (.ok L)→L.length≤4611686018427387904):
  zC (gl0 m) 36 [S (str s)] [] (zbT r) []:=by
 unfold z1W at h;rw[if_neg (by omega)]at h;cases hl:z0w (s.length+1) s 0 []with
 |none=>rw[hl]at h;cases h
 |some R=>
  rw[hl]at h;cases R with
  |bad a=>
   cases h;exact z52 m hs ⟨_,hl⟩ (p1:=.v (.int .i64 0)) (p2:=.v (.int .i64 0)) (p3:=.v (.string (str []))) (p4:=.v (.slice none 0 0)) (.inl ⟨a,rfl,rfl,rfl,rfl⟩)
  |ok L=>
   have hL:=hLl L hl;simp only[]at h;cases hp:pE L s.length f 1 0 with
   |none=>rw[hp]at h;cases h
   |some x=>
    rw[hp]at h;cases x with
    |bad a p=>
     cases h;exact z52 m hs ⟨_,hl⟩ (p1:=.v (.int .i64 0)) (p2:=.v (.int .i64 0)) (p3:=.v (.string (str []))) (p4:=.v (.slice none 0 0)) (.inr ⟨L,p,rfl,zeT (zkO hL hp)⟩)
    |ok e p=>
     simp only[]at h;have he:=hsm L e p hl hp;by_cases hlt:p<L.length
     ·rw[if_pos hlt]at h;cases h;exact z52 m hs ⟨_,hl⟩ (p1:=.v (.int .i64 0)) (p2:=.v (.int .i64 0)) (p3:=.v (.string (str []))) (p4:=.v (.slice none 0 0)) (.inr ⟨L,p,rfl,zeT (ziC hL hp hlt)⟩)
     ·rw[if_neg hlt]at h;cases hr:z0q e
      ·rw[hr]at h;cases h;exact z52 m hs ⟨_,hl⟩ (p1:=.v (.int .i64 0)) (p2:=.v (.int .i64 0)) (p3:=.v (.string (str []))) (p4:=.v (.slice none 0 0)) (.inr ⟨L,p,rfl,zkf (zfh hL hp hlt) he hr⟩)
      ·rw[hr]at h;cases h;exact z52 m hs ⟨_,hl⟩ (p1:=.v (.int .i64 e.k)) (p2:=.v (.int .i64 e.n)) (p3:=.v (.string (str e.s))) (p4:=.sl 4 (V.rows e.l)) (.inr ⟨L,p,rfl,zid (zfh hL hp hlt) he hr⟩)
theorem zhX(m:Nat)(s:zB)(hs:200<s.length):zC (gl0 m) 36 [S (str s)] [] (.tuple [.agg zk,I 200,I 50]) []:=by
 have d1:(200:Int)<(s.length:Int):=by omega
 refine z5C zf tf_95 rfl ?_;unfold zk;simp only[vW,seval,bmV,d1]
theorem esm{k n:Int}{s:zB}{l:List V}(h:s.length≤60)(hl:l.length≤60)(hs:∀y∈l,ESmall y):ESmall (.mk k n s l):=.mk (by omega) (by omega) hs
theorem z5u:ESmall V.nil:=esm (by simp) (by simp) (by simp)
theorem z6A{L:List Pc}(hL:∀q∈L,q.s.length≤60)(sz:Nat):∀(f:Nat),
  (∀zi p e p',pE L sz f zi p=some (.ok e p')→ESmall e)∧(∀zi e p e' p',ESmall e→pL L sz f zi e p=some (.ok e' p')→ESmall e')∧
  (∀p e p',pT L sz f p=some (.ok e p')→ESmall e)∧(∀n k p acc l p',acc.length=k→k≤n→(∀x∈acc,ESmall x)→pH L sz f n k p acc=some (.ok l p')→l.length=n∧∀x∈l,ESmall x):=by
 intro f
 induction f with
 |zero=>exact⟨fun _ _ _ _ h=>by simp[pE]at h,fun _ _ _ _ _ _ h=>by simp[pL]at h,fun _ _ _ h=>by simp[pT]at h,fun _ _ _ _ _ _ _ _ _ h=>by simp[pH]at h⟩
 |succ f ih=>
  obtain⟨iE,iL,iT,iH⟩:=ih;refine⟨?_,?_,?_,?_⟩
  ·intro zi p e p' h;rw[pE]at h;split at h
   ·rename_i e1 p1 h1;exact iL _ _ _ _ _ (iT _ _ _ h1) h
   ·cases h
   ·cases h
  ·intro zi e p e' p' he h;rw[pL]at h;split at h
   ·cases h;exact he
   ·split at h
    ·rename_i e2 p2 h2;refine iL _ _ _ _ _ (esm (zbh hL sz p) (by simp) fun y hy=> ?_) h;simp only[List.mem_cons,List.not_mem_nil,or_false]at hy;rcases hy with rfl|rfl
     ·exact he
     ·exact iE _ _ _ _ h2
    ·cases h
    ·cases h
  ·intro p e p' h;rw[pT]at h;split at h
   ·split at h
    ·rename_i e1 p1 h1;split at h
     ·cases h;exact iE _ _ _ _ h1
     ·cases h
    ·cases h
    ·cases h
   ·split at h
    ·split at h
     ·rename_i e1 p1 h1;cases h;refine esm (by simp) (by simp) fun y hy=> ?_;simp only[List.mem_cons,List.not_mem_nil,or_false]at hy;subst hy;exact iT _ _ _ h1
     ·cases h
     ·cases h
    ·split at h
     ·cases h;exact esm (by simp) (by simp) (by simp)
     ·split at h
      ·cases h;exact esm (zbh hL sz p) (by simp) (by simp)
      ·split at h
       ·split at h
        ·split at h
         ·rename_i l1 p1 h1;cases h;have h3:=z6Z (pkP L sz p).s;obtain⟨q1,q2⟩:=iH _ 0 _ [] _ _ rfl (Nat.zero_le _) (by simp) h1;exact esm (zbh hL sz p) (by omega) q2
         ·cases h
         ·cases h
        ·cases h;exact esm (zbh hL sz p) (by simp) (by simp)
       ·cases h
  ·intro n k p acc l p' hk hkn ha h;rw[pH]at h;split at h
   ·split at h
    ·cases h
    ·split at h
     ·rename_i e1 p1 h1;refine iH _ _ _ _ _ _ (by simp[hk]) (by omega) (fun x hx=> ?_) h;rcases List.mem_append.1 hx with hx|hx
      ·exact ha x hx
      ·rw[List.mem_singleton]at hx;subst hx;exact iE _ _ _ _ h1
     ·cases h
     ·cases h
   ·split at h
    ·cases h;exact⟨by omega,ha⟩
    ·cases h
theorem zk0(m:Nat)(s:zB){f:Nat}{r:V×Int×Int}(h:z1W f s=some r):zC (gl0 m) 36 [S (str s)] [] (zbT r) []:=by
 by_cases hs:s.length≤200
 ·refine zm5 m f s hs h (fun L e p hl hp=> ?_) (fun L hl=> ?_)
  ·exact(z6A (z3r _ _ _ _ _ (by simp) hl).1 _ f).1 _ _ _ _ hp
  ·have:=(z3r _ _ _ _ _ (by simp) hl).2;simp at this;omega
 ·unfold z1W at h;rw[if_pos (by omega)]at h;cases h;exact zhX m s (by omega)
end Go.Proofs.YtcpaleaajdilgaaGreatDoor
end
