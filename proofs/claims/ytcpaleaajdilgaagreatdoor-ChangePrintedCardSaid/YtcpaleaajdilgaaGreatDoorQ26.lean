/- Merged texts: Ze16 Ze17 Ze18 Ze19 S25 Ze20. No statement of the program is proved here. -/
import Derived.Test.YtcpaleaajdilgaaGreatDoorQ18
import Derived.Test.YtcpaleaajdilgaaGreatDoorQ25
set_option linter.unusedSimpArgs false
set_option linter.unusedVariables false
set_option maxRecDepth 100000
set_option maxHeartbeats 8000000
section
namespace Go.Proofs.YtcpaleaajdilgaaGreatDoor
open Go Go.RowKit Go.Mor Go.Sh Go.Sh.Cd1 Go.Sh.Cd5
section
def sPx(L:List Pc)(sz:Nat)(mv:Value)(at_ er:Int):ES:=⟨[(2,.ptr 2 0),(3,.ptr 3 0),(4,.ptr 4 0),(5,.ptr 5 0)],[(5,[.own 3000 4 (L.map pcR),I 0,I (sz:Int),.pv (.v mv)]),(2,zk),(3,[I at_]),(4,[I er])],[(3000,(141,4,L.length))],[]⟩
def sQx(L:List Pc)(sz:Nat)(mv:Value)(q:Pc):ES:=⟨[(2,.ptr 2 0),(3,.ptr 3 0),(4,.ptr 4 0),(5,.ptr 5 0)],[(5,[.own 3000 4 (L.map pcR),I 0,I (sz:Int),.pv (.v mv)]),(2,zk),(3,[I 0]),(4,[I 0]),(2024,(pcR q).map TV.pv)],[(3000,(141,4,L.length))],[]⟩
def zbs(a a':Act):Prop:=∀k,k=2∨k=3∨k=4∨k=5→a'.tmps.getD k undef=a.tmps.getD k undef
section
variable{g:Sh.Glob}{B:Base}{a:Act}{W:World}{E:Env}{L:List Pc}{sz:Nat}{mv:Value}{q:Pc}{l n:Nat}
theorem znA(L:List Pc)(sz:Nat)(mv:Value):∀k<4,z0x (sPx L sz mv 0 0).fs (newId 6 k):=by
 intro k hk;have hf:(sPx L sz mv 0 0).fgt [2024,2025,2026,2027]=sPx L sz mv 0 0:=rfl;rw[←hf];exact z13 _ (by unfold newId;match k,hk with|0,_|1,_|2,_|3,_=>simp)
theorem zoe{W:World}{E:Env}{r:Sh.Rows}:RelT W E r (pcT q) (.agg #[.int .i64 q.k,.int .i64 q.n,.string (str q.s),.int .i64 (q.p:Int)]):=by
 refine .agg _ [.int .i64 q.k,.int .i64 q.n,.string (str q.s),.int .i64 (q.p:Int)] rfl (fun j c v hc hv=> ?_) (fun v hv=> ?_)
 ·match j,hc,hv with
  |0,hc,hv=>cases hc;cases hv;exact .pv (.v _)
  |1,hc,hv=>cases hc;cases hv;exact .pv (.v _)
  |2,hc,hv=>cases hc;cases hv;exact .pv (.v _)
  |3,hc,hv=>cases hc;cases hv;exact .pv (.v _)
  |j+4,hc,hv=>simp at hc
 ·simp only[List.mem_cons,List.not_mem_nil,or_false]at hv;rcases hv with rfl|rfl|rfl|rfl<;>rfl
theorem z9z{W:World}{E0:Env}{N n:Nat}:∀d b,(Sh.start W E0 [] N).X d b→n≤b:=by
 intro d b hx;rcases hx with⟨cs,h1,_⟩|⟨q,cap,h1,_⟩
 ·simp[z01]at h1
 ·simp[zm]at h1
theorem ziM{cA:Code}(tA:ze Tryz.prog 50 rH rF rK cA=some cR0)(hm0:B.m≤1000)(hG:g.G W)(hS:Sim B (sPx L sz mv 0 0).fs a W E){ar:Act}(hsz:ar.tmps.size=50)(hd:ar.defers=[])(hsm:zbs a ar)(h21:ar.tmps.getD 21 undef=.agg #[.int .i64 q.k,.int .i64 q.n,.string (str q.s),.int .i64 (q.p:Int)]):
  cA.wpIn (Fw (some l)) n Tryz.prog (fun x a' W'=>x=.normal∧a'.tmps.size=50∧a'.defers=[]∧zbs a a'∧W.grownBy W' none∧∃E',Sim B (sQx L sz mv q).fs a W' E'∧a'.tmps.getD 6 undef=.pointer (some ⟨E'.β 2024,0,none⟩)) ar W:=by
 let ts:List (Nat×TV):=[(21,pcT q),(2,.pv (.v (ar.tmps.getD 2 undef))),(3,.pv (.v (ar.tmps.getD 3 undef))),(4,.pv (.v (ar.tmps.getD 4 undef))),(5,.pv (.v (ar.tmps.getD 5 undef)))]
 have hos:seqO (fun d=>((sPx L sz mv 0 0).fs.mo d).bind (MO.ren (rhoIn []))) []=some ([]:List MO):=rfl;have hi:=z64 (ds:=[]) hS List.nodup_nil hos hsz hd ts (fun k x hx=>by
  simp only[ts,List.mem_cons,List.not_mem_nil,or_false,Prod.mk.injEq]at hx;rcases hx with⟨rfl,rfl⟩|⟨rfl,rfl⟩|⟨rfl,rfl⟩|⟨rfl,rfl⟩|⟨rfl,rfl⟩
  ·refine⟨by decide,.inr fun W E r=> ?_⟩;rw[h21];exact zoe
  ·exact⟨by decide,.inr fun W E r=> .pv (.v _)⟩
  ·exact⟨by decide,.inr fun W E r=> .pv (.v _)⟩
  ·exact⟨by decide,.inr fun W E r=> .pv (.v _)⟩
  ·exact⟨by decide,.inr fun W E r=> .pv (.v _)⟩)
 have hsw:swp Tryz.prog g cR0 (fun e s'=>e=.normal∧s'=⟨ts++[(6,.ptr 6 0)],[(6,(pcR q).map TV.pv)],[],[]⟩) ⟨ts,numB 1000 [],numR 1000 [],[]⟩:=by
  simp only[ts,pcT,pcR,numB,numR];generalize ar.tmps.getD 2 undef=v2;generalize ar.tmps.getD 3 undef=v3;generalize ar.tmps.getD 4 undef=v4;generalize ar.tmps.getD 5 undef=v5;simp only[vW,seval]
 have hx0:∀d b,(Sh.start W (zo E []) [] 50).X d b→g.n≤b:=z9z;have hr:=z6H (ro:=some l) (n:=n) (B:={ Sh.start W (zo E []) [] 50 with ds:=[] }) (H:=rH) (Fp:=rF) (K:=rK) zf (by show 0≤1000;decide) (by show 50≤1000;decide) hG hx0 (c:=cA) tA rfl hsw hi;refine wpIn_mono hr ?_;rintro x a' W' ⟨e,s',E',rfl,⟨rfl,rfl⟩,hS'⟩;have h6:=(hS'.tmp 6 (.ptr 6 0) rfl)
 obtain⟨E2,hS2,hr2⟩:=z7l (k:=6) (us:=[(2024,.box ((pcR q).map TV.pv))]) hS List.nodup_nil (by simp) hm0 (znA L sz mv) hos rfl rfl hS' h6.2 (y:=.ptr 1000 0) (os':=[.box ((pcR q).map TV.pv)]) rfl (y2:=.ptr 2024 0) rfl;rw[←ES.upd_fs]at hS2;have hlow:=hS'.mem.low;refine⟨rfl,hS'.size,hS'.defers,fun k hk=> ?_,⟨hlow.os,hlow.tape,hlow.output,hlow.size,fun k hk _=>hlow.block k hk fun d hx=> ?_⟩,E2,hS2,?_⟩
 ·rw[←hsm k hk];rcases hk with rfl|rfl|rfl|rfl
  ·exact z0O (hS'.tmp 2 _ rfl).2
  ·exact z0O (hS'.tmp 3 _ rfl).2
  ·exact z0O (hS'.tmp 4 _ rfl).2
  ·exact z0O (hS'.tmp 5 _ rfl).2
 ·have:=z9z (W:=W) (E0:=zo E []) (N:=50) (n:=k+1) d k hx;omega
 ·exact z4F hr2
def sQ6(L:List Pc)(sz:Nat)(mv:Value)(q:Pc):ES:=⟨[(2,.ptr 2 0),(3,.ptr 3 0),(4,.ptr 4 0),(5,.ptr 5 0),(6,.ptr 2024 0)],(sQx L sz mv q).b,(sQx L sz mv q).r,[]⟩
theorem zqH(hN:B.N=50)(hS:Sim B (sQx L sz mv q).fs a W E):Sim B (sQ6 L sz mv q).fs (a.put (some 6) (.pointer (some ⟨E.β 2024,0,none⟩))) W E:=by
 have hsz:=hS.size;refine⟨hS.defers,by rw[←hsz];simp[Act.put],fun k x hx=> ?_,hS.mem,hS.itr,hS.ii⟩;have hm:(k,x)∈[(2,TV.ptr 2 0),(3,TV.ptr 3 0),(4,TV.ptr 4 0),(5,TV.ptr 5 0),(6,TV.ptr 2024 0)]:=z0C hx;simp only[List.mem_cons,List.not_mem_nil,or_false,Prod.mk.injEq]at hm;rcases hm with⟨rfl,rfl⟩|⟨rfl,rfl⟩|⟨rfl,rfl⟩|⟨rfl,rfl⟩|⟨rfl,rfl⟩
 ·rw[z1S (by decide)];exact hS.tmp 2 _ rfl
 ·rw[z1S (by decide)];exact hS.tmp 3 _ rfl
 ·rw[z1S (by decide)];exact hS.tmp 4 _ rfl
 ·rw[z1S (by decide)];exact hS.tmp 5 _ rfl
 ·rw[zas (by rw[hsz,hN];decide)];exact⟨by rw[hN];decide,.ptr 2024 0⟩
theorem zqv(hsz:a.tmps.size=B.N)(hd:a.defers=B.ds){W':World}{E':Env}{v:Value}{L':List Pc}{x y:Int}(hS:Sim B (sPx L' sz mv x y).fs (a.put (some 6) v) W' E'):Sim B (sPx L' sz mv x y).fs a W' E':=by
 refine hS.act hsz hd fun k z hz=> ?_;have h1:=(hS.tmp k z hz).2;have hm:(k,z)∈[(2,TV.ptr 2 0),(3,TV.ptr 3 0),(4,TV.ptr 4 0),(5,TV.ptr 5 0)]:=z0C hz;have hk:k≠6:=by
  simp only[List.mem_cons,List.not_mem_nil,or_false,Prod.mk.injEq]at hm;omega
 rwa [z1S hk]at h1
theorem znB(L:List Pc)(sz:Nat)(mv:Value)(q:Pc):∀k<4,z0x (sQ6 L sz mv q).fs (newId 7 k):=by
 intro k hk;have hf:(sQ6 L sz mv q).fgt [2028,2029,2030,2031]=sQ6 L sz mv q:=rfl;rw[←hf];exact z13 _ (by unfold newId;match k,hk with|0,_|1,_|2,_|3,_=>simp)
theorem znR:∀i∈[5,2,3,4,3000,2024],(sQ6 L sz mv q).fs.ment i:=by
 intro i hi;simp only[List.mem_cons,List.not_mem_nil,or_false]at hi;rcases hi with rfl|rfl|rfl|rfl|rfl|rfl
 ·exact .inl ⟨5,_,rfl,.ptr _⟩
 ·exact .inl ⟨2,_,rfl,.ptr _⟩
 ·exact .inl ⟨3,_,rfl,.ptr _⟩
 ·exact .inl ⟨4,_,rfl,.ptr _⟩
 ·exact .inr ⟨5,_,_,rfl,List.mem_cons_self ..,.own _ _⟩
 ·exact .inl ⟨6,_,rfl,.ptr _⟩
theorem zor{cB:Code}(tB:ze Tryz.prog 50 rH rF rK cB=some cRB)(hN:B.N=50)(hm0:B.m≤1000)(hG:g.G W)(hn:g.n≤B.w0.heap.size)(hX:∀d b,B.X d b→g.n≤b)(hS0:Sim B (sQx L sz mv q).fs a W E)(hq:q.k=0){a':Act}(hsz:a'.tmps.size=50)(hd:a'.defers=[])(hsm:zbs a a')(h6:a'.tmps.getD 6 undef=.pointer (some ⟨E.β 2024,0,none⟩)):
  cB.wpIn (Fw (some l)) n Tryz.prog (fun x _ W'=>x=.ret∧(∃E',Sim B (sPx L sz mv (q.p:Int) 50).fs a W' E')∧W.heap.size≤W'.heap.size∧∀(k:Nat) (o:Obj),W.heap[k]?=some o→o.isCells=false→W'.heap[k]?=some o) a' W:=by
 have hS:=zqH hN hS0;have hos:seqO (fun d=>((sQ6 L sz mv q).fs.mo d).bind (MO.ren (rhoIn [5,2,3,4,3000,2024]))) [5,2,3,4,3000,2024]=some (osB L sz mv 0 0 q):=rfl;have hnd:[5,2,3,4,3000,2024].Nodup:=by decide
 have hp:∀k d x',(sQx L sz mv q).fs.t k=some (.ptr d 0)→TV.ren3 (rhoIn [5,2,3,4,3000,2024]) (.ptr d 0)=some x'→(k=2∨k=3∨k=4∨k=5)→∃x,TV.ren3 (rhoIn [5,2,3,4,3000,2024]) x=some x'∧RelT W E (sQ6 L sz mv q).fs.r x (a'.tmps.getD k undef):=fun k d x' h1 h2 h3=>by
  refine⟨.ptr d 0,h2,?_⟩;rw[hsm k h3];exact(hS0.tmp k _ h1).2
 have hi:=z64 (ds:=[]) hS hnd hos hsz hd slB (fun k x hx=>by
  simp only[slB,List.mem_cons,List.not_mem_nil,or_false,Prod.mk.injEq]at hx;rcases hx with⟨rfl,rfl⟩|⟨rfl,rfl⟩|⟨rfl,rfl⟩|⟨rfl,rfl⟩|⟨rfl,rfl⟩
  ·exact⟨by decide,.inl (hp 2 2 _ rfl rfl (by simp))⟩
  ·exact⟨by decide,.inl (hp 3 3 _ rfl rfl (by simp))⟩
  ·exact⟨by decide,.inl (hp 4 4 _ rfl rfl (by simp))⟩
  ·exact⟨by decide,.inl (hp 5 5 _ rfl rfl (by simp))⟩
  ·refine⟨by decide,.inl ⟨.ptr 2024 0,rfl,?_⟩⟩;rw[h6];exact .ptr 2024 0)
 have hr:=z6H (ro:=some l) (n:=n) (B:={ Sh.start W (zo E [5,2,3,4,3000,2024]) (osB L sz mv 0 0 q) 50 with ds:=[] }) (H:=rH) (Fp:=rF) (K:=rK) zf (by show 6≤1000;decide) (by show 50≤1000;decide) hG (zbP hS hos hn hX) (c:=cB) tB rfl (ziP g L sz mv q hq) hi;refine wpIn_mono hr ?_;rintro x a2 W' ⟨e,s',E',rfl,⟨rfl,hex⟩,hS'⟩;refine⟨rfl,?_,hS'.mem.low.size,z6x hS hnd hos hS'⟩;obtain⟨E2,hS2,_⟩:=z7l (k:=7) (us:=[(5,.box [.own 3000 4 (L.map pcR),I 0,I (sz:Int),.pv (.v mv)]),(2,.box zk),(3,.box [I (q.p:Int)]),(4,.box [I 50]),(3000,.row 141 4 L.length),(2024,.box [I q.k,I q.n,S (str q.s),I (q.p:Int)])]) (v:=.tuple #[]) hS hnd znR hm0 (znB L sz mv q) hos (by unfold osB;simp[moOk]) (by rfl) hS' (y0:=.tuple []) (.tuple [] [] rfl (fun j c v h=>by simp at h)) hex (y2:=.tuple []) rfl;rw[←ES.upd_fs]at hS2;exact⟨E2,zqv (hS0.size) (hS0.defers) (z5m (z1N hS2 [2024]) [6])⟩
theorem zjY{B':Base}{b:Nat→Option (List TV)}{r:Sh.Rows}{w:World}{E:Env}(h:MSim B' b r w E){d c e m:Nat}{es:List (List PV)}{cs:List TV}(h1:b d=some (.own c 4 es::cs))(h2:r c=some (e,4,m))(hm:es.length=m)(k:Nat):z3z (E.β d) w k ↔ ∃cap,E.γ c=some (k,cap):=by
 obtain⟨v,c1,_,c3⟩:=(h.box d _ h1).1.cell 0 _ rfl;have hv:v=hdr (E.γ c) m:=by
  cases c3 with
  |own _ _ _ _ hh hr=>exact((hr e 4 m h2).2 hm).2
 unfold z3z;rw[c1,hv];cases hg:E.γ c with
 |none=>simp[hdr]
 |some x=>
  obtain⟨j,cap⟩:=x;simp only[hdr,Option.some.injEq,Value.slice.injEq,Prod.mk.injEq];constructor
  ·rintro⟨p,n,c',⟨h3,_,_⟩,h4⟩;subst h3;exact⟨cap,h4,rfl⟩
  ·rintro⟨cap',h3,_⟩;exact⟨_,_,_,⟨rfl,rfl,rfl⟩,h3⟩
theorem zqI(hS:Sim B (sQx L sz mv q).fs a W E):∃K',Sim B (sPx L sz mv 0 0).fs a W { E with K:=K' }∧RelT W { E with K:=K' } (sPx L sz mv 0 0).fs.r (.pv (.el (pcR q))) (.pointer (some ⟨E.β 2024,0,none⟩)):=by
 obtain⟨K',h1,h2,_⟩:=hS.freeze (fun _ _=>trivial) (d:=2024) (ps:=pcR q) rfl (fun k x hx hm=>by
   have hh:(k,x)∈[(2,TV.ptr 2 0),(3,TV.ptr 3 0),(4,TV.ptr 4 0),(5,TV.ptr 5 0)]:=z0C hx;simp only[List.mem_cons,List.not_mem_nil,or_false,Prod.mk.injEq]at hh;rcases hh with⟨_,rfl⟩|⟨_,rfl⟩|⟨_,rfl⟩|⟨_,rfl⟩<;>cases hm) (fun e cs x he hne hx hm=>by
   have hh:(e,cs)∈(sQx L sz mv q).b:=z0C he;simp only[sQx,List.mem_cons,List.not_mem_nil,or_false,Prod.mk.injEq]at hh;rcases hh with⟨_,rfl⟩|⟨_,rfl⟩|⟨_,rfl⟩|⟨_,rfl⟩|⟨h,_⟩
   ·simp only[List.mem_cons,List.not_mem_nil,or_false]at hx;rcases hx with rfl|rfl|rfl|rfl<;>cases hm
   ·simp only[zk,List.mem_cons,List.not_mem_nil,or_false]at hx;rcases hx with rfl|rfl|rfl|rfl<;>cases hm
   ·simp only[List.mem_cons,List.not_mem_nil,or_false]at hx;subst hx;cases hm
   ·simp only[List.mem_cons,List.not_mem_nil,or_false]at hx;subst hx;cases hm
   ·exact hne h)
 refine⟨K',h1.less (fun k x hx=> .inl hx) (fun d cs hd=> ?_) (fun d q hd=>hd) (fun d q hd=>hd),h2⟩;have hh:(d,cs)∈(sPx L sz mv 0 0).b:=z0C hd;refine⟨cs,?_,fun j c h=> .inl h⟩;simp only[sPx,List.mem_cons,List.not_mem_nil,or_false,Prod.mk.injEq]at hh;rcases hh with⟨rfl,rfl⟩|⟨rfl,rfl⟩|⟨rfl,rfl⟩|⟨rfl,rfl⟩<;>rfl
theorem znU{cB:Code}(tB:ze Tryz.prog 50 rH rF rK cB=some cRB)(hm0:B.m≤1000)(hG:g.G W)(hn:g.n≤B.w0.heap.size)(hX:∀d b,B.X d b→g.n≤b)(hS0:Sim B (sQx L sz mv q).fs a W E)(hq:q.k≠0)(hL:L.length<1000000){a':Act}(hsz:a'.tmps.size=50)(hd:a'.defers=[])(hsm:zbs a a')(h6:a'.tmps.getD 6 undef=.pointer (some ⟨E.β 2024,0,none⟩)):
  cB.wpIn (Fw (some l)) n Tryz.prog (fun x _ W'=>x=.normal∧(∃E',Sim B (sPx (L++[q]) sz mv 0 0).fs a W' E')∧W.heap.size≤W'.heap.size∧(∀(k:Nat) (o:Obj),W.heap[k]?=some o→o.isCells=false→W'.heap[k]?=some o)∧∀O:List Nat,(∀i,i=5∨i=2∨i=3∨i=4→E.β i∈O)→Kp O (E.β 5) g.n W W') a' W:=by
 obtain⟨K',hS,hel⟩:=zqI hS0;rw[←h6]at hel;have hos:seqO (fun d=>((sPx L sz mv 0 0).fs.mo d).bind (MO.ren (rhoIn [5,2,3,4,3000]))) [5,2,3,4,3000]=some (osA L sz mv):=rfl;have hnd:[5,2,3,4,3000].Nodup:=by decide
 have hp:∀k d x',(sPx L sz mv 0 0).fs.t k=some (.ptr d 0)→TV.ren3 (rhoIn [5,2,3,4,3000]) (.ptr d 0)=some x'→(k=2∨k=3∨k=4∨k=5)→∃x,TV.ren3 (rhoIn [5,2,3,4,3000]) x=some x'∧RelT W { E with K:=K' } (sPx L sz mv 0 0).fs.r x (a'.tmps.getD k undef):=fun k d x' h1 h2 h3=>by
  refine⟨.ptr d 0,h2,?_⟩;rw[hsm k h3];exact(hS.tmp k _ h1).2
 have hi:=z64 (ds:=[]) hS hnd hos hsz hd (slA q) (fun k x hx=>by
  simp only[slA,List.mem_cons,List.not_mem_nil,or_false,Prod.mk.injEq]at hx;rcases hx with⟨rfl,rfl⟩|⟨rfl,rfl⟩|⟨rfl,rfl⟩|⟨rfl,rfl⟩|⟨rfl,rfl⟩
  ·exact⟨by decide,.inl (hp 2 2 _ rfl rfl (by simp))⟩
  ·exact⟨by decide,.inl (hp 3 3 _ rfl rfl (by simp))⟩
  ·exact⟨by decide,.inl (hp 4 4 _ rfl rfl (by simp))⟩
  ·exact⟨by decide,.inl (hp 5 5 _ rfl rfl (by simp))⟩
  ·exact⟨by decide,.inl ⟨_,rfl,hel⟩⟩)
 have hIX:=zbP hS hos hn hX;have hr:=z6H (ro:=some l) (n:=n) (B:={ Sh.start W (zo { E with K:=K' } [5,2,3,4,3000]) (osA L sz mv) 50 with ds:=[] }) (H:=rH) (Fp:=rF) (K:=rK) zf (by show 5≤1000;decide) (by show 50≤1000;decide) hG hIX (c:=cB) tB rfl (ziO g L sz mv q hq hL) hi;refine wpIn_mono hr ?_;rintro x a2 W' ⟨e,s',E',rfl,⟨rfl,hb1,hr1,hex⟩,hS'⟩;refine⟨rfl,?_,hS'.mem.low.size,z6x hS hnd hos hS',fun O hO=> ?_⟩
 ·obtain⟨E2,hS2,_⟩:=z7l (k:=7) (us:=[(5,.box [.own 3000 4 ((L++[q]).map pcR),I 0,I (sz:Int),.pv (.v mv)]),(2,.box zk),(3,.box [I 0]),(4,.box [I 0]),(3000,.row 141 4 (L++[q]).length)]) (v:=.tuple #[]) hS hnd (fun i hi=>by
   simp only[List.mem_cons,List.not_mem_nil,or_false]at hi;rcases hi with rfl|rfl|rfl|rfl|rfl
   ·exact .inl ⟨5,_,rfl,.ptr _⟩
   ·exact .inl ⟨2,_,rfl,.ptr _⟩
   ·exact .inl ⟨3,_,rfl,.ptr _⟩
   ·exact .inl ⟨4,_,rfl,.ptr _⟩
   ·exact .inr ⟨5,_,_,rfl,List.mem_cons_self ..,.own _ _⟩) hm0 (fun k hk=>by
   have hf:(sPx L sz mv 0 0).fgt [2028,2029,2030,2031]=sPx L sz mv 0 0:=rfl;rw[←hf];exact z13 _ (by unfold newId;match k,hk with|0,_|1,_|2,_|3,_=>simp)) hos (by unfold osA;simp[moOk]) (by rfl) hS' (y0:=.tuple []) (.tuple [] [] rfl (fun j c v h=>by simp at h)) hex (y2:=.tuple []) rfl
  rw[←ES.upd_fs]at hS2;exact⟨E2,hS2⟩
 ·have hlow:=hS'.mem.low;have hrbW:=zjY hS.mem (d:=5) (c:=3000) (e:=141) (m:=L.length) (es:=L.map pcR) (cs:=[I 0,I (sz:Int),.pv (.v mv)]) rfl rfl (by simp);have hrbW':=zjY hS'.mem (d:=1000) (c:=1004) (e:=141) (m:=L.length+1) (es:=(L++[q]).map pcR) (cs:=[I 0,I (sz:Int),.pv (.v mv)]) hb1 hr1 (by simp);have hβ:E'.β 1000=E.β 5:=hS'.mem.pas.β 1000 ⟨by decide,by show 1000<1000+5;decide⟩;rw[hβ]at hrbW';have hrow:∀k cap,E'.γ 1004=some (k,cap)→(z3z (E.β 5) W k∨W.heap.size≤k)∧k<W'.heap.size:=fun k cap hg=>by
   rcases hS'.mem.row 1004 _ _ _ hr1 with⟨h1,_⟩|⟨k',cap',h1,h2,h3⟩
   ·rw[h1]at hg;cases hg
   ·rw[h1]at hg;cases hg;obtain⟨cur,h4,_⟩:=h3.cells;refine⟨?_,(gA h4).1⟩;rcases h2 with h2|h2
    ·exact .inr h2
    ·refine .inl ((hrbW k).2 ?_);rcases h2 with⟨cs,h5,_⟩|⟨q',cap',h5,h6⟩
     ·cases h5
     ·exact⟨cap',h6⟩
  refine⟨hlow.size,fun k o hk hc hkO hkr=> ?_,fun k hk=> ?_,fun _ k hk=> ?_,fun k hk=> ?_⟩
  ·refine(hlow.block k (gA hk).1 fun d hx=> ?_).trans hk;rcases hx with⟨cs,h1,h2⟩|⟨q',cap,h1,h2⟩
   ·obtain⟨j,rfl,hj⟩:=z0D h1;have h3:E.β ([5,2,3,4,3000].getD (1000+j-1000) 0)=k:=h2;rw[Nat.add_sub_cancel_left]at h3;unfold osA at hj;rcases j with _|_|_|_|_|j
    ·exact hkO (by rw[←h3];exact hO 5 (by simp))
    ·exact hkO (by rw[←h3];exact hO 2 (by simp))
    ·exact hkO (by rw[←h3];exact hO 3 (by simp))
    ·exact hkO (by rw[←h3];exact hO 4 (by simp))
    ·simp at hj
    ·simp at hj
   ·obtain⟨j,rfl,hj⟩:=zY h1;have h3:E.γ ([5,2,3,4,3000].getD (1000+j-1000) 0)=some (k,cap):=h2;rw[Nat.add_sub_cancel_left]at h3;unfold osA at hj;rcases j with _|_|_|_|_|j
    ·simp at hj
    ·simp at hj
    ·simp at hj
    ·simp at hj
    ·exact hkr ((hrbW k).2 ⟨cap,h3⟩)
    ·simp at hj
  ·obtain⟨cap,hg⟩:=(hrbW' k).1 hk;exact(hrow k cap hg).1
  ·obtain⟨cap,hg⟩:=(hrbW' k).1 hk;exact(hrow k cap hg).2
  ·exact hlow.block k (Nat.lt_of_lt_of_le hk (g.le _ hG)) fun d hx=>by have:=hIX d k hx;omega
end
end
section
theorem zo5{q q':Pc}(h:pcR q=pcR q'):q=q':=by
 obtain⟨k,n,s,p⟩:=q;obtain⟨k',n',s',p'⟩:=q';simp only[pcR,List.cons.injEq,PV.v.injEq,Value.int.injEq,Value.string.injEq,true_and,and_true]at h;obtain⟨h1,h2,h3,h4⟩:=h;have h3':s=s':=by have:=congrArg (fun b:ByteArray=>b.toList) h3;simpa using this
 subst h1 h2 h3';have:p=p':=by omega
 rw[this]
theorem zon{W:World}{K K':Nat→Nat→Prop}{L L':List Pc}{v:Value}(h:RelV W K (.sl 4 (L.map pcR)) v)(h':RelV W K' (.sl 4 (L'.map pcR)) v):L=L':=by
 cases h with
 |sl _ _ b off cap p f hp hcap hmax hW hc hs=>
  generalize hv:Value.slice p (L.map pcR).length cap=v at h';cases h' with
  |sl _ _ b' off' cap' p' f' hp' hcap' hmax' hW' hc' hs'=>
   simp only[Value.slice.injEq,List.length_map]at hv;obtain⟨hpp,hlen,_⟩:=hv;apply List.ext_getElem?;intro i;rcases Nat.lt_or_ge i L.length with hi|hi
   ·have hi':i<L'.length:=by omega
    have hne:L.map pcR≠[]:=by intro h0;have:=congrArg List.length h0;simp at this;rw[this]at hi;simp at hi
    have hne':L'.map pcR≠[]:=by intro h0;have:=congrArg List.length h0;simp at this;rw[this]at hi';simp at hi'
    have e1:=hp hne;have e2:=hp' hne';rw[hpp,e2]at e1;cases e1;have g1:(L.map pcR)[i]?=some (pcR L[i]):=by simp[hi]
    have g2:(L'.map pcR)[i]?=some (pcR L'[i]):=by simp[hi']
    rw[gE hi,gE hi'];congr 1;refine zo5 (List.ext_getElem? fun j=> ?_);have hl:∀q:Pc,(pcR q).length=4:=fun _=>rfl;have hx:∀(q:Pc) (j:Nat) c,(pcR q)[j]?=some c→∃x,c=.v x:=fun q j c hc=>by
     match j,hc with
     |0,hc=>cases hc;exact⟨_,rfl⟩
     |1,hc=>cases hc;exact⟨_,rfl⟩
     |2,hc=>cases hc;exact⟨_,rfl⟩
     |3,hc=>cases hc;exact⟨_,rfl⟩
     |j+4,hc=>simp[pcR]at hc
    rcases Nat.lt_or_ge j 4 with hj|hj
    ·have k1:(pcR L[i])[j]?=some (pcR L[i])[j]:=gE (by rw[hl];exact hj);have k2:(pcR L'[i])[j]?=some (pcR L'[i])[j]:=gE (by rw[hl];exact hj);have c1:=(hc i j _ _ g1 k1).2.1;have c2:=(hc' i j _ _ g2 k2).2.1;rw[c1]at c2;have r1:=hs i j _ _ g1 k1;have r2:=hs' i j _ _ g2 k2;obtain⟨x,hx1⟩:=hx _ _ _ k1;obtain⟨y,hy1⟩:=hx _ _ _ k2;rw[k1,k2,hx1,hy1];rw[hx1]at r1;rw[hy1]at r2;have e:f i j=f' i j:=Option.some.inj c2;generalize f i j=u at r1 e;generalize f' i j=u' at r2 e;cases r1;cases r2;rw[e]
    ·rw[List.getElem?_eq_none (by rw[hl];exact hj),List.getElem?_eq_none (by rw[hl];exact hj)]
   ·rw[List.getElem?_eq_none hi,List.getElem?_eq_none (by omega)]
section
variable{g:Sh.Glob}{B:Base}{a:Act}{W:World}{E E':Env}{L L':List Pc}{sz:Nat}{mv:Value}{q:Pc}
theorem z26{s:FS}(hS:Sim B s a W E){k d:Nat}(h:s.t k=some (.ptr d 0)):a.tmps.getD k undef=.pointer (some ⟨E.β d,0,none⟩):=z4F (hS.tmp k _ h).2
theorem zpE{s:FS}(hS:Sim B s a W E){d c:Nat}{es:List (List PV)}{cs:List TV}(h:s.b d=some (.own c 4 es::cs)):∃v,W.cell? ⟨E.β d,0,none⟩=some v∧RelV W E.K (.sl 4 es) v:=by
 obtain⟨v,c1,_,c3⟩:=(hS.mem.box d _ h).1.cell 0 _ rfl;cases c3 with
 |own _ _ _ _ hh _=>exact⟨v,c1,hh⟩
theorem zpq(hS:Sim B (sPx L sz mv 0 0).fs a W E)(hS':Sim B (sQx L' sz mv q).fs a W E'):L=L':=by
 have e1:=z26 hS (k:=5) (d:=5) rfl;have e2:=z26 hS' (k:=5) (d:=5) rfl;obtain⟨v,c1,h1⟩:=zpE hS (d:=5) rfl;obtain⟨v',c2,h2⟩:=zpE hS' (d:=5) rfl;have eb:E.β 5=E'.β 5:=by rw[e1]at e2;simpa using e2
 rw[eb,c2]at c1;cases c1;exact zon h1 h2
theorem ze4{x y:Int}:∀d cs,(sPx L sz mv x y).fs.b d=some cs→∀c∈cs,c.flat:=by
 intro d cs hd c hc;have hh:(d,cs)∈(sPx L sz mv x y).b:=z0C hd;simp only[sPx,zk,List.mem_cons,List.not_mem_nil,or_false,Prod.mk.injEq]at hh;rcases hh with⟨_,rfl⟩|⟨_,rfl⟩|⟨_,rfl⟩|⟨_,rfl⟩<;>simp only[List.mem_cons,List.not_mem_nil,or_false]at hc
 ·rcases hc with rfl|rfl|rfl|rfl
  ·exact .inr ⟨_,_,_,rfl⟩
  ·exact .inl ⟨_,rfl⟩
  ·exact .inl ⟨_,rfl⟩
  ·exact .inl ⟨_,rfl⟩
 ·rcases hc with rfl|rfl|rfl|rfl<;>exact .inl ⟨_,rfl⟩
 ·subst hc;exact .inl ⟨_,rfl⟩
 ·subst hc;exact .inl ⟨_,rfl⟩
theorem zpc:∀d cs,(sQx L sz mv q).fs.b d=some cs→∀c∈cs,c.flat:=by
 intro d cs hd c hc;have hh:(d,cs)∈(sQx L sz mv q).b:=z0C hd;simp only[sQx,zk,pcR,List.map_cons,List.map_nil,List.mem_cons,List.not_mem_nil,or_false,Prod.mk.injEq]at hh;rcases hh with⟨_,rfl⟩|⟨_,rfl⟩|⟨_,rfl⟩|⟨_,rfl⟩|⟨_,rfl⟩<;>simp only[List.mem_cons,List.not_mem_nil,or_false]at hc
 ·rcases hc with rfl|rfl|rfl|rfl
  ·exact .inr ⟨_,_,_,rfl⟩
  ·exact .inl ⟨_,rfl⟩
  ·exact .inl ⟨_,rfl⟩
  ·exact .inl ⟨_,rfl⟩
 ·rcases hc with rfl|rfl|rfl|rfl<;>exact .inl ⟨_,rfl⟩
 ·subst hc;exact .inl ⟨_,rfl⟩
 ·subst hc;exact .inl ⟨_,rfl⟩
 ·rcases hc with rfl|rfl|rfl|rfl<;>exact .inl ⟨_,rfl⟩
theorem z9x{k:Nat}{x:TV}(h:lk [(2,TV.ptr 2 0),(3,TV.ptr 3 0),(4,TV.ptr 4 0),(5,TV.ptr 5 0)] k=some x):x.flat∨∃d o,x=.ptr d o:=by
 have hm:=z0C h;simp only[List.mem_cons,List.not_mem_nil,or_false,Prod.mk.injEq]at hm;rcases hm with⟨_,rfl⟩|⟨_,rfl⟩|⟨_,rfl⟩|⟨_,rfl⟩<;>exact .inr ⟨_,_,rfl⟩
structure IP(g:Sh.Glob)(B:Base)(a:Act)(sz:Nat)(mv:Value)(bm:Nat)(om:Obj)(L:List Pc)(W:World):Prop where
 sim:∃E,Sim B (sPx L sz mv 0 0).fs a W E
 nz:∀x∈L,x.k≠0
 G:g.G W
 map:W.heap[bm]?=some om
structure IX(g:Sh.Glob)(B:Base)(a:Act)(sz:Nat)(mv:Value)(c:Code)(L:List Pc)(W:World):Prop where
 ret:c=.ret
 sim:∃E L' q,L=L'++[q]∧q.k=0∧Sim B (sPx L' sz mv (q.p:Int) 50).fs a W E
structure AX(B:Base)(a:Act)(sz:Nat)(mv:Value)(q:Pc)(a':Act)(W:World):Prop where
 size:a'.tmps.size=50
 defs:a'.defers=[]
 same:zbs a a'
 sim:∃L E,Sim B (sQx L sz mv q).fs a W E∧a'.tmps.getD 6 undef=.pointer (some ⟨E.β 2024,0,none⟩)
variable{bm:Nat}{om:Obj}{w1:World}
theorem IP.grown(hB:B.w0.heap.size≤w1.heap.size)(hn:g.n≤w1.heap.size)(hbm:bm<w1.heap.size):OwnFrom w1.heap.size (IP g B a sz mv bm om):=by
 intro L W W' row h hg hr;obtain⟨E,hS⟩:=h.sim;have hr':∀k,row=some k→B.w0.heap.size≤k∧∃o:Obj,W.heap[k]?=some o∧o.isCells=false:=fun k hk=>⟨Nat.le_trans hB (hr k hk).1,(hr k hk).2⟩
 refine⟨⟨E,hS.grown (fun k x hx=>z9x hx) (fun _=>rfl) ze4 hg hr'⟩,h.nz,g.st _ _ h.G fun k hk=> ?_,?_⟩
 ·refine hg.block k (Nat.lt_of_lt_of_le hk (g.le _ h.G)) fun he=> ?_;have:=(hr k he.symm).1;omega
 ·rw[←h.map];refine hg.block bm (gA h.map).1 fun he=> ?_;have:=(hr bm he.symm).1;omega
theorem IX.grown(hB:B.w0.heap.size≤w1.heap.size)(c:Code):OwnFrom w1.heap.size (IX g B a sz mv c):=by
 intro L W W' row h hg hr;obtain⟨E,L',q,h1,h2,hS⟩:=h.sim;have hr':∀k,row=some k→B.w0.heap.size≤k∧∃o:Obj,W.heap[k]?=some o∧o.isCells=false:=fun k hk=>⟨Nat.le_trans hB (hr k hk).1,(hr k hk).2⟩
 exact⟨h.ret,E,L',q,h1,h2,hS.grown (fun k x hx=>z9x hx) (fun _=>rfl) ze4 hg hr'⟩
theorem AX.grown(hB:B.w0.heap.size≤w1.heap.size)(q:Pc)(a':Act):OwnFrom w1.heap.size (fun(_:Unit) W=>AX B a sz mv q a' W):=by
 intro _ W W' row h hg hr;obtain⟨L,E,hS,h6⟩:=h.sim;have hr':∀k,row=some k→B.w0.heap.size≤k∧∃o:Obj,W.heap[k]?=some o∧o.isCells=false:=fun k hk=>⟨Nat.le_trans hB (hr k hk).1,(hr k hk).2⟩
 exact⟨h.size,h.defs,h.same,L,E,hS.grown (fun k x hx=>z9x hx) (fun _=>rfl) zpc hg hr',h6⟩
end
end
section
section
variable{B:Base}{a:Act}{W1:World}{E1:Env}{s:zB}{mv:Value}{bm Bs:Nat}{om:Obj}{R:Lx}
theorem zlL{O:List Nat}{β n:Nat}{W W':World}(hβ:β<W.heap.size)(hn:n≤W.heap.size)(hg:W.grownBy W' none):Kp O β n W W':=by
 have hs:∀k,k<W.heap.size→W'.heap[k]?=W.heap[k]?:=fun k hk=>hg.block k hk (by simp);exact⟨hg.size,fun k o hk _ _ _=>(hs k (gA hk).1).trans hk,fun k h=> .inl ((z3e (hs β hβ) k).1 h),fun h k hk=>Nat.lt_of_lt_of_le (h k ((z3e (hs β hβ) k).1 hk)) hg.size,fun k hk=>hs k (by omega)⟩
theorem znO(m:Nat)(hN:B.N=50)(hm0:B.m≤1000)(hG:(gl0 m).G W1)(hn:(gl0 m).n≤B.w0.heap.size)(hX:∀d b,B.X d b→(gl0 m).n≤b)(hS1:Sim B (sPx [] s.length mv 0 0).fs a W1 E1)
  (h20:a.eval (.tmp 20)=.func (.func 129) #[] #[.pointer (some ⟨Bs,0,none⟩)]) (hBs:W1.cell? ⟨Bs,0,none⟩=some (.string (str s))) (hBn:∀i,i=5∨i=2∨i=3∨i=4→Bs≠E1.β i) (hmap:W1.heap[bm]?=some om) (hom:om.isCells=false) (hs:s.length≤200) (hR:∃f,z0w f s 0 []=some R)
  (hrb0:∀k,¬z3z (E1.β 5) W1 k)
  {Q:Exit→Act→World→Prop}
  (hdone:∀D xs W,W1.heap.size≤D→R=.ok xs→IP (gl0 m) B a s.length mv bm om xs W→W.heap[D]?=some (.deferred (some []))→Q .normal { a with defers:={ target:=.collected D,args:= #[] }::a.defers } W)
  (hstop:∀D (q:Pc) L W,W1.heap.size≤D→R=.bad q.p→(∃E,Sim B (sPx L s.length mv (q.p:Int) 50).fs a W E)→W.heap[D]?=some (.deferred (some []))→Q .ret { a with defers:={ target:=.collected D,args:= #[] }::a.defers } W):
  (zdv Tryz.prog 36 0).wpIn Fence.wide 9 Tryz.prog Q a W1:=by
 obtain⟨cA,cB,hraw,tA,tB⟩:=zle;rw[hraw];have hB:B.w0.heap.size≤W1.heap.size:=hS1.mem.low.size;have hn1:(gl0 m).n≤W1.heap.size:=Nat.le_trans hn hB;have hbm:bm<W1.heap.size:=(gA hmap).1;have hlt:∀i cs,(sPx [] s.length mv 0 0).fs.b i=some cs→E1.β i<W1.heap.size:=fun i cs h=>(hS1.mem.box i cs h).1.lt;have hβ5:=hlt 5 _ rfl;let O:List Nat:=[E1.β 5,E1.β 2,E1.β 3,E1.β 4]
 have hO:∀i,i=5∨i=2∨i=3∨i=4→E1.β i∈O:=fun i hi=>by rcases hi with rfl|rfl|rfl|rfl<;>simp[O]
 have hβ:∀{t:ES} {W:World} {E:Env},Sim B t.fs a W E→(∀i,i=5∨i=2∨i=3∨i=4→t.fs.t i=some (.ptr i 0))→∀i,i=5∨i=2∨i=3∨i=4→E.β i=E1.β i:=fun {t W E} hS ht i hi=>by
  have e1:=z26 hS (ht i hi);have e2:=z26 hS1 (k:=i) (d:=i) (by rcases hi with rfl|rfl|rfl|rfl<;>rfl);rw[e1]at e2;simpa using e2
 have hseq:SeqStopsK Fence.wide 8 Tryz.prog 129 #[.pointer (some ⟨Bs,0,none⟩)] zdY (Kp O (E1.β 5) (gl0 m).n) (SP R) (SpP R) (s.length+1) W1:=by
  intro l J Jx W hb hJ hJx hY h0;have hab:∀{J:List Pc→World→Prop},AbidesFrom W.heap.size J→∀pre W W',J pre W→W.grownBy W' none→J pre W':=fun h pre W W' hj hg=>h pre W W' none hj hg (fun r e=>by cases e);have hsm:∀k,k<W1.heap.size→W.heap[k]?=W1.heap[k]?:=hb.block;have hBl:Bs<W1.heap.size:=by obtain⟨o,ho,_⟩:=z29 hBs;exact(gA ho).1
  have hrbW:∀k,¬z3z (E1.β 5) W k:=fun k h=>hrb0 k ((z3e (hsm _ hβ5) k).1 h);refine zhZ m 8 l (by omega) (hab hJ) (hab hJx) hY (b:=Bs) (off:=0) ⟨(World.cell?_of_block (w:=W1) (a:=⟨Bs,0,none⟩) (hsm _ hBl)).trans hBs,?_,hrbW _,fun j hj=>absurd hj (hrbW j),?_,hO 5 (by simp),(gl0 m).st _ _ hG (fun k hk=>hsm k (by omega)),h0⟩ hR
  ·intro hx;simp only[O,List.mem_cons,List.not_mem_nil,or_false]at hx;rcases hx with hx|hx|hx|hx
   ·exact hBn 5 (by simp) hx
   ·exact hBn 2 (by simp) hx
   ·exact hBn 3 (by simp) hx
   ·exact hBn 4 (by simp) hx
  ·intro x hx;have:x<W1.heap.size:=by
    simp only[O,List.mem_cons,List.not_mem_nil,or_false]at hx;rcases hx with rfl|rfl|rfl|rfl
    ·exact hβ5
    ·exact hlt 2 _ rfl
    ·exact hlt 3 _ rfl
    ·exact hlt 4 _ rfl
   exact Nat.lt_of_lt_of_le this hb.size
 refine wpIn_rangeFunc_ownH (F:=Fence.wide) (n:=9) (w0:=W1) rfl (by omega) (gf:=129) (lb:= #[.pointer (some ⟨Bs,0,none⟩)]) h20 trivial (enters_of Tryz.func129 (by kernel_rfl) rfl) hseq Kp.trans (fun W l o o' hl ho hc _=>Kp.put (by omega) (by omega) W l o o' hl ho hc) (Below.refl _ _) (fun _=>rfl)
  (IP (gl0 m) B a s.length mv bm om) (IX (gl0 m) B a s.length mv) (IP.grown hB hn1 hbm) (IX.grown hB) ⟨⟨E1,hS1⟩,fun x h=>(by cases h),hG,hmap⟩ (AX B a s.length mv) (AX.grown hB) ?assign ?body ?done ?stop
 case assign=>
  intro l pre x W K hI hK;obtain⟨E,hS⟩:=hI.sim;have hsz:=hS.size;rw[hN]at hsz;have hact:((#[21]:Array Tmp).zip (zdY x)).foldl (fun t (p,v)=>t.setIfInBounds p v) a.tmps=a.tmps.setIfInBounds 21 (.agg #[.int .i64 x.k,.int .i64 x.n,.string (str x.s),.int .i64 (x.p:Int)]):=by
   simp[zdY]
  rw[hact];refine wpIn_mono (ziM (g:=gl0 m) (a:=a) (q:=x) (l:=l) (n:=7) (ar:={ tmps:=a.tmps.setIfInBounds 21 (.agg #[.int .i64 x.k,.int .i64 x.n,.string (str x.s),.int .i64 (x.p:Int)]),defers:=[] }) tA hm0 hI.G hS (by simp[hsz]) rfl (fun k hk=> ?_) ?_) ?_
  ·show(a.tmps.setIfInBounds 21 _).getD k undef=_;rw[Array.getD_eq_getD_getElem?,Array.getElem?_setIfInBounds_ne (by omega),←Array.getD_eq_getD_getElem?]
  ·show(a.tmps.setIfInBounds 21 _).getD 21 undef=_;simp[Array.getD,hsz]
  ·rintro e a' W' ⟨rfl,h1,h2,h3,h4,E',h5,h6⟩;have hI':IP (gl0 m) B a s.length mv bm om pre W':=IP.grown hB hn1 hbm pre W W' none hI h4 (fun r e=>by cases e);refine hK a' W' ⟨h4.size,fun k o _ hk _=>(h4.block k (gA hk).1 (by simp)).trans hk⟩ ?_ hI' ⟨h1,h2,h3,pre,E',h5,h6⟩;have hb5:=hβ hS (fun i hi=>by rcases hi with rfl|rfl|rfl|rfl<;>rfl) 5 (by simp);exact zlL (by rw[←hb5];exact(hS.mem.box 5 _ rfl).1.lt) ((gl0 m).le _ hI.G) h4
 case body=>
  intro l pre x a' W _ _ hI hA hlen;obtain⟨E,hS⟩:=hI.sim;obtain⟨L',E',hS',h6⟩:=hA.sim;obtain rfl:=zpq hS hS';by_cases hq:x.k=0
  ·refine wpIn_mono (zor (g:=gl0 m) (l:=l) (n:=7) tB hN hm0 hI.G hn hX hS' hq hA.size hA.defs hA.same h6) ?_;rintro e a2 W' ⟨rfl,⟨E2,h1⟩,h2,h3⟩;exact⟨⟨h2,fun k o _ hk ho=>h3 k o hk ho⟩,rfl,E2,pre,x,rfl,hq,h1⟩
  ·refine wpIn_mono (znU (g:=gl0 m) (l:=l) (n:=7) tB hm0 hI.G hn hX hS' hq (by omega) hA.size hA.defs hA.same h6) ?_;rintro e a2 W' ⟨rfl,⟨E2,h1⟩,h2,h3,h4⟩;have hbe:=hβ hS' (fun i hi=>by rcases hi with rfl|rfl|rfl|rfl<;>rfl);have hk:=h4 O (fun i hi=>by rw[hbe i hi];exact hO i hi);rw[hbe 5 (by simp)]at hk;refine⟨⟨h2,fun k o _ hk ho=>h3 k o hk ho⟩,hk,⟨E2,h1⟩,fun y hy=> ?_,(gl0 m).st _ _ hI.G hk.glob,h3 bm om hI.map hom⟩;rcases List.mem_append.1 hy with hy|hy
   ·exact hI.nz y hy
   ·simp only[List.mem_singleton]at hy;subst hy;exact hq
 case done=>
  intro D xs W hD hSP hI hK;rcases hSP with h1|⟨p,pre,h1,h2⟩
  ·exact hdone D xs W hD h1 hI hK
  ·exact absurd rfl (hI.nz ⟨0,0,[],p⟩ (by rw[h2];simp))
 case stop=>
  intro D c pre W hD hSp hI hK;obtain⟨E,L',q,h1,h2,h3⟩:=hI.sim;obtain rfl:=hI.ret;obtain⟨pre2,q2,h4,h5⟩:=hSp;rw[h1]at h4;obtain⟨_,h6⟩:=List.append_inj' h4 rfl;simp only[List.cons.injEq,and_true]at h6;subst h6;rcases h5 with h5|h5
  ·exact absurd h2 h5
  ·exact wpIn_ret (hstop D q L' W hD h5 ⟨E,h3⟩ hK)
end
end
section
noncomputable abbrev cPr:SCode:=.seq c_95_5 (.seq (.seq c_95_6 (.cond (.tmp 42) (.seq c_95_7 .ret) .skip)) (.seq (.seq c_95_8 (.cond (.tmp 47) (.seq c_95_9 .ret) .skip)) (.seq c_95_10 .ret)))
def osP(L:List Pc)(p sz:Nat)(c2:List TV)(c3 c4:TV):List MO:=[.box (pB L p sz),.box c2,.box [c3],.box [c4]]
def sP1(L:List Pc)(sz:Nat):ES:=⟨[(2,.ptr 1001 0),(3,.ptr 1002 0),(4,.ptr 1003 0),(5,.ptr 1000 0)],numB 1000 (osP L 0 sz zk (I 0) (I 0)),numR 1000 (osP L 0 sz zk (I 0) (I 0)),[]⟩
def PostP'(y:TV)(os:List MO):SExit→ES→Prop:=fun e s=>PostR [.cell true 4 2,.cell false 1 3,.cell false 1 4] false 4 y os e s∧lk s.t 2=some (.ptr 1001 0)∧lk s.t 3=some (.ptr 1002 0)∧lk s.t 4=some (.ptr 1003 0)
section
variable{L:List Pc}{sz p:Nat}{m:Nat}
theorem zeT{a:Nat}(HW:zC (gl0 m) 76 [.ptr 1000 0] [.box (pB L 0 sz)] (.tuple [.agg zk,I (a:Int),B false]) [.box (pB L p sz)]):
  swp Tryz.prog (gl0 m) cPr (PostP' (.tuple [.agg zk,I (a:Int),I 50]) (osP L p sz zk (I (a:Int)) (I 50))) (sP1 L sz):=by
 unfold PostP' sP1 osP pB pcs zk B at*;simp only[numB,numR];simp only[vW,seval,bmV];exact z1h HW
theorem zkf{e:V}(HW:zC (gl0 m) 76 [.ptr 1000 0] [.box (pB L 0 sz)] (.tuple [tv e,I 0,B true]) [.box (pB L p sz)])(he:ESmall e)(hr:z0q e=false):
  swp Tryz.prog (gl0 m) cPr (PostP' (.tuple [.agg zk,I 0,I 51]) (osP L p sz zk (I 0) (I 51))) (sP1 L sz):=by
 have HR:=z4d m e he;rw[hr]at HR;unfold PostP' sP1 osP pB pcs zk B at*;simp only[numB,numR];simp only[vW,seval,bmV];refine zU HW ?_;exact z1h HR
theorem zid{e:V}(HW:zC (gl0 m) 76 [.ptr 1000 0] [.box (pB L 0 sz)] (.tuple [tv e,I 0,B true]) [.box (pB L p sz)])(he:ESmall e)(hr:z0q e=true):
  swp Tryz.prog (gl0 m) cPr (PostP' (.tuple [tv e,I 0,I 0]) (osP L p sz (eC e) (I 0) (I 0))) (sP1 L sz):=by
 have HR:=z4d m e he;rw[hr]at HR;unfold PostP' sP1 osP pB pcs zk eC B at*;simp only[numB,numR];simp only[vW,seval,bmV];refine zU HW ?_;exact z1h HR
end
end
end Go.Proofs.YtcpaleaajdilgaaGreatDoor
end

section
namespace Go.Sh
open Go Go.RowKit
section
section
variable{B:Base}{s:FS}{a:Act}{w w':World}{E:Env}
theorem Sim.cells(h:Sim B s a w E){d:Nat}{cs cs':List TV}(hd:s.b d=some cs)(hc:∀(j:Nat) c',cs'[j]?=some c'→∃c,cs[j]?=some c∧∀v,w.cell? ⟨E.β d,j,none⟩=some v→RelT w E s.r c v→RelT w E s.r c' v):
  Sim B { s with b:=fun e=>if e=d then some cs' else s.b e } a w E:=by
 have hb':∀{e:Nat} {c:List TV},(if e=d then some cs' else s.b e)=some c→∃c0,s.b e=some c0:=fun {e c} he=>by
  grind
 refine⟨h.defers,h.size,h.tmp,⟨fun e c he=> ?_,h.mem.row,fun e e' c c' h1 h2 h3=> ?_,fun e e' c q k cap h1 h2 h3=> ?_,h.mem.rr,h.mem.lt,h.mem.low,h.mem.keep,h.mem.knew,h.mem.pas⟩,h.itr,h.ii⟩
 ·have he:(if e=d then some cs' else s.b e)=some c:=he;by_cases hed:e=d
  ·subst hed;rw[if_pos rfl]at he;cases he;obtain⟨h1,h2⟩:=h.mem.box e _ hd;refine⟨⟨h1.lt,h1.obj,h1.fz,fun j c hj=> ?_,h1.out⟩,h2⟩;obtain⟨c0,h3,h4⟩:=hc j c hj;obtain⟨v,c1,c2,c3⟩:=h1.cell j c0 h3
   grind
  ·rw[if_neg hed]at he;exact h.mem.box e c he
 ·obtain⟨_,h4⟩:=hb' h1;obtain⟨_,h5⟩:=hb' h2;exact h.mem.bb e e' _ _ h4 h5 h3
 ·obtain⟨_,h4⟩:=hb' h1;exact h.mem.br e e' _ q k cap h4 h2 h3
end
end
end Go.Sh
end

section
namespace Go.Proofs.YtcpaleaajdilgaaGreatDoor
open Go Go.RowKit Go.Mor Go.Sh Go.Sh.Cd1 Go.Sh.Cd5
section
def sL0(s:zB):ES:=⟨[(2,.ptr 2 0),(3,.ptr 3 0),(4,.ptr 4 0),(5,.ptr 5 0),(20,.fn (.func 129) [] [.ptr 2080 0])],[(5,[.pv (.v (.slice none 0 0)),I 0,I (s.length:Int),z0c]),(2,zk),(3,[I 0]),(4,[I 0]),(2080,[S (str s)])],[],[]⟩
section
variable{B:Base}{a:Act}{W:World}{E:Env}{s:zB}
theorem zov(hN:B.N=50)(hm0:B.m≤1000)(hS:Sim B (sL0 s).fs a W E):∃E1 mv bm om,Sim B (sPx [] s.length mv 0 0).fs a W E1∧(∀W' E2 r,W'.heap[bm]?=some om→RelT W' E2 r z0c mv)∧mv=.map (some bm)∧W.heap[bm]?=some om∧om.isCells=false∧(∀i,i=5∨i=2∨i=3∨i=4→E.β 2080≠E1.β i)
  ∧W.cell? ⟨E.β 2080,0,none⟩=some (.string (str s))∧a.eval (.tmp 20)=.func (.func 129) #[] #[.pointer (some ⟨E.β 2080,0,none⟩)]∧∀k,¬z3z (E1.β 5) W k:=by
 obtain⟨mv,c1,_,c3⟩:=(hS.mem.box 5 _ rfl).1.cell 3 _ rfl;obtain⟨v0,d1,_,d3⟩:=(hS.mem.box 5 _ rfl).1.cell 0 _ rfl;obtain⟨vs,e1,_,e3⟩:=(hS.mem.box 2080 _ rfl).1.cell 0 _ rfl;have hv0:=z0O d3;have hvs:=z0O e3;subst hv0 hvs;have hmv:∃bm om,mv=.map (some bm)∧W.heap[bm]?=some om∧om.isCells=false∧∀(W':World) E2 r,W'.heap[bm]?=some om→RelT W' E2 r z0c mv:=by
  unfold z0c at c3 ⊢;cases c3 with
  |mp ks xs b es clock gg hb hk hl hg h=>
   refine⟨b,_,rfl,hb,rfl,fun W' E2 r hb'=> .mp _ _ b es clock gg hb' hk hl hg fun j x hx=> ?_⟩;have h1:=h j x hx;rw[List.getElem?_map]at hx;obtain⟨p,_,rfl⟩:=gO hx;rw[z0O h1];exact .pv (.v _)
 obtain⟨bm,om,hmv,hom,hoc,hmr⟩:=hmv;have hC:=hS.cells (d:=5) (cs:=[.pv (.v (.slice none 0 0)),I 0,I (s.length:Int),z0c]) (cs':=[.pv (.v (.slice none 0 0)),I 0,I (s.length:Int),.pv (.v mv)]) rfl (fun j c' hj=>by
  match j,hj with
  |0,hj=>cases hj;exact⟨_,rfl,fun _ _ h=>h⟩
  |1,hj=>cases hj;exact⟨_,rfl,fun _ _ h=>h⟩
  |2,hj=>cases hj;exact⟨_,rfl,fun _ _ h=>h⟩
  |3,hj=>
   cases hj;refine⟨z0c,rfl,fun v hv _=> ?_⟩;rw[c1]at hv;cases hv;exact .pv (.v _)
  |j+4,hj=>simp at hj)
 let sL1:ES:=⟨[(2,.ptr 2 0),(3,.ptr 3 0),(4,.ptr 4 0),(5,.ptr 5 0)],[(5,[.pv (.v (.slice none 0 0)),I 0,I (s.length:Int),.pv (.v mv)]),(2,zk),(3,[I 0]),(4,[I 0])],[],[]⟩
 have h1:Sim B sL1.fs a W E:=by
  refine hC.less (fun k x hx=> .inl ?_) (fun d cs hd=>⟨cs,?_,fun j c h=> .inl h⟩) (fun d q hd=>hd) (fun d q hd=>hd)
  ·have hm:=z0C (l:=sL1.t) hx;simp only[sL1,List.mem_cons,List.not_mem_nil,or_false,Prod.mk.injEq]at hm;rcases hm with⟨rfl,rfl⟩|⟨rfl,rfl⟩|⟨rfl,rfl⟩|⟨rfl,rfl⟩<;>rfl
  ·have hm:=z0C (l:=sL1.b) hd;simp only[sL1,List.mem_cons,List.not_mem_nil,or_false,Prod.mk.injEq]at hm;rcases hm with⟨rfl,rfl⟩|⟨rfl,rfl⟩|⟨rfl,rfl⟩|⟨rfl,rfl⟩<;>rfl
 obtain⟨E1,h2⟩:=z7Y (s:=sL1) (x:=5) (j:=0) (d:=3000) (e:=141) (W:=4) (cs:=[.pv (.v (.slice none 0 0)),I 0,I (s.length:Int),.pv (.v mv)]) (.inr (by decide)) (by decide) rfl rfl rfl B a W E hm0 (by rw[hN];decide) h1;have h3:Sim B (sPx [] s.length mv 0 0).fs a W E1:=h2;have hβ:∀i,i=5∨i=2∨i=3∨i=4→E1.β i=E.β i:=fun i hi=>by
  have e1:=z26 h3 (k:=i) (d:=i) (by rcases hi with rfl|rfl|rfl|rfl<;>rfl);have e2:=z26 hS (k:=i) (d:=i) (by rcases hi with rfl|rfl|rfl|rfl<;>rfl);rw[e1]at e2;simpa using e2
 refine⟨E1,mv,bm,om,h3,hmr,hmv,hom,hoc,fun i hi=> ?_,e1,?_,fun k=> ?_⟩
 ·rw[hβ i hi];intro he;rcases hi with rfl|rfl|rfl|rfl
  ·exact absurd (hS.mem.bb 2080 5 _ _ rfl rfl he) (by decide)
  ·exact absurd (hS.mem.bb 2080 2 _ _ rfl rfl he) (by decide)
  ·exact absurd (hS.mem.bb 2080 3 _ _ rfl rfl he) (by decide)
  ·exact absurd (hS.mem.bb 2080 4 _ _ rfl rfl he) (by decide)
 ·have:=(hS.tmp 20 _ rfl).2;show a.tmps.getD 20 undef=_;generalize a.tmps.getD 20 undef=v at this;cases this with
  |fn _ xs ys us vs l1 l2 r1 r2=>
   match us,vs,l1,l2,r2 with
   |[],[v],_,_,r2=>rw[z4F (r2 0 _ v rfl rfl)]
 ·rw[hβ 5 (by simp)];rintro⟨p,n,c,h,_⟩;rw[d1]at h;cases h
end
end
end Go.Proofs.YtcpaleaajdilgaaGreatDoor
end
