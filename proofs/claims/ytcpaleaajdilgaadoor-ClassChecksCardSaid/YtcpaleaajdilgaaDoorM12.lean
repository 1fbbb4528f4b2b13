/- Merged texts: OpenR Cd1. No statement of the program is proved here. -/
import Derived.Test.YtcpaleaajdilgaaDoorM11
import Derived.KernelRfl
set_option linter.unusedSimpArgs false
set_option linter.unusedVariables false
set_option maxRecDepth 100000
set_option maxHeartbeats 8000000
section
namespace Go.Proofs.YtcpaleaajdilgaaDoor.OpR
open Go.ChangeShapes Go.WideShapes Go.ChangeAt Go.RowKit Go.Lib Go.Mor Go.Deep Go.Joins
open Go.ChangeMaps (open_string shut_string)
theorem z7a{α:Type}{n:Nat}{Q:Nat→α→Prop}(h:∀i,i<n→∃r,Q i r):∃l:List α,l.length=n∧∀(i:Nat) r,l[i]?=some r→Q i r:=by
 induction n with
 |zero=>exact⟨[],rfl,by simp⟩
 |succ n ih=>
  obtain⟨l,hl,hq⟩:=ih fun i hi=>h i (by omega);obtain⟨r,hr⟩:=h n (by omega);refine⟨l++[r],by simp[hl],fun i x hx=> ?_⟩;rw[List.getElem?_append]at hx;split at hx
  ·exact hq i x hx
  ·rw[List.getElem?_singleton]at hx;split at hx
   ·injection hx with hx;subst hx
    obtain rfl:i=n:=by omega
    exact hr
   ·cases hx
section
variable{H:Type}{enc:TypeId×Value→H}{P:Program}{w:World}{base:Nat}{spare:Nat→Bool}{held:Bool}
theorem z6Q{t e:TypeId}{fs:Array Field}{fuel:Nat}{cs:List Value}{x:DataW H×List MemPlace}(ht:P.underlying t=some (.slice e))(he:P.underlying e=some (.struct fs))
  (hone:oneCellFields P fs=true) (hC:P.cellsOf e=fs.size) (h:DataW.trod enc P w base spare held fuel t cs=some x):
  (cs=[.slice none 0 0])∨
  ∃(a:Addr) (len cap:Nat),cs=[.slice (some a) len cap]∧len≤cap∧cap≤maxLen∧
   ∀i,i<len→∃n,∀(j:Nat) (f:Field),fs[j]?=some f→∃(v:Value) (y:DataW H×List MemPlace),w.cell? (a.add (i*fs.size+j))=some v∧DataW.trod enc P w base spare held n f.type [v]=some y:=by
 rcases open_slice ht h with h0|⟨a,len,cap,m,n,D,Pl,hcs,hb,hl,hm,hmm,hx,hi⟩
 ·exact .inl h0.1
 ·refine .inr ⟨a,len,cap,hcs,hl,hm,fun i him=> ?_⟩;obtain⟨cs',hc,ht'⟩:=hi i (by rw[hmm];split<;>omega);rw[hC]at hc;obtain⟨ys,n',hn',hy,hlen,hyl,hf⟩:=DataW.trod_struct he ht';obtain⟨_,hcl,hat⟩:=World.cells?_some hc;refine⟨n',fun j f hj=> ?_⟩;obtain⟨ho,hk⟩:=hone_of hone j f hj;have hjl:j<fs.size:=(gA hj).1;have hcell:=hat j hjl;have hv:cs'[j]?=some (cs'[j]'(by omega)):=gE (by omega);have h1:=hf j f hj;rw[ho,hk]at h1;have hone':(cs'.drop j).take 1=[cs'[j]'(by omega)]:=by
   rw[List.drop_eq_getElem_cons (by omega)];rfl
  rw[hone']at h1;have hys:ys[j]?=some (ys[j]'(by omega)):=gE (by omega);refine⟨_,_,?_,h1.trans hys⟩;rw[←Go.Deep.add_add,hcell,hv]
end
theorem z2J{a:Addr}{w:World}{k:Nat}{v:Value}(h0:w.cell? a=some v):a=⟨a.block,a.off,none⟩∧a.add k=⟨a.block,a.off+k,none⟩:=by
 have:=World.cell?_spot h0;obtain⟨b,off,spot⟩:=a;simp at this;subst this;exact⟨rfl,Go.WideShapes.add_plain ..⟩
end Go.Proofs.YtcpaleaajdilgaaDoor.OpR
namespace Go.Proofs.YtcpaleaajdilgaaDoor
open Go.ChangeShapes Go.WideShapes Go.ChangeAt Go.RowKit Go.Lib Go.Mor Go.Deep Go.Joins
open Go.Sh (RelT RelV TV PV SCalls Env MSim z0f zx z16 Low)
open Go.ChangeMaps (open_string shut_string)
open Go.Proofs.YtcpaleaajdilgaaDoor.OpR
section
variable{H:Type}{enc:TypeId×Value→H}
theorem z9D{W:World}{base:Nat}{spare:Nat→Bool}{held:Bool}{fuel:Nat}{c:Value}{y:DataW H×List MemPlace}(h:DataW.trod enc Tryd.prog W base spare held fuel 22 [c]=some y):
  ∃l:List RawF,(∀r∈l,I64 r.n∧I64 r.k∧I64 r.o)∧l.length≤9223372036854775807∧RelV W (z0e W).K (.sl 4 (rfR l)) c:=by
 rcases z6Q Tryd.underlying22 Tryd.underlying58 (by kernel_rfl) (by kernel_rfl) h with h0|⟨a,len,cap,hcs,hl,hm,hi⟩
 ·obtain rfl:c=.slice none 0 0:=by simpa using h0
  exact⟨[],by simp,by simp,.sl 4 [] 0 0 0 none (fun _ _=>undef) (by simp) (by simp) (by simp) (by simp) (by simp) (by simp)⟩
 ·obtain rfl:c=.slice (some a) len cap:=by simpa using hcs
  have key:∀i,i<len→∃r:RawF,(I64 r.n∧I64 r.k∧I64 r.o)∧a=⟨a.block,a.off,none⟩∧W.cell? ⟨a.block,a.off+i*4,none⟩=some (.int .i64 r.n)∧W.cell? ⟨a.block,a.off+i*4+1,none⟩=some (.int .i64 r.k)
    ∧W.cell? ⟨a.block,a.off+i*4+2,none⟩=some (.int .i64 r.o)∧W.cell? ⟨a.block,a.off+i*4+3,none⟩=some (.bool r.ix):=by
   intro i hlt;obtain⟨n0,hf0⟩:=hi 0 (by omega);obtain⟨v,y,hc0,_⟩:=hf0 0 _ rfl;have ha:a=⟨a.block,a.off,none⟩:=(z2J (k:=0) (by simpa [Addr.add]using hc0)).1;have hadd:∀k,a.add k=⟨a.block,a.off+k,none⟩:=fun k=>(z2J (k:=k) (by simpa [Addr.add]using hc0)).2;obtain⟨n,hf⟩:=hi i hlt;obtain⟨v0,y0,c0,t0⟩:=hf 0 _ rfl;obtain⟨v1,y1,c1,t1⟩:=hf 1 _ rfl;obtain⟨v2,y2,c2,t2⟩:=hf 2 _ rfl;obtain⟨v3,y3,c3,t3⟩:=hf 3 _ rfl;obtain⟨z0,e0,_,w0⟩:=DataW.trod_int Tryd.underlying3 t0;obtain⟨z1,e1,_,w1⟩:=DataW.trod_int Tryd.underlying3 t1;obtain⟨z2,e2,_,w2⟩:=DataW.trod_int Tryd.underlying3 t2;obtain⟨z3,e3,_⟩:=DataW.trod_bool Tryd.underlying4 t3;simp at e0 e1 e2 e3;subst e0 e1 e2 e3;rw[hadd]at c0 c1 c2 c3;exact⟨⟨z0,z1,z2,z3⟩,⟨bounds_i64 w0,bounds_i64 w1,bounds_i64 w2⟩,ha,c0,c1,c2,c3⟩
  obtain⟨l,hlen,hq⟩:=z7a key;refine⟨l,fun r hr=> ?_,by unfold maxLen at hm;omega,?_⟩
  ·obtain⟨i,hi⟩:=List.getElem?_of_mem hr;exact(hq i r hi).1
  ·have hL:(rfR l).length=len:=by rw[z4T,hlen]
   rw[←hL];have cell:∀(i j:Nat) cs q,(rfR l)[i]?=some cs→cs[j]?=some q→∃u,q=.v u∧W.cell? ⟨a.block,a.off+i*4+j,none⟩=some u∧Go.Sh.one u:=by
    intro i j cs q h1 h2;rw[z7W,Option.map_eq_some_iff]at h1;obtain⟨r,hr,rfl⟩:=h1;obtain⟨_,_,c0,c1,c2,c3⟩:=hq i r hr
    match j with
    |0=>simp[z30]at h2;subst h2;exact⟨_,rfl,c0,rfl⟩
    |1=>simp[z30]at h2;subst h2;exact⟨_,rfl,c1,rfl⟩
    |2=>simp[z30]at h2;subst h2;exact⟨_,rfl,c2,rfl⟩
    |3=>simp[z30]at h2;subst h2;exact⟨_,rfl,c3,rfl⟩
    |j+4=>simp[z30]at h2
   refine .sl 4 (rfR l) a.block a.off cap (some a) (fun i j=>(W.cell? ⟨a.block,a.off+i*4+j,none⟩).getD undef) (fun hne=> ?_) (by omega) hm (fun cs hcs=> ?_) (fun i j cs q h1 h2=> ?_) (fun i j cs q h1 h2=> ?_)
   ·obtain⟨r,hr⟩:∃r,l[0]?=some r:=by
     cases l with
     |nil=>exact absurd rfl hne
     |cons r q=>exact⟨r,rfl⟩
    rw[(hq 0 r hr).2.1]
   ·obtain⟨r,_,rfl⟩:=List.mem_map.1 hcs;rfl
   ·obtain⟨u,_,hu,ho⟩:=cell i j cs q h1 h2;rw[hu];exact⟨zS (a:=⟨a.block,a.off+i*4+j,none⟩) hu,rfl,ho⟩
   ·obtain⟨u,rfl,hu,ho⟩:=cell i j cs q h1 h2;rw[hu];exact .v u
theorem z8O{W:World}{b0 base:Nat}{spare:Nat→Bool}{held:Bool}{v:Value}{d:DataW H}{p:List MemPlace}(hok:Value.okWide Tryd.prog W .any b0 24 v)(h:DataW.Trod enc Tryd.prog W base spare held 24 v d p):
  ∃x:Raw,RawOk x∧∀r,RelT W (z0e W) r (z4m x) v:=by
 obtain⟨c0,c1,y0,y1,m,rfl,_,_,hy0,hy1⟩:=open_agg2 Tryd.underlying24 (by kernel_rfl) (by kernel_rfl) hok h;obtain⟨z0,e0,_,w0⟩:=DataW.trod_int Tryd.underlying3 hy0;obtain rfl:c0=_:=by simpa using e0
 obtain⟨l,hl,hlen,hr⟩:=z9D hy1;refine⟨⟨z0,l⟩,⟨bounds_i64 w0,hl,hlen⟩,fun r=> ?_⟩;unfold z4m;refine .agg _ [_,c1] rfl (fun j q u hq hu=> ?_) (fun u hu=> ?_)
 ·match j with
  |0=>simp at hq hu;subst hq;subst hu;exact .pv (.v _)
  |1=>simp at hq hu;subst hq;subst hu;exact .pv hr
  |j+2=>simp at hq
 ·simp at hu;rcases hu with rfl|rfl
  ·rfl
  ·cases hr;rfl
end
end Go.Proofs.YtcpaleaajdilgaaDoor
end

section
namespace Go.Sh
abbrev oD(d:Nat)(x:SOp):SOper:=⟨some d,none,none,x⟩
abbrev oG(d g:Nat)(b:Bool)(x:SOp):SOper:=⟨some d,some (g,b),none,x⟩
abbrev oN(x:SOp):SOper:=⟨none,none,none,x⟩
abbrev vI(n:Int):Arg:=.val (.int .i64 n)
abbrev zV:List Value:=[.int .i64 0,.int .i64 0,.string ⟨#[]⟩,.slice none 0 0]
abbrev oM(d x:Nat):SOper:=⟨some d,none,none,.mov (.tmp x)⟩
abbrev oH(d g:Nat)(b:Bool)(x:Nat):SOper:=⟨some d,some (g,b),none,.mov (.tmp x)⟩
abbrev oP(d x y:Nat)(b:Bool):SOper:=⟨some d,none,none,.pick (.tmp x) (.tmp y) (.val (.bool b))⟩
abbrev oQ(d x y:Nat)(b:Bool):SOper:=⟨some d,none,none,.pick (.tmp x) (.val (.bool b)) (.tmp y)⟩
abbrev oL(d:Nat)(b:Bool)(n x:Nat):SOper:=⟨some d,none,none,.ld b n (.tmp x)⟩
def SCode.kl:SCode→List (List Nat)
  | .reg _ k=>[k]
  | .regq _ k=>[k]
  | .seq a b=>a.kl++b.kl
  | .cond _ a b=>a.kl++b.kl
  | .block _ a=>a.kl
  | .loop a=>a.kl
  |_=>[]
def klN:Nat→List (List Nat)→List (Nat×List Nat)
  |_,[]=>[]
  |n,k::r=>(n,k)::klN (n+1) r
end Go.Sh
namespace Go.Sh
abbrev kA(d o x:Nat):SOper:=⟨some d,none,none,.fldA o (.tmp x)⟩
abbrev kS(n x y:Nat):SOper:=⟨none,none,none,.st n (.tmp x) (.tmp y)⟩
abbrev kK(d:Nat)(o:BinOp)(t x:Nat)(n:Int):SOper:=⟨some d,none,none,.bin o t (.tmp x) (vI n)⟩
abbrev kB(d:Nat)(o:BinOp)(t x y:Nat):SOper:=⟨some d,none,none,.bin o t (.tmp x) (.tmp y)⟩
abbrev kT(d:Nat)(b:Bool):SOper:=⟨some d,none,none,.mov (.val (.bool b))⟩
abbrev kI(d:Nat)(n:Int):SOper:=⟨some d,none,none,.mov (vI n)⟩
abbrev kL(d g:Nat)(b a:Bool)(n x:Nat):SOper:=⟨some d,some (g,b),none,.ld a n (.tmp x)⟩
abbrev kF(d g:Nat)(b:Bool)(o x:Nat):SOper:=⟨some d,some (g,b),none,.fldA o (.tmp x)⟩
abbrev kG(d g:Nat)(b:Bool)(o:BinOp)(t x:Nat)(n:Int):SOper:=⟨some d,some (g,b),none,.bin o t (.tmp x) (vI n)⟩
abbrev kH(d g:Nat)(b:Bool)(o:BinOp)(t x y:Nat):SOper:=⟨some d,some (g,b),none,.bin o t (.tmp x) (.tmp y)⟩
abbrev kC(d f m x:Nat):SOper:=⟨some d,none,none,.call f m [.tmp x]⟩
abbrev kD(d f m x y:Nat):SOper:=⟨some d,none,none,.call f m [.tmp x,.tmp y]⟩
abbrev kE(d f m x y z:Nat):SOper:=⟨some d,none,none,.call f m [.tmp x,.tmp y,.tmp z]⟩
abbrev kX(d w x y:Nat):SOper:=⟨some d,none,none,.idxA w (.tmp x) (.tmp y)⟩
abbrev kY(d x i:Nat):SOper:=⟨some d,none,none,.ext (.tmp x) i⟩
abbrev kZ(d x:Nat):SOper:=⟨some d,none,none,.len (.tmp x)⟩
abbrev kO(d x:Nat):SOper:=⟨some d,none,none,.box (.tmp x)⟩
abbrev kN(d x:Nat):SOper:=⟨some d,none,none,.un .not (.tmp x)⟩
abbrev kQ(d x:Nat):SOper:=⟨some d,none,none,.nchk (.tmp x)⟩
abbrev kR(o:List SOper)(k:List Nat):SCode:=.reg [([],o)] k
abbrev kV(l:List Nat)(o:List SOper)(k:List Nat):SCode:=.reg [(l,o)] k
end Go.Sh
section
namespace Go.Sh
abbrev kU(n:Nat)(h:List (Nat×Nat))(f:List (Nat×List (List (Nat×Nat))))(F:SFunc):Prop:=z7 Go.Proofs.Tryd.prog n (zj h) (fpT f) (zk (klN 0 F.code.kl)) false=some F
end Go.Sh
end
namespace Go.Sh.Cd1
open Go Go.Sh
abbrev c_40_0:=kV [2,3] [kO 2 0,kO 3 1,kT 4 false] [0,1,4]
abbrev c_40_1:=kV [2024,2025,2026,2027,2040,2041,2042,2043,2068,2069,2070,2071] [oL 5 true 4 2,kC 6 34 0 5,kN 7 6,oM 8 7,kL 9 8 false true 2 3,oG 10 8 false (.call 35 0 [.tmp 9]),oG 11 8 false (.un .not (.tmp 10)),oQ 12 8 11 true,oM 13 12,kL 14 13 false true 4 2,kF 15 13 false 0 3,kL 16 13 false false 1 15,oG 17 13 false (.call 36 0 [.tmp 14,.tmp 16]),oG 18 13 false (.un .not (.tmp 17)),oQ 19 13 18 true] [5,6,7,8,9,10,11,12,13,14,15,16,17,18]
abbrev c_40_2:=kR [kT 4 false] [2,3,19]
abbrev c_40_3:=kV [2092,2093,2094,2095] [kA 20 3 2,oL 21 false 1 20,oD 22 (.mkf (.func 38) [] [.tmp 3]),kD 23 37 1 21 22,kN 24 23,oM 4 24] [2,3,19,20,21,22,23,24]
abbrev F_40:SFunc:=⟨25,(.seq c_40_0 (.seq (.seq c_40_1 (.cond (.tmp 19) (.seq c_40_2 .ret) .skip)) (.seq c_40_3 .ret))),[.tmp 4],false⟩
theorem tf_40:z7 Go.Proofs.Tryd.prog 20 (zj [(6,0),(10,0),(17,0),(23,1)]) (fpT []) (zk [(0,[0,1,4]),(1,[5,6,7,8,9,10,11,12,13,14,15,16,17,18]),(2,[2,3,19]),(3,[2,3,19,20,21,22,23,24])]) false=some F_40:=by kernel_rfl
abbrev c_42_0:=kV [1] [kO 1 0,kT 2 false] [0,2]
abbrev c_42_1:=kR [kA 3 0 1,oL 4 false 1 3] [3]
abbrev c_42_2:=kR [kK 6 .eql 3 4 0,oM 5 6] [6]
abbrev c_42_3:=kV [2032,2033,2034,2035] [oL 7 true 4 1,kC 8 49 0 7,oM 9 8,kF 10 9 true 1 1,kL 11 9 true false 1 10,kG 12 9 true .eql 3 11 0,oP 13 9 12 false,oM 2 13] [1,4,5,7,8,9,10,11,12,13]
abbrev c_42_4:=kR [kK 15 .eql 3 4 1,oM 14 15] [5,15]
abbrev c_42_5:=kV [2068,2069,2070,2071] [oL 16 true 4 1,kC 17 49 0 16,oM 18 17,kF 19 18 true 1 1,kL 20 18 true false 1 19,oG 21 18 true (.bin .geq 3 (.tmp 20) (.val (.int .i64 (-1000000000000000)))),oP 22 18 21 false,oM 23 22,kF 24 23 true 1 1,kL 25 23 true false 1 24,kG 26 23 true .leq 3 25 1000000000000000,oP 27 23 26 false,oM 2 27] [1,4,14,16,17,18,19,20,21,22,23,24,25,26,27]
abbrev c_42_6:=kR [kK 29 .eql 3 4 2,oM 28 29] [14,29]
abbrev c_42_7:=kV [2168,2169,2170,2171] [kA 30 1 1,oL 31 false 1 30,kK 32 .eql 3 31 0,oM 33 32,kF 34 33 true 3 1,kL 35 33 true false 1 34,oG 36 33 true (.len (.tmp 35)),kG 37 33 true .eql 3 36 0,oP 38 33 37 false,oM 39 38,kF 40 39 true 2 1,kL 41 39 true false 1 40,oG 42 39 true (.call 50 0 [.tmp 41]),oP 43 39 42 false,oM 2 43] [1,4,28,30,31,32,33,34,35,36,37,38,39,40,41,42,43]
abbrev c_42_8:=kR [kK 45 .eql 3 4 3,oM 44 45] [28,45]
abbrev c_42_9:=kR [kK 46 .eql 3 4 4,oM 44 46] [46]
abbrev c_42_10:=kV [2192,2193,2194,2195,2208,2209,2210,2211] [oL 47 true 4 1,kC 48 49 0 47,oM 49 48,kF 50 49 true 1 1,kL 51 49 true false 1 50,oG 52 49 true (.call 51 0 [.tmp 51]),oP 53 49 52 false,oM 2 53] [1,4,44,47,48,49,50,51,52,53]
abbrev c_42_11:=kR [kK 55 .eql 3 4 5,oM 54 55] [4,44,55]
abbrev c_42_12:=kV [2292,2293,2294,2295] [kA 56 1 1,oL 57 false 1 56,kK 58 .eql 3 57 0,oM 59 58,kF 60 59 true 2 1,kL 61 59 true false 1 60,oG 62 59 true (.bin .eql 9 (.tmp 61) (.val (.string ⟨#[]⟩))),oP 63 59 62 false,oM 64 63,kF 65 64 true 3 1,kL 66 64 true false 1 65,oG 67 64 true (.len (.tmp 66)),kG 68 64 true .leq 3 67 12,oP 69 64 68 false,oM 70 69,kF 71 70 true 3 1,kL 72 70 true false 1 71,oG 73 70 true (.call 37 1 [.tmp 72,(.val (.func (.func 52) #[] #[]))]),oG 74 70 true (.un .not (.tmp 73)),oP 75 70 74 false,oM 2 75] [1,54,56,57,58,59,60,61,62,63,64,65,66,67,68,69,70,71,72,73,74,75]
abbrev c_42_13:=kR [kT 2 false] [1,54]
abbrev F_42:SFunc:=⟨76,(.seq c_42_0 (.seq (.seq c_42_1 (.block 0 (.seq c_42_2 (.cond (.tmp 5) (.seq c_42_3 .ret) (.seq c_42_4 (.cond (.tmp 14) (.seq c_42_5 .ret) (.seq c_42_6 (.cond (.tmp 28) (.seq c_42_7 .ret) (.seq (.seq c_42_8 (.cond (.tmp 44) .skip c_42_9)) (.cond (.tmp 44) (.seq c_42_10 .ret) (.seq c_42_11 (.cond (.tmp 54) (.seq c_42_12 .ret) .skip)))))))))))) (.seq c_42_13 .ret))),[.tmp 2],false⟩
theorem tf_42:z7 Go.Proofs.Tryd.prog 34 (zj [(8,0),(17,0),(42,0),(48,0),(52,0),(73,1)]) (fpT []) (zk [(0,[0,2]),(1,[3]),(2,[6]),(3,[1,4,5,7,8,9,10,11,12,13]),(4,[5,15]),(5,[1,4,14,16,17,18,19,20,21,22,23,24,25,26,27]),(6,[14,29]),(7,[1,4,28,30,31,32,33,34,35,36,37,38,39,40,41,42,43]),(8,[28,45]),(9,[46]),(10,[1,4,44,47,48,49,50,51,52,53]),(11,[4,44,55]),(12,[1,54,56,57,58,59,60,61,62,63,64,65,66,67,68,69,70,71,72,73,74,75]),(13,[1,54])]) false=some F_42:=by kernel_rfl
abbrev c_49_0:=kV [1] [kO 1 0,kT 2 false] [0,2]
abbrev c_49_1:=kR [kA 3 0 1,oL 4 false 1 3,kK 5 .eql 3 4 5] [3,4]
abbrev c_49_2:=kR [kA 6 1 1,oL 7 false 1 6,kK 8 .geq 3 7 1,oM 9 8,kF 10 9 true 1 1,kL 11 9 true false 1 10,kG 12 9 true .leq 3 11 4,oP 13 9 12 false,oM 2 13] [1,5,6,7,8,9,10,11,12,13]
abbrev c_49_3:=kR [kA 14 0 1,oL 15 false 1 14,kK 16 .geq 3 15 1,oM 17 16,kF 18 17 true 0 1,kL 19 17 true false 1 18,kG 20 17 true .leq 3 19 4,oP 21 17 20 false,oM 22 21,kF 23 22 true 1 1,kL 24 22 true false 1 23,kG 25 22 true .eql 3 24 0,oP 26 22 25 false,oM 2 26] [1,5,14,15,16,17,18,19,20,21,22,23,24,25,26]
abbrev F_49:SFunc:=⟨27,(.seq c_49_0 (.seq (.seq c_49_1 (.cond (.tmp 5) (.seq c_49_2 .ret) .skip)) (.seq c_49_3 .ret))),[.tmp 2],false⟩
theorem tf_49:z7 Go.Proofs.Tryd.prog 35 (zj []) (fpT []) (zk [(0,[0,2]),(1,[3,4]),(2,[1,5,6,7,8,9,10,11,12,13]),(3,[1,5,14,15,16,17,18,19,20,21,22,23,24,25,26])]) false=some F_49:=by kernel_rfl
abbrev c_45_0:=kV [2] [kO 2 0,kT 4 false] [0,4]
abbrev c_45_1:=kR [kA 5 0 2,oL 6 false 1 5,oM 7 1,kB 8 .eql 3 6 7,oM 9 8,kF 10 9 false 0 2,kL 11 9 false false 1 10,kG 12 9 false .eql 3 11 0,oH 13 9 false 12,oH 14 13 true 1,kG 15 13 true .eql 3 14 3,oH 16 13 true 15,oH 17 16 false 1,kG 18 16 false .eql 3 17 4,oG 19 13 true (.pick (.tmp 16) (.val (.bool true)) (.tmp 18)),oG 20 9 false (.pick (.tmp 13) (.tmp 19) (.val (.bool false))),oQ 21 9 20 true,oM 4 21] [1,2,5,6,7,8,9,10,11,12,13,14,15,16,17,18,19,20,21]
abbrev F_45:SFunc:=⟨22,(.seq c_45_0 (.seq c_45_1 .ret)),[.tmp 4],false⟩
theorem tf_45:z7 Go.Proofs.Tryd.prog 36 (zj []) (fpT []) (zk [(0,[0,4]),(1,[1,2,5,6,7,8,9,10,11,12,13,14,15,16,17,18,19,20,21])]) false=some F_45:=by kernel_rfl
abbrev c_36_0:=kR [kT 4 false] [4]
abbrev c_36_1:=kV [2028,2029,2030,2031] [oM 5 0,oM 6 1,kD 7 53 1 5 6,kK 8 .geq 3 7 0,oM 4 8] [0,1,5,6,7,8]
abbrev F_36:SFunc:=⟨9,(.seq c_36_0 (.seq c_36_1 .ret)),[.tmp 4],false⟩
theorem tf_36:z7 Go.Proofs.Tryd.prog 37 (zj [(7,1)]) (fpT []) (zk [(0,[4]),(1,[0,1,5,6,7,8])]) false=some F_36:=by kernel_rfl
abbrev c_41_0:=kV [2] [kO 2 0,kT 3 false] [0,3]
abbrev c_41_1:=kV [2028,2029,2030,2031] [oL 4 true 4 2,kA 5 1 1,oL 6 false 1 5,kD 7 36 0 4 6,kN 8 7,oM 3 8] [1,2,4,5,6,7,8]
abbrev F_41:SFunc:=⟨9,(.seq c_41_0 (.seq c_41_1 .ret)),[.tmp 3],false⟩
theorem tf_41:z7 Go.Proofs.Tryd.prog 38 (zj [(7,0)]) (fpT []) (zk [(0,[0,3]),(1,[1,2,4,5,6,7,8])]) false=some F_41:=by kernel_rfl
abbrev c_23_0:=kR [kT 2 false] [2]
abbrev c_23_1:=kR [kI 3 0] []
abbrev c_23_2:=kR [oM 5 3,oM 6 0,oD 7 (.slen (.tmp 6)),kB 8 .lss 3 5 7] [5,6,7]
abbrev c_23_3:=kV [2048,2049,2050,2051] [oM 9 0,oM 10 3,oD 11 (.ssub (.tmp 9) (some (.tmp 10)) none),kC 12 55 0 11,oM 4 12] [8,9,10,11,12]
abbrev c_23_4:=kR [oM 13 4,kK 14 .eql 3 13 0,oM 15 14,oH 16 15 false 0,oH 17 15 false 3,oG 18 15 false (.sidx (.tmp 16) (.tmp 17)),oG 19 15 false (.bin .lss 5 (.tmp 18) (.val (.int .u8 32))),oQ 20 15 19 true,oM 21 20,oH 22 21 false 0,oH 23 21 false 3,oG 24 21 false (.sidx (.tmp 22) (.tmp 23)),oG 25 21 false (.bin .eql 5 (.tmp 24) (.val (.int .u8 127))),oQ 26 21 25 true] [13,14,15,16,17,18,19,20,21,22,23,24,25]
abbrev c_23_5:=kR [kT 2 false] [0,3,4,26]
abbrev c_23_6:=kR [oM 27 3,oM 28 4,kB 29 .add 3 27 28,oM 3 29] [2,4,26,27,28,29]
abbrev c_23_7:SCode:=(.seq (.seq c_23_2 (.cond (.tmp 8) .skip (.exit 0))) (.block 1 (.seq c_23_3 (.seq (.seq c_23_4 (.cond (.tmp 26) (.seq c_23_5 .ret) .skip)) c_23_6))))
abbrev c_23_8:=kR [kT 2 true] [0,3]
abbrev F_23:SFunc:=⟨30,(.seq c_23_0 (.seq (.seq c_23_1 (.block 0 (.loop c_23_7))) (.seq c_23_8 .ret))),[.tmp 2],false⟩
theorem tf_23:z7 Go.Proofs.Tryd.prog 41 (zj [(12,0)]) (fpT []) (zk [(0,[2]),(2,[5,6,7]),(3,[8,9,10,11,12]),(4,[13,14,15,16,17,18,19,20,21,22,23,24,25]),(5,[0,3,4,26]),(6,[2,4,26,27,28,29]),(7,[0,3])]) false=some F_23:=by kernel_rfl
abbrev c_43_0:=kV [1] [kO 1 0,kT 2 false] [0,2]
abbrev c_43_1:=kR [kA 3 2 1,oL 4 false 1 3,oD 5 (.bin .eql 9 (.tmp 4) (.val (.string ⟨#[]⟩))),oM 6 5,kF 7 6 true 3 1,kL 8 6 true false 1 7,oG 9 6 true (.len (.tmp 8)),kG 10 6 true .eql 3 9 0,oP 11 6 10 false,oM 2 11] [1,3,4,5,6,7,8,9,10,11]
abbrev F_43:SFunc:=⟨12,(.seq c_43_0 (.seq c_43_1 .ret)),[.tmp 2],false⟩
theorem tf_43:z7 Go.Proofs.Tryd.prog 49 (zj []) (fpT []) (zk [(0,[0,2]),(1,[1,3,4,5,6,7,8,9,10,11])]) false=some F_43:=by kernel_rfl
abbrev c_48_0:=kR [kT 2 false] [2]
abbrev c_48_1:=kV [2040,2041,2042,2043] [oM 5 0,oD 6 (.slen (.tmp 5)),kK 7 .gtr 3 6 60,oM 8 7,oH 9 8 false 0,oG 10 8 false (.call 61 0 [.tmp 9]),oG 11 8 false (.un .not (.tmp 10)),oQ 12 8 11 true] [5,6,7,8,9,10,11]
abbrev c_48_2:=kR [kT 2 false] [0,12]
abbrev c_48_3:=kV [14] [oM 13 0,oD 14 (.rng (.tmp 13))] [0,2,12,13]
abbrev c_48_4:=kR [oD 15 (.nxt (.tmp 14)),kY 16 15 0] []
abbrev c_48_5:=kR [kY 17 15 2,oM 4 17] [15,16,17]
abbrev c_48_6:=kV [2076,2077,2078,2079] [oM 18 4,kC 19 62 0 18,kN 20 19] [4,18,19]
abbrev c_48_7:=kR [kT 2 false] [14,20]
abbrev c_48_8:SCode:=(.seq c_48_4 (.seq (.cond (.tmp 16) .skip (.exit 0)) (.block 1 (.seq c_48_5 (.seq c_48_6 (.cond (.tmp 20) (.seq c_48_7 .ret) .skip))))))
abbrev c_48_9:=kR [kT 2 true] [14]
abbrev F_48:SFunc:=⟨21,(.seq c_48_0 (.seq (.seq c_48_1 (.cond (.tmp 12) (.seq c_48_2 .ret) .skip)) (.seq (.seq c_48_3 (.block 0 (.loop c_48_8))) (.seq c_48_9 .ret)))),[.tmp 2],false⟩
theorem tf_48:z7 Go.Proofs.Tryd.prog 50 (zj [(10,0),(19,0)]) (fpT []) (zk [(0,[2]),(1,[5,6,7,8,9,10,11]),(2,[0,12]),(3,[0,2,12,13]),(5,[15,16,17]),(6,[4,18,19]),(7,[14,20]),(8,[14])]) false=some F_48:=by kernel_rfl
abbrev c_47_0:=kR [kT 2 false] [2]
abbrev c_47_1:=kR [oM 3 0,kK 4 .geq 3 3 1,oM 5 4,oH 6 5 true 0,kG 7 5 true .leq 3 6 100000,oP 8 5 7 false,oM 9 8,oH 10 9 false 0,oG 11 9 false (.bin .geq 3 (.tmp 10) (.val (.int .i64 (-20)))),oH 12 9 false 11,oH 13 12 true 0,oG 14 12 true (.bin .leq 3 (.tmp 13) (.val (.int .i64 (-1)))),oG 15 9 false (.pick (.tmp 12) (.tmp 14) (.val (.bool false))),oQ 16 9 15 true,oM 2 16] [0,3,4,5,6,7,8,9,10,11,12,13,14,15,16]
abbrev F_47:SFunc:=⟨17,(.seq c_47_0 (.seq c_47_1 .ret)),[.tmp 2],false⟩
theorem tf_47:z7 Go.Proofs.Tryd.prog 51 (zj []) (fpT []) (zk [(0,[2]),(1,[0,3,4,5,6,7,8,9,10,11,12,13,14,15,16])]) false=some F_47:=by kernel_rfl
abbrev c_44_0:=kV [1] [kO 1 0,kT 2 false] [0,2]
abbrev c_44_1:=kV [2032,2033,2034,2035] [kA 3 0 1,oL 4 false 1 3,kK 5 .eql 3 4 5,oM 6 5,kL 7 6 false true 4 1,oG 8 6 false (.call 34 0 [.tmp 7]),oG 9 6 false (.un .not (.tmp 8)),oQ 10 6 9 true,oM 2 10] [1,3,4,5,6,7,8,9,10]
abbrev F_44:SFunc:=⟨11,(.seq c_44_0 (.seq c_44_1 .ret)),[.tmp 2],false⟩
theorem tf_44:z7 Go.Proofs.Tryd.prog 52 (zj [(8,0)]) (fpT []) (zk [(0,[0,2]),(1,[1,3,4,5,6,7,8,9,10])]) false=some F_44:=by kernel_rfl
abbrev c_39_0:=kR [kI 4 0] [4]
abbrev c_39_1:=kR [oM 6 0,kZ 7 6,kI 8 0] [6]
abbrev c_39_2:=kR [kB 9 .lss 3 8 7] []
abbrev c_39_3:=kR [oM 10 8,oM 5 10] [9,10]
abbrev c_39_4:=kV [2064,2065,2066,2067] [oM 11 1,oM 12 0,oM 13 5,kX 14 4 12 13,oL 15 true 4 14,oD 16 (.callv (.tmp 11) 1 [.tmp 15])] [11,12,13,14,15]
abbrev c_39_5:=kR [oM 17 5,oM 4 17] [0,1,5,7,8,16,17]
abbrev c_39_6:=kR [kK 18 .add 3 8 1,oM 8 18] [4,5,16,18]
abbrev c_39_7:SCode:=(.seq c_39_2 (.seq (.cond (.tmp 9) .skip (.exit 0)) (.seq (.block 1 (.seq c_39_3 (.seq c_39_4 (.cond (.tmp 16) (.seq c_39_5 .ret) .skip)))) c_39_6)))
abbrev c_39_8:=kR [oD 4 (.mov (.val (.int .i64 (-1))))] [0,1,7,8]
abbrev F_39:SFunc:=⟨19,(.seq c_39_0 (.seq (.seq c_39_1 (.block 0 (.loop c_39_7))) (.seq c_39_8 .ret))),[.tmp 4],false⟩
theorem tf_39:z7 Go.Proofs.Tryd.prog 53 (zj [(16,1)]) (fpT []) (zk [(0,[4]),(1,[6]),(3,[9,10]),(4,[11,12,13,14,15]),(5,[0,1,5,7,8,16,17]),(6,[4,5,16,18]),(7,[0,1,7,8])]) false=some F_39:=by kernel_rfl
abbrev c_26_0:=kR [kI 2 0] [2]
abbrev c_26_1:=kR [oM 8 0,oD 9 (.slen (.tmp 8)),kK 10 .eql 3 9 0] [8,9]
abbrev c_26_2:=kR [kI 2 0] [0,10]
abbrev c_26_3:=kR [oM 11 0,oD 12 (.sidx (.tmp 11) (vI 0)),oD 13 (.cvi .i64 (.tmp 12)),oM 3 13] [2,10,11,12,13]
abbrev c_26_4:=kR [oM 14 3,kK 15 .lss 3 14 128] [14]
abbrev c_26_5:=kR [kI 2 1] [0,3,15]
abbrev c_26_6:=kR [kI 4 0] [2,15]
abbrev c_26_7:=kR [kI 5 128] []
abbrev c_26_8:=kR [kI 6 191] []
abbrev c_26_9:=kR [oM 16 3,kK 17 .geq 3 16 194,oM 18 17,oH 19 18 true 3,kG 20 18 true .leq 3 19 223,oP 21 18 20 false] [16,17,18,19,20]
abbrev c_26_10:=kR [kI 4 2] [21]
abbrev c_26_11:=kR [oM 22 3,kK 23 .geq 3 22 224,oM 24 23,oH 25 24 true 3,kG 26 24 true .leq 3 25 239,oP 27 24 26 false] [21,22,23,24,25,26]
abbrev c_26_12:=kR [kI 4 3] [27]
abbrev c_26_13:=kR [oM 28 3,kK 29 .geq 3 28 240,oM 30 29,oH 31 30 true 3,kG 32 30 true .leq 3 31 244,oP 33 30 32 false] [27,28,29,30,31,32]
abbrev c_26_14:=kR [kI 4 4] [33]
abbrev c_26_15:=kR [oM 34 4,kK 35 .eql 3 34 0,oM 36 35,oH 37 36 false 0,oG 38 36 false (.slen (.tmp 37)),oH 39 36 false 4,kH 40 36 false .lss 3 38 39,oQ 41 36 40 true] [33,34,35,36,37,38,39,40]
abbrev c_26_16:=kR [kI 2 0] [0,3,4,5,6,41]
abbrev c_26_17:=kR [oM 42 3] [2,3,41]
abbrev c_26_18:=kR [kK 44 .eql 3 42 224,oM 43 44] [44]
abbrev c_26_19:=kR [kI 5 160] [42,43]
abbrev c_26_20:=kR [kK 46 .eql 3 42 237,oM 45 46] [43,46]
abbrev c_26_21:=kR [kI 6 159] [42,45]
abbrev c_26_22:=kR [kK 48 .eql 3 42 240,oM 47 48] [45,48]
abbrev c_26_23:=kR [kI 5 144] [42,47]
abbrev c_26_24:=kR [kK 50 .eql 3 42 244,oM 49 50] [42,47,50]
abbrev c_26_25:=kR [kI 6 143] [49]
abbrev c_26_26:=kR [oM 51 0,oD 52 (.sidx (.tmp 51) (vI 1)),oD 53 (.cvi .i64 (.tmp 52)),oM 54 5,kB 55 .lss 3 53 54,oM 56 55,oH 57 56 false 0,oG 58 56 false (.sidx (.tmp 57) (vI 1)),oG 59 56 false (.cvi .i64 (.tmp 58)),oH 60 56 false 6,kH 61 56 false .gtr 3 59 60,oQ 62 56 61 true] [5,6,49,51,52,53,54,55,56,57,58,59,60,61]
abbrev c_26_27:=kR [kI 2 0] [0,4,62]
abbrev c_26_28:=kR [kI 7 2] [2,62]
abbrev c_26_29:=kR [oM 63 7,oM 64 4,kB 65 .lss 3 63 64] [63,64]
abbrev c_26_30:=kR [oM 68 0,oM 69 7,oD 70 (.sidx (.tmp 68) (.tmp 69)),oD 71 (.bin .lss 5 (.tmp 70) (.val (.int .u8 128))),oM 72 71,oH 73 72 false 0,oH 74 72 false 7,oG 75 72 false (.sidx (.tmp 73) (.tmp 74)),oG 76 72 false (.bin .gtr 5 (.tmp 75) (.val (.int .u8 191))),oQ 77 72 76 true] [65,68,69,70,71,72,73,74,75,76]
abbrev c_26_31:=kR [kI 2 0] [0,4,7,77]
abbrev c_26_32:=kR [oM 66 7,kK 67 .add 3 66 1,oM 7 67] [2,66,67,77]
abbrev c_26_33:SCode:=(.seq (.seq c_26_29 (.cond (.tmp 65) .skip (.exit 1))) (.seq (.block 2 (.seq c_26_30 (.cond (.tmp 77) (.seq c_26_31 .ret) .skip))) c_26_32))
abbrev c_26_34:=kR [oM 78 4,oM 2 78] [0,4,7,78]
abbrev F_26:SFunc:=⟨79,(.seq c_26_0 (.seq (.seq c_26_1 (.cond (.tmp 10) (.seq c_26_2 .ret) .skip)) (.seq c_26_3 (.seq (.seq c_26_4 (.cond (.tmp 15) (.seq c_26_5 .ret) .skip)) (.seq c_26_6 (.seq c_26_7 (.seq c_26_8 (.seq (.seq c_26_9 (.cond (.tmp 21) c_26_10 .skip)) (.seq (.seq c_26_11 (.cond (.tmp 27) c_26_12 .skip)) (.seq (.seq c_26_13 (.cond (.tmp 33) c_26_14 .skip)) (.seq (.seq c_26_15 (.cond (.tmp 41) (.seq c_26_16 .ret) .skip)) (.seq (.seq c_26_17 (.block 0 (.seq c_26_18 (.cond (.tmp 43) c_26_19 (.seq c_26_20 (.cond (.tmp 45) c_26_21 (.seq c_26_22 (.cond (.tmp 47) c_26_23 (.seq c_26_24 (.cond (.tmp 49) c_26_25 .skip)))))))))) (.seq (.seq c_26_26 (.cond (.tmp 62) (.seq c_26_27 .ret) .skip)) (.seq (.seq c_26_28 (.block 1 (.loop c_26_33))) (.seq c_26_34 .ret))))))))))))))),[.tmp 2],false⟩
theorem tf_26:z7 Go.Proofs.Tryd.prog 55 (zj []) (fpT []) (zk [(0,[2]),(1,[8,9]),(2,[0,10]),(3,[2,10,11,12,13]),(4,[14]),(5,[0,3,15]),(6,[2,15]),(9,[16,17,18,19,20]),(10,[21]),(11,[21,22,23,24,25,26]),(12,[27]),(13,[27,28,29,30,31,32]),(14,[33]),(15,[33,34,35,36,37,38,39,40]),(16,[0,3,4,5,6,41]),(17,[2,3,41]),(18,[44]),(19,[42,43]),(20,[43,46]),(21,[42,45]),(22,[45,48]),(23,[42,47]),(24,[42,47,50]),(25,[49]),(26,[5,6,49,51,52,53,54,55,56,57,58,59,60,61]),(27,[0,4,62]),(28,[2,62]),(29,[63,64]),(31,[65,68,69,70,71,72,73,74,75,76]),(32,[0,4,7,77]),(30,[2,66,67,77]),(33,[0,4,7,78])]) false=some F_26:=by kernel_rfl
abbrev c_46_0:=kR [kT 2 false] [2]
abbrev c_46_1:=kR [oM 3 0,oD 4 (.bin .geq 21 (.tmp 3) (.val (.int .i32 32))),oM 5 4,oH 6 5 true 0,oG 7 5 true (.bin .neq 21 (.tmp 6) (.val (.int .i32 127))),oP 8 5 7 false,oM 2 8] [0,3,4,5,6,7,8]
abbrev F_46:SFunc:=⟨9,(.seq c_46_0 (.seq c_46_1 .ret)),[.tmp 2],false⟩
theorem tf_46:z7 Go.Proofs.Tryd.prog 62 (zj []) (fpT []) (zk [(0,[2]),(1,[0,3,4,5,6,7,8])]) false=some F_46:=by kernel_rfl
def funcs:Nat→Option SFunc
 |_=>none
end Go.Sh.Cd1
end
