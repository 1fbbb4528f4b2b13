/- Merged texts: S5 S6 S7. No statement of the program is proved here. -/
import Derived.Test.YtbkgnekfigknhaaGreatDoorR2
import Derived.Great.BuildSlice
set_option linter.unusedSimpArgs false
set_option linter.unusedVariables false
set_option maxRecDepth 100000
set_option maxHeartbeats 8000000
section
namespace Go.Sh
open Go Go.RowKit
section
section
variable{B:Base}{s:FS}{a:Act}{w w':World}{E E':Env}{r:Rows}{P:Program}
theorem zj(h:Sim B s a w E){x:Operand}{y:TV}(hx:(Arg.of x).get s=some y):RelT w E s.r y (a.eval x):=by
 cases x with
 |tmp t=>exact(h.tmp t y hx).2
 |const v=>simp[Arg.of,Arg.get]at hx;subst hx;exact .pv (.v _)
 |global g=>simp[Arg.of,Arg.get]at hx;subst hx;exact .pv (.v _)
 |func f=>simp[Arg.of,Arg.get]at hx;subst hx;exact .pv (.v _)
theorem zb8{t:TV}{v y:Value}(h:RelT w E r t v)(hy:t.val1=some y):v=y:=by
 cases h with
 |pv h=>cases h<;>grind [TV.val1]
 |_=>simp[TV.val1]at hy
theorem val_rel{t:TV}{v y:Value}(h:RelT w E r t v)(hy:t.val=some y):v=y:=by
 cases t with
 |agg cs=>
  cases h with
  |agg cs vs hl h ho=>
   simp only[TV.val]at hy;obtain⟨l,h1,rfl⟩:=gO hy;obtain⟨h2,h3⟩:=z06 h1;congr 2;apply List.ext_getElem?;intro i;rcases Nat.lt_or_ge i cs.length with hi|hi
   ·obtain⟨y,hy1,hy2⟩:=h3 i cs[i] (gE hi);rw[hy1,gE (by omega)];rw[zb8 (h i cs[i] (vs[i]'(by omega)) (gE hi) (gE (by omega))) hy2]
   ·grind
 |_=>exact zb8 h hy
theorem z9B(h:Sim B s a w E){x:Operand}{y:Value}(hx:((Arg.of x).get s).bind TV.val=some y):a.eval x=y:=by
 obtain⟨t,h1,h2⟩:=gB hx;exact val_rel (zj h h1) h2
structure RelL(w:World)(E:Env)(r:Rows)(cs:List TV)(vs:List Value):Prop where
 len:cs.length=vs.length
 at_:∀(j:Nat) c v,cs[j]?=some c→vs[j]?=some v→RelT w E r c v
 ones:∀v∈vs,one v
theorem z5l{t:TV}{v:Value}{cs:List TV}(h:RelT w E r t v)(hc:t.cells=some cs):∃vs:List Value,v.cells=vs.toArray∧RelL w E r cs vs:=by
 have one1:∀(t:TV) (v:Value),RelT w E r t v→v.oneCell'=true→∃vs:List Value,v.cells=vs.toArray∧RelL w E r [t] vs:=by
  intro t v h ho;refine⟨[v],?_,⟨rfl,fun j c u h1 h2=> ?_,fun u hu=> ?_⟩⟩
  ·cases v<;>first|rfl|cases ho
  ·grind
  ·grind
 cases h with
 |pv h=>
  cases h with
  |v x=>
   simp only[TV.cells]at hc;split at hc
   ·rename_i ho;cases hc;exact one1 _ _ (.pv (.v _)) ho
   ·cases hc
  |sl W es b off cap p f hp hcap hmax hW hc' hs=>
   simp only[TV.cells]at hc;cases hc;exact one1 _ _ (.pv (.sl W es b off cap p f hp hcap hmax hW hc' hs)) rfl
  |el cs b off f h1 h2=>simp only[TV.cells]at hc;cases hc;exact one1 _ _ (.pv (.el cs b off f h1 h2)) rfl
  |fn g xs ys us vs h1 h2 r1 r2=>simp only[TV.cells]at hc;cases hc;exact one1 _ _ (.pv (.fn g xs ys us vs h1 h2 r1 r2)) rfl
 |unk v=>simp[TV.cells]at hc
 |bs d off n c C h1 h2 h3=>simp only[TV.cells]at hc;cases hc;exact one1 _ _ (.bs d off n c C h1 h2 h3) rfl
 |it d=>simp only[TV.cells]at hc;cases hc;exact one1 _ _ (.it d) rfl
 |tsl W es p h=>simp only[TV.cells]at hc;cases hc;exact one1 _ _ (.tsl W es p h) rfl
 |mp ks xs b es clock g h1 h2 h3 h4 h=>simp only[TV.cells]at hc;cases hc;exact one1 _ _ (.mp ks xs b es clock g h1 h2 h3 h4 h) rfl
 |fn g xs ys us vs h1 h2 r1 r2=>simp only[TV.cells]at hc;cases hc;exact one1 _ _ (.fn g xs ys us vs h1 h2 r1 r2) rfl
 |ptr d off=>simp only[TV.cells]at hc;cases hc;exact one1 _ _ (.ptr d off) rfl
 |own d W es v h1 h2=>
  simp only[TV.cells]at hc;cases hc;obtain⟨_,_,_,_,_,rfl,_⟩:=z0L h1;exact one1 _ _ (.own d W es _ h1 h2) rfl
 |agg cs vs hl h ho=>simp only[TV.cells]at hc;cases hc;exact⟨vs,rfl,hl,h,ho⟩
 |tuple cs vs hl h=>simp[TV.cells]at hc
theorem zog{t:TV}{v:Value}{p:PV}(h:RelT w E r t v)(hp:t.toPV=some p):RelV w E.K p v:=by
 cases h with
 |pv h=>grind [TV.toPV]
 |own d W es v h1 h2=>grind [TV.toPV]
 |_=>simp[TV.toPV]at hp
theorem zhS{t:TV}{v:Value}{ps:List PV}(h:RelT w E r t v)(hp:t.pvs=some ps):∃vs:List Value,v.cells=vs.toArray∧ps.length=vs.length∧(∀(j:Nat) c u,ps[j]?=some c→vs[j]?=some u→RelV w E.K c u∧one u):=by
 obtain⟨cs,h1,h2⟩:=gB hp;obtain⟨vs,h3,h4⟩:=z5l h h1;obtain⟨h5,h6⟩:=z06 h2;refine⟨vs,h3,by rw[←h5,h4.len],fun j c u hc hu=> ?_⟩;have hj:j<cs.length:=by grind
 obtain⟨y,hy1,hy2⟩:=h6 j cs[j] (gE hj);rw[hc]at hy1;cases hy1;exact⟨zog (h4.at_ j _ u (gE hj) hu) hy2,h4.ones u (gM hu)⟩
theorem zla{W:Nat}{es:List (List PV)}{v:Value}(he:TV.elems W (.pv (.v v))=some es):v=.slice none 0 0∧es=[]:=by
 grind [TV.elems]
theorem z3k{t:TV}{v:Value}{W:Nat}{es:List (List PV)}(h:RelT w E r t v)(he:t.elems W=some es):RelV w E.K (.sl W es) v:=by
 cases t with
 |pv p=>
  cases p with
  |v x=>
   cases h with
   |pv h=>
   cases h;obtain⟨rfl,rfl⟩:=zla he;exact .sl W [] 0 0 0 none (fun _ _=>undef) (by simp) (by simp) (Nat.zero_le _) (by simp) (by simp) (by simp)
  |sl W' es'=>
   simp only[TV.elems]at he;split at he
   ·rename_i hw;obtain rfl:=Nat.eq_of_beq_eq_true hw;cases he;cases h<;>grind
   ·cases he
  |el=>simp[TV.elems]at he
  |fn=>simp[TV.elems]at he
 |own d W' es'=>
  simp only[TV.elems]at he;split at he
  ·rename_i hw;obtain rfl:=Nat.eq_of_beq_eq_true hw;cases he;cases h<;>grind
  ·cases he
 |_=>simp[TV.elems]at he
theorem zoc{t:TV}{v:Value}{n:Nat}(h:RelT w E r t v)(he:t.slen=some n):∃p c,v=.slice p n c:=by
 cases h with
 |pv h=>
  cases h with
  |v=>
   cases v<;>simp[TV.slen]at he
   simp_all
  |sl W' es' b off cap p f hp hcap hmax hW hc' hs=>simp[TV.slen]at he;subst he;exact⟨p,cap,rfl⟩
  |_=>simp[TV.slen]at he
 |bs d off n' c C=>simp[TV.slen]at he;subst he;exact⟨_,C,rfl⟩
 |own d W' es' v h1 h2=>
  grind [TV.slen,z0L]
 |_=>simp[TV.slen]at he
theorem z7f{t:TV}{v:Value}{i:Int}(h:RelT w E r t v)(he:t.int=some i):∃k,v=.int k i:=by
 cases h with
 |pv h=>
  cases h with
  |v=>cases v<;>simp[TV.int]at he;subst he;exact⟨_,rfl⟩
  |_=>simp[TV.int]at he
 |_=>simp[TV.int]at he
theorem z58{t:TV}{v:Value}{b:ByteArray}(h:RelT w E r t v)(he:t.str=some b):v=.string b:=by
 cases h with
 |pv h=>
  cases h with
  |v=>cases v<;>simp[TV.str]at he;subst he;rfl
  |_=>simp[TV.str]at he
 |_=>grind [TV.str]
theorem RelL.splice{cs xs:List TV}{vs us:List Value}(h1:RelL w E r cs vs)(h2:RelL w E r xs us){off:Nat}(hle:off+xs.length≤cs.length):RelL w E r (splice cs off xs) (splice vs off us):=by
 have l1:=h1.len;have l2:=h2.len;refine⟨by rw[z5F hle,z5F (by omega),l1],fun j c v hc hv=> ?_,fun v hv=> ?_⟩
 ·by_cases hj:off≤j∧j<off+xs.length
  ·rw[z6H hle hj.1 hj.2]at hc;rw[z6H (by omega) hj.1 (by omega)]at hv;exact h2.at_ _ _ _ hc hv
  ·rw[z5T hle (by omega)]at hc;rw[z5T (by omega) (by omega)]at hv;exact h1.at_ _ _ _ hc hv
 ·rcases z7L hv with h|h
  ·exact h1.ones v h
  ·exact h2.ones v h
theorem RelL.drop{cs:List TV}{vs:List Value}(h:RelL w E r cs vs)(k:Nat):RelL w E r (cs.drop k) (vs.drop k):=
 ⟨by simp[h.len],fun j c v hc hv=>h.at_ (k+j) c v (by grind) (by grind),fun v hv=>h.ones v (List.mem_of_mem_drop hv)⟩
theorem RelL.take{cs:List TV}{vs:List Value}(h:RelL w E r cs vs)(k:Nat):RelL w E r (cs.take k) (vs.take k):=
 ⟨by simp[h.len],fun j c v hc hv=>by
  have hj:j<k:=by grind
  exact h.at_ j c v (by grind) (by grind),fun v hv=>h.ones v (List.mem_of_mem_take hv)⟩
theorem RelL.agg{cs:List TV}{vs:List Value}(h:RelL w E r cs vs):RelT w E r (.agg cs) (.agg vs.toArray):=.agg cs vs h.len h.at_ h.ones
theorem RelL.ofVals{vs:List Value}(h:∀v∈vs,one v):RelL w E r (vs.map fun v=> .pv (.v v)) vs:=
 ⟨by simp,fun j c v hc hv=>by simp[hv]at hc;subst hc;exact .pv (.v v),h⟩
theorem zhh{b:Nat}{cs:List TV}(h:BoxAt w E r b cs):∃vs:List Value,RelL w E r cs vs∧∀(j:Nat) v,vs[j]?=some v→w.cell? ⟨b,j,none⟩=some v:=by
 refine⟨(List.range cs.length).map fun j=>(w.cell? ⟨b,j,none⟩).getD undef,⟨by simp,fun j c v hc hv=> ?_,fun v hv=> ?_⟩,fun j v hv=> ?_⟩
 ·obtain⟨u,h1,h2,h3⟩:=h.cell j c hc;have hj:=(gJ hc).1;simp[hj,h1]at hv;subst hv;exact h3
 ·obtain⟨j,hj,rfl⟩:=List.mem_map.1 hv;have hj':j<cs.length:=by simpa using hj
  obtain⟨u,h1,h2,h3⟩:=h.cell j cs[j] (gE hj');simpa [h1]using h2
 ·have hj:j<cs.length:=by have:=(gJ hv).1;simpa using this
  obtain⟨u,h1,h2,h3⟩:=h.cell j cs[j] (gE hj);simp[hj,h1]at hv;subst hv;exact h1
theorem zcx:∀(vs:List Value) (off k:Nat) (cs:Array Value),off+k+vs.length≤cs.size→((vs.zipIdx k).foldl (fun(cs:Array Value) (cj:Value×Nat)=>cs.setIfInBounds (off+cj.2) cj.1) cs).toList=splice cs.toList (off+k) vs
 |[],off,k,cs,_=>by simp[splice]
 |v::r,off,k,cs,h=>by
  simp only[List.zipIdx_cons,List.foldl_cons];rw[zcx r off (k+1) _ (by grind)];apply List.ext_getElem?;intro j;simp only[List.length_cons]at h
  grind [z5T,z6H,Array.toList_setIfInBounds,List.getElem?_set_ne]
theorem zaG{place:Nat→Option (Nat×Nat)}:∀{parts:List (Nat×Value)} {ps:List (Nat×Nat×List TV)} {cs cs':List TV} {vs:List Value},RelL w E r cs vs→parts.length=ps.length→
  (∀(j:Nat) p q,parts[j]?=some p→ps[j]?=some q→place p.1=some (q.1,q.2.1)∧∃us:List Value,p.2.cells=us.toArray∧RelL w E r q.2.2 us)→fillT cs ps=some cs'→
  ∃vs':List Value,Instr.fill place vs.toArray parts=some vs'.toArray∧RelL w E r cs' vs'
 |[],ps,cs,cs',vs,h,hl,hp,hf=>by
  cases ps with
  |nil=>simp[fillT]at hf;subst hf;exact⟨vs,rfl,h⟩
  |cons q qs=>simp at hl
 |(i,v)::parts,ps,cs,cs',vs,h,hl,hp,hf=>by
  cases ps with
  |nil=>simp at hl
  |cons q qs=>
   obtain⟨off,size,xs⟩:=q;simp only[fillT]at hf;split at hf
   ·rename_i hc;obtain⟨h1,us,h2,h3⟩:=hp 0 (i,v) (off,size,xs) rfl rfl
    dsimp only at h1 h2 h3
    have l1:=h.len;have l2:=h3.len;obtain⟨vs',h4,h5⟩:=zaG (parts:=parts) (place:=place) (h.splice h3 (off:=off) (by omega)) (by grind) (fun j p q hj1 hj2=>hp (j+1) p q (by grind) (by grind)) hf;refine⟨vs',?_,h5⟩;simp only[Instr.fill,h1,h2];have hcond:(us.toArray.size≠size||off+us.toArray.size>vs.toArray.size)=false:=by grind
    rw[hcond];simp only[Bool.false_eq_true,if_false];have hfold:=zcx us off 0 vs.toArray (by grind);simp only[Nat.add_zero]at hfold;have:us.toArray.zipIdx.foldl (fun(cs:Array Value) (cj:Value×Nat)=>cs.setIfInBounds (off+cj.2) cj.1) vs.toArray=(splice vs off us).toArray:=by
     grind
    grind
   ·cases hf
end
end
section
structure Glob where
 G:World→Prop
 n:Nat
 st:∀w w',G w→(∀k,k<n→w'.heap[k]?=w.heap[k]?)→G w'
 le:∀w,G w→n≤w.heap.size
def z0k(os:List MO)(d:Nat):Option (List TV):=if 1000≤d then(match os[d-1000]? with|some (.box cs)=>some cs|_=>none)else none
def zx(os:List MO):Rows:=fun d=>if 1000≤d then(match os[d-1000]? with|some (.row e W n)=>some (e,W,n)|_=>none)else none
def z1W(E:Env)(os:List MO)(d b:Nat):Prop:=(∃cs,z0k os d=some cs∧E.β d=b)∨(∃q cap,zx os d=some q∧E.γ d=some (b,cap))
def start(w:World)(E:Env)(os:List MO)(N:Nat):Base:=⟨w,E.K,z1W E os,N,E,zx os,os.length,[],[],true⟩
structure Left(E:Env)(os:List MO)(E':Env)(os':List MO):Prop where
 beta:∀d,1000≤d→d<1000+os.length→E'.β d=E.β d
 gamma:∀d,1000≤d→d<1000+os.length→zx os d=none→E'.γ d=E.γ d
 row:∀d e W n,zx os d=some (e,W,n)→∃n',zx os' d=some (e,W,n')∧n≤n'∧(n=n'→E'.γ d=E.γ d)
def z3I(P:Program)(f:Nat):Prop:=∃fn body,P.funcs[f]?=some fn∧fn.body=some body∧¬fn.name= "runtime.NumGoroutine"
def SCalls(P:Program)(g:Glob)(f:Nat)(xs:List TV)(os:List MO)(y:TV)(os':List MO):Prop:=
 z3I P f∧∀(w:World) (E:Env) (vs:List Value),g.G w→MSim (start w E os 0) (z0k os) (zx os) w E→(∀d b,z1W E os d b→g.n≤b)→xs.length=vs.length→
  (∀(j:Nat) x v,xs[j]?=some x→vs[j]?=some v→RelT w E (zx os) x v)→
  Calls P f vs.toArray w fun e w'=>∃v E',e=.returned v∧MSim (start w E os 0) (z0k os') (zx os') w' E'∧RelT w' E' (zx os') y v∧Left E os E' os'
section
variable{B:Base}{s:FS}{a:Act}{w w':World}{E E':Env}{r r':Rows}{P:Program}{ρ:Nat→Option Nat}
structure RenOk(E:Env)(r:Rows)(ρ:Nat→Option Nat)(E':Env)(r':Rows):Prop where
 at_:∀d d',ρ d=some d'→E'.β d'=E.β d∧E'.γ d'=E.γ d∧∀q,r' d'=some q→r d=some q
theorem zaW(hρ:RenOk E r ρ E' r')(hk:∀b o u,E.K b o→w.cell? ⟨b,o,none⟩=some u→E'.K b o){x y:TV}{v:Value}(h:RelT w E r x v)(hx:x.ren0 ρ=some y):RelT w E' r' y v:=by
 cases h with
 |pv h=>simp only[TV.ren0]at hx;cases hx;exact .pv (h.mono fun b o u h1 h2=>⟨hk b o u h1 h2,h2⟩)
 |unk v=>simp only[TV.ren0]at hx;cases hx;exact .unk v
 |ptr d off=>
  simp only[TV.ren0]at hx;obtain⟨d',h1,rfl⟩:=gO hx;rw[←(hρ.at_ d d' h1).1];exact .ptr d' off
 |own d W es v h hr=>
  simp only[TV.ren0]at hx;cases hx;have h':RelV w E'.K (.sl W es) v:=h.mono fun b o u h1 h2=>⟨hk b o u h1 h2,h2⟩
  split
  ·rename_i d' h1;refine .own d' W es v h' (fun e W' n hn=> ?_);obtain⟨_,h2,h3⟩:=hρ.at_ d d' h1
   grind
  ·exact .pv h'
 |bs d off n c C hn hc hm=>
  simp only[TV.ren0]at hx;obtain⟨d',h1,rfl⟩:=gO hx;rw[←(hρ.at_ d d' h1).1];exact .bs d' off n c C hn hc hm
 |tsl W es p h=>simp only[TV.ren0]at hx;cases hx;exact .tsl W es p (h.mono fun b o u h1 h2=>⟨hk b o u h1 h2,h2⟩)
 |_=>simp[TV.ren0]at hx
theorem zb0{f:TV→Option TV}(hf:∀x y v,RelT w E r x v→f x=some y→RelT w E' r' y v){xs ys:List TV}{vs:List Value}(hl:xs.length=vs.length)(h:∀(j:Nat) c v,xs[j]?=some c→vs[j]?=some v→RelT w E r c v)(hs:seqO f xs=some ys):
  ys.length=vs.length∧∀(j:Nat) c v,ys[j]?=some c→vs[j]?=some v→RelT w E' r' c v:=by
 obtain⟨h1,h2⟩:=z06 hs;refine⟨by omega,fun j c v hc hv=> ?_⟩;have hj:j<xs.length:=by grind
 obtain⟨z,hz1,hz2⟩:=h2 j xs[j] (gE hj)
 grind
theorem zaY(hρ:RenOk E r ρ E' r')(hk:∀b o u,E.K b o→w.cell? ⟨b,o,none⟩=some u→E'.K b o){x y:TV}{v:Value}(h:RelT w E r x v)(hx:x.renF ρ=some y):RelT w E' r' y v:=by
 cases x with
 |fn f a b=>
  cases h with
  |fn g xs ys us vs h1 h2 r1 r2=>
  simp only[TV.renF]at hx;split at hx
  ·rename_i a' b' ha hb;cases hx;obtain⟨l1,q1⟩:=zb0 (fun _ _ _=>zaW hρ hk) h1 r1 ha;obtain⟨l2,q2⟩:=zb0 (fun _ _ _=>zaW hρ hk) h2 r2 hb;exact .fn f a' b' us vs l1 l2 q1 q2
  ·cases hx
 |_=>exact zaW hρ hk h hx
theorem znW(hρ:RenOk E r ρ E' r')(hk:∀b o u,E.K b o→w.cell? ⟨b,o,none⟩=some u→E'.K b o){x y:TV}{v:Value}(h:RelT w E r x v)(hx:x.renE ρ=some y):RelT w E' r' y v:=by
 cases x with
 |agg cs=>
  cases h with
  |agg cs vs hl h ho=>
  simp only[TV.renE]at hx;obtain⟨l,h1,rfl⟩:=gO hx;obtain⟨l1,q1⟩:=zb0 (fun _ _ _=>zaY hρ hk) hl h h1;exact .agg l vs l1 q1 ho
 |_=>exact zaY hρ hk h hx
theorem z7Z(hρ:RenOk E r ρ E' r')(hk:∀b o u,E.K b o→w.cell? ⟨b,o,none⟩=some u→E'.K b o){x y:TV}{v:Value}(h:RelT w E r x v)(hx:x.ren1 ρ=some y):RelT w E' r' y v:=by
 cases x with
 |mp ks xs=>
  cases h with
  |mp ks xs b es clock g h1 h2 h3 h4 h=>
  simp only[TV.ren1]at hx;obtain⟨l,hs,rfl⟩:=gO hx;obtain⟨l1,q1⟩:=z06 hs;refine .mp ks l b es clock g h1 h2 (by omega) h4 (fun j z hz=> ?_);have hj:j<xs.length:=by grind
  obtain⟨z',hz1,hz2⟩:=q1 j xs[j] (gE hj);rw[hz]at hz1;cases hz1;exact znW hρ hk (h j _ (gE hj)) hz2
 |_=>exact zaY hρ hk h hx
theorem z54(hρ:RenOk E r ρ E' r')(hk:∀b o u,E.K b o→w.cell? ⟨b,o,none⟩=some u→E'.K b o){x y:TV}{v:Value}(h:RelT w E r x v)(hx:x.ren2 ρ=some y):RelT w E' r' y v:=by
 cases x with
 |agg cs=>
  cases h with
  |agg cs vs hl h ho=>
  simp only[TV.ren2]at hx;obtain⟨l,h1,rfl⟩:=gO hx;obtain⟨l1,q1⟩:=zb0 (fun _ _ _=>z7Z hρ hk) hl h h1;exact .agg l vs l1 q1 ho
 |_=>exact z7Z hρ hk h hx
theorem zaX(hρ:RenOk E r ρ E' r')(hk:∀b o u,E.K b o→w.cell? ⟨b,o,none⟩=some u→E'.K b o){x y:TV}{v:Value}(h:RelT w E r x v)(hx:x.ren3 ρ=some y):RelT w E' r' y v:=by
 cases x with
 |tuple cs=>
  cases h with
  |tuple cs vs hl h=>
  simp only[TV.ren3]at hx;obtain⟨l,h1,rfl⟩:=gO hx;obtain⟨l1,q1⟩:=zb0 (fun _ _ _=>z54 hρ hk) hl h h1;exact .tuple l vs l1 q1
 |_=>exact z54 hρ hk h hx
def z3c(P:Program)(B:Base)(s':FS)(x:TV)(a:Act)(w:World)(o:Oper):Prop:=
 ∃nx v w' E',(execOp a.eval o).run P w=.ok nx w'∧(nx=.value v∨(nx=.skip∧v=undef))∧Sim B s' a w' E'∧RelT w' E' s'.r x v
theorem z5J(h:Sim B s a w E){o:Oper}{x:TV}{v:Value}(hr:(execOp a.eval o).run P w=.ok (.value v) w)(hx:RelT w E s.r x v):z3c P B s x a w o:=⟨_,v,w,E,hr,.inl rfl,h,hx⟩
theorem zaZ{m:Sem Value}{x:TV}{u:Upd}(h:z04 P m=some (x,u)):∃v,x=.pv (.v v)∧u=.no∧∀w,m.run P w=.ok v w:=by
 simp only[z04]at h
 grind [Option.map_eq_some_iff,zgU]
theorem Sim.adopt(h:Sim B s a w E){d:Nat}(hno:¬B.old d)(hf:z0I s d)(e W:Nat):∃E',E'.β=E.β∧E'.K=E.K∧E'.γ d=none∧Sim B (s.setR d (e,W,0)) a w E'∧∀x v,¬Ment d x→RelT w E s.r x v→RelT w E' (s.setR d (e,W,0)).r x v:=by
 obtain⟨hf1,hf2,hf3,_⟩:=hf;let E':Env:={ E with γ:=fun j=>if j=d then none else E.γ j }
 have hm:∀x v,¬Ment d x→RelT w E s.r x v→RelT w E' (s.setR d (e,W,0)).r x v:=by
  intro x v hx hrel;refine hrel.mono (fun b o u h1 h2=>⟨h1,h2⟩) (fun _ _=>⟨rfl,rfl⟩) (fun d' e' W' n hd' h1=> ?_) (.refl _);have hne:d'≠d:=by grind
  simp only[FS.setR,zcN _ _ hne]at h1
  grind
 have hne:∀{d':Nat} {q:Nat×Nat×Nat},s.r d'=some q→d'≠d:=by grind
 have hr':∀{d':Nat} {q:Nat×Nat×Nat},(s.setR d (e,W,0)).r d'=some q→(d'=d∧q=(e,W,0))∨s.r d'=some q:=by
  intro d' q h1;rcases z0f h1 with h2|⟨_,h2⟩<;>grind
 have hg:E'.γ d=none:=by simp[E']
 have hg':∀{d':Nat},d'≠d→E'.γ d'=E.γ d':=fun hd=>by simp[E',hd]
 refine⟨E',rfl,rfl,hg,⟨h.defers,h.size,fun k x hx=>⟨(h.tmp k x hx).1,hm _ _ (fun hd=>hf1 (.inl ⟨k,x,hx,hd⟩)) (h.tmp k x hx).2⟩,⟨fun d' cs hd=> ?_,fun d' e' W' n hd=> ?_,h.mem.bb,fun d1 d2 c q b cap h1 h2 h3=> ?_,fun d1 d2 q q' b c1 c2 h1 h2 h3 h4=> ?_,h.mem.lt,h.mem.low,h.mem.keep,h.mem.knew,⟨h.mem.pas.β,fun d' ho h0=>by rw[hg' (fun e=>hno (e▸ho))];exact h.mem.pas.γ d' ho h0,fun d' e' W' n ho hd=> ?_⟩⟩,h.itr,h.ii⟩,hm⟩
 ·obtain⟨h1,h2⟩:=h.mem.box d' cs hd;refine⟨⟨h1.lt,h1.obj,h1.fz,fun j c hc=> ?_,h1.out⟩,h2⟩;obtain⟨v,c1,c2,c3⟩:=h1.cell j c hc;exact⟨v,c1,c2,hm _ _ (fun hd'=>hf1 (.inr ⟨d',cs,c,hd,gM hc,hd'⟩)) c3⟩
 ·rcases hr' hd with⟨rfl,h2⟩|h1
  ·grind
  ·rw[hg' (hne h1)];rcases h.mem.row d' e' W' n h1 with h2|⟨b,cap,h2,h3,h4⟩
   ·grind
   ·exact .inr ⟨b,cap,h2,h3,h4.cells,h4.le,h4.max,h4.out⟩
 ·rcases hr' h2 with⟨rfl,_⟩|h2
  ·grind
  ·rw[hg' (hne h2)]at h3;exact h.mem.br d1 d2 c q b cap h1 h2 h3
 ·rcases hr' h1 with⟨rfl,_⟩|h1
  ·grind
  ·rcases hr' h2 with⟨rfl,_⟩|h2
   ·grind
   ·rw[hg' (hne h1)]at h3;rw[hg' (hne h2)]at h4;exact h.mem.rr d1 d2 q q' b c1 c2 h1 h2 h3 h4
 ·rcases hr' hd with⟨rfl,_⟩|h1
  ·grind
  ·rw[hg' (hne h1)];exact h.mem.pas.row d' e' W' n ho h1
theorem zhI{W:Nat}{es:List (List PV)}{v:Value}(hW:0<W)(h:RelV w E.K (.sl W es) v):∃(news:List Value) (f:Nat→Nat→Value),News w E.K W es news f∧news.length=es.length*W∧(∀u∈news,one u)∧
  ∃p cap,v=.slice p es.length cap∧(es=[]∨∃ad,p=some ad∧∀(j:Nat) u,news[j]?=some u→w.cell? (ad.add j)=some u):=by
 obtain⟨b,off,cap,p,f,rfl,hp,hcap,hmax,hWs,hc⟩:=z0L h;let news:List Value:=(List.range (es.length*W)).map fun q=>f (q / W) (q%W)
 have hget:∀(q:Nat) u,news[q]?=some u→q<es.length*W∧u=f (q / W) (q%W)∧∃cs c,es[q / W]?=some cs∧cs[q%W]?=some c:=by
  intro q u hq;have hlt:q<es.length*W:=by grind
  simp[news,hlt]at hq;have hi:q / W<es.length:=Nat.div_lt_of_lt_mul (by rw[Nat.mul_comm];exact hlt);have hcl:=hWs es[q / W] (List.getElem_mem hi);have hj:q%W<(es[q / W]).length:=by rw[hcl];exact Nat.mod_lt _ hW
  simp_all
 have hdm:∀q,q / W*W+q%W=q:=fun q=>by rw[Nat.mul_comm];exact Nat.div_add_mod q W
 refine⟨news,f,⟨hWs,fun i j cs c h1 h2=> ?_⟩,by simp[news],fun u hu=> ?_,p,cap,rfl,?_⟩
 ·have hi:i<es.length:=(gJ h1).1
  grind [z4w]
 ·grind [List.getElem?_of_mem]
 ·by_cases he:es=[]
  ·grind
  ·refine .inr ⟨⟨b,off,none⟩,hp he,fun j u hu=> ?_⟩;obtain⟨_,rfl,cs,c,h1,h2⟩:=hget j u hu;rw[Addr.add_mid,show off+j=off+j / W*W+j%W by rw[Nat.add_assoc,hdm]]
   grind
theorem zc7{W:Nat}{es:List (List PV)}{v:Value}(hW:0<W)(h:RelV w E.K (.sl W es) v){tx e':TypeId}(htx:P.underlying tx=some (.slice e')):∃(news:List Value) (f:Nat→Nat→Value),News w E.K W es news f∧Src P W tx v es.length news w:=by
 obtain⟨news,f,h1,h2,h3,p,cap,rfl,h4⟩:=zhI hW h;refine⟨news,f,h1,?_⟩;rcases h4 with rfl|⟨ad,rfl,h4⟩
 ·have:news=[]:=List.eq_nil_of_length_eq_zero (by simpa using h2);subst this;cases p with
  |none=>exact Src.ofNil w htx cap
  |some ad=>exact Src.ofSlice w htx ad 0 cap [] (by simp) (by simp) (by simp)
 ·exact Src.ofSlice w htx ad es.length cap news h2 h4 h3
theorem zi3{tx:TypeId}(b:ByteArray)(htx:P.underlying tx=some .string):∃(news:List Value) (f:Nat→Nat→Value),News w E.K 1 (z1t b) news f∧Src P 1 tx (.string b) (z1t b).length news w:=by
 have hl:(z1t b).length=b.size:=by unfold z1t;rw[List.length_map,Array.length_toList];rfl
 refine⟨byteCells b,fun i _=>(byteCells b).getD i undef,⟨fun cs hcs=> ?_,fun i j cs c h1 h2=> ?_⟩,by rw[hl];exact Src.ofString w htx b⟩
 ·grind [z1t]
 ·simp only[z1t,List.getElem?_map]at h1;obtain⟨u,hu,rfl⟩:=gO h1;cases j with
  |succ j=>simp at h2
  |zero=>
   simp at h2;subst h2;have:(byteCells b)[i]?=some (.int .u8 u.toNat):=by simp only[byteCells,List.getElem?_map];rw[hu];rfl
   have hget:(byteCells b).getD i undef=.int .u8 u.toNat:=by grind
   rw[Nat.mul_one,Nat.add_zero,hget];exact⟨this,rfl,.v _⟩
end
end
section
section
variable{B:Base}{s:FS}{a:Act}{w w':World}{E E':Env}{P:Program}{I:List Nat}
theorem z3s:∀{I:List Nat} {d j:Nat},pos I d=some j→I[j]?=some d
 |[],_,_,h=>by simp[pos]at h
 |x::l,d,j,h=>by
  simp only[pos]at h;split at h
  ·grind [Nat.eq_of_beq_eq_true]
  ·obtain⟨i,h1,rfl⟩:=gO h;simpa using z3s h1
theorem z7T:∀{I:List Nat} {d:Nat},pos I d=none→d∉I
 |[],_,_=>by simp
 |x::l,d,h=>by
  simp only[pos]at h;split at h
  ·cases h
  ·rename_i hx;have:pos l d=none:=by simp_all
   have hne:d≠x:=by grind [Nat.beq_refl]
   simp[hne,z7T this]
theorem z4k{I:List Nat}(hI:I.Nodup){d j:Nat}(h:I[j]?=some d):pos I d=some j:=by
 cases hp:pos I d with
 |none=>exact absurd (gM h) (z7T hp)
 |some i=>
  have hi:=z3s hp
  grind [List.getElem?_eq_some_iff,List.getElem_inj]
theorem z7k{os:List MO}{j:Nat}{cs:List TV}(h:os[j]?=some (.box cs)):z0k os (1000+j)=some cs:=by simp[z0k,h]
theorem z2d{os:List MO}{j e W n:Nat}(h:os[j]?=some (.row e W n)):zx os (1000+j)=some (e,W,n):=by simp[zx,h]
theorem z2s{os:List MO}{d:Nat}{cs:List TV}(h:z0k os d=some cs):∃j,d=1000+j∧os[j]?=some (.box cs):=by
 grind [z0k]
theorem z0V{os:List MO}{d e W n:Nat}(h:zx os d=some (e,W,n)):∃j,d=1000+j∧os[j]?=some (.row e W n):=by
 grind [zx]
def zz(E:Env)(I:List Nat):Env:={ K:=E.K,β:=fun d=>E.β (I.getD (d-1000) 0),γ:=fun d=>E.γ (I.getD (d-1000) 0),ι:=E.ι }
theorem z4v{os:List MO}(hos:seqO (fun d=>(s.mo d).bind (MO.ren (rhoIn I))) I=some os):
  I.length=os.length∧(∀(j:Nat) cs',os[j]?=some (MO.box cs')→∃i cs,I[j]?=some i∧s.b i=some cs∧seqO (TV.ren1 (rhoIn I)) cs=some cs'∧s.r i=none)∧(∀(j e W n:Nat),os[j]?=some (MO.row e W n)→∃i,I[j]?=some i∧s.b i=none∧s.r i=some (e,W,n)):=by
 obtain⟨h1,h2⟩:=z06 hos;have key:∀(j:Nat) m,os[j]?=some m→∃i,I[j]?=some i∧(s.mo i).bind (MO.ren (rhoIn I))=some m:=by
  intro j m hm;have hj:j<I.length:=by grind
  obtain⟨y,hy1,hy2⟩:=h2 j I[j] (gE hj)
  grind
 refine⟨h1,fun j cs' hm=> ?_,fun j e W n hm=> ?_⟩
 ·obtain⟨i,hi,h3⟩:=key j _ hm;obtain⟨m,h4,h5⟩:=gB h3;unfold FS.mo at h4;split at h4
  ·rename_i cs hcs hrn;cases h4;simp only[MO.ren]at h5;simp_all
  ·grind [MO.ren]
  ·cases h4
 ·obtain⟨i,hi,h3⟩:=key j _ hm;obtain⟨m,h4,h5⟩:=gB h3;unfold FS.mo at h4;split at h4
  ·cases h4;simp only[MO.ren]at h5;simp_all
  ·rename_i hb hr;cases h4;simp only[MO.ren]at h5;cases h5
   grind
  ·cases h4
theorem getD_of{I:List Nat}{j i:Nat}(h:I[j]?=some i):I.getD (1000+j-1000) 0=i:=by
 grind
theorem z9S{os:List MO}(hos:seqO (fun d=>(s.mo d).bind (MO.ren (rhoIn I))) I=some os):RenOk E s.r (rhoIn I) (zz E I) (zx os):=by
 obtain⟨_,_,h3⟩:=z4v hos;refine⟨fun d d' hd=> ?_⟩;obtain⟨j,h1,rfl⟩:=gO hd;have hi:=z3s h1;refine⟨by simp only[zz];rw[getD_of hi],by simp only[zz];rw[getD_of hi],fun q hq=> ?_⟩
 grind [z0V]
theorem z4N(h:Sim B s a w E)(hI:I.Nodup){os:List MO}(hos:seqO (fun d=>(s.mo d).bind (MO.ren (rhoIn I))) I=some os):
  MSim (start w (zz E I) os 0) (z0k os) (zx os) w (zz E I):=by
 obtain⟨h1,h2,h3⟩:=z4v hos;have hρ:RenOk E s.r (rhoIn I) (zz E I) (zx os):=z9S hos;have hb:∀d cs',z0k os d=some cs'→∃j i cs,d=1000+j∧I[j]?=some i∧s.b i=some cs∧seqO (TV.ren1 (rhoIn I)) cs=some cs'∧(zz E I).β d=E.β i:=by
  intro d cs' hd;obtain⟨j,rfl,hj⟩:=z2s hd;obtain⟨i,cs,q1,q2,q3,_⟩:=h2 j cs' hj;exact⟨j,i,cs,rfl,q1,q2,q3,by simp only[zz];rw[getD_of q1]⟩
 have hr:∀d e W n,zx os d=some (e,W,n)→∃j i,d=1000+j∧I[j]?=some i∧s.r i=some (e,W,n)∧(zz E I).γ d=E.γ i:=by
  intro d e W n hd;obtain⟨j,rfl,hj⟩:=z0V hd;obtain⟨i,q1,q2,q3⟩:=h3 j e W n hj;exact⟨j,i,rfl,q1,q3,by simp only[zz];rw[getD_of q1]⟩
 have inj:∀{j j' i:Nat},I[j]?=some i→I[j']?=some i→j=j':=fun {j j' i} q1 q2=>by
  have a1:=z4k hI q1;have a2:=z4k hI q2
  grind
 refine⟨fun d cs' hd=> ?_,fun d e W n hd=> ?_,fun d d' cs cs' e1 e2 e3=> ?_,fun d d' cs q k cap e1 e2 e3=> ?_,fun d d' q q' k cap cap' e1 e2 e3 e4=> ?_,h.mem.lt,⟨rfl,rfl,rfl,Nat.le_refl _,fun _ _ _=>rfl⟩,fun k o u e1 e2=>⟨e1,e2⟩,fun k o e1=> .inl e1,⟨fun _ _=>rfl,fun _ _ _=>rfl,fun d e W n _ hd=>⟨n,hd,Nat.le_refl _,fun _=>rfl⟩⟩⟩
 ·obtain⟨j,i,cs,rfl,q1,q2,q3,q4⟩:=hb d cs' hd;refine⟨?_,.inr (.inl ⟨cs',hd,rfl⟩)⟩;rw[q4];obtain⟨b1,_⟩:=h.mem.box i cs q2;refine⟨b1.lt,b1.obj,b1.fz,fun m c hc=> ?_,b1.out⟩;obtain⟨l1,l2⟩:=z06 q3;have hm:m<cs.length:=by grind
  obtain⟨z,z1,z2⟩:=l2 m cs[m] (gE hm);rw[hc]at z1;cases z1;obtain⟨v,c1,c2,c3⟩:=b1.cell m cs[m] (gE hm);exact⟨v,c1,c2,z7Z hρ (fun _ _ _ h _=>h) c3 z2⟩
 ·obtain⟨j,i,rfl,q1,q2,q3⟩:=hr d e W n hd;rw[q3];rcases h.mem.row i e W n q2 with h4|⟨k,cap,h4,h5,h6⟩
  ·grind
  ·exact .inr ⟨k,cap,h4,.inr (.inr ⟨_,cap,hd,by rw[q3];exact h4⟩),h6.cells,h6.le,h6.max,h6.out⟩
 ·obtain⟨j,i,c1,rfl,q1,q2,q3,q4⟩:=hb d cs e1;obtain⟨j',i',c1',rfl,q1',q2',q3',q4'⟩:=hb d' cs' e2;rw[q4,q4']at e3;obtain rfl:=h.mem.bb i i' _ _ q2 q2' e3
  grind
 ·obtain⟨j,i,c1,rfl,q1,q2,q3,q4⟩:=hb d cs e1;obtain⟨e,W,n⟩:=q;obtain⟨j',i',rfl,q1',q2',q3'⟩:=hr d' e W n e2;rw[q4];rw[q3']at e3;exact h.mem.br i i' _ _ k cap q2 q2' e3
 ·obtain⟨e,W,n⟩:=q;obtain⟨e',W',n'⟩:=q';obtain⟨j,i,rfl,q1,q2,q3⟩:=hr d e W n e1;obtain⟨j',i',rfl,q1',q2',q3'⟩:=hr d' e' W' n' e2;rw[q3]at e3;rw[q3']at e4;obtain rfl:=h.mem.rr i i' _ _ k cap cap' q2 q2' e3 e4
  grind
def z5O(k i:Nat):Option Nat:=if i=newId k 0 then some 0 else if i=newId k 1 then some 1 else if i=newId k 2 then some 2 else if i=newId k 3 then some 3 else none
theorem znv{k q:Nat}(h:q<4):z5O k (newId k q)=some q:=by
 match q,h with
 |0,_=>simp[z5O,newId]
 |1,_=>simp[z5O,newId]
 |2,_=>simp[z5O,newId]
 |3,_=>simp[z5O,newId]
theorem z7O{k i q:Nat}(h:z5O k i=some q):i=newId k q∧q<4:=by
 grind [z5O]
def z1r(I:List Nat)(k i:Nat):Option Nat:=match pos I i with|some j=>some (1000+j)|none=>(z5O k i).map (1000+I.length+·)
def z0T(E E':Env)(I:List Nat)(k:Nat):Env:={ K:=E'.K,β:=fun i=>match z1r I k i with|some d=>E'.β d|none=>E.β i,γ:=fun i=>match z1r I k i with|some d=>E'.γ d|none=>E.γ i,ι:=E.ι }
theorem zmr(hI:I.Nodup){k d i:Nat}(hn:∀q<4,newId k q∉I)(h:rhoOut I k d=some i):z1r I k i=some d:=by
 unfold rhoOut at h;split at h
 ·rename_i h1;have h1:=Nat.le_of_ble_eq_true h1;split at h
  ·rename_i x hx;cases h;unfold z1r;rw[z4k hI hx]
   grind
  ·rename_i hx;split at h
   ·rename_i hq;rw[Nat.blt_eq]at hq;cases h;have hl:I.length≤d-1000:=by grind
    unfold z1r;cases hp:pos I (newId k (d-1000-I.length))with
    |some j=>exact absurd (gM (z3s hp)) (hn _ hq)
    |none=>simp only[znv hq,Option.map_some];congr 1;omega
   ·cases h
 ·cases h
theorem z7S{k d i:Nat}(h:z1r I k i=some d):rhoOut I k d=some i∧1000≤d:=by
 unfold z1r at h;split at h
 ·grind [z3s,rhoOut,Nat.ble_eq_true_of_le,Nat.add_sub_cancel_left]
 ·obtain⟨q,h1,rfl⟩:=gO h;obtain⟨rfl,hq⟩:=z7O h1;refine⟨?_,by omega⟩;unfold rhoOut;rw[if_pos (Nat.ble_eq_true_of_le (by omega)),List.getElem?_eq_none (by omega)];simp only;have e:1000+I.length+q-1000-I.length=q:=by omega
  simp_all
theorem z6D{ρ:Nat→Option Nat}:∀{l:List MO} {j:Nat} {us:List (Nat×MO)},outs ρ j l=some us→(∀i m',us.lookup i=some m'→∃(q:Nat) (m:MO),l[q]?=some m∧ρ (1000+(j+q))=some i∧m.ren ρ=some m')∧(∀(q:Nat) m,l[q]?=some m→∃i m',ρ (1000+(j+q))=some i∧m.ren ρ=some m'∧(i,m')∈us)
 |[],j,us,h=>by simp[outs]at h;subst h;exact⟨fun i m' h=>by simp at h,fun q m h=>by simp at h⟩
 |m::l,j,us,h=>by
  simp only[outs]at h;split at h
  ·rename_i i m' r h1 h2 h3;cases h;obtain⟨q1,q2⟩:=z6D h3;refine⟨fun x y hx=> ?_,fun q y hy=> ?_⟩
   ·simp only[List.lookup]at hx;split at hx
    ·rename_i he;cases hx;obtain rfl:x=i:=by grind
     exact⟨0,m,rfl,h1,h2⟩
    ·obtain⟨q,m0,a1,a2,a3⟩:=q1 x y hx;exact⟨q+1,m0,by simpa using a1,by rw[←a2];congr 2;omega,a3⟩
   ·grind
  ·cases h
theorem ze4{us:List (Nat×MO)}{i:Nat}{m:MO}(h:(i,m)∈us):∃m',us.lookup i=some m':=by
 induction us with
 |nil=>simp at h
 |cons p l ih=>
  obtain⟨x,y⟩:=p;simp only[List.lookup];cases he:(i==x)<;>grind
theorem z5p:∀{os os':List MO},moOk os os'=true→os'.length≤os.length+4∧os.length≤os'.length∧(∀(j:Nat) cs,os[j]?=some (MO.box cs)→∃cs',os'[j]?=some (MO.box cs'))∧(∀(j e W n:Nat),os[j]?=some (MO.row e W n)→∃n',os'[j]?=some (MO.row e W n')∧n≤n')
 |[],l,h=>by simp only[moOk]at h;have:=Nat.le_of_ble_eq_true h;exact⟨by simpa using this,by simp,by simp,by simp⟩
 | .box c::l,[],h=>by simp[moOk]at h
 | .box c::l,.row _ _ _::l',h=>by simp[moOk]at h
 | .row _ _ _::l,[],h=>by simp[moOk]at h
 | .row _ _ _::l,.box _::l',h=>by simp[moOk]at h
 | .box c::l,.box c'::l',h=>by
  simp only[moOk]at h;obtain⟨a1,a2,a3,a4⟩:=z5p h;refine⟨by simp;omega,by simp;omega,fun j cs hj=> ?_,fun j e W n hj=> ?_⟩
  ·cases j with
   |zero=>exact⟨c',rfl⟩
   |succ j=>simpa using a3 j cs (by simpa using hj)
  ·cases j with
   |zero=>simp at hj
   |succ j=>simpa using a4 j e W n (by simpa using hj)
 | .row e0 W0 n0::l,.row e1 W1 n1::l',h=>by
  simp only[moOk,Bool.and_eq_true]at h;obtain⟨⟨⟨b1,b2⟩,b3⟩,h⟩:=h;obtain⟨a1,a2,a3,a4⟩:=z5p h;obtain rfl:=Nat.eq_of_beq_eq_true b1;obtain rfl:=Nat.eq_of_beq_eq_true b2;have b3:=Nat.le_of_ble_eq_true b3;refine⟨by simp;omega,by simp;omega,fun j cs hj=> ?_,fun j e W n hj=> ?_⟩
  ·cases j with
   |zero=>simp at hj
   |succ j=>simpa using a3 j cs (by simpa using hj)
  ·cases j with
   |zero=>simp at hj;obtain⟨rfl,rfl,rfl⟩:=hj;exact⟨n1,rfl,b3⟩
   |succ j=>simpa using a4 j e W n (by simpa using hj)
end
end
end Go.Sh
end
