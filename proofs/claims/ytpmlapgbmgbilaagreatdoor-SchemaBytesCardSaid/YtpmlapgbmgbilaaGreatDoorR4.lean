/- Merged texts: S6 S7 S8. No statement of the program is proved here. -/
import Derived.Test.YtpmlapgbmgbilaaGreatDoorR3
set_option linter.unusedSimpArgs false
set_option linter.unusedVariables false
set_option maxRecDepth 100000
set_option maxHeartbeats 8000000
section
namespace Go.Sh
open Go Go.RowKit
section
structure Glob where
 G:World→Prop
 n:Nat
 st:∀w w',G w→(∀k,k<n→w'.heap[k]?=w.heap[k]?)→G w'
 le:∀w,G w→n≤w.heap.size
def z0q(os:List MO)(d:Nat):Option (List TV):=if 1000≤d then(match os[d-1000]? with|some (.box cs)=>some cs|_=>none)else none
def zA(os:List MO):Rows:=fun d=>if 1000≤d then(match os[d-1000]? with|some (.row e W n)=>some (e,W,n)|_=>none)else none
def z2j(E:Env)(os:List MO)(d b:Nat):Prop:=(∃cs,z0q os d=some cs∧E.β d=b)∨(∃q cap,zA os d=some q∧E.γ d=some (b,cap))
def start(w:World)(E:Env)(os:List MO)(N:Nat):Base:=⟨w,E.K,z2j E os,N,E,zA os,os.length,[],[],true⟩
structure Left(E:Env)(os:List MO)(E':Env)(os':List MO):Prop where
 beta:∀d,1000≤d→d<1000+os.length→E'.β d=E.β d
 gamma:∀d,1000≤d→d<1000+os.length→zA os d=none→E'.γ d=E.γ d
 row:∀d e W n,zA os d=some (e,W,n)→∃n',zA os' d=some (e,W,n')∧n≤n'∧(n=n'→E'.γ d=E.γ d)
def z4Y(P:Program)(f:Nat):Prop:=∃fn body,P.funcs[f]?=some fn∧fn.body=some body∧¬fn.name= "runtime.NumGoroutine"
def SCalls(P:Program)(g:Glob)(f:Nat)(xs:List TV)(os:List MO)(y:TV)(os':List MO):Prop:=
 z4Y P f∧∀(w:World) (E:Env) (vs:List Value),g.G w→MSim (start w E os 0) (z0q os) (zA os) w E→(∀d b,z2j E os d b→g.n≤b)→xs.length=vs.length→
  (∀(j:Nat) x v,xs[j]?=some x→vs[j]?=some v→RelT w E (zA os) x v)→
  Calls P f vs.toArray w fun e w'=>∃v E',e=.returned v∧MSim (start w E os 0) (z0q os') (zA os') w' E'∧RelT w' E' (zA os') y v∧Left E os E' os'
section
variable{B:Base}{s:FS}{a:Act}{w w':World}{E E':Env}{r r':Rows}{P:Program}{ρ:Nat→Option Nat}
structure RenOk(E:Env)(r:Rows)(ρ:Nat→Option Nat)(E':Env)(r':Rows):Prop where
 at_:∀d d',ρ d=some d'→E'.β d'=E.β d∧E'.γ d'=E.γ d∧∀q,r' d'=some q→r d=some q
theorem zb4(hρ:RenOk E r ρ E' r')(hk:∀b o u,E.K b o→w.cell? ⟨b,o,none⟩=some u→E'.K b o){x y:TV}{v:Value}(h:RelT w E r x v)(hx:x.ren0 ρ=some y):RelT w E' r' y v:=by
 cases h with
 |pv h=>simp only[TV.ren0]at hx;cases hx;exact .pv (h.mono fun b o u h1 h2=>⟨hk b o u h1 h2,h2⟩)
 |unk v=>simp only[TV.ren0]at hx;cases hx;exact .unk v
 |ptr d off=>
  simp only[TV.ren0]at hx;obtain⟨d',h1,rfl⟩:=gO hx;rw[←(hρ.at_ d d' h1).1];exact .ptr d' off
 |own d W es v h hr=>
  simp only[TV.ren0]at hx;cases hx;have h':RelV w E'.K (.sl W es) v:=h.mono fun b o u h1 h2=>⟨hk b o u h1 h2,h2⟩
  split
  ·rename_i d' h1;refine .own d' W es v h' (fun e W' n hn=> ?_);obtain⟨_,h2,h3⟩:=hρ.at_ d d' h1
   grind
  ·exact .pv h'
 |bs d off n c C hn hc hm=>
  simp only[TV.ren0]at hx;obtain⟨d',h1,rfl⟩:=gO hx;rw[←(hρ.at_ d d' h1).1];exact .bs d' off n c C hn hc hm
 |tsl W es p h=>simp only[TV.ren0]at hx;cases hx;exact .tsl W es p (h.mono fun b o u h1 h2=>⟨hk b o u h1 h2,h2⟩)
 |_=>simp[TV.ren0]at hx
theorem zb9{f:TV→Option TV}(hf:∀x y v,RelT w E r x v→f x=some y→RelT w E' r' y v){xs ys:List TV}{vs:List Value}(hl:xs.length=vs.length)(h:∀(j:Nat) c v,xs[j]?=some c→vs[j]?=some v→RelT w E r c v)(hs:seqO f xs=some ys):
  ys.length=vs.length∧∀(j:Nat) c v,ys[j]?=some c→vs[j]?=some v→RelT w E' r' c v:=by
 obtain⟨h1,h2⟩:=z00 hs;refine⟨by omega,fun j c v hc hv=> ?_⟩;have hj:j<xs.length:=by grind
 obtain⟨z,hz1,hz2⟩:=h2 j xs[j] (gE hj)
 grind
theorem zb6(hρ:RenOk E r ρ E' r')(hk:∀b o u,E.K b o→w.cell? ⟨b,o,none⟩=some u→E'.K b o){x y:TV}{v:Value}(h:RelT w E r x v)(hx:x.renF ρ=some y):RelT w E' r' y v:=by
 cases x with
 |fn f a b=>
  cases h with
  |fn g xs ys us vs h1 h2 r1 r2=>
  simp only[TV.renF]at hx;split at hx
  ·rename_i a' b' ha hb;cases hx;obtain⟨l1,q1⟩:=zb9 (fun _ _ _=>zb4 hρ hk) h1 r1 ha;obtain⟨l2,q2⟩:=zb9 (fun _ _ _=>zb4 hρ hk) h2 r2 hb;exact .fn f a' b' us vs l1 l2 q1 q2
  ·cases hx
 |_=>exact zb4 hρ hk h hx
theorem zop(hρ:RenOk E r ρ E' r')(hk:∀b o u,E.K b o→w.cell? ⟨b,o,none⟩=some u→E'.K b o){x y:TV}{v:Value}(h:RelT w E r x v)(hx:x.renE ρ=some y):RelT w E' r' y v:=by
 cases x with
 |agg cs=>
  cases h with
  |agg cs vs hl h ho=>
  simp only[TV.renE]at hx;obtain⟨l,h1,rfl⟩:=gO hx;obtain⟨l1,q1⟩:=zb9 (fun _ _ _=>zb6 hρ hk) hl h h1;exact .agg l vs l1 q1 ho
 |_=>exact zb6 hρ hk h hx
theorem z83(hρ:RenOk E r ρ E' r')(hk:∀b o u,E.K b o→w.cell? ⟨b,o,none⟩=some u→E'.K b o){x y:TV}{v:Value}(h:RelT w E r x v)(hx:x.ren1 ρ=some y):RelT w E' r' y v:=by
 cases x with
 |mp ks xs=>
  cases h with
  |mp ks xs b es clock g h1 h2 h3 h4 h=>
  simp only[TV.ren1]at hx;obtain⟨l,hs,rfl⟩:=gO hx;obtain⟨l1,q1⟩:=z00 hs;refine .mp ks l b es clock g h1 h2 (by omega) h4 (fun j z hz=> ?_);have hj:j<xs.length:=by grind
  obtain⟨z',hz1,hz2⟩:=q1 j xs[j] (gE hj);rw[hz]at hz1;cases hz1;exact zop hρ hk (h j _ (gE hj)) hz2
 |_=>exact zb6 hρ hk h hx
theorem z56(hρ:RenOk E r ρ E' r')(hk:∀b o u,E.K b o→w.cell? ⟨b,o,none⟩=some u→E'.K b o){x y:TV}{v:Value}(h:RelT w E r x v)(hx:x.ren2 ρ=some y):RelT w E' r' y v:=by
 cases x with
 |agg cs=>
  cases h with
  |agg cs vs hl h ho=>
  simp only[TV.ren2]at hx;obtain⟨l,h1,rfl⟩:=gO hx;obtain⟨l1,q1⟩:=zb9 (fun _ _ _=>z83 hρ hk) hl h h1;exact .agg l vs l1 q1 ho
 |_=>exact z83 hρ hk h hx
theorem zb5(hρ:RenOk E r ρ E' r')(hk:∀b o u,E.K b o→w.cell? ⟨b,o,none⟩=some u→E'.K b o){x y:TV}{v:Value}(h:RelT w E r x v)(hx:x.ren3 ρ=some y):RelT w E' r' y v:=by
 cases x with
 |tuple cs=>
  cases h with
  |tuple cs vs hl h=>
  simp only[TV.ren3]at hx;obtain⟨l,h1,rfl⟩:=gO hx;obtain⟨l1,q1⟩:=zb9 (fun _ _ _=>z56 hρ hk) hl h h1;exact .tuple l vs l1 q1
 |_=>exact z56 hρ hk h hx
def z2U(P:Program)(B:Base)(s':FS)(x:TV)(a:Act)(w:World)(o:Oper):Prop:=
 ∃nx v w' E',(execOp a.eval o).run P w=.ok nx w'∧(nx=.value v∨(nx=.skip∧v=undef))∧Sim B s' a w' E'∧RelT w' E' s'.r x v
theorem z5H(h:Sim B s a w E){o:Oper}{x:TV}{v:Value}(hr:(execOp a.eval o).run P w=.ok (.value v) w)(hx:RelT w E s.r x v):z2U P B s x a w o:=⟨_,v,w,E,hr,.inl rfl,h,hx⟩
theorem zb8{m:Sem Value}{x:TV}{u:Upd}(h:z05 P m=some (x,u)):∃v,x=.pv (.v v)∧u=.no∧∀w,m.run P w=.ok v w:=by
 simp only[z05]at h
 grind [Option.map_eq_some_iff,zh2]
theorem Sim.adopt(h:Sim B s a w E){d:Nat}(hno:¬B.old d)(hf:z0y s d)(e W:Nat):∃E',E'.β=E.β∧E'.K=E.K∧E'.γ d=none∧Sim B (s.setR d (e,W,0)) a w E'∧∀x v,¬Ment d x→RelT w E s.r x v→RelT w E' (s.setR d (e,W,0)).r x v:=by
 obtain⟨hf1,hf2,hf3,_⟩:=hf;let E':Env:={ E with γ:=fun j=>if j=d then none else E.γ j }
 have hm:∀x v,¬Ment d x→RelT w E s.r x v→RelT w E' (s.setR d (e,W,0)).r x v:=by
  intro x v hx hrel;refine hrel.mono (fun b o u h1 h2=>⟨h1,h2⟩) (fun _ _=>⟨rfl,rfl⟩) (fun d' e' W' n hd' h1=> ?_) (.refl _);have hne:d'≠d:=by grind
  simp only[FS.setR,zcW _ _ hne]at h1
  grind
 have hne:∀{d':Nat} {q:Nat×Nat×Nat},s.r d'=some q→d'≠d:=by grind
 have hr':∀{d':Nat} {q:Nat×Nat×Nat},(s.setR d (e,W,0)).r d'=some q→(d'=d∧q=(e,W,0))∨s.r d'=some q:=by
  intro d' q h1;rcases z0d h1 with h2|⟨_,h2⟩<;>grind
 have hg:E'.γ d=none:=by simp[E']
 have hg':∀{d':Nat},d'≠d→E'.γ d'=E.γ d':=fun hd=>by simp[E',hd]
 refine⟨E',rfl,rfl,hg,⟨h.defers,h.size,fun k x hx=>⟨(h.tmp k x hx).1,hm _ _ (fun hd=>hf1 (.inl ⟨k,x,hx,hd⟩)) (h.tmp k x hx).2⟩,⟨fun d' cs hd=> ?_,fun d' e' W' n hd=> ?_,h.mem.bb,fun d1 d2 c q b cap h1 h2 h3=> ?_,fun d1 d2 q q' b c1 c2 h1 h2 h3 h4=> ?_,h.mem.lt,h.mem.low,h.mem.keep,h.mem.knew,⟨h.mem.pas.β,fun d' ho h0=>by rw[hg' (fun e=>hno (e▸ho))];exact h.mem.pas.γ d' ho h0,fun d' e' W' n ho hd=> ?_⟩⟩,h.itr,h.ii⟩,hm⟩
 ·obtain⟨h1,h2⟩:=h.mem.box d' cs hd;refine⟨⟨h1.lt,h1.obj,h1.fz,fun j c hc=> ?_,h1.out⟩,h2⟩;obtain⟨v,c1,c2,c3⟩:=h1.cell j c hc;exact⟨v,c1,c2,hm _ _ (fun hd'=>hf1 (.inr ⟨d',cs,c,hd,gM hc,hd'⟩)) c3⟩
 ·rcases hr' hd with⟨rfl,h2⟩|h1
  ·grind
  ·rw[hg' (hne h1)];rcases h.mem.row d' e' W' n h1 with h2|⟨b,cap,h2,h3,h4⟩
   ·grind
   ·exact .inr ⟨b,cap,h2,h3,h4.cells,h4.le,h4.max,h4.out⟩
 ·rcases hr' h2 with⟨rfl,_⟩|h2
  ·grind
  ·rw[hg' (hne h2)]at h3;exact h.mem.br d1 d2 c q b cap h1 h2 h3
 ·rcases hr' h1 with⟨rfl,_⟩|h1
  ·grind
  ·rcases hr' h2 with⟨rfl,_⟩|h2
   ·grind
   ·rw[hg' (hne h1)]at h3;rw[hg' (hne h2)]at h4;exact h.mem.rr d1 d2 q q' b c1 c2 h1 h2 h3 h4
 ·rcases hr' hd with⟨rfl,_⟩|h1
  ·grind
  ·rw[hg' (hne h1)];exact h.mem.pas.row d' e' W' n ho h1
theorem zhW{W:Nat}{es:List (List PV)}{v:Value}(hW:0<W)(h:RelV w E.K (.sl W es) v):∃(news:List Value) (f:Nat→Nat→Value),News w E.K W es news f∧news.length=es.length*W∧(∀u∈news,one u)∧
  ∃p cap,v=.slice p es.length cap∧(es=[]∨∃ad,p=some ad∧∀(j:Nat) u,news[j]?=some u→w.cell? (ad.add j)=some u):=by
 obtain⟨b,off,cap,p,f,rfl,hp,hcap,hmax,hWs,hc⟩:=z1g h;let news:List Value:=(List.range (es.length*W)).map fun q=>f (q / W) (q%W)
 have hget:∀(q:Nat) u,news[q]?=some u→q<es.length*W∧u=f (q / W) (q%W)∧∃cs c,es[q / W]?=some cs∧cs[q%W]?=some c:=by
  intro q u hq;have hlt:q<es.length*W:=by grind
  simp[news,hlt]at hq;have hi:q / W<es.length:=Nat.div_lt_of_lt_mul (by rw[Nat.mul_comm];exact hlt);have hcl:=hWs es[q / W] (List.getElem_mem hi);have hj:q%W<(es[q / W]).length:=by rw[hcl];exact Nat.mod_lt _ hW
  simp_all
 have hdm:∀q,q / W*W+q%W=q:=fun q=>by rw[Nat.mul_comm];exact Nat.div_add_mod q W
 refine⟨news,f,⟨hWs,fun i j cs c h1 h2=> ?_⟩,by simp[news],fun u hu=> ?_,p,cap,rfl,?_⟩
 ·have hi:i<es.length:=(gJ h1).1
  grind [z4F]
 ·grind [List.getElem?_of_mem]
 ·by_cases he:es=[]
  ·grind
  ·refine .inr ⟨⟨b,off,none⟩,hp he,fun j u hu=> ?_⟩;obtain⟨_,rfl,cs,c,h1,h2⟩:=hget j u hu;rw[Addr.add_mid,show off+j=off+j / W*W+j%W by rw[Nat.add_assoc,hdm]]
   grind
theorem zcm{W:Nat}{es:List (List PV)}{v:Value}(hW:0<W)(h:RelV w E.K (.sl W es) v){tx e':TypeId}(htx:P.underlying tx=some (.slice e')):∃(news:List Value) (f:Nat→Nat→Value),News w E.K W es news f∧Src P W tx v es.length news w:=by
 obtain⟨news,f,h1,h2,h3,p,cap,rfl,h4⟩:=zhW hW h;refine⟨news,f,h1,?_⟩;rcases h4 with rfl|⟨ad,rfl,h4⟩
 ·have:news=[]:=List.eq_nil_of_length_eq_zero (by simpa using h2);subst this;cases p with
  |none=>exact Src.ofNil w htx cap
  |some ad=>exact Src.ofSlice w htx ad 0 cap [] (by simp) (by simp) (by simp)
 ·exact Src.ofSlice w htx ad es.length cap news h2 h4 h3
theorem zi8{tx:TypeId}(b:ByteArray)(htx:P.underlying tx=some .string):∃(news:List Value) (f:Nat→Nat→Value),News w E.K 1 (z0C b) news f∧Src P 1 tx (.string b) (z0C b).length news w:=by
 have hl:(z0C b).length=b.size:=by unfold z0C;rw[List.length_map,Array.length_toList];rfl
 refine⟨byteCells b,fun i _=>(byteCells b).getD i undef,⟨fun cs hcs=> ?_,fun i j cs c h1 h2=> ?_⟩,by rw[hl];exact Src.ofString w htx b⟩
 ·grind [z0C]
 ·simp only[z0C,List.getElem?_map]at h1;obtain⟨u,hu,rfl⟩:=gO h1;cases j with
  |succ j=>simp at h2
  |zero=>
   simp at h2;subst h2;have:(byteCells b)[i]?=some (.int .u8 u.toNat):=by simp only[byteCells,List.getElem?_map];rw[hu];rfl
   have hget:(byteCells b).getD i undef=.int .u8 u.toNat:=by grind
   rw[Nat.mul_one,Nat.add_zero,hget];exact⟨this,rfl,.v _⟩
end
end
section
section
variable{B:Base}{s:FS}{a:Act}{w w':World}{E E':Env}{P:Program}{I:List Nat}
theorem z3n:∀{I:List Nat} {d j:Nat},pos I d=some j→I[j]?=some d
 |[],_,_,h=>by simp[pos]at h
 |x::l,d,j,h=>by
  simp only[pos]at h;split at h
  ·grind [Nat.eq_of_beq_eq_true]
  ·obtain⟨i,h1,rfl⟩:=gO h;simpa using z3n h1
theorem z7U:∀{I:List Nat} {d:Nat},pos I d=none→d∉I
 |[],_,_=>by simp
 |x::l,d,h=>by
  simp only[pos]at h;split at h
  ·cases h
  ·rename_i hx;have:pos l d=none:=by simp_all
   have hne:d≠x:=by grind [Nat.beq_refl]
   simp[hne,z7U this]
theorem z4q{I:List Nat}(hI:I.Nodup){d j:Nat}(h:I[j]?=some d):pos I d=some j:=by
 cases hp:pos I d with
 |none=>exact absurd (gM h) (z7U hp)
 |some i=>
  have hi:=z3n hp
  grind [List.getElem?_eq_some_iff,List.getElem_inj]
theorem z7g{os:List MO}{j:Nat}{cs:List TV}(h:os[j]?=some (.box cs)):z0q os (1000+j)=some cs:=by simp[z0q,h]
theorem z2n{os:List MO}{j e W n:Nat}(h:os[j]?=some (.row e W n)):zA os (1000+j)=some (e,W,n):=by simp[zA,h]
theorem z2x{os:List MO}{d:Nat}{cs:List TV}(h:z0q os d=some cs):∃j,d=1000+j∧os[j]?=some (.box cs):=by
 grind [z0q]
theorem z0V{os:List MO}{d e W n:Nat}(h:zA os d=some (e,W,n)):∃j,d=1000+j∧os[j]?=some (.row e W n):=by
 grind [zA]
def zw(E:Env)(I:List Nat):Env:={ K:=E.K,β:=fun d=>E.β (I.getD (d-1000) 0),γ:=fun d=>E.γ (I.getD (d-1000) 0),ι:=E.ι }
theorem z4E{os:List MO}(hos:seqO (fun d=>(s.mo d).bind (MO.ren (rhoIn I))) I=some os):
  I.length=os.length∧(∀(j:Nat) cs',os[j]?=some (MO.box cs')→∃i cs,I[j]?=some i∧s.b i=some cs∧seqO (TV.ren1 (rhoIn I)) cs=some cs'∧s.r i=none)∧(∀(j e W n:Nat),os[j]?=some (MO.row e W n)→∃i,I[j]?=some i∧s.b i=none∧s.r i=some (e,W,n)):=by
 obtain⟨h1,h2⟩:=z00 hos;have key:∀(j:Nat) m,os[j]?=some m→∃i,I[j]?=some i∧(s.mo i).bind (MO.ren (rhoIn I))=some m:=by
  intro j m hm;have hj:j<I.length:=by grind
  obtain⟨y,hy1,hy2⟩:=h2 j I[j] (gE hj)
  grind
 refine⟨h1,fun j cs' hm=> ?_,fun j e W n hm=> ?_⟩
 ·obtain⟨i,hi,h3⟩:=key j _ hm;obtain⟨m,h4,h5⟩:=gB h3;unfold FS.mo at h4;split at h4
  ·rename_i cs hcs hrn;cases h4;simp only[MO.ren]at h5;simp_all
  ·grind [MO.ren]
  ·cases h4
 ·obtain⟨i,hi,h3⟩:=key j _ hm;obtain⟨m,h4,h5⟩:=gB h3;unfold FS.mo at h4;split at h4
  ·cases h4;simp only[MO.ren]at h5;simp_all
  ·rename_i hb hr;cases h4;simp only[MO.ren]at h5;cases h5
   grind
  ·cases h4
theorem getD_of{I:List Nat}{j i:Nat}(h:I[j]?=some i):I.getD (1000+j-1000) 0=i:=by
 grind
theorem za1{os:List MO}(hos:seqO (fun d=>(s.mo d).bind (MO.ren (rhoIn I))) I=some os):RenOk E s.r (rhoIn I) (zw E I) (zA os):=by
 obtain⟨_,_,h3⟩:=z4E hos;refine⟨fun d d' hd=> ?_⟩;obtain⟨j,h1,rfl⟩:=gO hd;have hi:=z3n h1;refine⟨by simp only[zw];rw[getD_of hi],by simp only[zw];rw[getD_of hi],fun q hq=> ?_⟩
 grind [z0V]
theorem z4T(h:Sim B s a w E)(hI:I.Nodup){os:List MO}(hos:seqO (fun d=>(s.mo d).bind (MO.ren (rhoIn I))) I=some os):
  MSim (start w (zw E I) os 0) (z0q os) (zA os) w (zw E I):=by
 obtain⟨h1,h2,h3⟩:=z4E hos;have hρ:RenOk E s.r (rhoIn I) (zw E I) (zA os):=za1 hos;have hb:∀d cs',z0q os d=some cs'→∃j i cs,d=1000+j∧I[j]?=some i∧s.b i=some cs∧seqO (TV.ren1 (rhoIn I)) cs=some cs'∧(zw E I).β d=E.β i:=by
  intro d cs' hd;obtain⟨j,rfl,hj⟩:=z2x hd;obtain⟨i,cs,q1,q2,q3,_⟩:=h2 j cs' hj;exact⟨j,i,cs,rfl,q1,q2,q3,by simp only[zw];rw[getD_of q1]⟩
 have hr:∀d e W n,zA os d=some (e,W,n)→∃j i,d=1000+j∧I[j]?=some i∧s.r i=some (e,W,n)∧(zw E I).γ d=E.γ i:=by
  intro d e W n hd;obtain⟨j,rfl,hj⟩:=z0V hd;obtain⟨i,q1,q2,q3⟩:=h3 j e W n hj;exact⟨j,i,rfl,q1,q3,by simp only[zw];rw[getD_of q1]⟩
 have inj:∀{j j' i:Nat},I[j]?=some i→I[j']?=some i→j=j':=fun {j j' i} q1 q2=>by
  have a1:=z4q hI q1;have a2:=z4q hI q2
  grind
 refine⟨fun d cs' hd=> ?_,fun d e W n hd=> ?_,fun d d' cs cs' e1 e2 e3=> ?_,fun d d' cs q k cap e1 e2 e3=> ?_,fun d d' q q' k cap cap' e1 e2 e3 e4=> ?_,h.mem.lt,⟨rfl,rfl,rfl,Nat.le_refl _,fun _ _ _=>rfl⟩,fun k o u e1 e2=>⟨e1,e2⟩,fun k o e1=> .inl e1,⟨fun _ _=>rfl,fun _ _ _=>rfl,fun d e W n _ hd=>⟨n,hd,Nat.le_refl _,fun _=>rfl⟩⟩⟩
 ·obtain⟨j,i,cs,rfl,q1,q2,q3,q4⟩:=hb d cs' hd;refine⟨?_,.inr (.inl ⟨cs',hd,rfl⟩)⟩;rw[q4];obtain⟨b1,_⟩:=h.mem.box i cs q2;refine⟨b1.lt,b1.obj,b1.fz,fun m c hc=> ?_,b1.out⟩;obtain⟨l1,l2⟩:=z00 q3;have hm:m<cs.length:=by grind
  obtain⟨z,z1,z2⟩:=l2 m cs[m] (gE hm);rw[hc]at z1;cases z1;obtain⟨v,c1,c2,c3⟩:=b1.cell m cs[m] (gE hm);exact⟨v,c1,c2,z83 hρ (fun _ _ _ h _=>h) c3 z2⟩
 ·obtain⟨j,i,rfl,q1,q2,q3⟩:=hr d e W n hd;rw[q3];rcases h.mem.row i e W n q2 with h4|⟨k,cap,h4,h5,h6⟩
  ·grind
  ·exact .inr ⟨k,cap,h4,.inr (.inr ⟨_,cap,hd,by rw[q3];exact h4⟩),h6.cells,h6.le,h6.max,h6.out⟩
 ·obtain⟨j,i,c1,rfl,q1,q2,q3,q4⟩:=hb d cs e1;obtain⟨j',i',c1',rfl,q1',q2',q3',q4'⟩:=hb d' cs' e2;rw[q4,q4']at e3;obtain rfl:=h.mem.bb i i' _ _ q2 q2' e3
  grind
 ·obtain⟨j,i,c1,rfl,q1,q2,q3,q4⟩:=hb d cs e1;obtain⟨e,W,n⟩:=q;obtain⟨j',i',rfl,q1',q2',q3'⟩:=hr d' e W n e2;rw[q4];rw[q3']at e3;exact h.mem.br i i' _ _ k cap q2 q2' e3
 ·obtain⟨e,W,n⟩:=q;obtain⟨e',W',n'⟩:=q';obtain⟨j,i,rfl,q1,q2,q3⟩:=hr d e W n e1;obtain⟨j',i',rfl,q1',q2',q3'⟩:=hr d' e' W' n' e2;rw[q3]at e3;rw[q3']at e4;obtain rfl:=h.mem.rr i i' _ _ k cap cap' q2 q2' e3 e4
  grind
def z5L(k i:Nat):Option Nat:=if i=newId k 0 then some 0 else if i=newId k 1 then some 1 else if i=newId k 2 then some 2 else if i=newId k 3 then some 3 else none
theorem zo1{k q:Nat}(h:q<4):z5L k (newId k q)=some q:=by
 match q,h with
 |0,_=>simp[z5L,newId]
 |1,_=>simp[z5L,newId]
 |2,_=>simp[z5L,newId]
 |3,_=>simp[z5L,newId]
theorem z7Q{k i q:Nat}(h:z5L k i=some q):i=newId k q∧q<4:=by
 grind [z5L]
def z1p(I:List Nat)(k i:Nat):Option Nat:=match pos I i with|some j=>some (1000+j)|none=>(z5L k i).map (1000+I.length+·)
def z0T(E E':Env)(I:List Nat)(k:Nat):Env:={ K:=E'.K,β:=fun i=>match z1p I k i with|some d=>E'.β d|none=>E.β i,γ:=fun i=>match z1p I k i with|some d=>E'.γ d|none=>E.γ i,ι:=E.ι }
theorem zmZ(hI:I.Nodup){k d i:Nat}(hn:∀q<4,newId k q∉I)(h:rhoOut I k d=some i):z1p I k i=some d:=by
 unfold rhoOut at h;split at h
 ·rename_i h1;have h1:=Nat.le_of_ble_eq_true h1;split at h
  ·rename_i x hx;cases h;unfold z1p;rw[z4q hI hx]
   grind
  ·rename_i hx;split at h
   ·rename_i hq;rw[Nat.blt_eq]at hq;cases h;have hl:I.length≤d-1000:=by grind
    unfold z1p;cases hp:pos I (newId k (d-1000-I.length))with
    |some j=>exact absurd (gM (z3n hp)) (hn _ hq)
    |none=>simp only[zo1 hq,Option.map_some];congr 1;omega
   ·cases h
 ·cases h
theorem z7S{k d i:Nat}(h:z1p I k i=some d):rhoOut I k d=some i∧1000≤d:=by
 unfold z1p at h;split at h
 ·grind [z3n,rhoOut,Nat.ble_eq_true_of_le,Nat.add_sub_cancel_left]
 ·obtain⟨q,h1,rfl⟩:=gO h;obtain⟨rfl,hq⟩:=z7Q h1;refine⟨?_,by omega⟩;unfold rhoOut;rw[if_pos (Nat.ble_eq_true_of_le (by omega)),List.getElem?_eq_none (by omega)];simp only;have e:1000+I.length+q-1000-I.length=q:=by omega
  simp_all
theorem z6B{ρ:Nat→Option Nat}:∀{l:List MO} {j:Nat} {us:List (Nat×MO)},outs ρ j l=some us→(∀i m',us.lookup i=some m'→∃(q:Nat) (m:MO),l[q]?=some m∧ρ (1000+(j+q))=some i∧m.ren ρ=some m')∧(∀(q:Nat) m,l[q]?=some m→∃i m',ρ (1000+(j+q))=some i∧m.ren ρ=some m'∧(i,m')∈us)
 |[],j,us,h=>by simp[outs]at h;subst h;exact⟨fun i m' h=>by simp at h,fun q m h=>by simp at h⟩
 |m::l,j,us,h=>by
  simp only[outs]at h;split at h
  ·rename_i i m' r h1 h2 h3;cases h;obtain⟨q1,q2⟩:=z6B h3;refine⟨fun x y hx=> ?_,fun q y hy=> ?_⟩
   ·simp only[List.lookup]at hx;split at hx
    ·rename_i he;cases hx;obtain rfl:x=i:=by grind
     exact⟨0,m,rfl,h1,h2⟩
    ·obtain⟨q,m0,a1,a2,a3⟩:=q1 x y hx;exact⟨q+1,m0,by simpa using a1,by rw[←a2];congr 2;omega,a3⟩
   ·grind
  ·cases h
theorem ze8{us:List (Nat×MO)}{i:Nat}{m:MO}(h:(i,m)∈us):∃m',us.lookup i=some m':=by
 induction us with
 |nil=>simp at h
 |cons p l ih=>
  obtain⟨x,y⟩:=p;simp only[List.lookup];cases he:(i==x)<;>grind
theorem z5n:∀{os os':List MO},moOk os os'=true→os'.length≤os.length+4∧os.length≤os'.length∧(∀(j:Nat) cs,os[j]?=some (MO.box cs)→∃cs',os'[j]?=some (MO.box cs'))∧(∀(j e W n:Nat),os[j]?=some (MO.row e W n)→∃n',os'[j]?=some (MO.row e W n')∧n≤n')
 |[],l,h=>by simp only[moOk]at h;have:=Nat.le_of_ble_eq_true h;exact⟨by simpa using this,by simp,by simp,by simp⟩
 | .box c::l,[],h=>by simp[moOk]at h
 | .box c::l,.row _ _ _::l',h=>by simp[moOk]at h
 | .row _ _ _::l,[],h=>by simp[moOk]at h
 | .row _ _ _::l,.box _::l',h=>by simp[moOk]at h
 | .box c::l,.box c'::l',h=>by
  simp only[moOk]at h;obtain⟨a1,a2,a3,a4⟩:=z5n h;refine⟨by simp;omega,by simp;omega,fun j cs hj=> ?_,fun j e W n hj=> ?_⟩
  ·cases j with
   |zero=>exact⟨c',rfl⟩
   |succ j=>simpa using a3 j cs (by simpa using hj)
  ·cases j with
   |zero=>simp at hj
   |succ j=>simpa using a4 j e W n (by simpa using hj)
 | .row e0 W0 n0::l,.row e1 W1 n1::l',h=>by
  simp only[moOk,Bool.and_eq_true]at h;obtain⟨⟨⟨b1,b2⟩,b3⟩,h⟩:=h;obtain⟨a1,a2,a3,a4⟩:=z5n h;obtain rfl:=Nat.eq_of_beq_eq_true b1;obtain rfl:=Nat.eq_of_beq_eq_true b2;have b3:=Nat.le_of_ble_eq_true b3;refine⟨by simp;omega,by simp;omega,fun j cs hj=> ?_,fun j e W n hj=> ?_⟩
  ·cases j with
   |zero=>simp at hj
   |succ j=>simpa using a3 j cs (by simpa using hj)
  ·cases j with
   |zero=>simp at hj;obtain⟨rfl,rfl,rfl⟩:=hj;exact⟨n1,rfl,b3⟩
   |succ j=>simpa using a4 j e W n (by simpa using hj)
end
end
section
section
variable{B:Base}{s:FS}{a:Act}{w w':World}{E E':Env}{P:Program}{I:List Nat}
def zqW(s:FS)(w:World)(E:Env)(i b:Nat):Prop:=w.heap.size≤b∨∃cs,s.b i=some cs∧E.β i=b
def zqZ(s:FS)(w:World)(E:Env)(i b:Nat):Prop:=w.heap.size≤b∨∃q cap,s.r i=some q∧E.γ i=some (b,cap)
theorem z6q(h:Sim B s a w E)(hI:I.Nodup){k:Nat}(hm0:B.m≤1000)(hfr:∀q<4,z0y s (newId k q)){os os':List MO}(hos:seqO (fun d=>(s.mo d).bind (MO.ren (rhoIn I))) I=some os)
  (hok:moOk os os'=true) {us:List (Nat×MO)} (hus:outs (rhoOut I k) 0 os'=some us) (hm:MSim (start w (zw E I) os 0) (z0q os') (zA os') w' E') (hl:Left (zw E I) os E' os') (dst:Option Nat):
  Sim B (s.upd dst (.mem us)) a w' (z0T E E' I k)∧RenOk E' (zA os') (rhoOut I k) (z0T E E' I k) (s.upd dst (.mem us)).r:=by
 obtain⟨hlen,hB,hR⟩:=z4E hos;obtain⟨ok1,ok2,ok3,ok4⟩:=z5n hok;have hn:∀q<4,newId k q∉I:=fun q hq hmem=>by
  obtain⟨j,hj⟩:=List.getElem?_of_mem hmem;obtain⟨y,_,hy⟩:=(z00 hos).2 j _ hj;obtain⟨_,h2,h3,_⟩:=hfr q hq;simp[FS.mo,h2,h3]at hy
 obtain⟨o1,o2⟩:=z6B hus;simp only[Nat.zero_add]at o1 o2;have hback:∀{d i},rhoOut I k d=some i→z1p I k i=some d:=fun hd=>zmZ hI hn hd;have hL:∀{i m'},us.lookup i=some m'→∃(q:Nat) (m:MO),os'[q]?=some m∧z1p I k i=some (1000+q)∧rhoOut I k (1000+q)=some i∧m.ren (rhoOut I k)=some m':=fun hi=>by
  obtain⟨q,m,a1,a2,a3⟩:=o1 _ _ hi;exact⟨q,m,a1,hback a2,a2,a3⟩
 have hposIn:∀{i},i∈I→∃j,I[j]?=some i∧pos I i=some j∧z1p I k i=some (1000+j)∧j<os.length:=fun {i} hi=>by
  obtain⟨j,hj⟩:=List.getElem?_of_mem hi;have hp:=z4q hI hj;exact⟨j,hj,hp,by simp[z1p,hp],by rw[←hlen];exact(gJ hj).1⟩
 have hLin:∀{i},i∈I→∃m',us.lookup i=some m':=fun {i} hi=>by
  obtain⟨j,h1,h2,h3,h4⟩:=hposIn hi;obtain⟨i',m',b1,b2,b3⟩:=o2 j _ (gE (show j<os'.length by omega));have:rhoOut I k (1000+j)=some i:=(z7S h3).1;rw[this]at b1;cases b1;exact ze8 b3
 have hold:∀i,(∀q<4,i≠newId k q)→i∉I→z1p I k i=none:=fun i h1 h2=>by
  unfold z1p;cases hp:pos I i with
  |some j=>exact absurd (gM (z3n hp)) h2
  |none=>
   cases hq:z5L k i with
   |none=>rfl
   |some q=>obtain⟨e,hq⟩:=z7Q hq;exact absurd e (h1 q hq)
 have hmold:∀{i},s.ment i→∀q<4,i≠newId k q:=fun hi q hq e=>(hfr q hq).1 (e▸hi);have hbold:∀{i cs},s.b i=some cs→∀q<4,i≠newId k q:=fun hi q hq e=>by have:=(hfr q hq).2.1;rw[←e,hi]at this;cases this
 have hrold:∀{i x},s.r i=some x→∀q<4,i≠newId k q:=fun hi q hq e=>by have:=(hfr q hq).2.2.1;rw[←e,hi]at this;cases this
 have hβ:∀{i},(∀q<4,i≠newId k q)→(z0T E E' I k).β i=E.β i:=fun {i} hi=>by
  by_cases hmem:i∈I
  ·obtain⟨j,h1,h2,h3,h4⟩:=hposIn hmem;simp only[z0T,h3];rw[hl.beta (1000+j) (by omega) (by omega)];simp only[zw];rw[getD_of h1]
  ·simp only[z0T,hold i hi hmem]
 have hγout:∀{i},(∀q<4,i≠newId k q)→i∉I→(z0T E E' I k).γ i=E.γ i:=fun {i} hi hmem=>by simp only[z0T,hold i hi hmem]
 have hγin:∀{i j},I[j]?=some i→(zw E I).γ (1000+j)=E.γ i:=fun hj=>by simp only[zw];rw[getD_of hj]
 have hβin:∀{i j},I[j]?=some i→(zw E I).β (1000+j)=E.β i:=fun hj=>by simp only[zw];rw[getD_of hj]
 have hγbox:∀{i},(∀q<4,i≠newId k q)→(∀e W n,us.lookup i≠some (.row e W n))→(z0T E E' I k).γ i=E.γ i:=fun {i} hi hnr=>by
  by_cases hmem:i∈I
  ·obtain⟨j,h1,h2,h3,h4⟩:=hposIn hmem;obtain⟨m',hm'⟩:=hLin hmem;obtain⟨q,m,a1,a2,a3,a4⟩:=hL hm';have hq:q=j:=by rw[h3]at a2;have:=Option.some.inj a2;omega
   subst hq;have hrn:zA os (1000+q)=none:=by
    cases hx:zA os (1000+q)with
    |none=>rfl
    |some x=>
     obtain⟨e,W,n⟩:=x;obtain⟨j',hj',hj2⟩:=z0V hx;obtain rfl:q=j':=by omega
     obtain⟨n',hn',_⟩:=ok4 q e W n hj2;rw[hn']at a1;cases a1;simp only[MO.ren]at a4;cases a4;exact absurd hm' (hnr _ _ _)
   simp only[z0T,h3];rw[hl.gamma (1000+q) (by omega) (by omega) hrn];exact hγin h1
  ·exact hγout hi hmem
 have hren:RenOk E' (zA os') (rhoOut I k) (z0T E E' I k) (s.upd dst (.mem us)).r:=by
  refine⟨fun d i hd=> ?_⟩;have hb:=hback hd;refine⟨by simp only[z0T,hb],by simp only[z0T,hb],fun q hq=> ?_⟩;obtain⟨e,W,n⟩:=q;obtain⟨j,rfl⟩:∃j,d=1000+j:=⟨d-1000,by have:=(z7S hb).2;omega⟩
  simp only[FS.upd,z6U]at hq;split at hq
  ·rename_i e' W' n' hlk;cases hq;obtain⟨q,m,a1,a2,a3,a4⟩:=hL hlk;rw[hb]at a2;obtain rfl:j=q:=by have:=Option.some.inj a2;omega
   cases m with
   |box cs=>simp only[MO.ren]at a4;obtain⟨_,_,h6⟩:=gO a4;cases h6
   |row e W n=>simp only[MO.ren]at a4;cases a4;exact z2n a1
  ·rename_i hnr;exfalso;by_cases hmem:i∈I
   ·obtain⟨j',h1,h2,h3,h4⟩:=hposIn hmem;obtain⟨m',hm'⟩:=hLin hmem;obtain⟨q,m,a1,a2,a3,a4⟩:=hL hm';obtain rfl:j'=q:=by rw[h3]at a2;have:=Option.some.inj a2;omega
    cases hx:os[j']with
    |box cs=>
     obtain⟨i',c,b1,b2,b3,b4⟩:=hB j' cs (by rw[←hx];exact gE h4);rw[h1]at b1;cases b1;rw[b4]at hq;cases hq
    |row e0 W0 n0=>
     obtain⟨n',hn',_⟩:=ok4 j' e0 W0 n0 (by rw[←hx];exact gE h4);rw[hn']at a1;cases a1;simp only[MO.ren]at a4;cases a4;exact hnr _ _ _ hm'
   ·have hnew:∃q,q<4∧i=newId k q:=by
     unfold z1p at hb;cases hp:pos I i with
     |some j=>exact absurd (gM (z3n hp)) hmem
     |none=>
      rw[hp]at hb;obtain⟨q,h1,_⟩:=gO hb;obtain⟨e,hq'⟩:=z7Q h1;exact⟨q,hq',e⟩
    obtain⟨q,hq1,rfl⟩:=hnew;rw[(hfr q hq1).2.2.1]at hq;cases hq
 refine⟨?_,hren⟩;have hk:∀b o u,E.K b o→w.cell? ⟨b,o,none⟩=some u→(z0T E E' I k).K b o∧w'.cell? ⟨b,o,none⟩=some u:=hm.keep;have hrr:∀d e W n,s.ment d→(s.upd dst (.mem us)).r d=some (e,W,n)→(s.r d=some (e,W,n)∧(z0T E E' I k).γ d=E.γ d)∨(∃m,s.r d=some (e,W,m)∧m<n):=by
  intro d e W n hd hr;simp only[FS.upd,z6U]at hr;split at hr
  ·rename_i e' W' n' hlk;cases hr;obtain⟨q,m,a1,a2,a3,a4⟩:=hL hlk;have hmem:d∈I:=by
    apply Classical.byContradiction;intro hno;rw[hold d (hmold hd) hno]at a2;cases a2
   obtain⟨j,h1,h2,h3,h4⟩:=hposIn hmem;obtain rfl:j=q:=by rw[h3]at a2;have:=Option.some.inj a2;omega
   cases m with
   |box cs=>simp only[MO.ren]at a4;obtain⟨_,_,h6⟩:=gO a4;cases h6
   |row e1 W1 n1=>
    simp only[MO.ren]at a4;cases a4;cases hx:os[j]with
    |box cs=>
     obtain⟨cs',hcs'⟩:=ok3 j cs (by rw[←hx];exact gE h4);rw[hcs']at a1;cases a1
    |row e0 W0 n0=>
     have hxo:os[j]?=some (.row e0 W0 n0):=by rw[←hx];exact gE h4
     obtain⟨i',b1,b2,b3⟩:=hR j e0 W0 n0 hxo;rw[h1]at b1;cases b1;obtain⟨n',c1,c2,c3⟩:=hl.row (1000+j) e0 W0 n0 (z2n hxo);rw[z2n a1]at c1;have c1':=Option.some.inj c1;simp only[Prod.mk.injEq]at c1';obtain⟨rfl,rfl,rfl⟩:=c1';rcases Nat.lt_or_ge n0 n with hlt|hge
     ·exact .inr ⟨n0,b3,hlt⟩
     ·obtain rfl:n0=n:=by omega
      refine .inl ⟨b3,?_⟩;simp only[z0T,h3];rw[c3 rfl];exact hγin h1
  ·rename_i hnr;exact .inl ⟨hr,hγbox (hmold hd) (fun e W n=>hnr e W n)⟩
 have hXbox:∀{d b},z2j (zw E I) os d b→(∃i cs,s.b i=some cs∧i∈I∧E.β i=b)∨(∃i q cap,s.r i=some q∧i∈I∧s.b i=none∧E.γ i=some (b,cap)):=by
  intro d b hx;rcases hx with⟨cs,h1,h2⟩|⟨⟨e,W,n⟩,cap,h1,h2⟩
  ·obtain⟨j,rfl,hj⟩:=z2x h1;obtain⟨i,c,b1,b2,_⟩:=hB j cs hj;exact .inl ⟨i,c,b2,gM b1,by rw[←hβin b1];exact h2⟩
  ·obtain⟨j,rfl,hj⟩:=z0V h1;obtain⟨i,b1,b2,b3⟩:=hR j e W n hj;exact .inr ⟨i,_,cap,b3,gM b1,b2,by rw[←hγin b1];exact h2⟩
 have hrowlt:∀{i q b cap},s.r i=some q→E.γ i=some (b,cap)→∃c e,w.heap[b]?=some (.cells c e (0,0)):=by
  intro i q b cap h1 h2;rcases h.mem.row i q.1 q.2.1 q.2.2 h1 with⟨h3,_⟩|⟨b',c',h3,_,h5⟩
  ·rw[h3]at h2;cases h2
  ·rw[h3]at h2;cases h2;obtain⟨cur,hc,_⟩:=h5.cells;exact⟨cur,_,hc⟩
 have hmaps:Maps w w':=by
  intro b o hk9 hb;have hlt:=(gA hb).1;refine(hm.low.block b hlt (fun d hx=> ?_)).trans hb;rcases hXbox hx with⟨i,cs,b1,_,b3⟩|⟨i,q,cap,b1,_,_,b3⟩
  ·obtain⟨c',e',z',ho⟩:=(h.mem.box i cs b1).1.obj;rw[b3,hb]at ho;cases ho;cases hk9
  ·obtain⟨c',e',ho⟩:=hrowlt b1 b3;rw[hb]at ho;cases ho;cases hk9
 have hmono:∀{x:TV} {v:Value},(∀d,Ment d x→s.ment d)→RelT w E s.r x v→RelT w' (z0T E E' I k) (s.upd dst (.mem us)).r x v:=fun hx hv=>
  hv.mono hk (fun d hd=>⟨hβ (hmold (hx d hd)),rfl⟩) (fun d e W n hd=>hrr d e W n (hx d hd)) hmaps
 have hboxsame:∀{i cs},s.b i=some cs→i∉I→∀d,¬z2j (zw E I) os d (E.β i):=by
  intro i cs h1 h2 d hx;rcases hXbox hx with⟨i',c,b1,b2,b3⟩|⟨i',q,cap,b1,b2,_,b3⟩
  ·have:=h.mem.bb i' i _ _ b1 h1 b3;subst this;exact h2 b2
  ·exact h.mem.br i i' _ _ _ cap h1 b1 b3 rfl
 have hrowsame:∀{i q b cap},s.r i=some q→(i∉I∨∃cs,s.b i=some cs)→E.γ i=some (b,cap)→∀d,¬z2j (zw E I) os d b:=by
  intro i q b cap h1 h2 h3 d hx;rcases hXbox hx with⟨i',c,b1,b2,b3⟩|⟨i',q',cap',b1,b2,b4,b3⟩
  ·exact h.mem.br i' i _ _ _ cap b1 h1 h3 b3
  ·have:=h.mem.rr i i' _ _ _ _ _ h1 b1 h3 b3;subst this;rcases h2 with h2|⟨cs,h2⟩
   ·exact h2 b2
   ·rw[h2]at b4;cases b4
 have hboxI:∀{i cs'},(s.upd dst (.mem us)).b i=some cs'→(∃(q:Nat) (c0:List TV),os'[q]?=some (.box c0)∧rhoOut I k (1000+q)=some i∧seqO (TV.ren1 (rhoOut I k)) c0=some cs'∧(z0T E E' I k).β i=E'.β (1000+q))∨(s.b i=some cs'∧i∉I∧(z0T E E' I k).β i=E.β i):=by
  intro i cs' hi;simp only[FS.upd,z8N]at hi;split at hi
  ·rename_i c hlk;cases hi;obtain⟨q,m,a1,a2,a3,a4⟩:=hL hlk;cases m with
   |row e W n=>simp[MO.ren]at a4
   |box c0=>
    simp only[MO.ren]at a4;obtain⟨l,h6,h7⟩:=gO a4;cases h7;exact .inl ⟨q,c0,a1,a3,h6,by simp only[z0T,a2]⟩
  ·rename_i hnb;refine .inr ⟨hi,fun hmem=> ?_,hβ (hbold hi)⟩;obtain⟨m',hm'⟩:=hLin hmem;obtain⟨j,h1,h2,h3,h4⟩:=hposIn hmem;obtain⟨q,m,a1,a2,a3,a4⟩:=hL hm';obtain rfl:j=q:=by rw[h3]at a2;have:=Option.some.inj a2;omega
   cases hx:os[j]with
   |row e0 W0 n0=>
    obtain⟨i',b1,b2,b3⟩:=hR j e0 W0 n0 (by rw[←hx];exact gE h4);rw[h1]at b1;cases b1;rw[hi]at b2;cases b2
   |box cs=>
    obtain⟨cs2,hcs2⟩:=ok3 j cs (by rw[←hx];exact gE h4);rw[hcs2]at a1;cases a1;simp only[MO.ren]at a4;obtain⟨l,h6,h7⟩:=gO a4;subst h7;exact hnb _ hm'
 have hrowI:∀{i e W n},(s.upd dst (.mem us)).r i=some (e,W,n)→(∃q:Nat,os'[q]?=some (.row e W n)∧rhoOut I k (1000+q)=some i∧(z0T E E' I k).γ i=E'.γ (1000+q))∨(s.r i=some (e,W,n)∧(i∉I∨∃cs,s.b i=some cs)∧(z0T E E' I k).γ i=E.γ i):=by
  intro i e W n hi;simp only[FS.upd,z6U]at hi;split at hi
  ·rename_i e' W' n' hlk;cases hi;obtain⟨q,m,a1,a2,a3,a4⟩:=hL hlk;cases m with
   |box c0=>simp only[MO.ren]at a4;obtain⟨_,_,h6⟩:=gO a4;cases h6
   |row e1 W1 n1=>
    simp only[MO.ren]at a4;cases a4;exact .inl ⟨q,a1,a3,by simp only[z0T,a2]⟩
  ·rename_i hnr;refine .inr ⟨hi,?_,hγbox (hrold hi) (fun e W n=>hnr e W n)⟩;by_cases hmem:i∈I
   ·right;obtain⟨m',hm'⟩:=hLin hmem;obtain⟨j,h1,h2,h3,h4⟩:=hposIn hmem;obtain⟨q,m,a1,a2,a3,a4⟩:=hL hm';obtain rfl:j=q:=by rw[h3]at a2;have:=Option.some.inj a2;omega
    cases hx:os[j]with
    |box cs=>
     obtain⟨i',c,b1,b2,_⟩:=hB j cs (by rw[←hx];exact gE h4);rw[h1]at b1;cases b1;exact⟨c,b2⟩
    |row e0 W0 n0=>
     obtain⟨n',hn',_⟩:=ok4 j e0 W0 n0 (by rw[←hx];exact gE h4);rw[hn']at a1;cases a1;simp only[MO.ren]at a4;cases a4;exact absurd hm' (hnr _ _ _)
   ·exact .inl hmem
 have hboxW:∀{q:Nat} {c0 i},os'[q]?=some (.box c0)→rhoOut I k (1000+q)=some i→zqW s w E i (E'.β (1000+q)):=by
  intro q c0 i h1 h2;rcases(hm.box (1000+q) c0 (z7g h1)).2 with h3|h3
  ·exact .inl h3
  ·right;rcases h3 with⟨cs,h4,h5⟩|⟨⟨e,W,n⟩,cap,h4,h5⟩
   ·obtain⟨j,hj,hj2⟩:=z2x h4;obtain rfl:q=j:=by omega
    obtain⟨i',c,b1,b2,_⟩:=hB q cs hj2;have:z1p I k i'=some (1000+q):=by simp[z1p,z4q hI b1]
    have:=(z7S this).1;rw[h2]at this;cases this;exact⟨c,b2,by rw[←h5];exact(hβin b1).symm⟩
   ·obtain⟨j,hj,hj2⟩:=z0V h4;obtain rfl:q=j:=by omega
    obtain⟨n',hn',_⟩:=ok4 q e W n hj2;rw[h1]at hn';cases hn'
 have hrowW:∀{q e W n i b cap:Nat},os'[q]?=some (.row e W n)→rhoOut I k (1000+q)=some i→E'.γ (1000+q)=some (b,cap)→zqZ s w E i b:=by
  intro q e W n i b cap h1 h2 h0;rcases hm.row (1000+q) e W n (z2n h1)with⟨h3,_⟩|⟨b',c',h3,h4,_⟩
  ·rw[h3]at h0;cases h0
  ·rw[h3]at h0;cases h0;rcases h4 with h4|h4
   ·exact .inl h4
   ·right;rcases h4 with⟨cs,h5,h6⟩|⟨⟨e1,W1,n1⟩,cap',h5,h6⟩
    ·obtain⟨j,hj,hj2⟩:=z2x h5;obtain rfl:q=j:=by omega
     obtain⟨cs',hn'⟩:=ok3 q cs hj2;rw[h1]at hn';cases hn'
    ·obtain⟨j,hj,hj2⟩:=z0V h5;obtain rfl:q=j:=by omega
     obtain⟨i',b1,b2,b3⟩:=hR q e1 W1 n1 hj2;have:z1p I k i'=some (1000+q):=by simp[z1p,z4q hI b1]
     have:=(z7S this).1;rw[h2]at this;cases this;exact⟨_,cap',b3,by rw[←h6];exact(hγin b1).symm⟩
 have hw0:=h.mem.low.size;have hdd:∀{q q' i:Nat},rhoOut I k (1000+q)=some i→rhoOut I k (1000+q')=some i→q=q':=fun h1 h2=>by
  have a1:=hback h1;rw[hback h2]at a1;have:=Option.some.inj a1;omega
 have hoold:∀{d},B.old d→∀q<4,d≠newId k q:=fun ho q hq e=>by have:=ho.2;unfold newId at e;omega
 have hXlow:∀{d b},z2j (zw E I) os d b→B.w0.heap.size≤b∨∃d,B.X d b:=by
  intro d b hx;rcases hXbox hx with⟨i',c,b1,b2,b3⟩|⟨i',q,cap,b1,b2,_,b3⟩
  ·rcases(h.mem.box i' c b1).2 with h1|h1
   ·rw[b3]at h1;exact .inl h1
   ·rw[b3]at h1;exact .inr ⟨_,h1⟩
  ·rcases h.mem.row i' q.1 q.2.1 q.2.2 b1 with⟨h3,_⟩|⟨b',c',h3,h4,_⟩
   ·rw[h3]at b3;cases b3
   ·rw[h3]at b3;cases b3;rcases h4 with h4|h4
    ·exact .inl h4
    ·exact .inr ⟨_,h4⟩
 refine h.step rfl ⟨fun i cs' hi=> ?_,fun i e W n hi=> ?_,fun i i' cs cs' e1 e2 e3=> ?_,fun i i' cs q b cap e1 e2 e3=> ?_,fun i i' q q' b cap cap' e1 e2 e3 e4=> ?_,hm.lt,?_,fun b o u h1 h2=> ?_,fun b o h1=> ?_,⟨fun d ho=>(hβ (hoold ho)).trans (h.mem.pas.β d ho),fun d ho h0=> ?_,fun d e W n ho hd=> ?_⟩⟩ hk (fun d hd=>⟨hβ (hmold hd),rfl⟩) (fun d e W n hd=>hrr d e W n hd) (fun d z p hd=> ?_) h.ii hmaps
 ·rcases hboxI hi with⟨q,c0,a1,a2,a3,a4⟩|⟨a1,a2,a3⟩
  ·rw[a4];obtain⟨b1,b2⟩:=hm.box (1000+q) c0 (z7g a1);refine⟨⟨b1.lt,b1.obj,b1.fz,fun j c hc=> ?_,b1.out⟩,?_⟩
   ·obtain⟨l1,l2⟩:=z00 a3;have hj:j<c0.length:=by rw[l1];exact(gJ hc).1
    obtain⟨z,z1,z2⟩:=l2 j c0[j] (gE hj);rw[hc]at z1;cases z1;obtain⟨v,c1,c2,c3⟩:=b1.cell j c0[j] (gE hj);exact⟨v,c1,c2,z83 hren (fun _ _ _ h _=>h) c3 z2⟩
   ·rcases hboxW a1 a2 with h1|⟨cs,h1,h2⟩
    ·exact .inl (by omega)
    ·rw[←h2];exact(h.mem.box i cs h1).2
  ·rw[a3];obtain⟨b1,b2⟩:=h.mem.box i cs' a1;have hsame:w'.heap[E.β i]?=w.heap[E.β i]?:=hm.low.block _ b1.lt (hboxsame a1 a2);refine⟨⟨Nat.lt_of_lt_of_le b1.lt hm.low.size,by rw[hsame];exact b1.obj,fun o=>(World.frozen?_of_block (w:=w) (a:=⟨E.β i,o,none⟩) hsame).trans (b1.fz o),fun j c hc=> ?_,fun o ho=> ?_⟩,b2⟩
   ·obtain⟨v,c1,c2,c3⟩:=b1.cell j c hc;exact⟨v,(World.cell?_of_block (w:=w) (a:=⟨E.β i,j,none⟩) hsame).trans c1,c2,hmono (fun d hd=> .inr ⟨i,cs',c,a1,gM hc,hd⟩) c3⟩
   ·rcases hm.knew _ _ ho with h1|h1|⟨d,h1⟩
    ·exact b1.out o h1
    ·have:=b1.lt;have h1:w.heap.size≤E.β i:=h1;omega
    ·exact hboxsame a1 a2 d h1
 ·rcases hrowI hi with⟨q,a1,a2,a3⟩|⟨a1,a2,a3⟩
  ·rw[a3];rcases hm.row (1000+q) e W n (z2n a1)with h1|⟨b,cap,h1,h2,h3⟩
   ·exact .inl h1
   ·refine .inr ⟨b,cap,h1,?_,h3.cells,h3.le,h3.max,h3.out⟩;rcases hrowW a1 a2 h1 with h4|⟨q0,cap0,h4,h5⟩
    ·exact .inl (by omega)
    ·rcases h.mem.row i q0.1 q0.2.1 q0.2.2 h4 with⟨h6,_⟩|⟨b',c',h6,h7,_⟩
     ·rw[h6]at h5;cases h5
     ·rw[h6]at h5;cases h5;exact h7
  ·rw[a3];rcases h.mem.row i e W n a1 with h1|⟨b,cap,h1,h2,h3⟩
   ·exact .inl h1
   ·obtain⟨cur,hc,hs⟩:=h3.cells;have hlt:=(gA hc).1;have hX:=hrowsame a1 a2 h1;refine .inr ⟨b,cap,h1,h2,⟨cur,(hm.low.block b hlt hX).trans hc,hs⟩,h3.le,h3.max,fun o ho=> ?_⟩;rcases hm.knew _ _ ho with h4|h4|⟨d,h4⟩
    ·exact h3.out o h4
    ·have h4:w.heap.size≤b:=h4;omega
    ·exact absurd h4 (hX d)
 ·rcases hboxI e1 with⟨q,c0,a1,a2,a3,a4⟩|⟨a1,a2,a3⟩<;>rcases hboxI e2 with⟨q',c0',b1,b2,b3,b4⟩|⟨b1,b2,b3⟩
  ·rw[a4,b4]at e3;have:=hm.bb _ _ _ _ (z7g a1) (z7g b1) e3;obtain rfl:q=q':=by omega
   rw[a2]at b2;exact Option.some.inj b2
  ·rw[a4,b3]at e3;have:=(h.mem.box i' _ b1).1.lt;rcases hboxW a1 a2 with h1|⟨c,h1,h2⟩
   ·omega
   ·exact h.mem.bb i i' _ _ h1 b1 (h2.trans e3)
  ·rw[a3,b4]at e3;have:=(h.mem.box i _ a1).1.lt;rcases hboxW b1 b2 with h1|⟨c,h1,h2⟩
   ·omega
   ·exact h.mem.bb i i' _ _ a1 h1 (e3.trans h2.symm)
  ·rw[a3,b3]at e3;exact h.mem.bb i i' _ _ a1 b1 e3
 ·obtain⟨e,W,n⟩:=q;rcases hboxI e1 with⟨q,c0,a1,a2,a3,a4⟩|⟨a1,a2,a3⟩<;>rcases hrowI e2 with⟨q',b1,b2,b3⟩|⟨b1,b2,b3⟩
  ·rw[a4];rw[b3]at e3;exact hm.br _ _ _ _ b cap (z7g a1) (z2n b1) e3
  ·rw[a4];rw[b3]at e3;obtain⟨c,e',hc⟩:=hrowlt b1 e3;have:=(gA hc).1;rcases hboxW a1 a2 with h1|⟨c,h1,h2⟩
   ·omega
   ·rw[←h2];exact h.mem.br i i' _ _ b cap h1 b1 e3
  ·rw[a3];rw[b3]at e3;have:=(h.mem.box i _ a1).1.lt;rcases hrowW b1 b2 e3 with h1|⟨q0,cap0,h1,h2⟩
   ·omega
   ·exact h.mem.br i i' _ _ b cap0 a1 h1 h2
  ·rw[a3];rw[b3]at e3;exact h.mem.br i i' _ _ b cap a1 b1 e3
 ·obtain⟨e,W,n⟩:=q;obtain⟨e',W',n'⟩:=q';rcases hrowI e1 with⟨q,a1,a2,a3⟩|⟨a1,a2,a3⟩<;>rcases hrowI e2 with⟨q',b1,b2,b3⟩|⟨b1,b2,b3⟩
  ·rw[a3]at e3;rw[b3]at e4;have:=hm.rr _ _ _ _ b cap cap' (z2n a1) (z2n b1) e3 e4;obtain rfl:q=q':=by omega
   rw[a2]at b2;exact Option.some.inj b2
  ·rw[a3]at e3;rw[b3]at e4;obtain⟨c,e',hc⟩:=hrowlt b1 e4;have:=(gA hc).1;rcases hrowW a1 a2 e3 with h1|⟨q0,cap0,h1,h2⟩
   ·omega
   ·exact h.mem.rr i i' _ _ b cap0 cap' h1 b1 h2 e4
  ·rw[a3]at e3;rw[b3]at e4;obtain⟨c,e',hc⟩:=hrowlt a1 e3;have:=(gA hc).1;rcases hrowW b1 b2 e4 with h1|⟨q0,cap0,h1,h2⟩
   ·omega
   ·exact h.mem.rr i i' _ _ b cap cap0 a1 h1 e3 h2
  ·rw[a3]at e3;rw[b3]at e4;exact h.mem.rr i i' _ _ b cap cap' a1 b1 e3 e4
 ·refine⟨hm.low.os.trans h.mem.low.os,hm.low.tape.trans h.mem.low.tape,hm.low.output.trans h.mem.low.output,Nat.le_trans hw0 hm.low.size,fun b hb hx=> ?_⟩;refine(hm.low.block b (Nat.lt_of_lt_of_le hb hw0) (fun d hd=> ?_)).trans (h.mem.low.block b hb hx);rcases hXlow hd with h1|⟨d',h1⟩
  ·omega
  ·exact hx d' h1
 ·obtain⟨h3,h4⟩:=h.mem.keep b o u h1 h2;exact hm.keep b o u h3 h4
 ·rcases hm.knew b o h1 with h2|h2|⟨d,h2⟩
  ·exact h.mem.knew b o h2
  ·exact .inr (.inl (Nat.le_trans hw0 h2))
  ·rcases hXlow h2 with h3|h3
   ·exact .inr (.inl h3)
   ·exact .inr (.inr h3)
 ·refine(hγbox (hoold ho) (fun e W n hlk=> ?_)).trans (h.mem.pas.γ d ho h0);obtain⟨q,m,a1,a2,a3,a4⟩:=hL hlk;have hmem:d∈I:=by
   apply Classical.byContradiction;intro hno;rw[hold d (hoold ho) hno]at a2;cases a2
  obtain⟨j,h1,h2,h3,h4⟩:=hposIn hmem;obtain rfl:j=q:=by rw[h3]at a2;have:=Option.some.inj a2;omega
  cases m with
  |box cs=>simp only[MO.ren]at a4;obtain⟨_,_,h6⟩:=gO a4;cases h6
  |row e1 W1 n1=>
   cases hx:os[j]with
   |box cs=>
    obtain⟨cs',hcs'⟩:=ok3 j cs (by rw[←hx];exact gE h4);rw[hcs']at a1;cases a1
   |row e0 W0 n0=>
    obtain⟨i',b1,b2,b3⟩:=hR j e0 W0 n0 (by rw[←hx];exact gE h4);rw[h1]at b1;cases b1;obtain⟨n2,c1,_⟩:=h.mem.pas.row d e0 W0 n0 ho b3;rw[h0]at c1;cases c1
 ·rcases hrowI hd with⟨q,a1,a2,a3⟩|⟨a1,a2,a3⟩
  ·have hb:=hback a2;have hmem:d∈I:=by
    apply Classical.byContradiction;intro hno;rw[hold d (hoold ho) hno]at hb;cases hb
   obtain⟨j,h1,h2,h3,h4⟩:=hposIn hmem;obtain rfl:j=q:=by rw[h3]at hb;have:=Option.some.inj hb;omega
   cases hx:os[j]with
   |box cs=>
    obtain⟨cs',hcs'⟩:=ok3 j cs (by rw[←hx];exact gE h4);rw[hcs']at a1;cases a1
   |row e0 W0 n0=>
    have hxo:os[j]?=some (.row e0 W0 n0):=by rw[←hx];exact gE h4
    obtain⟨i',b1,b2,b3⟩:=hR j e0 W0 n0 hxo;rw[h1]at b1;cases b1;obtain⟨n',c1,c2,c3⟩:=hl.row (1000+j) e0 W0 n0 (z2n hxo);rw[z2n a1]at c1;have c1':=Option.some.inj c1;simp only[Prod.mk.injEq]at c1';obtain⟨rfl,rfl,rfl⟩:=c1';obtain⟨n2,d1,d2,d3⟩:=h.mem.pas.row d e W n0 ho b3;refine⟨n2,d1,by omega,fun he=> ?_⟩;have e1:n2=n0:=by omega
    have e2:n0=n:=by omega
    rw[a3,c3 e2,hγin h1];exact d3 e1
  ·rw[a3];exact h.mem.pas.row d e W n ho a1
 ·obtain⟨h1,h2⟩:=h.itr d z p hd;refine⟨(hm.low.block _ (gA h1).1 (fun d' hx=> ?_)).trans h1,h2⟩;rcases hXbox hx with⟨i',c,b1,b2,b3⟩|⟨i',q,cap,b1,b2,_,b3⟩
  ·obtain⟨c',e',z',ho⟩:=(h.mem.box i' c b1).1.obj;rw[b3,h1]at ho;cases ho
  ·obtain⟨c',e',hc⟩:=hrowlt b1 b3;rw[h1]at hc;cases hc
end
end
end Go.Sh
end
