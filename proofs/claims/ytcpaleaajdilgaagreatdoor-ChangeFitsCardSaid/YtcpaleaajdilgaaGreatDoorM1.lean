/- Merged texts: S1 S2 S3 S4 S5 S6 S7. No statement of the program is proved here. -/
import Derived.Lib.Replace
import Derived.Lib.ItoaLen
import Derived.Deep.MidRow
import Derived.Deep.AppendSrc
import Derived.Laws.AppendOwn
import Derived.Below
import Derived.Orders
import Derived.WalkKit
import Derived.Handy
import Derived.Deep.Upon
import Derived.Great.BuildSlice
set_option linter.unusedSimpArgs false
set_option linter.unusedVariables false
set_option maxRecDepth 100000
set_option maxHeartbeats 8000000
section
namespace Go
theorem gE{α:Type _}{l:List α}{i:Nat}(h:i<l.length):l[i]?=some l[i]:=List.getElem?_eq_getElem h
theorem gJ{α:Type _}{l:List α}{i:Nat}{a:α}(h:l[i]?=some a):∃h:i<l.length,l[i]=a:=List.getElem?_eq_some_iff.1 h
theorem gM{α:Type _}{l:List α}{i:Nat}{a:α}(h:l[i]?=some a):a∈l:=List.mem_of_getElem? h
theorem gO{α β:Type _}{f:α→β}{x:Option α}{b:β}(h:x.map f=some b):∃a,x=some a∧f a=b:=Option.map_eq_some_iff.1 h
theorem gB{α β:Type _}{f:α→Option β}{x:Option α}{b:β}(h:x.bind f=some b):∃a,x=some a∧f a=some b:=Option.bind_eq_some_iff.1 h
theorem gA{α:Type _}{l:Array α}{i:Nat}{a:α}(h:l[i]?=some a):∃h:i<l.size,l[i]=a:=Array.getElem?_eq_some_iff.1 h
theorem wa2{p0 p1:Prop}(x0:p0)(x1:p1):p0∧p1:=⟨x0,x1⟩
theorem wa3{p0 p1 p2:Prop}(x0:p0)(x1:p1)(x2:p2):p0∧p1∧p2:=⟨x0,x1,x2⟩
theorem wa4{p0 p1 p2 p3:Prop}(x0:p0)(x1:p1)(x2:p2)(x3:p3):p0∧p1∧p2∧p3:=⟨x0,x1,x2,x3⟩
theorem wa5{p0 p1 p2 p3 p4:Prop}(x0:p0)(x1:p1)(x2:p2)(x3:p3)(x4:p4):p0∧p1∧p2∧p3∧p4:=⟨x0,x1,x2,x3,x4⟩
theorem wa6{p0 p1 p2 p3 p4 p5:Prop}(x0:p0)(x1:p1)(x2:p2)(x3:p3)(x4:p4)(x5:p5):p0∧p1∧p2∧p3∧p4∧p5:=⟨x0,x1,x2,x3,x4,x5⟩
theorem wa7{p0 p1 p2 p3 p4 p5 p6:Prop}(x0:p0)(x1:p1)(x2:p2)(x3:p3)(x4:p4)(x5:p5)(x6:p6):p0∧p1∧p2∧p3∧p4∧p5∧p6:=⟨x0,x1,x2,x3,x4,x5,x6⟩
theorem wa8{p0 p1 p2 p3 p4 p5 p6 p7:Prop}(x0:p0)(x1:p1)(x2:p2)(x3:p3)(x4:p4)(x5:p5)(x6:p6)(x7:p7):p0∧p1∧p2∧p3∧p4∧p5∧p6∧p7:=⟨x0,x1,x2,x3,x4,x5,x6,x7⟩
end Go
namespace Go
abbrev zB:=List UInt8
end Go
namespace Go.Sh
open Go Go.RowKit
inductive PV where
 |v (x:Value)
 |sl (W:Nat) (es:List (List PV))
 |el (cs:List PV)
 |fn (f:Fn) (first captured:List PV)
inductive TV where
 |pv (p:PV)
 |unk
 |ptr (d off:Nat)
 |own (d W:Nat) (es:List (List PV))
 |bs (d off n c:Nat)
 |it (d:Nat)
 |fn (f:Fn) (first captured:List TV)
 |agg (cs:List TV)
 |mp (ks:List Value) (xs:List TV)
 |tuple (ts:List TV)
structure FS where
 t:Nat→Option TV
 b:Nat→Option (List TV)
 r:Nat→Option (Nat×Nat×Nat)
 i:Nat→Option (ByteArray×Nat)
structure Env where
 K:Nat→Nat→Prop
 β:Nat→Nat
 γ:Nat→Option (Nat×Nat)
 ι:Nat→Nat
abbrev Rows:=Nat→Option (Nat×Nat×Nat)
def hdr(g:Option (Nat×Nat))(n:Nat):Value:=match g with|none=> .slice none n 0|some (b,c)=> .slice (some ⟨b,0,none⟩) n c
abbrev one(v:Value):Prop:=v.oneCell'=true
inductive RelV(w:World)(K:Nat→Nat→Prop):PV→Value→Prop where
 |v (x:Value):RelV w K (.v x) x
 |sl (W:Nat) (es:List (List PV)) (b off cap:Nat) (p:Option Addr) (f:Nat→Nat→Value) (hp:es≠[]→p=some ⟨b,off,none⟩) (hcap:es.length≤cap) (hmax:cap≤maxLen) (hW:∀cs∈es,cs.length=W)
   (hc:∀(i j:Nat) cs c,es[i]?=some cs→cs[j]?=some c→K b (off+i*W+j)∧w.cell? ⟨b,off+i*W+j,none⟩=some (f i j)∧one (f i j))
   (hs:∀(i j:Nat) cs c,es[i]?=some cs→cs[j]?=some c→RelV w K c (f i j)):RelV w K (.sl W es) (.slice p es.length cap)
 |el (cs:List PV) (b off:Nat) (f:Nat→Value) (hc:∀(j:Nat) c,cs[j]?=some c→K b (off+j)∧w.cell? ⟨b,off+j,none⟩=some (f j)∧one (f j)) (hs:∀(j:Nat) c,cs[j]?=some c→RelV w K c (f j)):
   RelV w K (.el cs) (.pointer (some ⟨b,off,none⟩))
 |fn (g:Fn) (xs ys:List PV) (us vs:List Value) (h1:xs.length=us.length) (h2:ys.length=vs.length) (r1:∀(j:Nat) c v,xs[j]?=some c→us[j]?=some v→RelV w K c v) (r2:∀(j:Nat) c v,ys[j]?=some c→vs[j]?=some v→RelV w K c v):
   RelV w K (.fn g xs ys) (.func g us.toArray vs.toArray)
inductive RelT(w:World)(E:Env)(r:Rows):TV→Value→Prop where
 |pv {p:PV} {v:Value} (h:RelV w E.K p v):RelT w E r (.pv p) v
 |unk (v:Value):RelT w E r .unk v
 |ptr (d off:Nat):RelT w E r (.ptr d off) (.pointer (some ⟨E.β d,off,none⟩))
 |own (d W:Nat) (es:List (List PV)) (v:Value) (h:RelV w E.K (.sl W es) v) (hr:∀e W' n,r d=some (e,W',n)→es.length≤n∧(es.length=n→W'=W∧v=hdr (E.γ d) n)):RelT w E r (.own d W es) v
 |bs (d off n c C:Nat) (hn:n≤c) (hc:c≤C) (hm:C≤maxLen):RelT w E r (.bs d off n c) (.slice (some ⟨E.β d,off,none⟩) n C)
 |it (d:Nat):RelT w E r (.it d) (.pointer (some ⟨E.ι d,0,none⟩))
 |fn (g:Fn) (xs ys:List TV) (us vs:List Value) (h1:xs.length=us.length) (h2:ys.length=vs.length) (r1:∀(j:Nat) c v,xs[j]?=some c→us[j]?=some v→RelT w E r c v) (r2:∀(j:Nat) c v,ys[j]?=some c→vs[j]?=some v→RelT w E r c v):
   RelT w E r (.fn g xs ys) (.func g us.toArray vs.toArray)
 |agg (cs:List TV) (vs:List Value) (hl:cs.length=vs.length) (h:∀(j:Nat) c v,cs[j]?=some c→vs[j]?=some v→RelT w E r c v) (ho:∀v∈vs,one v):RelT w E r (.agg cs) (.agg vs.toArray)
 |mp (ks:List Value) (xs:List TV) (b:Nat) (es:Array MapEntry) (clock:Nat) (g:Nat→Value) (hb:w.heap[b]?=some (Obj.map es clock)) (hk:es.toList.map MapEntry.key=ks) (hl:xs.length=ks.length)
   (hg:∀(j:Nat) e,es.toList[j]?=some e→e.val=g j) (h:∀(j:Nat) x,xs[j]?=some x→RelT w E r x (g j)):RelT w E r (.mp ks xs) (.map (some b))
 |tuple (cs:List TV) (vs:List Value) (hl:cs.length=vs.length) (h:∀(j:Nat) c v,cs[j]?=some c→vs[j]?=some v→RelT w E r c v):RelT w E r (.tuple cs) (.tuple vs.toArray)
inductive Ment(d:Nat):TV→Prop where
 |ptr (off:Nat):Ment d (.ptr d off)
 |own (W:Nat) (es:List (List PV)):Ment d (.own d W es)
 |bs (off n c:Nat):Ment d (.bs d off n c)
 |it:Ment d (.it d)
 |fn1 {g:Fn} {xs ys:List TV} {c:TV} (h:c∈xs) (hc:Ment d c):Ment d (.fn g xs ys)
 |fn2 {g:Fn} {xs ys:List TV} {c:TV} (h:c∈ys) (hc:Ment d c):Ment d (.fn g xs ys)
 |mp {ks:List Value} {xs:List TV} {c:TV} (h:c∈xs) (hc:Ment d c):Ment d (.mp ks xs)
 |agg {cs:List TV} {c:TV} (h:c∈cs) (hc:Ment d c):Ment d (.agg cs)
 |tuple {cs:List TV} {c:TV} (h:c∈cs) (hc:Ment d c):Ment d (.tuple cs)
def FS.ment(s:FS)(d:Nat):Prop:=(∃k x,s.t k=some x∧Ment d x)∨(∃e cs c,s.b e=some cs∧c∈cs∧Ment d c)
def Fresh(s:FS)(d:Nat):Prop:=¬s.ment d∧s.b d=none∧s.r d=none∧s.i d=none
def Maps(w w':World):Prop:=∀(b:Nat) (es:Array MapEntry) (c:Nat),w.heap[b]?=some (Obj.map es c)→w'.heap[b]?=some (Obj.map es c)
theorem Maps.refl(w:World):Maps w w:=fun _ _ _ h=>h
theorem Maps.below{w w':World}(h:Below w.heap.size w w'):Maps w w':=fun b _ _ hb=>(h.block b (gA hb).1).trans hb
theorem Maps.but{w w':World}(k:Nat)(hk:∀es c,w.heap[k]?≠some (Obj.map es c))(h:∀b,b≠k→w'.heap[b]?=w.heap[b]?):Maps w w':=fun b es c hb=>(h b (fun e=>hk es c (e▸hb))).trans hb
theorem RelV.mono{w w':World}{K K':Nat→Nat→Prop}{p:PV}{v:Value}(h:RelV w K p v)(hk:∀b o u,K b o→w.cell? ⟨b,o,none⟩=some u→K' b o∧w'.cell? ⟨b,o,none⟩=some u):RelV w' K' p v:=by
 induction h with
 |v x=>exact .v x
 |sl W es b off cap p f hp hcap hmax hW hc hs ih=>
  refine .sl W es b off cap p f hp hcap hmax hW (fun i j cs c h1 h2=> ?_) ih
  grind
 |el cs b off f hc hs ih=>
  refine .el cs b off f (fun j c h1=> ?_) ih
  grind
 |fn g xs ys us vs h1 h2 r1 r2 i1 i2=>exact .fn g xs ys us vs h1 h2 i1 i2
theorem RelT.mono{w w':World}{E E':Env}{r r':Rows}{x:TV}{v:Value}(h:RelT w E r x v)
  (hk:∀b o u,E.K b o→w.cell? ⟨b,o,none⟩=some u→E'.K b o∧w'.cell? ⟨b,o,none⟩=some u)
  (hb:∀d,Ment d x→E'.β d=E.β d∧E'.ι d=E.ι d)
  (hr:∀d e W n,Ment d x→r' d=some (e,W,n)→(r d=some (e,W,n)∧E'.γ d=E.γ d)∨(∃m,r d=some (e,W,m)∧m<n)) (hw:Maps w w'):RelT w' E' r' x v:=by
 induction h with
 |pv h=>exact .pv (h.mono hk)
 |unk v=>exact .unk v
 |ptr d off=>rw[←(hb d (.ptr off)).1];exact .ptr d off
 |own d W es v h h2=>
  refine .own d W es v (h.mono hk) (fun e W' n hn=> ?_);rcases hr d e W' n (.own W es) hn with⟨h3,h4⟩|⟨m,h3,h4⟩<;>grind
 |bs d off n c C hn hc hm=>rw[←(hb d (.bs off n c)).1];exact .bs d off n c C hn hc hm
 |it d=>rw[←(hb d .it).2];exact .it d
 |fn g xs ys us vs h1 h2 r1 r2 i1 i2=>
  exact .fn g xs ys us vs h1 h2 (fun j c v h1 h2=>i1 j c v h1 h2 (fun d hd=>hb d (.fn1 (gM h1) hd)) (fun d e W n hd=>hr d e W n (.fn1 (gM h1) hd)))
   (fun j c v h1 h2=>i2 j c v h1 h2 (fun d hd=>hb d (.fn2 (gM h1) hd)) (fun d e W n hd=>hr d e W n (.fn2 (gM h1) hd)))
 |mp ks xs b es clock g h1 h2 h3 h4 h ih=>
  exact .mp ks xs b es clock g (hw _ _ _ h1) h2 h3 h4 (fun j x hx=>ih j x hx (fun d hd=>hb d (.mp (gM hx) hd)) (fun d e W n hd=>hr d e W n (.mp (gM hx) hd)))
 |agg cs vs hl h ho ih=>
  exact .agg cs vs hl (fun j c v h1 h2=>ih j c v h1 h2 (fun d hd=>hb d (.agg (gM h1) hd)) (fun d e W n hd=>hr d e W n (.agg (gM h1) hd))) ho
 |tuple cs vs hl h ih=>
  exact .tuple cs vs hl (fun j c v h1 h2=>ih j c v h1 h2 (fun d hd=>hb d (.tuple (gM h1) hd)) (fun d e W n hd=>hr d e W n (.tuple (gM h1) hd)))
structure Low(X:Nat→Nat→Prop)(w0 w:World):Prop where
 os:w.os=w0.os
 tape:w.tape=w0.tape
 output:w.output=w0.output
 size:w0.heap.size≤w.heap.size
 block:∀k,k<w0.heap.size→(∀d,¬X d k)→w.heap[k]?=w0.heap[k]?
structure BoxAt(w:World)(E:Env)(r:Rows)(b:Nat)(cs:List TV):Prop where
 lt:b<w.heap.size
 obj:∃c e z,w.heap[b]?=some (.cells c e z)
 fz:∀o,w.frozen? ⟨b,o,none⟩=false
 cell:∀(j:Nat) c,cs[j]?=some c→∃v,w.cell? ⟨b,j,none⟩=some v∧one v∧RelT w E r c v
 out:∀o,¬E.K b o
structure RowAt(w:World)(E:Env)(b cap e W n:Nat):Prop where
 cells:∃cur,w.heap[b]?=some (.cells cur e (0,0))∧cur.size=cap*W
 le:n≤cap
 max:cap≤maxLen
 out:∀o,E.K b o→o<n*W
structure Base where
 w0:World
 K0:Nat→Nat→Prop
 X:Nat→Nat→Prop
 N:Nat
 E0:Env
 r0:Rows
 m:Nat
 ds:List Deferred
def Base.old(B:Base)(d:Nat):Prop:=1000≤d∧d<1000+B.m
structure Pas(B:Base)(r:Rows)(E:Env):Prop where
 β:∀d,B.old d→E.β d=B.E0.β d
 γ:∀d,B.old d→B.r0 d=none→E.γ d=B.E0.γ d
 row:∀d e W n,B.old d→r d=some (e,W,n)→∃n0,B.r0 d=some (e,W,n0)∧n0≤n∧(n0=n→E.γ d=B.E0.γ d)
structure MSim(B:Base)(b:Nat→Option (List TV))(r:Rows)(w:World)(E:Env):Prop where
 box:∀d cs,b d=some cs→BoxAt w E r (E.β d) cs∧(B.w0.heap.size≤E.β d∨B.X d (E.β d))
 row:∀d e W n,r d=some (e,W,n)→(E.γ d=none∧n=0)∨∃k cap,E.γ d=some (k,cap)∧(B.w0.heap.size≤k∨B.X d k)∧RowAt w E k cap e W n
 bb:∀d d' cs cs',b d=some cs→b d'=some cs'→E.β d=E.β d'→d=d'
 br:∀d d' cs q k cap,b d=some cs→r d'=some q→E.γ d'=some (k,cap)→E.β d≠k
 rr:∀d d' q q' k cap cap',r d=some q→r d'=some q'→E.γ d=some (k,cap)→E.γ d'=some (k,cap')→d=d'
 lt:∀k o,E.K k o→k<w.heap.size
 low:Low B.X B.w0 w
 keep:∀k o u,B.K0 k o→B.w0.cell? ⟨k,o,none⟩=some u→E.K k o∧w.cell? ⟨k,o,none⟩=some u
 knew:∀k o,E.K k o→B.K0 k o∨B.w0.heap.size≤k∨∃d,B.X d k
 pas:Pas B r E
structure Sim(B:Base)(s:FS)(a:Act)(w:World)(E:Env):Prop where
 defers:a.defers=B.ds
 size:a.tmps.size=B.N
 tmp:∀k x,s.t k=some x→k<B.N∧RelT w E s.r x (a.tmps.getD k undef)
 mem:MSim B s.b s.r w E
 itr:∀d z p,s.i d=some (z,p)→w.heap[E.ι d]?=some (.stringIter z p)∧B.w0.heap.size≤E.ι d
 ii:∀d d' q q',s.i d=some q→s.i d'=some q'→E.ι d=E.ι d'→d=d'
theorem z72{w:World}{a:Addr}{v:Value}(h:w.cell? a=some v):a.block<w.heap.size:=by
 grind [Nat.lt_or_ge,World.cell?,Array.getElem?_eq_none]
def setF{α:Type}(f:Nat→Option α)(k:Nat)(x:α):Nat→Option α:=fun j=>if j=k then some x else f j
theorem setF_self{α:Type}(f:Nat→Option α)(k:Nat)(x:α):setF f k x k=some x:=by simp[setF]
theorem setF_ne{α:Type}(f:Nat→Option α){k j:Nat}(x:α)(h:j≠k):setF f k x j=f j:=by simp[setF,h]
theorem z34{α:Type}{f:Nat→Option α}{k j:Nat}{x y:α}(h:setF f k x j=some y):(j=k∧y=x)∨(j≠k∧f j=some y):=by
 grind [setF_self,setF_ne]
def FS.setT(s:FS)(k:Nat)(x:TV):FS:={ s with t:=setF s.t k x }
def FS.setB(s:FS)(k:Nat)(x:List TV):FS:={ s with b:=setF s.b k x }
def FS.setR(s:FS)(k:Nat)(x:Nat×Nat×Nat):FS:={ s with r:=setF s.r k x }
def FS.setI(s:FS)(k:Nat)(x:ByteArray×Nat):FS:={ s with i:=setF s.i k x }
def FS.put(s:FS)(dst:Option Nat)(x:TV):FS:=match dst with|some k=>s.setT k x|none=>s
theorem Sim.setT{B:Base}{s:FS}{a:Act}{w:World}{E:Env}(h:Sim B s a w E){k:Nat}(hk:k<B.N){x:TV}{v:Value}(hx:RelT w E s.r x v):Sim B (s.setT k x) (a.put (some k) v) w E:=by
 refine⟨h.defers,by simp[Act.put,h.size],fun j y hy=> ?_,h.mem,h.itr,h.ii⟩;rcases z34 hy with⟨rfl,rfl⟩|⟨hj,hy⟩
 ·refine⟨hk,?_⟩;have:(a.put (some j) v).tmps.getD j undef=v:=by simp[Act.put,Array.getD,h.size,hk]
  rw[this];exact hx
 ·obtain⟨h1,h2⟩:=h.tmp j y hy;refine⟨h1,?_⟩;have:(a.put (some k) v).tmps.getD j undef=a.tmps.getD j undef:=by
   simp only[Act.put,Array.getD_eq_getD_getElem?]
   grind
  rw[this];exact h2
theorem Sim.put{B:Base}{s:FS}{a:Act}{w:World}{E:Env}(h:Sim B s a w E){dst:Option Nat}(hk:∀k,dst=some k→k<B.N){x:TV}{v:Value}(hx:RelT w E s.r x v):Sim B (s.put dst x) (a.put dst v) w E:=by
 cases dst with
 |none=>exact h
 |some k=>exact h.setT (hk k rfl) hx
theorem Sim.less{B:Base}{s s':FS}{a:Act}{w:World}{E:Env}(h:Sim B s a w E)(ht:∀k x,s'.t k=some x→s.t k=some x∨x=.unk∧∃y,s.t k=some y)
  (hb:∀d cs',s'.b d=some cs'→∃cs,s.b d=some cs∧∀(j:Nat) c,cs'[j]?=some c→(cs[j]?=some c∨c=.unk∧∃y,cs[j]?=some y)) (hr:∀d q,s'.r d=some q→s.r d=some q) (hi:∀d q,s'.i d=some q→s.i d=some q):Sim B s' a w E:=by
 have hm:∀{x:TV} {v:Value},RelT w E s.r x v→RelT w E s'.r x v:=fun hx=>hx.mono (fun _ _ _ h1 h2=>⟨h1,h2⟩) (fun _ _=>⟨rfl,rfl⟩) (fun d e W n _ h1=> .inl ⟨hr d _ h1,rfl⟩) (.refl _);refine⟨h.defers,h.size,fun k x hx=> ?_,⟨fun d cs' hd=> ?_,fun d e W n hd=>h.mem.row d e W n (hr d _ hd),fun d d' cs cs' h1 h2=> ?_,fun d d' cs q k cap h1 h2=> ?_,fun d d' q q' k cap cap' h1 h2=>h.mem.rr d d' q q' k cap cap' (hr d _ h1) (hr d' _ h2),h.mem.lt,h.mem.low,h.mem.keep,h.mem.knew,⟨h.mem.pas.β,h.mem.pas.γ,fun d e W n ho hd=>h.mem.pas.row d e W n ho (hr d _ hd)⟩⟩,
  fun d z p hd=>h.itr d z p (hi d _ hd),fun d d' q q' h1 h2=>h.ii d d' q q' (hi d _ h1) (hi d' _ h2)⟩
 ·rcases ht k x hx with h1|⟨rfl,y,h1⟩
  ·exact⟨(h.tmp k x h1).1,hm (h.tmp k x h1).2⟩
  ·exact⟨(h.tmp k y h1).1,.unk _⟩
 ·obtain⟨cs,h1,h2⟩:=hb d cs' hd;obtain⟨h3,h4⟩:=h.mem.box d cs h1;refine⟨⟨h3.lt,h3.obj,h3.fz,fun j c hc=> ?_,h3.out⟩,h4⟩;rcases h2 j c hc with h5|⟨rfl,y,h5⟩
  ·obtain⟨v,c1,c2,c3⟩:=h3.cell j c h5
   grind
  ·obtain⟨v,c1,c2,c3⟩:=h3.cell j y h5;exact⟨v,c1,c2,.unk v⟩
 ·obtain⟨c1,e1,_⟩:=hb d cs h1;obtain⟨c2,e2,_⟩:=hb d' cs' h2;exact h.mem.bb d d' c1 c2 e1 e2
 ·obtain⟨c1,e1,_⟩:=hb d cs h1;exact h.mem.br d d' c1 q k cap e1 (hr d' _ h2)
end Go.Sh
end

section
namespace Go.Sh
open Go Go.RowKit
section
section
variable{B:Base}{s:FS}{a:Act}{w w':World}{E:Env}
theorem Sim.step{s':FS}{E':Env}(h:Sim B s a w E)(ht:s'.t=s.t)(hm:MSim B s'.b s'.r w' E')
  (hk:∀b o u,E.K b o→w.cell? ⟨b,o,none⟩=some u→E'.K b o∧w'.cell? ⟨b,o,none⟩=some u)
  (hβ:∀d,s.ment d→E'.β d=E.β d∧E'.ι d=E.ι d)
  (hr:∀d e W n,s.ment d→s'.r d=some (e,W,n)→(s.r d=some (e,W,n)∧E'.γ d=E.γ d)∨(∃m,s.r d=some (e,W,m)∧m<n))
  (hi:∀d z p,s'.i d=some (z,p)→w'.heap[E'.ι d]?=some (.stringIter z p)∧B.w0.heap.size≤E'.ι d)
  (hii:∀d d' q q',s'.i d=some q→s'.i d'=some q'→E'.ι d=E'.ι d'→d=d') (hw:Maps w w'):Sim B s' a w' E':=by
 refine⟨h.defers,h.size,fun k x hx=> ?_,hm,hi,hii⟩;rw[ht]at hx;obtain⟨h1,h2⟩:=h.tmp k x hx;exact⟨h1,h2.mono hk (fun d hd=>hβ d (.inl ⟨k,x,hx,hd⟩)) (fun d e W n hd=>hr d e W n (.inl ⟨k,x,hx,hd⟩)) hw⟩
theorem MSim.ext(h:MSim B s.b s.r w E)(hb:Below w.heap.size w w')(E':Env)(hK:∀b o,E.K b o→E'.K b o)(hK':∀b o,E'.K b o→E.K b o∨(w.heap.size≤b∧b<w'.heap.size))
  (hβ:∀d,(s.ment d∨∃cs,s.b d=some cs)→E'.β d=E.β d∧E'.ι d=E.ι d) (hγ:∀d q,s.r d=some q→E'.γ d=E.γ d) (hold:∀d,B.old d→E'.β d=E.β d∧E'.γ d=E.γ d):MSim B s.b s.r w' E':=by
 have hk:∀b o u,E.K b o→w.cell? ⟨b,o,none⟩=some u→E'.K b o∧w'.cell? ⟨b,o,none⟩=some u:=fun b o u h1 h2=>
  ⟨hK b o h1,(hb.cell (p:=⟨b,o,none⟩) (z72 h2)).trans h2⟩
 have hr:∀d e W n,s.r d=some (e,W,n)→(s.r d=some (e,W,n)∧E'.γ d=E.γ d)∨(∃m,s.r d=some (e,W,m)∧m<n):=fun d e W n hd=> .inl ⟨hd,hγ d _ hd⟩;have hlow:=h.low.size;refine⟨fun d cs hd=> ?_,fun d e W n hd=> ?_,fun d d' cs cs' h1 h2 h3=> ?_,fun d d' cs q b cap h1 h2 h3=> ?_,fun d d' q q' b cap cap' h1 h2 h3 h4=> ?_,fun b o hbo=> ?_,?_,fun b o u h1 h2=> ?_,fun b o h1=> ?_,⟨fun d ho=>(hold d ho).1.trans (h.pas.β d ho),fun d ho h0=>(hold d ho).2.trans (h.pas.γ d ho h0),fun d e W n ho hd=> ?_⟩⟩
 ·obtain⟨h1,h2⟩:=h.box d cs hd;have e:=(hβ d (.inr ⟨cs,hd⟩)).1;rw[e];refine⟨⟨Nat.lt_of_lt_of_le h1.lt hb.size,(by rw[hb.block _ h1.lt];exact h1.obj),fun o=>(hb.frozen (p:=⟨E.β d,o,none⟩) h1.lt).trans (h1.fz o),fun j c hc=> ?_,fun o hk'=> ?_⟩,h2⟩
  ·obtain⟨v,c1,c2,c3⟩:=h1.cell j c hc;refine⟨v,(hb.cell (p:=⟨E.β d,j,none⟩) h1.lt).trans c1,c2,c3.mono hk (fun d' hd'=>hβ d' (.inl (.inr ⟨d,cs,c,hd,gM hc,hd'⟩))) (fun d e W n _=>hr d e W n) (.below hb)⟩
  ·rcases hK' _ _ hk' with h3|⟨h3,_⟩
   ·exact h1.out o h3
   ·have:=h1.lt;omega
 ·rw[hγ d _ hd];rcases h.row d e W n hd with h1|⟨b,cap,h1,h2,h3⟩
  ·grind
  ·obtain⟨cur,hc,hs⟩:=h3.cells;have hlt:b<w.heap.size:=(gA hc).1;refine .inr ⟨b,cap,h1,h2,⟨cur,(hb.block b hlt).trans hc,hs⟩,h3.le,h3.max,fun o ho=> ?_⟩;rcases hK' _ _ ho with h4|⟨h4,_⟩
   ·exact h3.out o h4
   ·omega
 ·rw[(hβ d (.inr ⟨cs,h1⟩)).1,(hβ d' (.inr ⟨cs',h2⟩)).1]at h3;exact h.bb d d' cs cs' h1 h2 h3
 ·rw[(hβ d (.inr ⟨cs,h1⟩)).1];rw[hγ d' q h2]at h3;exact h.br d d' cs q b cap h1 h2 h3
 ·rw[hγ d q h1]at h3;rw[hγ d' q' h2]at h4;exact h.rr d d' q q' b cap cap' h1 h2 h3 h4
 ·rcases hK' b o hbo with h1|⟨_,h1⟩
  ·exact Nat.lt_of_lt_of_le (h.lt b o h1) hb.size
  ·exact h1
 ·exact⟨hb.os.trans h.low.os,hb.tape.trans h.low.tape,hb.output.trans h.low.output,Nat.le_trans h.low.size hb.size,fun k hk' hx=>(hb.block k (Nat.lt_of_lt_of_le hk' h.low.size)).trans (h.low.block k hk' hx)⟩
 ·obtain⟨h3,h4⟩:=h.keep b o u h1 h2
  grind
 ·rcases hK' b o h1 with h2|⟨h2,_⟩
  ·exact h.knew b o h2
  ·omega
 ·rw[(hold d ho).2];exact h.pas.row d e W n ho hd
theorem Sim.ext(h:Sim B s a w E)(hb:Below w.heap.size w w')(E':Env)(hK:∀b o,E.K b o→E'.K b o)(hK':∀b o,E'.K b o→E.K b o∨(w.heap.size≤b∧b<w'.heap.size))
  (hβ:∀d,(s.ment d∨(∃cs,s.b d=some cs)∨∃q,s.i d=some q)→E'.β d=E.β d∧E'.ι d=E.ι d) (hγ:∀d q,s.r d=some q→E'.γ d=E.γ d) (hold:∀d,B.old d→E'.β d=E.β d∧E'.γ d=E.γ d):Sim B s a w' E':=by
 refine h.step rfl (h.mem.ext hb E' hK hK' (fun d hd=>hβ d (hd.imp id .inl)) hγ hold) (fun b o u h1 h2=>⟨hK b o h1,(hb.cell (p:=⟨b,o,none⟩) (z72 h2)).trans h2⟩) (fun d hd=>hβ d (.inl hd)) (fun d e W n _ hd=> .inl ⟨hd,hγ d _ hd⟩)
  (fun d z p hd=> ?_) (fun d d' q q' h1 h2 h3=> ?_) (.below hb)
 ·rw[(hβ d (.inr (.inr ⟨_,hd⟩))).2];obtain⟨h1,h2⟩:=h.itr d z p hd;exact⟨(hb.block _ (gA h1).1).trans h1,h2⟩
 ·rw[(hβ d (.inr (.inr ⟨_,h1⟩))).2,(hβ d' (.inr (.inr ⟨_,h2⟩))).2]at h3;exact h.ii d d' q q' h1 h2 h3
theorem Sim.same(h:Sim B s a w E)(hb:Below w.heap.size w w'):Sim B s a w' E:=h.ext hb E (fun _ _ h=>h) (fun _ _ h=> .inl h) (fun _ _=>⟨rfl,rfl⟩) (fun _ _ _=>rfl) (fun _ _=>⟨rfl,rfl⟩)
theorem Sim.newBp(h:Sim B s a w E){d:Nat}(hno:¬B.old d)(hf:Fresh s d)(ty:TypeId)(cs:List TV)(vs:List Value)(hl:cs.length≤vs.length)(hv:∀(j:Nat) c v,cs[j]?=some c→vs[j]?=some v→RelT w E s.r c v)(ho:∀(j:Nat) c v,cs[j]?=some c→vs[j]?=some v→one v)
  (hm:∀c∈cs,¬Ment d c):∃E',E'.β d=w.heap.size∧Sim B (s.setB d cs) a (w.alloc (.cells vs.toArray ty)) E':=by
 obtain⟨hf1,hf2,hf3,hf4⟩:=hf;have hb:Below w.heap.size w (w.alloc (.cells vs.toArray ty)):=(Below.refl _ _).alloc (Nat.le_refl _) _;let E':Env:={ E with β:=fun j=>if j=d then w.heap.size else E.β j }
 have hβ:∀d',d'≠d→E'.β d'=E.β d':=fun d' hd'=>by simp[E',hd']
 have hd:E'.β d=w.heap.size:=by simp[E']
 refine⟨E',hd,?_⟩;have h':Sim B s a (w.alloc (.cells vs.toArray ty)) E':=by
  refine h.ext hb E' (fun _ _ h=>h) (fun _ _ h=> .inl h) (fun d' hd'=>⟨hβ d' ?_,rfl⟩) (fun _ _ _=>rfl) (fun d' ho=>⟨hβ d' (fun e=>hno (e▸ho)),rfl⟩)
  grind
 have hlt:∀b o,E.K b o→b<w.heap.size:=h.mem.lt;have hm':=h'.mem;have key:∀e c,s.b e=some c→E'.β e≠w.heap.size:=fun e c he=>by
  have hne:e≠d:=by grind
  rw[hβ e hne];have:=(h.mem.box e c he).1.lt;omega
 refine⟨h'.defers,h'.size,h'.tmp,⟨fun e cs' he=> ?_,hm'.row,fun e e' c c' h1 h2 h3=> ?_,fun e e' c q b cap h1 h2 h3=> ?_,hm'.rr,hm'.lt,hm'.low,hm'.keep,hm'.knew,hm'.pas⟩,h'.itr,h'.ii⟩
 ·rcases z34 he with⟨rfl,rfl⟩|⟨hed,he⟩
  ·rw[hd];refine⟨⟨by simp,⟨_,_,_,heap_alloc_new _ _⟩,fun o=>by unfold World.frozen?;rw[heap_alloc_new];simp,fun j c hc=> ?_,fun o hk=> ?_⟩,.inl h.mem.low.size⟩
   ·have hj:j<vs.length:=Nat.lt_of_lt_of_le (gJ hc).1 hl;refine⟨vs[j],by simp[hj],ho j c _ hc (gE hj),?_⟩;refine(hv j c vs[j] hc (gE hj)).mono (fun b o u h1 h2=>⟨h1,(hb.cell (p:=⟨b,o,none⟩) (z72 h2)).trans h2⟩) (fun d' hd'=>⟨hβ d' ?_,rfl⟩) (fun d e W n _ hd=> .inl ⟨hd,rfl⟩) (.below hb)
    grind
   ·grind
  ·exact hm'.box e cs' he
 ·rcases z34 h1 with⟨x1,_⟩|⟨_,y1⟩<;>rcases z34 h2 with⟨x2,_⟩|⟨_,y2⟩
  ·omega
  ·grind
  ·grind
  ·exact hm'.bb e e' c c' y1 y2 h3
 ·rcases z34 h1 with⟨rfl,_⟩|⟨_,h1⟩
  ·rw[hd];intro hbb;have h3':E.γ e'=some (b,cap):=h3;rcases h.mem.row e' q.1 q.2.1 q.2.2 h2 with⟨h5,_⟩|⟨b',cap',h5,h6,h7⟩
   ·grind
   ·rw[h5]at h3';cases h3';obtain⟨cur,hc,_⟩:=h7.cells
    grind
  ·exact hm'.br e e' c q b cap h1 h2 h3
theorem Sim.newB(h:Sim B s a w E){d:Nat}(hno:¬B.old d)(hf:Fresh s d)(ty:TypeId)(cs:List TV)(vs:List Value)(hl:cs.length=vs.length)(hv:∀(j:Nat) c v,cs[j]?=some c→vs[j]?=some v→RelT w E s.r c v)(ho:∀v∈vs,one v)
  (hm:∀c∈cs,¬Ment d c):∃E',E'.β d=w.heap.size∧Sim B (s.setB d cs) a (w.alloc (.cells vs.toArray ty)) E':=h.newBp hno hf ty cs vs (Nat.le_of_eq hl) hv (fun _ _ v _ h2=>ho v (gM h2)) hm
theorem z181(b:Nat):∀(vs:List Value) (o:Nat) (w:World),(w.setCells b o vs).heap.size=w.heap.size
 |[],_,_=>rfl
 |v::r,o,w=>by rw[World.setCells,z181 b r];simp
theorem setCells_os(b:Nat):∀(vs:List Value) (o:Nat) (w:World),(w.setCells b o vs).os=w.os∧(w.setCells b o vs).tape=w.tape∧(w.setCells b o vs).output=w.output
 |[],_,_=>⟨rfl,rfl,rfl⟩
 |v::r,o,w=>by rw[World.setCells];exact setCells_os b r (o+1) (w.setCell ⟨b,o,none⟩ v)
theorem z69(b:Nat):∀(vs:List Value) (o:Nat) (w:World) (k:Nat),k≠b→(w.setCells b o vs).heap[k]?=w.heap[k]?
 |[],_,_,_,_=>rfl
 |v::r,o,w,k,h=>by
  rw[World.setCells,z69 b r (o+1) _ k h];exact Below.heap_setCell _ _ _ _ h
theorem setCells_obj(b:Nat):∀(vs:List Value) (o:Nat) (w:World),(∃c e z,w.heap[b]?=some (.cells c e z))→∃c e z,(w.setCells b o vs).heap[b]?=some (.cells c e z)
 |[],_,_,h=>h
 |v::r,o,w,⟨c,e,z,h⟩=>by
  rw[World.setCells];exact setCells_obj b r (o+1) _ ⟨_,e,z,by simp[World.setCell,Array.getElem?_modify,h];rfl⟩
def splice{α:Type}(cs:List α)(off:Nat)(xs:List α):List α:=cs.take off++xs++cs.drop (off+xs.length)
theorem z182{α:Type}{cs:List α}{off:Nat}{xs:List α}(h:off+xs.length≤cs.length):(splice cs off xs).length=cs.length:=by
 grind [splice]
theorem splice_in{α:Type}{cs:List α}{off:Nat}{xs:List α}(h:off+xs.length≤cs.length){j:Nat}(hj:off≤j)(hj':j<off+xs.length):(splice cs off xs)[j]?=xs[j-off]?:=by
 grind [splice,List.append_assoc,List.getElem?_append_right,List.getElem?_append_left]
theorem z188{α:Type}{cs:List α}{off:Nat}{xs:List α}(h:off+xs.length≤cs.length){j:Nat}(hj:j<off∨off+xs.length≤j):(splice cs off xs)[j]?=cs[j]?:=by
 grind [splice,List.append_assoc,List.getElem?_append_right]
theorem mem_splice{α:Type}{cs:List α}{off:Nat}{xs:List α}{c:α}(h:c∈splice cs off xs):c∈cs∨c∈xs:=by
 simp only[splice,List.mem_append]at h
 grind
theorem Sim.wr(h:Sim B s a w E){d off:Nat}{cs:List TV}(hd:s.b d=some cs)(xs:List TV)(vs:List Value)(hl:xs.length=vs.length)(hle:off+xs.length≤cs.length)
  (hv:∀(j:Nat) c v,xs[j]?=some c→vs[j]?=some v→RelT w E s.r c v) (ho:∀v∈vs,one v):Sim B (s.setB d (splice cs off xs)) a (w.setCells (E.β d) off vs) E:=by
 obtain⟨hbox,hnew⟩:=h.mem.box d cs hd;have hlen:vs.length=xs.length:=hl.symm;have hcell:∀b o,b≠E.β d→(w.setCells (E.β d) off vs).cell? ⟨b,o,none⟩=w.cell? ⟨b,o,none⟩:=fun b o hne=>World.cell?_setCells_out _ _ _ _ _ (fun h1 _=>absurd h1 hne);have hk:∀b o u,E.K b o→w.cell? ⟨b,o,none⟩=some u→E.K b o∧(w.setCells (E.β d) off vs).cell? ⟨b,o,none⟩=some u:=fun b o u h1 h2=>
  ⟨h1,(hcell b o (by rintro rfl;exact hbox.out o h1)).trans h2⟩
 have hmaps:Maps w (w.setCells (E.β d) off vs):=.but (E.β d) (by obtain⟨c,e,z,ho⟩:=hbox.obj;rw[ho];intro _ _ h0;cases h0) (fun b hb=>z69 _ _ _ _ _ hb);have hm:∀{x:TV} {v:Value},RelT w E s.r x v→RelT (w.setCells (E.β d) off vs) E s.r x v:=fun hx=>hx.mono hk (fun _ _=>⟨rfl,rfl⟩) (fun _ _ _ _ _ hd=> .inl ⟨hd,rfl⟩) hmaps;have hsome:∀j,j<vs.length→(w.cell? ⟨E.β d,off+j,none⟩).isSome=true:=fun j hj=>by
  obtain⟨c,hc⟩:∃c,cs[off+j]?=some c:=⟨_,gE (by omega)⟩
  obtain⟨v,h1,_⟩:=hbox.cell (off+j) c hc
  grind
 have hsz:=z181 (E.β d) vs off w;have hb1:∀{e c},(s.setB d (splice cs off xs)).b e=some c→∃c,s.b e=some c:=fun {e c} h1=>by
  rcases z34 h1 with⟨rfl,_⟩|⟨_,h1⟩<;>grind
 refine h.step rfl ⟨fun e cs' he=> ?_,fun e ty W n he=> ?_,fun e e' c c' h1 h2 h3=> ?_,fun e e' c q b cap h1 h2 h3=> ?_,h.mem.rr,fun b o hbo=>by rw[hsz];exact h.mem.lt b o hbo,?_,fun b o u h1 h2=> ?_,h.mem.knew,h.mem.pas⟩ hk (fun _ _=>⟨rfl,rfl⟩) (fun _ _ _ _ _ hd=> .inl ⟨hd,rfl⟩) (fun e z p he=> ?_) h.ii hmaps
 ·rcases z34 he with⟨rfl,rfl⟩|⟨hed,he⟩
  ·refine⟨⟨by rw[hsz];exact hbox.lt,setCells_obj _ _ _ _ hbox.obj,fun o=>by rw[World.frozen?_setCells];exact hbox.fz o,fun j c hc=> ?_,hbox.out⟩,hnew⟩;by_cases hj:off≤j∧j<off+xs.length
   ·rw[splice_in hle hj.1 hj.2]at hc;have hjl:j-off<vs.length:=by omega
    have hcell':=World.cell?_setCells_in (E.β e) vs off w hsome (j-off) hjl;rw[show off+(j-off)=j by omega]at hcell';exact⟨_,hcell',ho _ (List.getElem_mem hjl),hm (hv _ _ _ hc (gE hjl))⟩
   ·rw[z188 hle (by omega)]at hc;obtain⟨v,c1,c2,c3⟩:=hbox.cell j c hc;exact⟨v,(World.cell?_setCells_out _ _ _ _ _ (fun _ _=>by show j<off∨off+vs.length≤j;omega)).trans c1,c2,hm c3⟩
  ·obtain⟨h1,h2⟩:=h.mem.box e cs' he;have hne:E.β e≠E.β d:=fun hh=>hed (h.mem.bb e d cs' cs he hd hh);refine⟨⟨by rw[hsz];exact h1.lt,(by rw[z69 _ _ _ _ _ hne];exact h1.obj),fun o=>by rw[World.frozen?_setCells];exact h1.fz o,fun j c hc=> ?_,h1.out⟩,h2⟩;obtain⟨v,c1,c2,c3⟩:=h1.cell j c hc;exact⟨v,(hcell _ _ hne).trans c1,c2,hm c3⟩
 ·rcases h.mem.row e ty W n he with h1|⟨b,cap,h1,h2,h3⟩
  ·grind
  ·obtain⟨cur,hc,hs⟩:=h3.cells;exact .inr ⟨b,cap,h1,h2,⟨cur,(z69 _ _ _ _ _ (h.mem.br d e cs _ b cap hd he h1).symm).trans hc,hs⟩,h3.le,h3.max,h3.out⟩
 ·obtain⟨_,h1⟩:=hb1 h1;obtain⟨_,h2⟩:=hb1 h2;exact h.mem.bb e e' _ _ h1 h2 h3
 ·obtain⟨_,h1⟩:=hb1 h1;exact h.mem.br e e' _ q b cap h1 h2 h3
 ·obtain⟨o1,o2,o3⟩:=setCells_os (E.β d) vs off w;refine⟨o1.trans h.mem.low.os,o2.trans h.mem.low.tape,o3.trans h.mem.low.output,by rw[hsz];exact h.mem.low.size,fun k hk' hx=> ?_⟩;refine(z69 _ _ _ _ _ ?_).trans (h.mem.low.block k hk' hx)
  grind
 ·obtain⟨h3,h4⟩:=h.mem.keep b o u h1 h2
  grind
 ·obtain⟨h1,h2⟩:=h.itr e z p he;by_cases hv0:vs=[]
  ·subst hv0;exact⟨h1,h2⟩
  ·grind [z69,List.length_pos_iff,List.getElem?_eq_getElem,World.cell?]
theorem Sim.newI(h:Sim B s a w E){d:Nat}(hf:Fresh s d)(z:ByteArray):∃E',E'.ι d=w.heap.size∧Sim B (s.setI d (z,0)) a (w.alloc (.stringIter z 0)) E':=by
 obtain⟨hf1,hf2,hf3,hf4⟩:=hf;have hb:Below w.heap.size w (w.alloc (.stringIter z 0)):=(Below.refl _ _).alloc (Nat.le_refl _) _;let E':Env:={ E with ι:=fun j=>if j=d then w.heap.size else E.ι j }
 have hι:∀d',d'≠d→E'.ι d'=E.ι d':=fun d' hd'=>by simp[E',hd']
 have hd:E'.ι d=w.heap.size:=by simp[E']
 refine⟨E',hd,?_⟩;have h':Sim B s a (w.alloc (.stringIter z 0)) E':=by
  refine h.ext hb E' (fun _ _ h=>h) (fun _ _ h=> .inl h) (fun d' hd'=>⟨rfl,hι d' ?_⟩) (fun _ _ _=>rfl) (fun _ _=>⟨rfl,rfl⟩)
  grind
 refine⟨h'.defers,h'.size,h'.tmp,h'.mem,fun e y p he=> ?_,fun e e' q q' h1 h2 h3=> ?_⟩
 ·rcases z34 he with⟨x1,x2⟩|⟨_,y1⟩
  ·subst x1;cases x2;rw[hd];exact⟨heap_alloc_new _ _,h.mem.low.size⟩
  ·exact h'.itr e y p y1
 ·have key:∀e q,s.i e=some q→E'.ι e≠w.heap.size:=fun e q he=>by
   have hne:e≠d:=by grind
   rw[hι e hne];have:=(gA (h.itr e q.1 q.2 he).1).1;omega
  rcases z34 h1 with⟨x1,_⟩|⟨_,y1⟩<;>rcases z34 h2 with⟨x2,_⟩|⟨_,y2⟩
  ·omega
  ·grind
  ·grind
  ·exact h'.ii e e' q q' y1 y2 h3
theorem Sim.goI(h:Sim B s a w E){d p p':Nat}{z:ByteArray}(hd:s.i d=some (z,p)):Sim B (s.setI d (z,p')) a { w with heap:=w.heap.setIfInBounds (E.ι d) (.stringIter z p') } E:=by
 obtain⟨h0,h0'⟩:=h.itr d z p hd;have hlt:=(gA h0).1;have hblk:∀k,k≠E.ι d→({ w with heap:=w.heap.setIfInBounds (E.ι d) (.stringIter z p') }:World).heap[k]?=w.heap[k]?:=fun k hk=>by
  grind
 have hnew:({ w with heap:=w.heap.setIfInBounds (E.ι d) (.stringIter z p') }:World).heap[E.ι d]?=some (.stringIter z p'):=by simp[hlt]
 have hcell:∀b o,({ w with heap:=w.heap.setIfInBounds (E.ι d) (.stringIter z p') }:World).cell? ⟨b,o,none⟩=w.cell? ⟨b,o,none⟩:=fun b o=>by
  by_cases hb:b=E.ι d
  ·subst hb;simp only[World.cell?,hnew,h0]
  ·grind [World.cell?_of_block]
 have hfz:∀b o,({ w with heap:=w.heap.setIfInBounds (E.ι d) (.stringIter z p') }:World).frozen? ⟨b,o,none⟩=w.frozen? ⟨b,o,none⟩:=fun b o=>by
  by_cases hb:b=E.ι d
  ·subst hb;simp only[World.frozen?,hnew,h0]
  ·grind [World.frozen?_of_block]
 have hk:∀b o u,E.K b o→w.cell? ⟨b,o,none⟩=some u→E.K b o∧({ w with heap:=w.heap.setIfInBounds (E.ι d) (.stringIter z p') }:World).cell? ⟨b,o,none⟩=some u:=fun b o u h1 h2=>⟨h1,(hcell b o).trans h2⟩
 have hmaps:Maps w ({ w with heap:=w.heap.setIfInBounds (E.ι d) (.stringIter z p') }:World):=.but (E.ι d) (by rw[h0];intro _ _ h9;cases h9) hblk;refine h.step rfl ⟨fun e cs he=> ?_,fun e ty W n he=> ?_,h.mem.bb,h.mem.br,h.mem.rr,fun b o hbo=>by simpa using h.mem.lt b o hbo,?_,fun b o u h1 h2=> ?_,h.mem.knew,h.mem.pas⟩ hk (fun _ _=>⟨rfl,rfl⟩) (fun _ _ _ _ _ hd=> .inl ⟨hd,rfl⟩) (fun e y q he=> ?_) (fun e e' q q' h1 h2 h3=> ?_) hmaps
 ·obtain⟨h1,h2⟩:=h.mem.box e cs he;refine⟨⟨by simpa using h1.lt,(by obtain⟨c,e',z',hc⟩:=h1.obj;exact⟨c,e',z',(hblk _ (fun hh=>by rw[hh,h0]at hc;cases hc)).trans hc⟩),fun o=>(hfz _ _).trans (h1.fz o),fun j c hc=> ?_,h1.out⟩,h2⟩;obtain⟨v,c1,c2,c3⟩:=h1.cell j c hc;exact⟨v,(hcell _ _).trans c1,c2,c3.mono hk (fun _ _=>⟨rfl,rfl⟩) (fun _ _ _ _ _ hd=> .inl ⟨hd,rfl⟩) hmaps⟩
 ·rcases h.mem.row e ty W n he with h1|⟨b,cap,h1,h2,h3⟩
  ·grind
  ·obtain⟨cur,hc,hs⟩:=h3.cells;have hne:b≠E.ι d:=by grind
   exact .inr ⟨b,cap,h1,h2,⟨cur,(hblk b hne).trans hc,hs⟩,h3.le,h3.max,h3.out⟩
 ·refine⟨h.mem.low.os,h.mem.low.tape,h.mem.low.output,by simpa using h.mem.low.size,fun k hk' hx=> ?_⟩;exact(hblk k (by omega)).trans (h.mem.low.block k hk' hx)
 ·obtain⟨h3,h4⟩:=h.mem.keep b o u h1 h2
  grind
 ·rcases z34 he with⟨x1,x2⟩|⟨hne,y1⟩
  ·grind
  ·obtain⟨h1,h2⟩:=h.itr e y q y1;exact⟨(hblk _ (fun hh=>hne (h.ii e d _ _ y1 hd hh))).trans h1,h2⟩
 ·have hs1:∀{e q},(s.setI d (z,p')).i e=some q→∃q,s.i e=some q:=fun {e q} h1=>by
   rcases z34 h1 with⟨x1,_⟩|⟨_,y1⟩<;>grind
  obtain⟨_,h1⟩:=hs1 h1;obtain⟨_,h2⟩:=hs1 h2;exact h.ii e e' _ _ h1 h2 h3
end
end
section
section
variable{Bs:Base}{s:FS}{a:Act}{w w':World}{E E':Env}
theorem Sim.rowUp(h:Sim Bs s a w E){d e W n n':Nat}(hr:s.r d=some (e,W,n))(hn:n<n')
  (hk:∀b o u,E.K b o→w.cell? ⟨b,o,none⟩=some u→E'.K b o∧w'.cell? ⟨b,o,none⟩=some u) (hβ:E'.β=E.β) (hι:E'.ι=E.ι) (hγ:∀d',d'≠d→E'.γ d'=E.γ d')
  (hblk:∀k,k<w.heap.size→(∀cap,E.γ d≠some (k,cap))→w'.heap[k]?=w.heap[k]?)
  {b cap:Nat} (hb:E'.γ d=some (b,cap)) (hb0:Bs.w0.heap.size≤b∨Bs.X d b) (hrow:RowAt w' E' b cap e W n') (hbb:(∃c,E.γ d=some (b,c))∨w.heap.size≤b)
  (hK':∀k o,E'.K k o→E.K k o∨k=b) (hos:w'.os=w.os) (htape:w'.tape=w.tape) (hout:w'.output=w.output) (hsize:w.heap.size≤w'.heap.size):
  Sim Bs (s.setR d (e,W,n')) a w' E':=by
 have hrr:∀d' e' W' m,(s.setR d (e,W,n')).r d'=some (e',W',m)→(s.r d'=some (e',W',m)∧E'.γ d'=E.γ d')∨(∃q,s.r d'=some (e',W',q)∧q<m):=by
  intro d' e' W' m h1;rcases z34 h1 with⟨x1,x2⟩|⟨hd,h1⟩
  ·subst x1;cases x2;exact .inr ⟨n,hr,hn⟩
  ·exact .inl ⟨h1,hγ d' hd⟩
 have hmaps:Maps w w':=by
  intro k es c hm;have hlt:=(gA hm).1;refine(hblk k hlt (fun cap hg=> ?_)).trans hm;rcases h.mem.row d e W n hr with⟨h1,_⟩|⟨b',cap',h1,_,h3⟩
  ·rw[h1]at hg;cases hg
  ·rw[h1]at hg;cases hg;obtain⟨cur,hc,_⟩:=h3.cells;rw[hm]at hc;cases hc
 have hm:∀{x:TV} {v:Value},RelT w E s.r x v→RelT w' E' (s.setR d (e,W,n')).r x v:=fun hx=>hx.mono hk (fun _ _=>by rw[hβ,hι];exact⟨rfl,rfl⟩) (fun d' e' W' m _ h1=>hrr d' e' W' m h1) hmaps;have hnb:∀d' cs,s.b d'=some cs→E.β d'≠b:=by
  intro d' cs h1;rcases hbb with⟨c,hc⟩|hc
  ·exact h.mem.br d' d cs _ b c h1 hr hc
  ·have:=(h.mem.box d' cs h1).1.lt;omega
 have hnr:∀d' q b' c',d'≠d→s.r d'=some q→E.γ d'=some (b',c')→b'≠b:=by
  intro d' q b' c' hd h1 h2 h3;subst h3;rcases hbb with⟨c,hc⟩|hc
  ·exact hd (h.mem.rr d' d q _ b' c' c h1 hr h2 hc)
  ·rcases h.mem.row d' q.1 q.2.1 q.2.2 h1 with⟨h4,_⟩|⟨b2,c2,h4,_,h5⟩
   ·rw[h4]at h2;cases h2
   ·rw[h4]at h2;cases h2;obtain⟨cur,hcur,_⟩:=h5.cells;have:=(gA hcur).1;omega
 refine h.step rfl ⟨fun d' cs hd=> ?_,fun d' e' W' m hd=> ?_,fun d1 d2 c1 c2 h1 h2 h3=> ?_,fun d1 d2 c q b1 cap1 h1 h2 h3=> ?_,fun d1 d2 q q' b1 c1 c2 h1 h2 h3 h4=> ?_,fun k o hko=> ?_,?_,fun k o u h1 h2=> ?_,fun k o h1=> ?_,⟨fun d' ho=>by rw[hβ];exact h.mem.pas.β d' ho,fun d' ho h0=> ?_,fun d' e' W' m ho hd=> ?_⟩⟩ hk (fun _ _=>by rw[hβ,hι];exact⟨rfl,rfl⟩) (fun d' e' W' m _ h1=>hrr d' e' W' m h1) (fun d' z p hd=> ?_) (by rw[hι];exact h.ii) hmaps
 ·obtain⟨h1,h2⟩:=h.mem.box d' cs hd;rw[hβ];have hsame:w'.heap[E.β d']?=w.heap[E.β d']?:=hblk _ h1.lt (fun c hc=>h.mem.br d' d cs _ _ c hd hr hc rfl);refine⟨⟨Nat.lt_of_lt_of_le h1.lt hsize,(by rw[hsame];exact h1.obj),fun o=>(World.frozen?_of_block (w:=w) (a:=⟨E.β d',o,none⟩) hsame).trans (h1.fz o),fun j c hc=> ?_,fun o ho=> ?_⟩,h2⟩
  ·obtain⟨v,c1,c2,c3⟩:=h1.cell j c hc;exact⟨v,(World.cell?_of_block (w:=w) (a:=⟨E.β d',j,none⟩) hsame).trans c1,c2,hm c3⟩
  ·rcases hK' _ _ ho with h3|h3
   ·exact h1.out o h3
   ·exact hnb d' cs hd h3
 ·rcases z34 hd with⟨x1,x2⟩|⟨hdd,hd⟩
  ·subst x1;cases x2;exact .inr ⟨b,cap,hb,hb0,hrow⟩
  ·rw[hγ d' hdd];rcases h.mem.row d' e' W' m hd with h1|⟨b',c',h1,h2,h3⟩
   ·exact .inl h1
   ·obtain⟨cur,hc,hs⟩:=h3.cells;have hlt:=(gA hc).1;have hne:=hnr d' _ b' c' hdd hd h1;refine .inr ⟨b',c',h1,h2,⟨cur,(hblk b' hlt (fun c hc'=>hdd (h.mem.rr d' d _ _ b' c' c hd hr h1 hc'))).trans hc,hs⟩,h3.le,h3.max,fun o ho=> ?_⟩;rcases hK' _ _ ho with h4|h4
    ·exact h3.out o h4
    ·exact absurd h4 hne
 ·rw[hβ]at h3;exact h.mem.bb d1 d2 c1 c2 h1 h2 h3
 ·rw[hβ];rcases z34 h2 with⟨x1,_⟩|⟨hdd,h2⟩
  ·subst x1;rw[hb]at h3;cases h3;exact hnb d1 c h1
  ·rw[hγ d2 hdd]at h3;exact h.mem.br d1 d2 c q b1 cap1 h1 h2 h3
 ·rcases z34 h1 with⟨x1,_⟩|⟨h5,y1⟩<;>rcases z34 h2 with⟨x2,_⟩|⟨h6,y2⟩
  ·rw[x1,x2]
  ·rw[x1,hb]at h3;cases h3;rw[hγ d2 h6]at h4;exact absurd rfl (hnr d2 q' _ c2 h6 y2 h4)
  ·rw[hγ d1 h5]at h3;rw[x2,hb]at h4;cases h4;exact absurd rfl (hnr d1 q _ c1 h5 y1 h3)
  ·rw[hγ d1 h5]at h3;rw[hγ d2 h6]at h4;exact h.mem.rr d1 d2 q q' b1 c1 c2 y1 y2 h3 h4
 ·rcases hK' k o hko with h1|rfl
  ·exact Nat.lt_of_lt_of_le (h.mem.lt k o h1) hsize
  ·obtain⟨cur,hc,_⟩:=hrow.cells;exact(gA hc).1
 ·refine⟨hos.trans h.mem.low.os,htape.trans h.mem.low.tape,hout.trans h.mem.low.output,Nat.le_trans h.mem.low.size hsize,fun k hk' hx=> ?_⟩;refine(hblk k (Nat.lt_of_lt_of_le hk' h.mem.low.size) (fun c hc=> ?_)).trans (h.mem.low.block k hk' hx);rcases h.mem.row d e W n hr with⟨h1,_⟩|⟨b1,c1,h1,h2,_⟩
  ·rw[h1]at hc;cases hc
  ·rw[h1]at hc;cases hc;rcases h2 with h2|h2
   ·omega
   ·exact hx d h2
 ·obtain⟨h3,h4⟩:=h.mem.keep k o u h1 h2;exact hk k o u h3 h4
 ·rcases hK' k o h1 with h2|rfl
  ·exact h.mem.knew k o h2
  ·rcases hb0 with h2|h2
   ·exact .inr (.inl h2)
   ·exact .inr (.inr ⟨d,h2⟩)
 ·by_cases hd:d'=d
  ·subst hd;obtain⟨n0,h1,_⟩:=h.mem.pas.row d' e W n ho hr;rw[h0]at h1;cases h1
  ·rw[hγ d' hd];exact h.mem.pas.γ d' ho h0
 ·rcases z34 hd with⟨x1,x2⟩|⟨hdd,hd⟩
  ·subst x1;cases x2;obtain⟨n0,h1,h2,h3⟩:=h.mem.pas.row d' e W n ho hr;exact⟨n0,h1,by omega,fun he=>by omega⟩
  ·rw[hγ d' hdd];exact h.mem.pas.row d' e' W' m ho hd
 ·rw[hι];obtain⟨h1,h2⟩:=h.itr d' z p hd;refine⟨(hblk _ (gA h1).1 (fun c hc=> ?_)).trans h1,h2⟩;rcases h.mem.row d e W n hr with⟨h3,_⟩|⟨b1,c1,h3,_,h4⟩
  ·rw[h3]at hc;cases hc
  ·rw[h3]at hc;cases hc;obtain⟨cur,h5,_⟩:=h4.cells;rw[h1]at h5;cases h5
structure News(w:World)(K:Nat→Nat→Prop)(W:Nat)(es:List (List PV))(news:List Value)(f:Nat→Nat→Value):Prop where
 len:∀cs∈es,cs.length=W
 at_:∀(i j:Nat) cs c,es[i]?=some cs→cs[j]?=some c→news[i*W+j]?=some (f i j)∧one (f i j)∧RelV w K c (f i j)
theorem z50{w:World}{K:Nat→Nat→Prop}{W:Nat}{es:List (List PV)}{v:Value}(h:RelV w K (.sl W es) v):∃(b off cap:Nat) (p:Option Addr) (f:Nat→Nat→Value),v=.slice p es.length cap∧(es≠[]→p=some ⟨b,off,none⟩)∧es.length≤cap∧cap≤maxLen∧(∀cs∈es,cs.length=W)∧
  (∀(i j:Nat) cs c,es[i]?=some cs→cs[j]?=some c→(K b (off+i*W+j)∧w.cell? ⟨b,off+i*W+j,none⟩=some (f i j)∧one (f i j))∧RelV w K c (f i j)):=by
 cases h with
 |sl W es b off cap p f hp hcap hmax hW hc hs=>exact⟨b,off,cap,p,f,rfl,hp,hcap,hmax,hW,fun i j cs c h1 h2=>⟨hc i j cs c h1 h2,hs i j cs c h1 h2⟩⟩
theorem idx_lt{W i j n:Nat}(hi:i<n)(hj:j<W):i*W+j<n*W:=by
 have:=Nat.mul_le_mul_right W (show i+1≤n by omega)
 grind
theorem Sim.app{P:Program}(h:Sim Bs s a w E){d e W:Nat}{es es2:List (List PV)}{v x:Value}(hr:s.r d=some (e,W,es.length))(hv:RelT w E s.r (.own d W es) v)(hW:0<W)
  {t tx ty:TypeId} {i:TypeInfo} {z:Value} (ht:P.underlying t=some (.slice e)) (hi:P.info? e=some i) (hz:i.zero=some z) (hzl:z.cells.size=W) (his:i.size=W)
  {news:List Value} {f2:Nat→Nat→Value} (hnews:News w E.K W es2 news f2) (hsrc:Src P W tx x es2.length news w) (hfit:(es.length+es2.length)*i.bytes≤140737488355328) (h63:es.length+es2.length≤maxLen):
  ∃v' w' E',(Builtin.append_ #[t,tx] ty #[v,x]).run P w=.ok v' w'∧E'.β=E.β∧E'.ι=E.ι∧Sim Bs (s.setR d (e,W,es.length+es2.length)) a w' E'∧RelT w' E' (s.setR d (e,W,es.length+es2.length)).r (.own d W (es++es2)) v':=by
 cases hv with
 |own _ _ _ _ hrel hown=>
 obtain⟨_,hval⟩:=hown e W es.length hr;obtain⟨_,rfl⟩:=hval rfl;have hnl:=hsrc.newsLen;by_cases h0:es2=[]
 ·subst h0;have hnews0:news=[]:=List.eq_nil_of_length_eq_zero (by simpa using hnl);subst hnews0;have hset:s.setR d (e,W,es.length+([]:List (List PV)).length)=s:=by
   unfold FS.setR;have:setF s.r d (e,W,es.length+([]:List (List PV)).length)=s.r:=by
    funext j;by_cases hj:j=d
    ·subst hj;rw[setF_self];simp[hr]
    ·rw[setF_ne _ _ hj]
   rw[this]
  have hsrc':Src P i.size tx x 0 [] w:=by rw[his];exact hsrc
  refine⟨hdr (E.γ d) es.length,w,E,?_,rfl,rfl,by rw[hset];exact h,by rw[hset,List.append_nil];exact .own d W es _ hrel hown⟩;rcases h.mem.row d e W es.length hr with⟨h1,h2⟩|⟨b,cap,h1,h2,h3⟩
  ·rw[h1,h2];have:=run_append_nothing (P:=P) w t tx ty e i ht hi none 0 0 (Nat.le_refl _) x hsrc';simpa [hdr]using this
  ·rw[h1];have:=run_append_nothing (P:=P) w t tx ty e i ht hi (some ⟨b,0,none⟩) es.length cap h3.le x hsrc';simpa [hdr]using this
 have hpos:0<es2.length:=List.length_pos_iff.2 h0;have hsrc':Src P i.size tx x es2.length news w:=by rw[his];exact hsrc
 obtain⟨B,off,capR,p,f,hveq,hp,_,_,hWes,hcs⟩:=z50 hrel;have hlt2:∀{i j:Nat} {cs:List PV} {c:PV},es2[i]?=some cs→cs[j]?=some c→i<es2.length∧j<W:=by
  intro i j cs c h1 h2;have h3:=(gJ h1).1;have h4:=(gJ h2).1;rw[hnews.len cs (gM h1)]at h4;exact⟨h3,h4⟩
 have hlt1:∀{i j:Nat} {cs:List PV} {c:PV},es[i]?=some cs→cs[j]?=some c→i<es.length∧j<W:=by
  intro i j cs c h1 h2;have h3:=(gJ h1).1;have h4:=(gJ h2).1;rw[hWes cs (gM h1)]at h4;exact⟨h3,h4⟩
 have hread:∀(w':World) (E':Env) (b cap:Nat),(∀k o u,E.K k o→w.cell? ⟨k,o,none⟩=some u→E'.K k o∧w'.cell? ⟨k,o,none⟩=some u)→
   (∀o,o<(es.length+es2.length)*W→E'.K b o)→
   (∀(i j:Nat) cs c,es[i]?=some cs→cs[j]?=some c→w'.cell? ⟨b,i*W+j,none⟩=some (f i j))→
   (∀(j:Nat) u,news[j]?=some u→w'.cell? ⟨b,es.length*W+j,none⟩=some u)→es.length+es2.length≤cap→cap≤maxLen→
   E'.γ d=some (b,cap)→RelT w' E' (s.setR d (e,W,es.length+es2.length)).r (.own d W (es++es2)) (.slice (some ⟨b,0,none⟩) (es.length+es2.length) cap):=by
  intro w' E' b cap hk hKn hc1 hc2 hle hmax hg;have hlen:(es++es2).length=es.length+es2.length:=by simp
  refine .own d W (es++es2) _ ?_ (fun e' W' n hn=> ?_)
  ·rw[←hlen];refine .sl W (es++es2) b 0 cap _ (fun i j=>if i<es.length then f i j else f2 (i-es.length) j) (fun _=>rfl) (by rw[hlen];exact hle) hmax (fun cs hcs'=> ?_) (fun i j cs c h1 h2=> ?_) (fun i j cs c h1 h2=> ?_)
   ·rcases List.mem_append.1 hcs' with h1|h1
    ·exact hWes cs h1
    ·exact hnews.len cs h1
   ·by_cases hi':i<es.length
    ·rw[List.getElem?_append_left hi']at h1;have hj:=(hlt1 h1 h2).2;refine⟨hKn _ ?_,?_,?_⟩
     ·have:=idx_lt (n:=es.length+es2.length) (W:=W) (i:=i) (j:=j) (by omega) hj;omega
     ·simp only[hi',if_true,Nat.zero_add];exact hc1 i j cs c h1 h2
     ·simp only[hi',if_true];exact(hcs i j cs c h1 h2).1.2.2
    ·rw[List.getElem?_append_right (by omega)]at h1;obtain⟨hi2,hj⟩:=hlt2 h1 h2;obtain⟨n1,n2,_⟩:=hnews.at_ _ _ _ _ h1 h2;have hidx:0+i*W+j=es.length*W+((i-es.length)*W+j):=by
      rw[Nat.zero_add,←Nat.add_assoc,←Nat.add_mul];congr 2;omega
     refine⟨hKn _ ?_,?_,?_⟩
     ·have:=idx_lt (n:=es.length+es2.length) (W:=W) (i:=i) (j:=j) (by omega) hj;omega
     ·simp only[hi',if_false];rw[hidx];exact hc2 _ _ n1
     ·simp only[hi',if_false];exact n2
   ·by_cases hi':i<es.length
    ·rw[List.getElem?_append_left hi']at h1;simp only[hi',if_true];exact(hcs i j cs c h1 h2).2.mono hk
    ·rw[List.getElem?_append_right (by omega)]at h1;simp only[hi',if_false];exact(hnews.at_ _ _ _ _ h1 h2).2.2.mono hk
  ·simp only[FS.setR,setF_self,Option.some.injEq,Prod.mk.injEq]at hn;obtain⟨rfl,rfl,rfl⟩:=hn;exact⟨by rw[hlen];exact Nat.le_refl _,fun _=>⟨rfl,by rw[hg];rfl⟩⟩
 rcases h.mem.row d e W es.length hr with⟨h1,h2⟩|⟨b,cap,h1,h2,h3⟩
 ·
  have hes:es=[]:=List.eq_nil_of_length_eq_zero h2;subst hes;let cap':=grownCap w (0+es2.length) 0 e
  have hcap1:es2.length≤cap':=by have:=grownCap_ge w (0+es2.length) 0 e;simpa [cap']using this
  have hcap2:cap'≤maxLen:=grownCap_le_maxLen w _ 0 e (by simpa using h63);let cells:Array Value:=(([]:List Value)++news).toArray++Builtin.zeroCells z.cells (cap'-(0+es2.length))
  have hcsz:cells.size=cap'*W:=by
   simp only[cells,Array.size_append,List.nil_append,List.size_toArray,hnl,Builtin.zeroCells,Array.size_map,Array.size_range,hzl,Nat.zero_add];rw[←Nat.add_mul];congr 1;omega
  have hrun:=run_append_grow_src (P:=P) w t tx ty e i z ht hi hz none 0 0 [] (run_firstCells_none _ _ _ _ _) x es2.length news hsrc' (by omega) (by have:=h63;unfold maxLen at this;simp at this ⊢;omega)
   (growslice_fits (by omega) (by simpa using hfit))
  let w':=w.drew.alloc (.cells cells e)
  let E':Env:={ K:=fun k o=>E.K k o∨(k=w.heap.size∧o<es2.length*W),β:=E.β,ι:=E.ι,γ:=fun j=>if j=d then some (w.heap.size,cap')else E.γ j }
  have hb:Below w.heap.size w w':=((Below.refl _ _).drew).alloc (Nat.le_refl _) _;have hk:∀k o u,E.K k o→w.cell? ⟨k,o,none⟩=some u→E'.K k o∧w'.cell? ⟨k,o,none⟩=some u:=fun k o u hk1 hk2=>⟨.inl hk1,(hb.cell (p:=⟨k,o,none⟩) (z72 hk2)).trans hk2⟩
  have hnew:w'.heap[w.heap.size]?=some (.cells cells e (0,0)):=heap_alloc_new w.drew _;have hg:E'.γ d=some (w.heap.size,cap'):=by simp[E']
  have hcell:∀j u,cells[j]?=some u→w'.cell? ⟨w.heap.size,j,none⟩=some u:=fun j u hu=>by rw[cell_of_row w' _ _ _ _ _ hnew];exact hu
  refine⟨.slice (some ⟨w.heap.size,0,none⟩) (0+es2.length) cap',w',E',?_,rfl,rfl,?_,?_⟩
  ·rw[h1];exact hrun
  ·refine h.rowUp hr (by simp;omega) hk rfl rfl (fun d' hd'=>by simp[E',hd']) (fun k hk' _=>hb.block k hk') hg (.inl h.mem.low.size) ⟨⟨cells,hnew,hcsz⟩,by simpa using hcap1,hcap2,fun o ho=> ?_⟩ (.inr (Nat.le_refl _)) (fun k o ho=> ?_) hb.os hb.tape hb.output hb.size
   ·rcases ho with ho|⟨_,ho⟩
    ·have:=h.mem.lt _ _ ho;omega
    ·simpa using ho
   ·rcases ho with ho|⟨ho,_⟩
    ·exact .inl ho
    ·exact .inr ho
  ·have:=hread w' E' w.heap.size cap' hk (fun o ho=> .inr ⟨rfl,by simpa using ho⟩) (fun i j cs c h1=>by simp at h1) (fun j u hu=>by
    have hj:j<news.length:=(gJ hu).1;refine hcell _ _ ?_;simp only[cells,List.nil_append,List.length_nil,Nat.zero_mul,Nat.zero_add];rw[Array.getElem?_append_left (by simpa using hj)];simpa using hu) (by simpa using hcap1) hcap2 hg
   simpa using this
 ·obtain⟨cur,hcur,hcsz⟩:=h3.cells;have hblt:b<w.heap.size:=(gA hcur).1;have hle:=h3.le;have hol:∀(i j:Nat) cs c,es[i]?=some cs→cs[j]?=some c→cur[i*W+j]?=some (f i j):=by
   intro i j cs c hi1 hi2;have hne:es≠[]:=by rintro rfl;simp at hi1
   have hpp:=hp hne;rw[h1]at hveq;simp only[hdr]at hveq;injection hveq with hv1 hv2 hv3
   rw[hpp]at hv1;have hv4:(⟨b,0,none⟩:Addr)=⟨B,off,none⟩:=by injection hv1
   have hB:b=B:=congrArg Addr.block hv4;have hoff:0=off:=congrArg Addr.off hv4;have hcell:=(hcs i j cs c hi1 hi2).1.2.1;rw[←hB,←hoff,cell_of_row w _ _ _ _ _ hcur,Nat.zero_add]at hcell;exact hcell
  by_cases hroom:es.length+es2.length≤cap
  ·
   have hin:es.length*W+news.length≤cur.size:=by
    rw[hnl,hcsz,←Nat.add_mul];exact Nat.mul_le_mul_right W hroom
   have hsome:∀j,j<news.length→(w.cell? ⟨b,es.length*W+j,none⟩).isSome=true:=fun j hj=>by
    rw[cell_of_row w _ _ _ _ _ hcur,Array.getElem?_eq_getElem (by omega)];rfl
   have hfrz:∀o,w.frozen? ⟨b,o,none⟩=false:=fun o=>by unfold World.frozen?;simp only[hcur];simp
   have hrun:=run_append_room_src (P:=P) w t tx ty e i ht hi b 0 es.length cap x es2.length news hsrc' hroom (fun j hj=>by rw[his,Nat.zero_add];exact hsome j hj) (fun j _=>hfrz _);rw[his,Nat.zero_add]at hrun;let w':=w.setCells b (es.length*W) news
   let E':Env:={ K:=fun k o=>E.K k o∨(k=b∧o<(es.length+es2.length)*W),β:=E.β,ι:=E.ι,γ:=E.γ }
   have hk:∀k o u,E.K k o→w.cell? ⟨k,o,none⟩=some u→E'.K k o∧w'.cell? ⟨k,o,none⟩=some u:=fun k o u hk1 hk2=>
    ⟨.inl hk1,(World.cell?_setCells_out _ _ _ _ _ (fun hkb _=>by
     have hkb':k=b:=hkb;subst hkb';exact .inl (h3.out o hk1))).trans hk2⟩
   have hother:∀k,k<w.heap.size→(∀c,E.γ d≠some (k,c))→w'.heap[k]?=w.heap[k]?:=fun k hk' hne=>z69 _ _ _ _ _ (by rintro rfl;exact hne _ h1);have hcur':∃cur',w'.heap[b]?=some (.cells cur' e (0,0))∧cur'.size=cap*W:=by
    clear hread hrun hsome hin hk hother hol hcs;have:∀(vs:List Value) (o:Nat) (w:World) (cur:Array Value),w.heap[b]?=some (.cells cur e (0,0))→∃cur',(w.setCells b o vs).heap[b]?=some (.cells cur' e (0,0))∧cur'.size=cur.size:=by
     intro vs
     induction vs with
     |nil=>exact fun o w cur hc=>⟨cur,hc,rfl⟩
     |cons v r ih=>
      intro o w cur hc;obtain⟨cur',q1,q2⟩:=ih (o+1) (w.setCell ⟨b,o,none⟩ v) (cur.setIfInBounds o v) (by simp[World.setCell,Array.getElem?_modify,hc]);exact⟨cur',by rw[World.setCells];exact q1,by simpa using q2⟩
    obtain⟨cur',q1,q2⟩:=this news (es.length*W) w cur hcur;exact⟨cur',q1,q2.trans hcsz⟩
   obtain⟨o1,o2,o3⟩:=setCells_os b news (es.length*W) w;refine⟨.slice (some ⟨b,0,none⟩) (es.length+es2.length) cap,w',E',?_,rfl,rfl,?_,?_⟩
   ·rw[h1];exact hrun
   ·refine h.rowUp hr (by omega) hk rfl rfl (fun _ _=>rfl) hother h1 h2 ⟨hcur',hroom,h3.max,fun o ho=> ?_⟩ (.inl ⟨cap,h1⟩) (fun k o ho=> ?_) o1 o2 o3 (by rw[z181];exact Nat.le_refl _)
    ·rcases ho with ho|⟨_,ho⟩
     ·have:=h3.out o ho;have:=Nat.mul_le_mul_right W (show es.length≤es.length+es2.length by omega);omega
     ·exact ho
    ·rcases ho with ho|⟨ho,_⟩
     ·exact .inl ho
     ·exact .inr ho
   ·refine hread w' E' b cap hk (fun o ho=> .inr ⟨rfl,ho⟩) (fun i j cs c hi1 hi2=> ?_) (fun j u hu=> ?_) hroom h3.max h1
    ·obtain⟨hi3,hj⟩:=hlt1 hi1 hi2;have hlt:=idx_lt hi3 hj;rw[show w'.cell? ⟨b,i*W+j,none⟩=w.cell? ⟨b,i*W+j,none⟩ from World.cell?_setCells_out _ _ _ _ _ (fun _ _=> .inl hlt),cell_of_row w _ _ _ _ _ hcur];exact hol i j cs c hi1 hi2
    ·obtain⟨hj,rfl⟩:=gJ hu;exact World.cell?_setCells_in b news (es.length*W) w hsome j hj
  ·
   have hgt:cap<es.length+es2.length:=by omega
   let olds:List Value:=cur.toList.take (es.length*W)
   have hin:es.length*W≤cur.size:=by rw[hcsz];exact Nat.mul_le_mul_right W hle
   have hol2:olds.length=es.length*W:=by simp[olds];omega
   have hold:(Builtin.firstCells i.size es.length (.slice (some ⟨b,0,none⟩) es.length cap)).run P w.drew=.ok olds.toArray w.drew:=
    run_firstCells_some w.drew i.size es.length ⟨b,0,none⟩ es.length cap olds (by rw[his];exact hol2) (fun j u hu=>by
     rw[Addr.add_mid,Nat.zero_add];show w.cell? _=_;rw[cell_of_row w _ _ _ _ _ hcur];have hj:j<es.length*W:=by rw[←hol2];exact(gJ hu).1
     rw[←hu];simp[olds,hj])
   let cap':=grownCap w (es.length+es2.length) cap e
   have hcap1:es.length+es2.length≤cap':=grownCap_ge w _ _ e;have hcap2:cap'≤maxLen:=grownCap_le_maxLen w _ _ e h63;let cells:Array Value:=(olds++news).toArray++Builtin.zeroCells z.cells (cap'-(es.length+es2.length))
   have hcsz':cells.size=cap'*W:=by
    simp only[cells,Array.size_append,List.size_toArray,List.length_append,hol2,hnl,Builtin.zeroCells,Array.size_map,Array.size_range,hzl];rw[←Nat.add_mul,←Nat.add_mul];congr 1;omega
   have hrun:=run_append_grow_src (P:=P) w t tx ty e i z ht hi hz (some ⟨b,0,none⟩) es.length cap olds hold x es2.length news hsrc' hgt (by have:=h63;unfold maxLen at this;omega) (growslice_fits hgt hfit);let w':=w.drew.alloc (.cells cells e)
   let E':Env:={ K:=fun k o=>E.K k o∨(k=w.heap.size∧o<(es.length+es2.length)*W),β:=E.β,ι:=E.ι,γ:=fun j=>if j=d then some (w.heap.size,cap')else E.γ j }
   have hb:Below w.heap.size w w':=((Below.refl _ _).drew).alloc (Nat.le_refl _) _;have hk:∀k o u,E.K k o→w.cell? ⟨k,o,none⟩=some u→E'.K k o∧w'.cell? ⟨k,o,none⟩=some u:=fun k o u hk1 hk2=>⟨.inl hk1,(hb.cell (p:=⟨k,o,none⟩) (z72 hk2)).trans hk2⟩
   have hnew:w'.heap[w.heap.size]?=some (.cells cells e (0,0)):=heap_alloc_new w.drew _;have hg:E'.γ d=some (w.heap.size,cap'):=by simp[E']
   have hcell:∀j u,cells[j]?=some u→w'.cell? ⟨w.heap.size,j,none⟩=some u:=fun j u hu=>by rw[cell_of_row w' _ _ _ _ _ hnew];exact hu
   refine⟨.slice (some ⟨w.heap.size,0,none⟩) (es.length+es2.length) cap',w',E',?_,rfl,rfl,?_,?_⟩
   ·rw[h1];exact hrun
   ·refine h.rowUp hr (by omega) hk rfl rfl (fun d' hd'=>by simp[E',hd']) (fun k hk' _=>hb.block k hk') hg (.inl h.mem.low.size) ⟨⟨cells,hnew,hcsz'⟩,hcap1,hcap2,fun o ho=> ?_⟩ (.inr (Nat.le_refl _)) (fun k o ho=> ?_) hb.os hb.tape hb.output hb.size
    ·rcases ho with ho|⟨_,ho⟩
     ·have:=h.mem.lt _ _ ho;omega
     ·exact ho
    ·rcases ho with ho|⟨ho,_⟩
     ·exact .inl ho
     ·exact .inr ho
   ·refine hread w' E' w.heap.size cap' hk (fun o ho=> .inr ⟨rfl,ho⟩) (fun i j cs c hi1 hi2=> ?_) (fun j u hu=> ?_) hcap1 hcap2 hg
    ·obtain⟨hi3,hj⟩:=hlt1 hi1 hi2;have hlt:=idx_lt hi3 hj;refine hcell _ _ ?_;simp only[cells];rw[Array.getElem?_append_left (by simp[hol2];omega)];have:=hol i j cs c hi1 hi2;rw[List.getElem?_toArray,List.getElem?_append_left (by omega)];simp[olds,hlt,this]
    ·have hj:j<news.length:=(gJ hu).1;refine hcell _ _ ?_;simp only[cells];rw[Array.getElem?_append_left (by simp[hol2];omega)];rw[List.getElem?_toArray,List.getElem?_append_right (by omega),hol2,Nat.add_sub_cancel_left];exact hu
end
end
def z23{α:Type}(P:Program):Sem α→Option α
 | .pure a=>some a
 | .program k=>z23 P (k P)
 | .mark _ k=>z23 P k
 |_=>none
theorem pureRun_run{α:Type}{P:Program}{m:Sem α}{x:α}(h:z23 P m=some x)(w:World):m.run P w=.ok x w:=by
 induction m with
 |pure a=>simp[z23]at h;subst h;rfl
 |program k ih=>simp only[z23]at h;simp only[Sem.run];exact ih _ h
 |mark m k ih=>simp only[z23]at h;simp only[Sem.run];exact ih h
 |_=>simp[z23]at h
theorem z31{α β:Type}(P:Program)(m:Sem α)(f:α→Sem β):z23 P (m>>=f)=(z23 P m).bind fun x=>z23 P (f x):=by
 show z23 P (m.bind f)=_
 induction m with
 |pure a=>rfl
 |program k ih=>simp only[Sem.bind,z23];exact ih P
 |mark m k ih=>simp only[Sem.bind,z23];exact ih
 |_=>simp[Sem.bind,z23]
theorem z92{α:Type}(P:Program)(x:α):z23 P (pure x:Sem α)=some x:=rfl
def seqO{α β:Type}(f:α→Option β):List α→Option (List β)
 |[]=>some []
 |x::l=>match f x,seqO f l with
  |some y,some ys=>some (y::ys)
  |_,_=>none
theorem seqO_cons{α β:Type}{f:α→Option β}{x:α}{l:List α}{ys:List β}(h:seqO f (x::l)=some ys):∃y zs,f x=some y∧seqO f l=some zs∧ys=y::zs:=by
 simp only[seqO]at h
 grind
theorem z42{α β:Type}{f:α→Option β}:∀{l:List α} {ys:List β},seqO f l=some ys→l.length=ys.length∧∀(i:Nat) x,l[i]?=some x→∃y,ys[i]?=some y∧f x=some y
 |[],ys,h=>by simp[seqO]at h;subst h;simp
 |x::l,ys,h=>by
  obtain⟨y,zs,h1,h2,rfl⟩:=seqO_cons h;obtain⟨h3,h4⟩:=z42 h2
  grind
theorem z142{α β:Type}{f g:α→Option β}:∀{l:List α},(∀x∈l,f x=g x)→seqO f l=seqO g l
 |[],_=>rfl
 |x::l,h=>by
  have:=z142 (l:=l) (fun y hy=>h y (List.mem_cons_of_mem _ hy));simp only[seqO,h x (List.mem_cons_self ..),this]
inductive Arg where
 |tmp (t:Nat)
 |val (v:Value)
def Arg.of:Operand→Arg
 | .tmp t=> .tmp t
 | .const v=> .val v
 | .global g=> .val (.pointer (some ⟨g,0,none⟩))
 | .func f=> .val (.func (.func f) #[] #[])
def Arg.get(s:FS):Arg→Option TV
 | .tmp t=>s.t t
 | .val v=>some (.pv (.v v))
def Arg.reads:Arg→List Nat
 | .tmp t=>[t]
 | .val _=>[]
inductive SOp where
 |mov (x:Arg)
 |pick (c a b:Arg)
 |bin (op:BinOp) (t:TypeId) (x y:Arg)
 |un (op:UnOp) (x:Arg)
 |cvi (k:IntKind) (x:Arg)
 |cvs (x:Arg)
 |b2s (x:Arg)
 |imm (mx:Bool) (x y:Arg)
 |sidx (x i:Arg)
 |ssub (x:Arg) (lo hi:Option Arg)
 |slen (x:Arg)
 |new (zero:List Value)
 |box (x:Arg)
 |build (zero:List Value) (parts:List (Nat×Nat×Arg))
 |bsl (W:Nat) (xs:List Arg)
 |fld (agg:Bool) (off size:Nat) (x:Arg)
 |fldA (off:Nat) (x:Arg)
 |ld (agg:Bool) (size:Nat) (x:Arg)
 |st (size:Nat) (x y:Arg)
 |len (x:Arg)
 |idxA (W:Nat) (x i:Arg)
 |sub (W:Nat) (x:Arg) (lo hi:Option Arg)
 |app (e W bytes:Nat) (x y:Arg)
 |appS (e bytes:Nat) (x y:Arg)
 |appN (e W bytes:Nat) (x y:Arg)
 |appNS (e bytes:Nat) (x y:Arg)
 |appB (e W bytes:Nat) (x y:Arg)
 |call (f:Nat) (mode:Nat) (xs:List Arg)
 |callv (x:Arg) (mode:Nat) (xs:List Arg)
 |ext (x:Arg) (i:Nat)
 |nchk (x:Arg)
 |mkf (f:Fn) (first captured:List Arg)
 |rng (x:Arg)
 |nxt (x:Arg)
 |mks (bytes:Nat) (zero:List Value) (n:Arg)
 |bslO (e W:Nat) (xs:List Arg)
 |lkp (text:Bool) (zero:Value) (x i:Arg)
 |mkI (t:TypeId) (x:Arg)
 |pan (x:Arg)
 |fnil (ne:Bool) (x:Arg)
def TV.val1:TV→Option Value
 | .pv (.v x)=>some x
 |_=>none
def TV.val:TV→Option Value
 | .agg cs=>(seqO TV.val1 cs).map fun l=> .agg l.toArray
 |t=>t.val1
def TV.cells:TV→Option (List TV)
 | .agg cs=>some cs
 | .tuple _=>none
 | .unk=>none
 | .pv (.v x)=>if x.oneCell' then some [.pv (.v x)] else none
 |t=>some [t]
def TV.toPV:TV→Option PV
 | .pv p=>some p
 | .own _ W es=>some (.sl W es)
 |_=>none
def TV.pvs(t:TV):Option (List PV):=t.cells.bind fun cs=>seqO TV.toPV cs
def TV.elems(W:Nat):TV→Option (List (List PV))
 | .pv (.sl W' es)=>if Nat.beq W' W then some es else none
 | .own _ W' es=>if Nat.beq W' W then some es else none
 | .pv (.v (.slice none 0 0))=>some []
 |_=>none
def TV.isNil:TV→Bool
 | .pv (.v (.slice none 0 0))=>true
 |_=>false
def TV.slen:TV→Option Nat
 | .pv (.sl _ es)=>some es.length
 | .own _ _ es=>some es.length
 | .pv (.v (.slice _ n _))=>some n
 | .bs _ _ n _=>some n
 |_=>none
def TV.str:TV→Option ByteArray
 | .pv (.v (.string b))=>some b
 |_=>none
def bytesP(b:ByteArray):List (List PV):=b.data.toList.map fun u=>[.v (.int .u8 u.toNat)]
def byteOf:List PV→Option UInt8
 |[.v (.int .u8 n)]=>some (UInt8.ofNat n.toNat)
 |_=>none
def TV.int:TV→Option Int
 | .pv (.v (.int _ i))=>some i
 |_=>none
def TV.callee:TV→Option (Nat×List TV×List TV)
 | .fn (.func f) a b=>some (f,a,b)
 | .pv (.fn (.func f) a b)=>some (f,a.map .pv,b.map .pv)
 | .pv (.v (.func (.func f) ⟨[]⟩ ⟨[]⟩))=>some (f,[],[])
 |_=>none
def TV.fnil:TV→Option Bool
 | .fn _ _ _=>some false
 | .pv (.fn _ _ _)=>some false
 | .pv (.v .nilFunc)=>some true
 | .pv (.v (.func _ _ _))=>some false
 |_=>none
inductive MO where
 |box (cs:List TV)
 |row (e W n:Nat)
inductive Upd where
 |no
 |box (cs:List TV)
 |wr (d:Nat) (cs:List TV)
 |row (d:Nat) (q:Nat×Nat×Nat)
 |mem (us:List (Nat×MO))
 |it (d:Nat) (q:ByteArray×Nat)
def TV.ren0(ρ:Nat→Option Nat):TV→Option TV
 | .pv p=>some (.pv p)
 | .unk=>some .unk
 | .ptr d o=>(ρ d).map fun d'=> .ptr d' o
 | .own d W es=>some (match ρ d with|some d'=> .own d' W es|none=> .pv (.sl W es))
 | .bs d o n c=>(ρ d).map fun d'=> .bs d' o n c
 |_=>none
def TV.renF(ρ:Nat→Option Nat):TV→Option TV
 | .fn f a b=>match seqO (TV.ren0 ρ) a,seqO (TV.ren0 ρ) b with
  |some a',some b'=>some (.fn f a' b')
  |_,_=>none
 |t=>t.ren0 ρ
def TV.renE(ρ:Nat→Option Nat):TV→Option TV
 | .agg cs=>(seqO (TV.renF ρ) cs).map .agg
 |t=>t.renF ρ
def TV.ren1(ρ:Nat→Option Nat):TV→Option TV
 | .mp ks xs=>(seqO (TV.renE ρ) xs).map (.mp ks)
 |t=>t.renF ρ
def TV.ren2(ρ:Nat→Option Nat):TV→Option TV
 | .agg cs=>(seqO (TV.ren1 ρ) cs).map .agg
 |t=>t.ren1 ρ
def TV.ren3(ρ:Nat→Option Nat):TV→Option TV
 | .tuple ts=>(seqO (TV.ren2 ρ) ts).map .tuple
 |t=>t.ren2 ρ
def MO.ren(ρ:Nat→Option Nat):MO→Option MO
 | .box cs=>(seqO (TV.ren1 ρ) cs).map .box
 | .row e W n=>some (.row e W n)
def TV.ids0:TV→List Nat
 | .ptr d _=>[d]
 | .bs d _ _ _=>[d]
 | .own d _ _=>[d]
 |_=>[]
def TV.idsF:TV→List Nat
 | .fn _ a b=>a.flatMap TV.ids0++b.flatMap TV.ids0
 |t=>t.ids0
def TV.idsE:TV→List Nat
 | .agg cs=>cs.flatMap TV.idsF
 |t=>t.idsF
def TV.ids1:TV→List Nat
 | .mp _ xs=>xs.flatMap TV.idsE
 |t=>t.idsF
def TV.ids2:TV→List Nat
 | .agg cs=>cs.flatMap TV.ids1
 |t=>t.ids1
def pos:List Nat→Nat→Option Nat
 |[],_=>none
 |x::l,d=>if Nat.beq x d then some 0 else(pos l d).map (·+1)
def reach(s:FS)(rows:Bool):Nat→List Nat→List Nat→List Nat
 |0,_,seen=>seen
 |_,[],seen=>seen
 |f+1,d::l,seen=>match pos seen d with
  |some _=>reach s rows f l seen
  |none=>match s.b d with
   |some cs=>reach s rows f (cs.flatMap TV.ids1++l) (seen++[d])
   |none=>match s.r d,rows with
    |some _,true=>reach s rows f l (seen++[d])
    |_,_=>reach s rows f l seen
def rhoIn(I:List Nat)(d:Nat):Option Nat:=(pos I d).map (1000+·)
def newId(k q:Nat):Nat:=2000+4*k+q
def rhoOut(I:List Nat)(k:Nat)(d:Nat):Option Nat:=
 if Nat.ble 1000 d then match I[d-1000]? with
  |some i=>some i
  |none=>if Nat.blt (d-1000-I.length) 4 then some (newId k (d-1000-I.length))else none
 else none
def FS.mo(s:FS)(d:Nat):Option MO:=match s.b d,s.r d with
 |some cs,none=>some (.box cs)
 |none,some (e,W,n)=>some (.row e W n)
 |_,_=>none
def moOk:List MO→List MO→Bool
 |[],l=>Nat.ble l.length 4
 | .box _::l,.box _::l'=>moOk l l'
 | .row e W n::l,.row e' W' n'::l'=>Nat.beq e e'&&Nat.beq W W'&&Nat.ble n n'&&moOk l l'
 |_,_=>false
def outs(ρ:Nat→Option Nat):Nat→List MO→Option (List (Nat×MO))
 |_,[]=>some []
 |j,m::l=>match ρ (1000+j),m.ren ρ,outs ρ (j+1) l with
  |some i,some m',some r=>some ((i,m')::r)
  |_,_,_=>none
abbrev Oracle:=Nat→List TV→List MO→Option (TV×List MO)
def z107(C:Oracle)(s:FS)(k f mode:Nat)(xs:List TV):Option (TV×Upd):=
 let I:=if Nat.beq mode 0 then [] else reach s (Nat.beq mode 2) 64 (xs.flatMap TV.ids2) []
 match seqO (TV.ren2 (rhoIn I)) xs,seqO (fun d=>(s.mo d).bind (MO.ren (rhoIn I))) I with
 |some xs',some os=>match C f xs' os with
  |some (y,os')=>if moOk os os' then match y.ren3 (rhoOut I k),outs (rhoOut I k) 0 os' with
    |some y',some us=>some (y',.mem us)
    |_,_=>none
   else none
  |none=>none
 |_,_=>none
def fillT(cs:List TV):List (Nat×Nat×List TV)→Option (List TV)
 |[]=>some cs
 |(off,size,xs)::rest=>if xs.length=size∧off+size≤cs.length then fillT (splice cs off xs) rest else none
def partsT(s:FS)(parts:List (Nat×Nat×Arg)):Option (List (Nat×Nat×List TV)):=
 seqO (fun p:Nat×Nat×Arg=>((p.2.2.get s).bind TV.cells).map fun xs=>(p.1,p.2.1,xs)) parts
def bound(s:FS)(dflt:Nat):Option Arg→Option Nat
 |none=>some dflt
 |some x=>((x.get s).bind TV.int).bind fun i=>if 0≤i then some i.toNat else none
def dstId(dst:Option Nat):Nat:=match dst with|some d=>d|none=>900
def kdOf(text:Bool):TypeDesc:=if text then .string else .int .i64
def findKs(kd:TypeDesc)(k:Value):List Value→Nat→Option (Option Nat)
 |[],_=>some none
 |e::l,i=>match Instr.sameNow kd k e with
  |some true=>some (some i)
  |some false=>findKs kd k l (i+1)
  |none=>none
def zeroT(z:Value):TV:=match z with| .agg cs=> .agg (cs.toList.map fun v=> .pv (.v v))|v=> .pv (.v v)
def scal(P:Program)(m:Sem Value):Option (TV×Upd):=(z23 P m).map fun v=>(.pv (.v v),.no)
def eff(P:Program)(C:Oracle)(dst:Option Nat)(o:SOp)(s:FS):Option (TV×Upd):=
 match o with
 | .mov x=>(x.get s).map fun v=>(v,.no)
 | .pick c a b=>match c.get s with
  |some (.pv (.v (.bool t)))=>((if t then a else b).get s).map fun v=>(v,.no)
  |_=>none
 | .bin op t x y=>match(x.get s).bind TV.val,(y.get s).bind TV.val with
  |some .nilIface,some .nilIface=>none
  |some vx,some vy=>scal P (do eqGuard op t (.const vx) (.const vy) vx vy;binOp op t vx vy)
  |_,_=>none
 | .un op x=>match(x.get s).bind TV.val with
  |some v=>scal P (Op.unary op v)
  |none=>none
 | .cvi k x=>((x.get s).bind TV.int).map fun n=>(.pv (.v (.int k (k.wrap n))),.no)
 | .cvs x=>((x.get s).bind TV.str).map fun n=>(.pv (.v (.string n)),.no)
 | .b2s x=>(((x.get s).bind (TV.elems 1)).bind (seqO byteOf)).map fun l=>(.pv (.v (.string ⟨l.toArray⟩)),.no)
 | .imm mx x y=>match x.get s,y.get s with
  |some (.pv (.v (.int .i64 a))),some (.pv (.v (.int .i64 b)))=>some (.pv (.v (.int .i64 (if mx then max a b else min a b))),.no)
  |_,_=>none
 | .sidx x i=>match(x.get s).bind TV.str,(i.get s).bind TV.int with
  |some z,some k=>if 0≤k then(z.data.toList[k.toNat]?).map fun(b:UInt8)=>(.pv (.v (.int .u8 b.toNat)),.no)else none
  |_,_=>none
 | .ssub x lo hi=>match(x.get s).bind TV.str with
  |some z=>match bound s 0 lo,bound s z.size hi with
   |some l,some h=>if l≤h∧h≤z.size then some (.pv (.v (.string (z.extract l h))),.no)else none
   |_,_=>none
  |none=>none
 | .slen x=>((x.get s).bind TV.str).map fun z=>(.pv (.v (.int .i64 (z.size:Int))),.no)
 | .new zero=>match dst with
  |some d=>some (.ptr d 0,.box (zero.map fun v=> .pv (.v v)))
  |none=>none
 | .box x=>match dst with
  |some d=>((x.get s).bind TV.cells).map fun cs=>(.ptr d 0,.box cs)
  |none=>none
 | .build zero parts=>(partsT s parts).bind fun ps=>(fillT (zero.map fun v=> .pv (.v v)) ps).map fun cs=>(.agg cs,.no)
 | .bsl W xs=>(seqO (fun x:Arg=>(x.get s).bind TV.pvs) xs).bind fun es=>if es.all (fun e=>e.length==W)then some (.pv (.sl W es),.no)else none
 | .fld agg off size x=>match x.get s with
  |some (.agg cs)=>if agg then(if off+size≤cs.length then some (.agg ((cs.drop off).take size),.no)else none)else(cs[off]?).map fun c=>(c,.no)
  |_=>none
 | .fldA off x=>match x.get s with
  |some (.ptr d o)=>some (.ptr d (o+off),.no)
  |some (.pv (.el cs))=>some (.pv (.el (cs.drop off)),.no)
  |_=>none
 | .ld agg size x=>match x.get s with
  |some (.ptr d o)=>(s.b d).bind fun cs=>if agg then(if o+size≤cs.length then some (.agg ((cs.drop o).take size),.no)else none)else(cs[o]?).map fun c=>(c,.no)
  |some (.pv (.el cs))=>if agg then(if size≤cs.length then some (.agg ((cs.take size).map .pv),.no)else none)else(cs[0]?).map fun c=>(.pv c,.no)
  |_=>none
 | .st size x y=>match x.get s with
  |some (.ptr d o)=>(s.b d).bind fun cs=>((y.get s).bind TV.cells).bind fun xs=>if xs.length=size∧o+size≤cs.length then some (.pv (.v undef),.wr d (splice cs o xs))else none
  |_=>none
 | .len x=>((x.get s).bind TV.slen).map fun(n:Nat)=>(.pv (.v (.int .i64 (n:Int))),.no)
 | .idxA W x i=>match x.get s,(i.get s).bind TV.int with
  |some (.bs d off n _),some k=>if 0≤k∧k<n then some (.ptr d (off+k.toNat*W),.no)else none
  |some t,some k=>if 0≤k then((t.elems W).bind fun es=>es[k.toNat]?).map fun cs=>(.pv (.el cs),.no)else none
  |_,_=>none
 | .sub W x lo hi=>match x.get s with
  |some (.bs d off n c)=>match bound s 0 lo,bound s n hi with
   |some l,some h=>if l≤h∧h≤n∧n≤c then some (if c=l then .pv (.sl W [])else .bs d (off+l*W) (h-l) (c-l),.no)else none
   |_,_=>none
  |some t=>match t.elems W with
   |some es=>match bound s 0 lo,bound s es.length hi with
    |some l,some h=>if l≤h∧h≤es.length then some (.pv (.sl W ((es.take h).drop l)),.no)else none
    |_,_=>none
   |none=>none
  |none=>none
 | .app e W bytes x y=>match x.get s,(y.get s).bind (TV.elems W)with
  |some (.own d W' es),some es2=>if W'=W∧s.r d=some (e,W,es.length)∧(es.length+es2.length)*bytes≤140737488355328∧es.length+es2.length≤maxLen then some (.own d W (es++es2),.row d (e,W,es.length+es2.length))else none
  |_,_=>none
 | .appN e W bytes x y=>match dst,(x.get s).map TV.isNil,(y.get s).bind (TV.elems W)with
  |some d,some true,some es2=>if es2.length*bytes≤140737488355328∧es2.length≤maxLen then some (.own d W es2,.row d (e,W,es2.length))else none
  |_,_,_=>none
 | .appS e bytes x y=>match x.get s,(y.get s).bind TV.str with
  |some (.own d W' es),some b=>if W'=1∧s.r d=some (e,1,es.length)∧(es.length+b.size)*bytes≤140737488355328∧es.length+b.size≤maxLen then
    some (.own d 1 (es++bytesP b),.row d (e,1,es.length+b.size))else none
  |_,_=>none
 | .appNS e bytes x y=>match dst,(x.get s).map TV.isNil,(y.get s).bind TV.str with
  |some d,some true,some b=>if b.size*bytes≤140737488355328∧b.size≤maxLen then some (.own d 1 (bytesP b),.row d (e,1,b.size))else none
  |_,_,_=>none
 | .call f mode xs=>(seqO (fun x:Arg=>x.get s) xs).bind fun vs=>z107 C s (dstId dst) f mode vs
 | .callv x mode xs=>match(x.get s).bind TV.callee,seqO (fun x:Arg=>x.get s) xs with
  |some (f,a,b),some vs=>z107 C s (dstId dst) f mode (a++vs++b)
  |_,_=>none
 | .ext x i=>match x.get s with
  |some (.tuple ts)=>(ts[i]?).map fun c=>(c,.no)
  |_=>none
 | .nchk x=>match x.get s with
  |some (.ptr d o)=>some (.ptr d o,.no)
  |some (.pv (.el cs))=>some (.pv (.el cs),.no)
  |_=>none
 | .mkf f a b=>match seqO (fun x:Arg=>x.get s) a,seqO (fun x:Arg=>x.get s) b with
  |some a',some b'=>some (.fn f a' b',.no)
  |_,_=>none
 | .rng x=>match dst,(x.get s).bind TV.str with
  |some d,some z=>some (.it d,.it d (z,0))
  |_,_=>none
 | .nxt x=>match x.get s with
  |some (.it d)=>match s.i d with
   |some (z,p)=>if p<z.size then some (.tuple [.pv (.v (.bool true)),.pv (.v (.int .i64 (p:Int))),.pv (.v (.int .i32 (Utf8.decode z p).1))],.it d (z,p+(Utf8.decode z p).2))else some (.tuple [.pv (.v (.bool false))],.no)
   |none=>none
  |_=>none
 | .mks bytes zero n=>match dst,n.get s with
  |some d,some (.pv (.v (.int .i64 k)))=>if 0≤k∧bytes*k≤140737488355328∧k≤maxLen then some (.bs d 0 k.toNat k.toNat,.box ((List.replicate k.toNat (zero.map fun v=>TV.pv (.v v))).flatten))else none
  |_,_=>none
 | .bslO e W xs=>match dst,(seqO (fun x:Arg=>(x.get s).bind TV.pvs) xs)with
  |some d,some es=>if es.all (fun e=>e.length==W)then some (.own d W es,.row d (e,W,es.length))else none
  |_,_=>none
 | .lkp text zero x i=>match x.get s,(i.get s).bind TV.val1 with
  |some (.mp ks xs),some k=>match findKs (kdOf text) k ks 0 with
   |some (some j)=>(xs[j]?).map fun t=>(t,.no)
   |some none=>some (zeroT zero,.no)
   |none=>none
  |_,_=>none
 | .mkI t x=>((x.get s).bind TV.val).map fun v=>(.pv (.v (.iface t v)),.no)
 | .pan _=>none
 | .fnil ne x=>((x.get s).bind TV.fnil).map fun b=>(.pv (.v (.bool (b !=ne))),.no)
 | .appB _ W bytes x y=>match dst,(x.get s).map TV.isNil,(y.get s).bind (TV.elems W)with
  |some d,some true,some es2=>if es2.length*bytes≤140737488355328∧es2.length≤maxLen then(if es2.isEmpty then some (.pv (.v (.slice none 0 0)),.no)else some (.bs d 0 es2.length es2.length,.box (es2.flatten.map .pv)))else none
  |_,_,_=>none
def memB(us:List (Nat×MO))(f:Nat→Option (List TV)):Nat→Option (List TV):=fun j=>match us.lookup j with|some (.box cs)=>some cs|_=>f j
def memR(us:List (Nat×MO))(f:Rows):Rows:=fun j=>match us.lookup j with|some (.row e W n)=>some (e,W,n)|_=>f j
def FS.upd(s:FS)(dst:Option Nat):Upd→FS
 | .no=>s
 | .box cs=>match dst with|some d=>s.setB d cs|none=>s
 | .wr d cs=>s.setB d cs
 | .row d q=>s.setR d q
 | .mem us=>{ s with b:=memB us s.b,r:=memR us s.r }
 | .it d q=>s.setI d q
def SOp.news(dst:Option Nat):SOp→List Nat
 | .new _| .box _| .appN .. | .appNS .. | .rng _| .mks .. | .bslO .. | .appB .. =>match dst with|some d=>[d]|none=>[]
 | .call .. | .callv .. =>[newId (dstId dst) 0,newId (dstId dst) 1,newId (dstId dst) 2,newId (dstId dst) 3]
 |_=>[]
def z24(P:Program)(o:Oper)(h:Nat):Option SOp:=
 match o.op with
 | .move x| .assign x=>some (.mov (.of x))
 | .pick c a b=>some (.pick (.of c) (.of a) (.of b))
 | .alloc e=>match P.info? e with
  |some i=>match i.zero with
   |some z=>if z.cells.toList.all (·.oneCell')then some (.new z.cells.toList)else none
   |none=>none
  |none=>none
 | .box _ x=>some (.box (.of x))
 | .build t parts=>match P.info? t,P.underlying t with
  |some i,some (.struct fs)=>match i.zero with
   |some z=>if z.cells.toList.all (·.oneCell')&&fs.all (fun f=>(P.info? f.type).isSome)then((seqO (fun p:Nat×Operand=>match fs[p.1]? with
     |some f=>(P.info? f.type).map fun j=>(f.offset,j.size,Arg.of p.2)
     |none=>none) parts.toList).map fun ps=> .build z.cells.toList ps)else none
   |none=>none
  |some i,some (.array _ e)=>match i.zero,P.info? e with
   |some z,some j=>if z.cells.toList.all (·.oneCell')then some (.build z.cells.toList (parts.toList.map fun p=>(p.1*j.size,j.size,Arg.of p.2)))else none
   |_,_=>none
  |_,_=>none
 | .buildSlice t len parts=>match P.underlying t with
  |some (.slice e)=>match P.info? e with
   |some i=>match i.zero with
    |some z=>if parts.toList.map (·.1)=List.range len∧len*i.size≤16777216∧z.cells.size=i.size∧0<len*i.size then some (if Nat.beq h 1 then .bslO e i.size (parts.toList.map fun p=>Arg.of p.2)else .bsl i.size (parts.toList.map fun p=>Arg.of p.2))else none
    |none=>none
   |none=>none
  |_=>none
 | .load t x=>match P.underlying t,P.info? t with
  |some d,some i=>some (if d.isRow then .ld true i.size (.of x)else .ld false 1 (.of x))
  |_,_=>none
 | .store t x y=>match P.info? t with
  |some i=>some (.st i.size (.of x) (.of y))
  |none=>none
 | .nilCheck x=>some (.nchk (.of x))
 | .binOp op t x y _=>match y,op,P.underlying t with
  | .const .nilFunc,.eql,some (.func _ _ _)=>some (.fnil false (.of x))
  | .const .nilFunc,.neq,some (.func _ _ _)=>some (.fnil true (.of x))
  |_,_,_=>some (.bin op t (.of x) (.of y))
 | .unOp op _ x=>some (.un op (.of x))
 | .convert src dst x=>match P.underlying src,P.underlying dst with
  |some (.int _),some (.int k)=>some (.cvi k (.of x))
  |some .string,some .string=>some (.cvs (.of x))
  |some (.slice e),some .string=>match P.underlying e with
   |some (.int .u8)=>some (.b2s (.of x))
   |_=>none
  |_,_=>none
 | .slice t x lo hi none=>match P.underlying t with
  |some .string=>some (.ssub (.of x) (lo.map .of) (hi.map .of))
  |some (.slice e)=>match P.info? e with
   |some i=>some (.sub i.size (.of x) (lo.map .of) (hi.map .of))
   |none=>none
  |_=>none
 | .fieldAddr t x f=>match P.underlying t with
  |some (.struct fs)=>match fs[f]? with
   |some fd=>match P.info? fd.type with
    |some i=>if i.size=0 then none else some (.fldA fd.offset (.of x))
    |none=>none
   |none=>none
  |_=>none
 | .field t x f=>match P.underlying t with
  |some (.struct fs)=>match fs[f]? with
   |some fd=>match P.info? fd.type,P.underlying fd.type with
    |some i,some d=>some (.fld d.isRow fd.offset i.size (.of x))
    |_,_=>none
   |none=>none
  |_=>none
 | .indexAddr t x i=>match P.underlying t with
  |some (.slice e)=>match P.info? e with
   |some j=>some (.idxA j.size (.of x) (.of i))
   |none=>none
  |some (.array n e)=>match i,P.info? e with
   | .const (.int _ k),some j=>if 0≤k∧k<n then some (.fldA (k.toNat*j.size) (.of x))else none
   |_,_=>none
  |_=>none
 | .index t x i=>match P.underlying t with
  |some .string=>some (.sidx (.of x) (.of i))
  |_=>none
 | .lookup t x i false=>match P.underlying t with
  |some (.map k e)=>match P.info? e with
   |some j=>match j.zero with
    |some z=>if z.cells.toList.all (·.oneCell')=true then(match P.underlying k with
      |some .string=>some (.lkp true z (.of x) (.of i))
      |some (.int .i64)=>some (.lkp false z (.of x) (.of i))
      |_=>none)else none
    |none=>none
   |none=>none
  |_=>none
 | .makeInterface t x=>match P.underlying t with
  |some (.interface _)=>none
  |some _=>some (.mkI t (.of x))
  |none=>none
 | .panic x=>some (.pan (.of x))
 | .extract x i=>some (.ext (.of x) i)
 | .makeFunc f a b=>some (.mkf f (a.toList.map .of) (b.toList.map .of))
 | .range t x=>match P.underlying t with
  |some .string=>some (.rng (.of x))
  |_=>none
 | .next x true=>some (.nxt (.of x))
 | .makeSlice t l c=>match P.underlying t,l,c with
  |some (.slice e),.tmp a,.tmp b=>if Nat.beq a b then match P.info? e with
   |some i=>match i.zero with
    |some z=>if z.cells.size=i.size∧0<i.size∧z.cells.toList.all (·.oneCell')=true then some (.mks i.bytes z.cells.toList (.tmp a))else none
    |none=>none
   |none=>none else none
  |_,_,_=>none
 | .call { callee:=.builtin .len,args,argTypes }=>match argTypes.toList,args.toList with
  |[t],[x]=>match P.underlying t with
   |some (.slice _)=>some (.len (.of x))
   |some .string=>some (.slen (.of x))
   |_=>none
  |_,_=>none
 | .call { callee:=.builtin .min,args,argTypes }=>match args.toList,argTypes.toList with
  |[x,y],[t,_]=>match P.underlying t with
   |some (.int .i64)=>some (.imm false (.of x) (.of y))
   |_=>none
  |_,_=>none
 | .call { callee:=.builtin .max,args,argTypes }=>match args.toList,argTypes.toList with
  |[x,y],[t,_]=>match P.underlying t with
   |some (.int .i64)=>some (.imm true (.of x) (.of y))
   |_=>none
  |_,_=>none
 | .call { callee:=.builtin .append,args,argTypes }=>match args.toList,argTypes.toList with
  |[x,y],[t,tx]=>match P.underlying t with
   |some (.slice e)=>match P.info? e with
    |some i=>match i.zero with
     |some z=>if z.cells.size=i.size∧0<i.size then
       match P.underlying tx with
       |some (.slice _)=>some (if Nat.beq h 2 then .appB e i.size i.bytes (.of x) (.of y)else if Nat.beq h 1 then .appN e i.size i.bytes (.of x) (.of y)else .app e i.size i.bytes (.of x) (.of y))
       |some .string=>if i.size=1 then some (if Nat.beq h 1 then .appNS e i.bytes (.of x) (.of y)else .appS e i.bytes (.of x) (.of y))else none
       |_=>none
      else none
     |none=>none
    |none=>none
   |_=>none
  |_,_=>none
 | .call { callee:=.value (.func f),args,argTypes:=_ }=>match P.funcs[f]? with
  |some fn=>if fn.body.isSome&&fn.name != "runtime.NumGoroutine" then some (.call f h (args.toList.map .of))else none
  |none=>none
 | .call { callee:=.value (.tmp t),args,argTypes:=_ }=>some (.callv (.tmp t) h (args.toList.map .of))
 |_=>none
section
section
variable{B:Base}{s:FS}{a:Act}{w w':World}{E E':Env}{r:Rows}{P:Program}
theorem z17(h:Sim B s a w E){x:Operand}{y:TV}(hx:(Arg.of x).get s=some y):RelT w E s.r y (a.eval x):=by
 cases x with
 |tmp t=>exact(h.tmp t y hx).2
 |const v=>simp[Arg.of,Arg.get]at hx;subst hx;exact .pv (.v _)
 |global g=>simp[Arg.of,Arg.get]at hx;subst hx;exact .pv (.v _)
 |func f=>simp[Arg.of,Arg.get]at hx;subst hx;exact .pv (.v _)
theorem val1_rel{t:TV}{v y:Value}(h:RelT w E r t v)(hy:t.val1=some y):v=y:=by
 cases h with
 |pv h=>cases h<;>grind [TV.val1]
 |_=>simp[TV.val1]at hy
theorem val_rel{t:TV}{v y:Value}(h:RelT w E r t v)(hy:t.val=some y):v=y:=by
 cases t with
 |agg cs=>
  cases h with
  |agg cs vs hl h ho=>
   simp only[TV.val]at hy;obtain⟨l,h1,rfl⟩:=gO hy;obtain⟨h2,h3⟩:=z42 h1;congr 2;apply List.ext_getElem?;intro i;rcases Nat.lt_or_ge i cs.length with hi|hi
   ·obtain⟨y,hy1,hy2⟩:=h3 i cs[i] (gE hi);rw[hy1,gE (by omega)];rw[val1_rel (h i cs[i] (vs[i]'(by omega)) (gE hi) (gE (by omega))) hy2]
   ·grind
 |_=>exact val1_rel h hy
theorem get_val(h:Sim B s a w E){x:Operand}{y:Value}(hx:((Arg.of x).get s).bind TV.val=some y):a.eval x=y:=by
 obtain⟨t,h1,h2⟩:=gB hx;exact val_rel (z17 h h1) h2
structure RelL(w:World)(E:Env)(r:Rows)(cs:List TV)(vs:List Value):Prop where
 len:cs.length=vs.length
 at_:∀(j:Nat) c v,cs[j]?=some c→vs[j]?=some v→RelT w E r c v
 ones:∀v∈vs,one v
theorem z176{t:TV}{v:Value}{cs:List TV}(h:RelT w E r t v)(hc:t.cells=some cs):∃vs:List Value,v.cells=vs.toArray∧RelL w E r cs vs:=by
 have one1:∀(t:TV) (v:Value),RelT w E r t v→v.oneCell'=true→∃vs:List Value,v.cells=vs.toArray∧RelL w E r [t] vs:=by
  intro t v h ho;refine⟨[v],?_,⟨rfl,fun j c u h1 h2=> ?_,fun u hu=> ?_⟩⟩
  ·cases v<;>first|rfl|cases ho
  ·grind
  ·grind
 cases h with
 |pv h=>
  cases h with
  |v x=>
   simp only[TV.cells]at hc;split at hc
   ·rename_i ho;cases hc;exact one1 _ _ (.pv (.v _)) ho
   ·cases hc
  |sl W es b off cap p f hp hcap hmax hW hc' hs=>
   simp only[TV.cells]at hc;cases hc;exact one1 _ _ (.pv (.sl W es b off cap p f hp hcap hmax hW hc' hs)) rfl
  |el cs b off f h1 h2=>simp only[TV.cells]at hc;cases hc;exact one1 _ _ (.pv (.el cs b off f h1 h2)) rfl
  |fn g xs ys us vs h1 h2 r1 r2=>simp only[TV.cells]at hc;cases hc;exact one1 _ _ (.pv (.fn g xs ys us vs h1 h2 r1 r2)) rfl
 |unk v=>simp[TV.cells]at hc
 |bs d off n c C h1 h2 h3=>simp only[TV.cells]at hc;cases hc;exact one1 _ _ (.bs d off n c C h1 h2 h3) rfl
 |it d=>simp only[TV.cells]at hc;cases hc;exact one1 _ _ (.it d) rfl
 |mp ks xs b es clock g h1 h2 h3 h4 h=>simp only[TV.cells]at hc;cases hc;exact one1 _ _ (.mp ks xs b es clock g h1 h2 h3 h4 h) rfl
 |fn g xs ys us vs h1 h2 r1 r2=>simp only[TV.cells]at hc;cases hc;exact one1 _ _ (.fn g xs ys us vs h1 h2 r1 r2) rfl
 |ptr d off=>simp only[TV.cells]at hc;cases hc;exact one1 _ _ (.ptr d off) rfl
 |own d W es v h1 h2=>
  simp only[TV.cells]at hc;cases hc;obtain⟨_,_,_,_,_,rfl,_⟩:=z50 h1;exact one1 _ _ (.own d W es _ h1 h2) rfl
 |agg cs vs hl h ho=>simp only[TV.cells]at hc;cases hc;exact⟨vs,rfl,hl,h,ho⟩
 |tuple cs vs hl h=>simp[TV.cells]at hc
theorem toPV_rel{t:TV}{v:Value}{p:PV}(h:RelT w E r t v)(hp:t.toPV=some p):RelV w E.K p v:=by
 cases h with
 |pv h=>grind [TV.toPV]
 |own d W es v h1 h2=>grind [TV.toPV]
 |_=>simp[TV.toPV]at hp
theorem pvs_rel{t:TV}{v:Value}{ps:List PV}(h:RelT w E r t v)(hp:t.pvs=some ps):∃vs:List Value,v.cells=vs.toArray∧ps.length=vs.length∧(∀(j:Nat) c u,ps[j]?=some c→vs[j]?=some u→RelV w E.K c u∧one u):=by
 obtain⟨cs,h1,h2⟩:=gB hp;obtain⟨vs,h3,h4⟩:=z176 h h1;obtain⟨h5,h6⟩:=z42 h2;refine⟨vs,h3,by rw[←h5,h4.len],fun j c u hc hu=> ?_⟩;have hj:j<cs.length:=by grind
 obtain⟨y,hy1,hy2⟩:=h6 j cs[j] (gE hj);rw[hc]at hy1;cases hy1;exact⟨toPV_rel (h4.at_ j _ u (gE hj) hu) hy2,h4.ones u (gM hu)⟩
theorem nil_elems{W:Nat}{es:List (List PV)}{v:Value}(he:TV.elems W (.pv (.v v))=some es):v=.slice none 0 0∧es=[]:=by
 grind [TV.elems]
theorem z157{t:TV}{v:Value}{W:Nat}{es:List (List PV)}(h:RelT w E r t v)(he:t.elems W=some es):RelV w E.K (.sl W es) v:=by
 cases t with
 |pv p=>
  cases p with
  |v x=>
   cases h with
   |pv h=>
   cases h;obtain⟨rfl,rfl⟩:=nil_elems he;exact .sl W [] 0 0 0 none (fun _ _=>undef) (by simp) (by simp) (Nat.zero_le _) (by simp) (by simp) (by simp)
  |sl W' es'=>
   simp only[TV.elems]at he;split at he
   ·rename_i hw;obtain rfl:=Nat.eq_of_beq_eq_true hw;cases he;cases h<;>grind
   ·cases he
  |el=>simp[TV.elems]at he
  |fn=>simp[TV.elems]at he
 |own d W' es'=>
  simp only[TV.elems]at he;split at he
  ·rename_i hw;obtain rfl:=Nat.eq_of_beq_eq_true hw;cases he;cases h<;>grind
  ·cases he
 |_=>simp[TV.elems]at he
theorem slen_rel{t:TV}{v:Value}{n:Nat}(h:RelT w E r t v)(he:t.slen=some n):∃p c,v=.slice p n c:=by
 cases h with
 |pv h=>
  cases h with
  |v=>
   cases v<;>simp[TV.slen]at he
   simp_all
  |sl W' es' b off cap p f hp hcap hmax hW hc' hs=>simp[TV.slen]at he;subst he;exact⟨p,cap,rfl⟩
  |_=>simp[TV.slen]at he
 |bs d off n' c C=>simp[TV.slen]at he;subst he;exact⟨_,C,rfl⟩
 |own d W' es' v h1 h2=>
  grind [TV.slen,z50]
 |_=>simp[TV.slen]at he
theorem int_rel{t:TV}{v:Value}{i:Int}(h:RelT w E r t v)(he:t.int=some i):∃k,v=.int k i:=by
 cases h with
 |pv h=>
  cases h with
  |v=>cases v<;>simp[TV.int]at he;subst he;exact⟨_,rfl⟩
  |_=>simp[TV.int]at he
 |_=>simp[TV.int]at he
theorem str_rel{t:TV}{v:Value}{b:ByteArray}(h:RelT w E r t v)(he:t.str=some b):v=.string b:=by
 cases h with
 |pv h=>
  cases h with
  |v=>cases v<;>simp[TV.str]at he;subst he;rfl
  |_=>simp[TV.str]at he
 |_=>grind [TV.str]
theorem RelL.splice{cs xs:List TV}{vs us:List Value}(h1:RelL w E r cs vs)(h2:RelL w E r xs us){off:Nat}(hle:off+xs.length≤cs.length):RelL w E r (splice cs off xs) (splice vs off us):=by
 have l1:=h1.len;have l2:=h2.len;refine⟨by rw[z182 hle,z182 (by omega),l1],fun j c v hc hv=> ?_,fun v hv=> ?_⟩
 ·by_cases hj:off≤j∧j<off+xs.length
  ·rw[splice_in hle hj.1 hj.2]at hc;rw[splice_in (by omega) hj.1 (by omega)]at hv;exact h2.at_ _ _ _ hc hv
  ·rw[z188 hle (by omega)]at hc;rw[z188 (by omega) (by omega)]at hv;exact h1.at_ _ _ _ hc hv
 ·rcases mem_splice hv with h|h
  ·exact h1.ones v h
  ·exact h2.ones v h
theorem RelL.drop{cs:List TV}{vs:List Value}(h:RelL w E r cs vs)(k:Nat):RelL w E r (cs.drop k) (vs.drop k):=
 ⟨by simp[h.len],fun j c v hc hv=>h.at_ (k+j) c v (by grind) (by grind),fun v hv=>h.ones v (List.mem_of_mem_drop hv)⟩
theorem RelL.take{cs:List TV}{vs:List Value}(h:RelL w E r cs vs)(k:Nat):RelL w E r (cs.take k) (vs.take k):=
 ⟨by simp[h.len],fun j c v hc hv=>by
  have hj:j<k:=by grind
  exact h.at_ j c v (by grind) (by grind),fun v hv=>h.ones v (List.mem_of_mem_take hv)⟩
theorem RelL.agg{cs:List TV}{vs:List Value}(h:RelL w E r cs vs):RelT w E r (.agg cs) (.agg vs.toArray):=.agg cs vs h.len h.at_ h.ones
theorem RelL.ofVals{vs:List Value}(h:∀v∈vs,one v):RelL w E r (vs.map fun v=> .pv (.v v)) vs:=
 ⟨by simp,fun j c v hc hv=>by simp[hv]at hc;subst hc;exact .pv (.v v),h⟩
theorem box_rel{b:Nat}{cs:List TV}(h:BoxAt w E r b cs):∃vs:List Value,RelL w E r cs vs∧∀(j:Nat) v,vs[j]?=some v→w.cell? ⟨b,j,none⟩=some v:=by
 refine⟨(List.range cs.length).map fun j=>(w.cell? ⟨b,j,none⟩).getD undef,⟨by simp,fun j c v hc hv=> ?_,fun v hv=> ?_⟩,fun j v hv=> ?_⟩
 ·obtain⟨u,h1,h2,h3⟩:=h.cell j c hc;have hj:=(gJ hc).1;simp[hj,h1]at hv;subst hv;exact h3
 ·obtain⟨j,hj,rfl⟩:=List.mem_map.1 hv;have hj':j<cs.length:=by simpa using hj
  obtain⟨u,h1,h2,h3⟩:=h.cell j cs[j] (gE hj');simpa [h1]using h2
 ·have hj:j<cs.length:=by have:=(gJ hv).1;simpa using this
  obtain⟨u,h1,h2,h3⟩:=h.cell j cs[j] (gE hj);simp[hj,h1]at hv;subst hv;exact h1
theorem foldSet:∀(vs:List Value) (off k:Nat) (cs:Array Value),off+k+vs.length≤cs.size→((vs.zipIdx k).foldl (fun(cs:Array Value) (cj:Value×Nat)=>cs.setIfInBounds (off+cj.2) cj.1) cs).toList=splice cs.toList (off+k) vs
 |[],off,k,cs,_=>by simp[splice]
 |v::r,off,k,cs,h=>by
  simp only[List.zipIdx_cons,List.foldl_cons];rw[foldSet r off (k+1) _ (by grind)];apply List.ext_getElem?;intro j;simp only[List.length_cons]at h
  grind [z188,splice_in,Array.toList_setIfInBounds,List.getElem?_set_ne]
theorem fill_rel{place:Nat→Option (Nat×Nat)}:∀{parts:List (Nat×Value)} {ps:List (Nat×Nat×List TV)} {cs cs':List TV} {vs:List Value},RelL w E r cs vs→parts.length=ps.length→
  (∀(j:Nat) p q,parts[j]?=some p→ps[j]?=some q→place p.1=some (q.1,q.2.1)∧∃us:List Value,p.2.cells=us.toArray∧RelL w E r q.2.2 us)→fillT cs ps=some cs'→
  ∃vs':List Value,Instr.fill place vs.toArray parts=some vs'.toArray∧RelL w E r cs' vs'
 |[],ps,cs,cs',vs,h,hl,hp,hf=>by
  cases ps with
  |nil=>simp[fillT]at hf;subst hf;exact⟨vs,rfl,h⟩
  |cons q qs=>simp at hl
 |(i,v)::parts,ps,cs,cs',vs,h,hl,hp,hf=>by
  cases ps with
  |nil=>simp at hl
  |cons q qs=>
   obtain⟨off,size,xs⟩:=q;simp only[fillT]at hf;split at hf
   ·rename_i hc;obtain⟨h1,us,h2,h3⟩:=hp 0 (i,v) (off,size,xs) rfl rfl
    dsimp only at h1 h2 h3
    have l1:=h.len;have l2:=h3.len;obtain⟨vs',h4,h5⟩:=fill_rel (parts:=parts) (place:=place) (h.splice h3 (off:=off) (by omega)) (by grind) (fun j p q hj1 hj2=>hp (j+1) p q (by grind) (by grind)) hf;refine⟨vs',?_,h5⟩;simp only[Instr.fill,h1,h2];have hcond:(us.toArray.size≠size||off+us.toArray.size>vs.toArray.size)=false:=by grind
    rw[hcond];simp only[Bool.false_eq_true,if_false];have hfold:=foldSet us off 0 vs.toArray (by grind);simp only[Nat.add_zero]at hfold;have:us.toArray.zipIdx.foldl (fun(cs:Array Value) (cj:Value×Nat)=>cs.setIfInBounds (off+cj.2) cj.1) vs.toArray=(splice vs off us).toArray:=by
     grind
    grind
   ·cases hf
end
end
section
structure Glob where
 G:World→Prop
 n:Nat
 st:∀w w',G w→(∀k,k<n→w'.heap[k]?=w.heap[k]?)→G w'
 le:∀w,G w→n≤w.heap.size
def objB(os:List MO)(d:Nat):Option (List TV):=if 1000≤d then(match os[d-1000]? with|some (.box cs)=>some cs|_=>none)else none
def objR(os:List MO):Rows:=fun d=>if 1000≤d then(match os[d-1000]? with|some (.row e W n)=>some (e,W,n)|_=>none)else none
def objX(E:Env)(os:List MO)(d b:Nat):Prop:=(∃cs,objB os d=some cs∧E.β d=b)∨(∃q cap,objR os d=some q∧E.γ d=some (b,cap))
def start(w:World)(E:Env)(os:List MO)(N:Nat):Base:=⟨w,E.K,objX E os,N,E,objR os,os.length,[]⟩
structure Left(E:Env)(os:List MO)(E':Env)(os':List MO):Prop where
 beta:∀d,1000≤d→d<1000+os.length→E'.β d=E.β d
 gamma:∀d,1000≤d→d<1000+os.length→objR os d=none→E'.γ d=E.γ d
 row:∀d e W n,objR os d=some (e,W,n)→∃n',objR os' d=some (e,W,n')∧n≤n'∧(n=n'→E'.γ d=E.γ d)
def hasBody(P:Program)(f:Nat):Prop:=∃fn body,P.funcs[f]?=some fn∧fn.body=some body∧¬fn.name= "runtime.NumGoroutine"
def SCalls(P:Program)(g:Glob)(f:Nat)(xs:List TV)(os:List MO)(y:TV)(os':List MO):Prop:=
 hasBody P f∧∀(w:World) (E:Env) (vs:List Value),g.G w→MSim (start w E os 0) (objB os) (objR os) w E→(∀d b,objX E os d b→g.n≤b)→xs.length=vs.length→
  (∀(j:Nat) x v,xs[j]?=some x→vs[j]?=some v→RelT w E (objR os) x v)→
  Calls P f vs.toArray w fun e w'=>∃v E',e=.returned v∧MSim (start w E os 0) (objB os') (objR os') w' E'∧RelT w' E' (objR os') y v∧Left E os E' os'
section
variable{B:Base}{s:FS}{a:Act}{w w':World}{E E':Env}{r r':Rows}{P:Program}{ρ:Nat→Option Nat}
structure RenOk(E:Env)(r:Rows)(ρ:Nat→Option Nat)(E':Env)(r':Rows):Prop where
 at_:∀d d',ρ d=some d'→E'.β d'=E.β d∧E'.γ d'=E.γ d∧∀q,r' d'=some q→r d=some q
theorem ren0_rel(hρ:RenOk E r ρ E' r')(hk:∀b o u,E.K b o→w.cell? ⟨b,o,none⟩=some u→E'.K b o){x y:TV}{v:Value}(h:RelT w E r x v)(hx:x.ren0 ρ=some y):RelT w E' r' y v:=by
 cases h with
 |pv h=>simp only[TV.ren0]at hx;cases hx;exact .pv (h.mono fun b o u h1 h2=>⟨hk b o u h1 h2,h2⟩)
 |unk v=>simp only[TV.ren0]at hx;cases hx;exact .unk v
 |ptr d off=>
  simp only[TV.ren0]at hx;obtain⟨d',h1,rfl⟩:=gO hx;rw[←(hρ.at_ d d' h1).1];exact .ptr d' off
 |own d W es v h hr=>
  simp only[TV.ren0]at hx;cases hx;have h':RelV w E'.K (.sl W es) v:=h.mono fun b o u h1 h2=>⟨hk b o u h1 h2,h2⟩
  split
  ·rename_i d' h1;refine .own d' W es v h' (fun e W' n hn=> ?_);obtain⟨_,h2,h3⟩:=hρ.at_ d d' h1
   grind
  ·exact .pv h'
 |bs d off n c C hn hc hm=>
  simp only[TV.ren0]at hx;obtain⟨d',h1,rfl⟩:=gO hx;rw[←(hρ.at_ d d' h1).1];exact .bs d' off n c C hn hc hm
 |_=>simp[TV.ren0]at hx
theorem seqR{f:TV→Option TV}(hf:∀x y v,RelT w E r x v→f x=some y→RelT w E' r' y v){xs ys:List TV}{vs:List Value}(hl:xs.length=vs.length)(h:∀(j:Nat) c v,xs[j]?=some c→vs[j]?=some v→RelT w E r c v)(hs:seqO f xs=some ys):
  ys.length=vs.length∧∀(j:Nat) c v,ys[j]?=some c→vs[j]?=some v→RelT w E' r' c v:=by
 obtain⟨h1,h2⟩:=z42 hs;refine⟨by omega,fun j c v hc hv=> ?_⟩;have hj:j<xs.length:=by grind
 obtain⟨z,hz1,hz2⟩:=h2 j xs[j] (gE hj)
 grind
theorem renF_rel(hρ:RenOk E r ρ E' r')(hk:∀b o u,E.K b o→w.cell? ⟨b,o,none⟩=some u→E'.K b o){x y:TV}{v:Value}(h:RelT w E r x v)(hx:x.renF ρ=some y):RelT w E' r' y v:=by
 cases x with
 |fn f a b=>
  cases h with
  |fn g xs ys us vs h1 h2 r1 r2=>
  simp only[TV.renF]at hx;split at hx
  ·rename_i a' b' ha hb;cases hx;obtain⟨l1,q1⟩:=seqR (fun _ _ _=>ren0_rel hρ hk) h1 r1 ha;obtain⟨l2,q2⟩:=seqR (fun _ _ _=>ren0_rel hρ hk) h2 r2 hb;exact .fn f a' b' us vs l1 l2 q1 q2
  ·cases hx
 |_=>exact ren0_rel hρ hk h hx
theorem renE_rel(hρ:RenOk E r ρ E' r')(hk:∀b o u,E.K b o→w.cell? ⟨b,o,none⟩=some u→E'.K b o){x y:TV}{v:Value}(h:RelT w E r x v)(hx:x.renE ρ=some y):RelT w E' r' y v:=by
 cases x with
 |agg cs=>
  cases h with
  |agg cs vs hl h ho=>
  simp only[TV.renE]at hx;obtain⟨l,h1,rfl⟩:=gO hx;obtain⟨l1,q1⟩:=seqR (fun _ _ _=>renF_rel hρ hk) hl h h1;exact .agg l vs l1 q1 ho
 |_=>exact renF_rel hρ hk h hx
theorem ren1_rel(hρ:RenOk E r ρ E' r')(hk:∀b o u,E.K b o→w.cell? ⟨b,o,none⟩=some u→E'.K b o){x y:TV}{v:Value}(h:RelT w E r x v)(hx:x.ren1 ρ=some y):RelT w E' r' y v:=by
 cases x with
 |mp ks xs=>
  cases h with
  |mp ks xs b es clock g h1 h2 h3 h4 h=>
  simp only[TV.ren1]at hx;obtain⟨l,hs,rfl⟩:=gO hx;obtain⟨l1,q1⟩:=z42 hs;refine .mp ks l b es clock g h1 h2 (by omega) h4 (fun j z hz=> ?_);have hj:j<xs.length:=by grind
  obtain⟨z',hz1,hz2⟩:=q1 j xs[j] (gE hj);rw[hz]at hz1;cases hz1;exact renE_rel hρ hk (h j _ (gE hj)) hz2
 |_=>exact renF_rel hρ hk h hx
theorem ren2_rel(hρ:RenOk E r ρ E' r')(hk:∀b o u,E.K b o→w.cell? ⟨b,o,none⟩=some u→E'.K b o){x y:TV}{v:Value}(h:RelT w E r x v)(hx:x.ren2 ρ=some y):RelT w E' r' y v:=by
 cases x with
 |agg cs=>
  cases h with
  |agg cs vs hl h ho=>
  simp only[TV.ren2]at hx;obtain⟨l,h1,rfl⟩:=gO hx;obtain⟨l1,q1⟩:=seqR (fun _ _ _=>ren1_rel hρ hk) hl h h1;exact .agg l vs l1 q1 ho
 |_=>exact ren1_rel hρ hk h hx
theorem z153(hρ:RenOk E r ρ E' r')(hk:∀b o u,E.K b o→w.cell? ⟨b,o,none⟩=some u→E'.K b o){x y:TV}{v:Value}(h:RelT w E r x v)(hx:x.ren3 ρ=some y):RelT w E' r' y v:=by
 cases x with
 |tuple cs=>
  cases h with
  |tuple cs vs hl h=>
  simp only[TV.ren3]at hx;obtain⟨l,h1,rfl⟩:=gO hx;obtain⟨l1,q1⟩:=seqR (fun _ _ _=>ren2_rel hρ hk) hl h h1;exact .tuple l vs l1 q1
 |_=>exact ren2_rel hρ hk h hx
def Does(P:Program)(B:Base)(s':FS)(x:TV)(a:Act)(w:World)(o:Oper):Prop:=
 ∃nx v w' E',(execOp a.eval o).run P w=.ok nx w'∧(nx=.value v∨(nx=.skip∧v=undef))∧Sim B s' a w' E'∧RelT w' E' s'.r x v
theorem z183(h:Sim B s a w E){o:Oper}{x:TV}{v:Value}(hr:(execOp a.eval o).run P w=.ok (.value v) w)(hx:RelT w E s.r x v):Does P B s x a w o:=⟨_,v,w,E,hr,.inl rfl,h,hx⟩
theorem scal_inv{m:Sem Value}{x:TV}{u:Upd}(h:scal P m=some (x,u)):∃v,x=.pv (.v v)∧u=.no∧∀w,m.run P w=.ok v w:=by
 simp only[scal]at h
 grind [Option.map_eq_some_iff,pureRun_run]
theorem Sim.adopt(h:Sim B s a w E){d:Nat}(hno:¬B.old d)(hf:Fresh s d)(e W:Nat):∃E',E'.β=E.β∧E'.K=E.K∧E'.γ d=none∧Sim B (s.setR d (e,W,0)) a w E'∧∀x v,¬Ment d x→RelT w E s.r x v→RelT w E' (s.setR d (e,W,0)).r x v:=by
 obtain⟨hf1,hf2,hf3,_⟩:=hf;let E':Env:={ E with γ:=fun j=>if j=d then none else E.γ j }
 have hm:∀x v,¬Ment d x→RelT w E s.r x v→RelT w E' (s.setR d (e,W,0)).r x v:=by
  intro x v hx hrel;refine hrel.mono (fun b o u h1 h2=>⟨h1,h2⟩) (fun _ _=>⟨rfl,rfl⟩) (fun d' e' W' n hd' h1=> ?_) (.refl _);have hne:d'≠d:=by grind
  simp only[FS.setR,setF_ne _ _ hne]at h1
  grind
 have hne:∀{d':Nat} {q:Nat×Nat×Nat},s.r d'=some q→d'≠d:=by grind
 have hr':∀{d':Nat} {q:Nat×Nat×Nat},(s.setR d (e,W,0)).r d'=some q→(d'=d∧q=(e,W,0))∨s.r d'=some q:=by
  intro d' q h1;rcases z34 h1 with h2|⟨_,h2⟩<;>grind
 have hg:E'.γ d=none:=by simp[E']
 have hg':∀{d':Nat},d'≠d→E'.γ d'=E.γ d':=fun hd=>by simp[E',hd]
 refine⟨E',rfl,rfl,hg,⟨h.defers,h.size,fun k x hx=>⟨(h.tmp k x hx).1,hm _ _ (fun hd=>hf1 (.inl ⟨k,x,hx,hd⟩)) (h.tmp k x hx).2⟩,⟨fun d' cs hd=> ?_,fun d' e' W' n hd=> ?_,h.mem.bb,fun d1 d2 c q b cap h1 h2 h3=> ?_,fun d1 d2 q q' b c1 c2 h1 h2 h3 h4=> ?_,h.mem.lt,h.mem.low,h.mem.keep,h.mem.knew,⟨h.mem.pas.β,fun d' ho h0=>by rw[hg' (fun e=>hno (e▸ho))];exact h.mem.pas.γ d' ho h0,fun d' e' W' n ho hd=> ?_⟩⟩,h.itr,h.ii⟩,hm⟩
 ·obtain⟨h1,h2⟩:=h.mem.box d' cs hd;refine⟨⟨h1.lt,h1.obj,h1.fz,fun j c hc=> ?_,h1.out⟩,h2⟩;obtain⟨v,c1,c2,c3⟩:=h1.cell j c hc;exact⟨v,c1,c2,hm _ _ (fun hd'=>hf1 (.inr ⟨d',cs,c,hd,gM hc,hd'⟩)) c3⟩
 ·rcases hr' hd with⟨rfl,h2⟩|h1
  ·grind
  ·rw[hg' (hne h1)];rcases h.mem.row d' e' W' n h1 with h2|⟨b,cap,h2,h3,h4⟩
   ·grind
   ·exact .inr ⟨b,cap,h2,h3,h4.cells,h4.le,h4.max,h4.out⟩
 ·rcases hr' h2 with⟨rfl,_⟩|h2
  ·grind
  ·rw[hg' (hne h2)]at h3;exact h.mem.br d1 d2 c q b cap h1 h2 h3
 ·rcases hr' h1 with⟨rfl,_⟩|h1
  ·grind
  ·rcases hr' h2 with⟨rfl,_⟩|h2
   ·grind
   ·rw[hg' (hne h1)]at h3;rw[hg' (hne h2)]at h4;exact h.mem.rr d1 d2 q q' b c1 c2 h1 h2 h3 h4
 ·rcases hr' hd with⟨rfl,_⟩|h1
  ·grind
  ·rw[hg' (hne h1)];exact h.mem.pas.row d' e' W' n ho h1
theorem news_of{W:Nat}{es:List (List PV)}{v:Value}(hW:0<W)(h:RelV w E.K (.sl W es) v):∃(news:List Value) (f:Nat→Nat→Value),News w E.K W es news f∧news.length=es.length*W∧(∀u∈news,one u)∧
  ∃p cap,v=.slice p es.length cap∧(es=[]∨∃ad,p=some ad∧∀(j:Nat) u,news[j]?=some u→w.cell? (ad.add j)=some u):=by
 obtain⟨b,off,cap,p,f,rfl,hp,hcap,hmax,hWs,hc⟩:=z50 h;let news:List Value:=(List.range (es.length*W)).map fun q=>f (q / W) (q%W)
 have hget:∀(q:Nat) u,news[q]?=some u→q<es.length*W∧u=f (q / W) (q%W)∧∃cs c,es[q / W]?=some cs∧cs[q%W]?=some c:=by
  intro q u hq;have hlt:q<es.length*W:=by grind
  simp[news,hlt]at hq;have hi:q / W<es.length:=Nat.div_lt_of_lt_mul (by rw[Nat.mul_comm];exact hlt);have hcl:=hWs es[q / W] (List.getElem_mem hi);have hj:q%W<(es[q / W]).length:=by rw[hcl];exact Nat.mod_lt _ hW
  simp_all
 have hdm:∀q,q / W*W+q%W=q:=fun q=>by rw[Nat.mul_comm];exact Nat.div_add_mod q W
 refine⟨news,f,⟨hWs,fun i j cs c h1 h2=> ?_⟩,by simp[news],fun u hu=> ?_,p,cap,rfl,?_⟩
 ·have hi:i<es.length:=(gJ h1).1
  grind [idx_lt]
 ·grind [List.getElem?_of_mem]
 ·by_cases he:es=[]
  ·grind
  ·refine .inr ⟨⟨b,off,none⟩,hp he,fun j u hu=> ?_⟩;obtain⟨_,rfl,cs,c,h1,h2⟩:=hget j u hu;rw[Addr.add_mid,show off+j=off+j / W*W+j%W by rw[Nat.add_assoc,hdm]]
   grind
theorem src_of{W:Nat}{es:List (List PV)}{v:Value}(hW:0<W)(h:RelV w E.K (.sl W es) v){tx e':TypeId}(htx:P.underlying tx=some (.slice e')):∃(news:List Value) (f:Nat→Nat→Value),News w E.K W es news f∧Src P W tx v es.length news w:=by
 obtain⟨news,f,h1,h2,h3,p,cap,rfl,h4⟩:=news_of hW h;refine⟨news,f,h1,?_⟩;rcases h4 with rfl|⟨ad,rfl,h4⟩
 ·have:news=[]:=List.eq_nil_of_length_eq_zero (by simpa using h2);subst this;cases p with
  |none=>exact Src.ofNil w htx cap
  |some ad=>exact Src.ofSlice w htx ad 0 cap [] (by simp) (by simp) (by simp)
 ·exact Src.ofSlice w htx ad es.length cap news h2 h4 h3
theorem src_str{tx:TypeId}(b:ByteArray)(htx:P.underlying tx=some .string):∃(news:List Value) (f:Nat→Nat→Value),News w E.K 1 (bytesP b) news f∧Src P 1 tx (.string b) (bytesP b).length news w:=by
 have hl:(bytesP b).length=b.size:=by unfold bytesP;rw[List.length_map,Array.length_toList];rfl
 refine⟨byteCells b,fun i _=>(byteCells b).getD i undef,⟨fun cs hcs=> ?_,fun i j cs c h1 h2=> ?_⟩,by rw[hl];exact Src.ofString w htx b⟩
 ·grind [bytesP]
 ·simp only[bytesP,List.getElem?_map]at h1;obtain⟨u,hu,rfl⟩:=gO h1;cases j with
  |succ j=>simp at h2
  |zero=>
   simp at h2;subst h2;have:(byteCells b)[i]?=some (.int .u8 u.toNat):=by simp only[byteCells,List.getElem?_map];rw[hu];rfl
   have hget:(byteCells b).getD i undef=.int .u8 u.toNat:=by grind
   rw[Nat.mul_one,Nat.add_zero,hget];exact⟨this,rfl,.v _⟩
end
end
section
section
variable{B:Base}{s:FS}{a:Act}{w w':World}{E E':Env}{P:Program}{I:List Nat}
theorem z151:∀{I:List Nat} {d j:Nat},pos I d=some j→I[j]?=some d
 |[],_,_,h=>by simp[pos]at h
 |x::l,d,j,h=>by
  simp only[pos]at h;split at h
  ·grind [Nat.eq_of_beq_eq_true]
  ·obtain⟨i,h1,rfl⟩:=gO h;simpa using z151 h1
theorem pos_none:∀{I:List Nat} {d:Nat},pos I d=none→d∉I
 |[],_,_=>by simp
 |x::l,d,h=>by
  simp only[pos]at h;split at h
  ·cases h
  ·rename_i hx;have:pos l d=none:=by simp_all
   have hne:d≠x:=by grind [Nat.beq_refl]
   simp[hne,pos_none this]
theorem z78{I:List Nat}(hI:I.Nodup){d j:Nat}(h:I[j]?=some d):pos I d=some j:=by
 cases hp:pos I d with
 |none=>exact absurd (gM h) (pos_none hp)
 |some i=>
  have hi:=z151 hp
  grind [List.getElem?_eq_some_iff,List.getElem_inj]
theorem objB_eq{os:List MO}{j:Nat}{cs:List TV}(h:os[j]?=some (.box cs)):objB os (1000+j)=some cs:=by simp[objB,h]
theorem z58{os:List MO}{j e W n:Nat}(h:os[j]?=some (.row e W n)):objR os (1000+j)=some (e,W,n):=by simp[objR,h]
theorem z49{os:List MO}{d:Nat}{cs:List TV}(h:objB os d=some cs):∃j,d=1000+j∧os[j]?=some (.box cs):=by
 grind [objB]
theorem z30{os:List MO}{d e W n:Nat}(h:objR os d=some (e,W,n)):∃j,d=1000+j∧os[j]?=some (.row e W n):=by
 grind [objR]
def envIn(E:Env)(I:List Nat):Env:={ K:=E.K,β:=fun d=>E.β (I.getD (d-1000) 0),γ:=fun d=>E.γ (I.getD (d-1000) 0),ι:=E.ι }
theorem handed{os:List MO}(hos:seqO (fun d=>(s.mo d).bind (MO.ren (rhoIn I))) I=some os):
  I.length=os.length∧(∀(j:Nat) cs',os[j]?=some (MO.box cs')→∃i cs,I[j]?=some i∧s.b i=some cs∧seqO (TV.ren1 (rhoIn I)) cs=some cs'∧s.r i=none)∧(∀(j e W n:Nat),os[j]?=some (MO.row e W n)→∃i,I[j]?=some i∧s.b i=none∧s.r i=some (e,W,n)):=by
 obtain⟨h1,h2⟩:=z42 hos;have key:∀(j:Nat) m,os[j]?=some m→∃i,I[j]?=some i∧(s.mo i).bind (MO.ren (rhoIn I))=some m:=by
  intro j m hm;have hj:j<I.length:=by grind
  obtain⟨y,hy1,hy2⟩:=h2 j I[j] (gE hj)
  grind
 refine⟨h1,fun j cs' hm=> ?_,fun j e W n hm=> ?_⟩
 ·obtain⟨i,hi,h3⟩:=key j _ hm;obtain⟨m,h4,h5⟩:=gB h3;unfold FS.mo at h4;split at h4
  ·rename_i cs hcs hrn;cases h4;simp only[MO.ren]at h5;simp_all
  ·grind [MO.ren]
  ·cases h4
 ·obtain⟨i,hi,h3⟩:=key j _ hm;obtain⟨m,h4,h5⟩:=gB h3;unfold FS.mo at h4;split at h4
  ·cases h4;simp only[MO.ren]at h5;simp_all
  ·rename_i hb hr;cases h4;simp only[MO.ren]at h5;cases h5
   grind
  ·cases h4
theorem getD_of{I:List Nat}{j i:Nat}(h:I[j]?=some i):I.getD (1000+j-1000) 0=i:=by
 grind
theorem renIn{os:List MO}(hos:seqO (fun d=>(s.mo d).bind (MO.ren (rhoIn I))) I=some os):RenOk E s.r (rhoIn I) (envIn E I) (objR os):=by
 obtain⟨_,_,h3⟩:=handed hos;refine⟨fun d d' hd=> ?_⟩;obtain⟨j,h1,rfl⟩:=gO hd;have hi:=z151 h1;refine⟨by simp only[envIn];rw[getD_of hi],by simp only[envIn];rw[getD_of hi],fun q hq=> ?_⟩
 grind [z30]
theorem z114(h:Sim B s a w E)(hI:I.Nodup){os:List MO}(hos:seqO (fun d=>(s.mo d).bind (MO.ren (rhoIn I))) I=some os):
  MSim (start w (envIn E I) os 0) (objB os) (objR os) w (envIn E I):=by
 obtain⟨h1,h2,h3⟩:=handed hos;have hρ:RenOk E s.r (rhoIn I) (envIn E I) (objR os):=renIn hos;have hb:∀d cs',objB os d=some cs'→∃j i cs,d=1000+j∧I[j]?=some i∧s.b i=some cs∧seqO (TV.ren1 (rhoIn I)) cs=some cs'∧(envIn E I).β d=E.β i:=by
  intro d cs' hd;obtain⟨j,rfl,hj⟩:=z49 hd;obtain⟨i,cs,q1,q2,q3,_⟩:=h2 j cs' hj;exact⟨j,i,cs,rfl,q1,q2,q3,by simp only[envIn];rw[getD_of q1]⟩
 have hr:∀d e W n,objR os d=some (e,W,n)→∃j i,d=1000+j∧I[j]?=some i∧s.r i=some (e,W,n)∧(envIn E I).γ d=E.γ i:=by
  intro d e W n hd;obtain⟨j,rfl,hj⟩:=z30 hd;obtain⟨i,q1,q2,q3⟩:=h3 j e W n hj;exact⟨j,i,rfl,q1,q3,by simp only[envIn];rw[getD_of q1]⟩
 have inj:∀{j j' i:Nat},I[j]?=some i→I[j']?=some i→j=j':=fun {j j' i} q1 q2=>by
  have a1:=z78 hI q1;have a2:=z78 hI q2
  grind
 refine⟨fun d cs' hd=> ?_,fun d e W n hd=> ?_,fun d d' cs cs' e1 e2 e3=> ?_,fun d d' cs q k cap e1 e2 e3=> ?_,fun d d' q q' k cap cap' e1 e2 e3 e4=> ?_,h.mem.lt,⟨rfl,rfl,rfl,Nat.le_refl _,fun _ _ _=>rfl⟩,fun k o u e1 e2=>⟨e1,e2⟩,fun k o e1=> .inl e1,⟨fun _ _=>rfl,fun _ _ _=>rfl,fun d e W n _ hd=>⟨n,hd,Nat.le_refl _,fun _=>rfl⟩⟩⟩
 ·obtain⟨j,i,cs,rfl,q1,q2,q3,q4⟩:=hb d cs' hd;refine⟨?_,.inr (.inl ⟨cs',hd,rfl⟩)⟩;rw[q4];obtain⟨b1,_⟩:=h.mem.box i cs q2;refine⟨b1.lt,b1.obj,b1.fz,fun m c hc=> ?_,b1.out⟩;obtain⟨l1,l2⟩:=z42 q3;have hm:m<cs.length:=by grind
  obtain⟨z,z1,z2⟩:=l2 m cs[m] (gE hm);rw[hc]at z1;cases z1;obtain⟨v,c1,c2,c3⟩:=b1.cell m cs[m] (gE hm);exact⟨v,c1,c2,ren1_rel hρ (fun _ _ _ h _=>h) c3 z2⟩
 ·obtain⟨j,i,rfl,q1,q2,q3⟩:=hr d e W n hd;rw[q3];rcases h.mem.row i e W n q2 with h4|⟨k,cap,h4,h5,h6⟩
  ·grind
  ·exact .inr ⟨k,cap,h4,.inr (.inr ⟨_,cap,hd,by rw[q3];exact h4⟩),h6.cells,h6.le,h6.max,h6.out⟩
 ·obtain⟨j,i,c1,rfl,q1,q2,q3,q4⟩:=hb d cs e1;obtain⟨j',i',c1',rfl,q1',q2',q3',q4'⟩:=hb d' cs' e2;rw[q4,q4']at e3;obtain rfl:=h.mem.bb i i' _ _ q2 q2' e3
  grind
 ·obtain⟨j,i,c1,rfl,q1,q2,q3,q4⟩:=hb d cs e1;obtain⟨e,W,n⟩:=q;obtain⟨j',i',rfl,q1',q2',q3'⟩:=hr d' e W n e2;rw[q4];rw[q3']at e3;exact h.mem.br i i' _ _ k cap q2 q2' e3
 ·obtain⟨e,W,n⟩:=q;obtain⟨e',W',n'⟩:=q';obtain⟨j,i,rfl,q1,q2,q3⟩:=hr d e W n e1;obtain⟨j',i',rfl,q1',q2',q3'⟩:=hr d' e' W' n' e2;rw[q3]at e3;rw[q3']at e4;obtain rfl:=h.mem.rr i i' _ _ k cap cap' q2 q2' e3 e4
  grind
def newAt(k i:Nat):Option Nat:=if i=newId k 0 then some 0 else if i=newId k 1 then some 1 else if i=newId k 2 then some 2 else if i=newId k 3 then some 3 else none
theorem newAt_id{k q:Nat}(h:q<4):newAt k (newId k q)=some q:=by
 match q,h with
 |0,_=>simp[newAt,newId]
 |1,_=>simp[newAt,newId]
 |2,_=>simp[newAt,newId]
 |3,_=>simp[newAt,newId]
theorem newAt_some{k i q:Nat}(h:newAt k i=some q):i=newId k q∧q<4:=by
 grind [newAt]
def backAt(I:List Nat)(k i:Nat):Option Nat:=match pos I i with|some j=>some (1000+j)|none=>(newAt k i).map (1000+I.length+·)
def envOut(E E':Env)(I:List Nat)(k:Nat):Env:={ K:=E'.K,β:=fun i=>match backAt I k i with|some d=>E'.β d|none=>E.β i,γ:=fun i=>match backAt I k i with|some d=>E'.γ d|none=>E.γ i,ι:=E.ι }
theorem back_out(hI:I.Nodup){k d i:Nat}(hn:∀q<4,newId k q∉I)(h:rhoOut I k d=some i):backAt I k i=some d:=by
 unfold rhoOut at h;split at h
 ·rename_i h1;have h1:=Nat.le_of_ble_eq_true h1;split at h
  ·rename_i x hx;cases h;unfold backAt;rw[z78 hI hx]
   grind
  ·rename_i hx;split at h
   ·rename_i hq;rw[Nat.blt_eq]at hq;cases h;have hl:I.length≤d-1000:=by grind
    unfold backAt;cases hp:pos I (newId k (d-1000-I.length))with
    |some j=>exact absurd (gM (z151 hp)) (hn _ hq)
    |none=>simp only[newAt_id hq,Option.map_some];congr 1;omega
   ·cases h
 ·cases h
theorem out_back{k d i:Nat}(h:backAt I k i=some d):rhoOut I k d=some i∧1000≤d:=by
 unfold backAt at h;split at h
 ·grind [z151,rhoOut,Nat.ble_eq_true_of_le,Nat.add_sub_cancel_left]
 ·obtain⟨q,h1,rfl⟩:=gO h;obtain⟨rfl,hq⟩:=newAt_some h1;refine⟨?_,by omega⟩;unfold rhoOut;rw[if_pos (Nat.ble_eq_true_of_le (by omega)),List.getElem?_eq_none (by omega)];simp only;have e:1000+I.length+q-1000-I.length=q:=by omega
  simp_all
theorem outs_spec{ρ:Nat→Option Nat}:∀{l:List MO} {j:Nat} {us:List (Nat×MO)},outs ρ j l=some us→(∀i m',us.lookup i=some m'→∃(q:Nat) (m:MO),l[q]?=some m∧ρ (1000+(j+q))=some i∧m.ren ρ=some m')∧(∀(q:Nat) m,l[q]?=some m→∃i m',ρ (1000+(j+q))=some i∧m.ren ρ=some m'∧(i,m')∈us)
 |[],j,us,h=>by simp[outs]at h;subst h;exact⟨fun i m' h=>by simp at h,fun q m h=>by simp at h⟩
 |m::l,j,us,h=>by
  simp only[outs]at h;split at h
  ·rename_i i m' r h1 h2 h3;cases h;obtain⟨q1,q2⟩:=outs_spec h3;refine⟨fun x y hx=> ?_,fun q y hy=> ?_⟩
   ·simp only[List.lookup]at hx;split at hx
    ·rename_i he;cases hx;obtain rfl:x=i:=by grind
     exact⟨0,m,rfl,h1,h2⟩
    ·obtain⟨q,m0,a1,a2,a3⟩:=q1 x y hx;exact⟨q+1,m0,by simpa using a1,by rw[←a2];congr 2;omega,a3⟩
   ·grind
  ·cases h
theorem lookup_of_mem{us:List (Nat×MO)}{i:Nat}{m:MO}(h:(i,m)∈us):∃m',us.lookup i=some m':=by
 induction us with
 |nil=>simp at h
 |cons p l ih=>
  obtain⟨x,y⟩:=p;simp only[List.lookup];cases he:(i==x)<;>grind
theorem z113:∀{os os':List MO},moOk os os'=true→os'.length≤os.length+4∧os.length≤os'.length∧(∀(j:Nat) cs,os[j]?=some (MO.box cs)→∃cs',os'[j]?=some (MO.box cs'))∧(∀(j e W n:Nat),os[j]?=some (MO.row e W n)→∃n',os'[j]?=some (MO.row e W n')∧n≤n')
 |[],l,h=>by simp only[moOk]at h;have:=Nat.le_of_ble_eq_true h;exact⟨by simpa using this,by simp,by simp,by simp⟩
 | .box c::l,[],h=>by simp[moOk]at h
 | .box c::l,.row _ _ _::l',h=>by simp[moOk]at h
 | .row _ _ _::l,[],h=>by simp[moOk]at h
 | .row _ _ _::l,.box _::l',h=>by simp[moOk]at h
 | .box c::l,.box c'::l',h=>by
  simp only[moOk]at h;obtain⟨a1,a2,a3,a4⟩:=z113 h;refine⟨by simp;omega,by simp;omega,fun j cs hj=> ?_,fun j e W n hj=> ?_⟩
  ·cases j with
   |zero=>exact⟨c',rfl⟩
   |succ j=>simpa using a3 j cs (by simpa using hj)
  ·cases j with
   |zero=>simp at hj
   |succ j=>simpa using a4 j e W n (by simpa using hj)
 | .row e0 W0 n0::l,.row e1 W1 n1::l',h=>by
  simp only[moOk,Bool.and_eq_true]at h;obtain⟨⟨⟨b1,b2⟩,b3⟩,h⟩:=h;obtain⟨a1,a2,a3,a4⟩:=z113 h;obtain rfl:=Nat.eq_of_beq_eq_true b1;obtain rfl:=Nat.eq_of_beq_eq_true b2;have b3:=Nat.le_of_ble_eq_true b3;refine⟨by simp;omega,by simp;omega,fun j cs hj=> ?_,fun j e W n hj=> ?_⟩
  ·cases j with
   |zero=>simp at hj
   |succ j=>simpa using a3 j cs (by simpa using hj)
  ·cases j with
   |zero=>simp at hj;obtain⟨rfl,rfl,rfl⟩:=hj;exact⟨n1,rfl,b3⟩
   |succ j=>simpa using a4 j e W n (by simpa using hj)
end
end
end Go.Sh
end
