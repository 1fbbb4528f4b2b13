/- Merged texts: S1 S2 S3 S4 S5 S6 S7 S8 S9 S10 S10m S11 S12 S13. No statement of the program is proved here. -/
import Derived.Lib.Replace
import Derived.Lib.ItoaLen
import Derived.Deep.MidRow
import Derived.Deep.AppendSrc
import Derived.Laws.AppendOwn
import Derived.Below
import Derived.Orders
import Derived.WalkKit
import Derived.Handy
import Derived.Deep.Upon
import Derived.Great.BuildSlice
import Derived.WideLaws
import Derived.BigCall
import Derived.Laws.BytesString
import Derived.Laws.MakeOwn
set_option linter.unusedSimpArgs false
set_option linter.unusedVariables false
section
namespace Go
theorem gE{α:Type _}{l:List α}{i:Nat}(h:i<l.length):l[i]?=some l[i]:=List.getElem?_eq_getElem h
theorem gJ{α:Type _}{l:List α}{i:Nat}{a:α}(h:l[i]?=some a):∃h:i<l.length,l[i]=a:=List.getElem?_eq_some_iff.1 h
theorem gM{α:Type _}{l:List α}{i:Nat}{a:α}(h:l[i]?=some a):a∈l:=List.mem_of_getElem? h
theorem gO{α β:Type _}{f:α→β}{x:Option α}{b:β}(h:x.map f=some b):∃a,x=some a∧f a=b:=Option.map_eq_some_iff.1 h
theorem gB{α β:Type _}{f:α→Option β}{x:Option α}{b:β}(h:x.bind f=some b):∃a,x=some a∧f a=some b:=Option.bind_eq_some_iff.1 h
theorem gA{α:Type _}{l:Array α}{i:Nat}{a:α}(h:l[i]?=some a):∃h:i<l.size,l[i]=a:=Array.getElem?_eq_some_iff.1 h
theorem wa2{p0 p1:Prop}(x0:p0)(x1:p1):p0∧p1:=⟨x0,x1⟩
theorem wa3{p0 p1 p2:Prop}(x0:p0)(x1:p1)(x2:p2):p0∧p1∧p2:=⟨x0,x1,x2⟩
theorem wa4{p0 p1 p2 p3:Prop}(x0:p0)(x1:p1)(x2:p2)(x3:p3):p0∧p1∧p2∧p3:=⟨x0,x1,x2,x3⟩
theorem wa5{p0 p1 p2 p3 p4:Prop}(x0:p0)(x1:p1)(x2:p2)(x3:p3)(x4:p4):p0∧p1∧p2∧p3∧p4:=⟨x0,x1,x2,x3,x4⟩
theorem wa6{p0 p1 p2 p3 p4 p5:Prop}(x0:p0)(x1:p1)(x2:p2)(x3:p3)(x4:p4)(x5:p5):p0∧p1∧p2∧p3∧p4∧p5:=⟨x0,x1,x2,x3,x4,x5⟩
theorem wa7{p0 p1 p2 p3 p4 p5 p6:Prop}(x0:p0)(x1:p1)(x2:p2)(x3:p3)(x4:p4)(x5:p5)(x6:p6):p0∧p1∧p2∧p3∧p4∧p5∧p6:=⟨x0,x1,x2,x3,x4,x5,x6⟩
theorem wa8{p0 p1 p2 p3 p4 p5 p6 p7:Prop}(x0:p0)(x1:p1)(x2:p2)(x3:p3)(x4:p4)(x5:p5)(x6:p6)(x7:p7):p0∧p1∧p2∧p3∧p4∧p5∧p6∧p7:=⟨x0,x1,x2,x3,x4,x5,x6,x7⟩
end Go
namespace Go.Sh
open Go Go.RowKit
inductive PV where
 |v (x:Value)
 |sl (W:Nat) (es:List (List PV))
 |el (cs:List PV)
 |fn (f:Fn) (first captured:List PV)
inductive TV where
 |pv (p:PV)
 |unk
 |ptr (d off:Nat)
 |own (d W:Nat) (es:List (List PV))
 |bs (d off n c:Nat)
 |it (d:Nat)
 |fn (f:Fn) (first captured:List TV)
 |agg (cs:List TV)
 |mp (ks:List Value) (xs:List TV)
 |tuple (ts:List TV)
structure FS where
 t:Nat→Option TV
 b:Nat→Option (List TV)
 r:Nat→Option (Nat×Nat×Nat)
 i:Nat→Option (ByteArray×Nat)
structure Env where
 K:Nat→Nat→Prop
 β:Nat→Nat
 γ:Nat→Option (Nat×Nat)
 ι:Nat→Nat
abbrev Rows:=Nat→Option (Nat×Nat×Nat)
def hdr(g:Option (Nat×Nat))(n:Nat):Value:=match g with|none=> .slice none n 0|some (b,c)=> .slice (some ⟨b,0,none⟩) n c
abbrev one(v:Value):Prop:=v.oneCell'=true
inductive RelV(w:World)(K:Nat→Nat→Prop):PV→Value→Prop where
 |v (x:Value):RelV w K (.v x) x
 |sl (W:Nat) (es:List (List PV)) (b off cap:Nat) (p:Option Addr) (f:Nat→Nat→Value) (hp:es≠[]→p=some ⟨b,off,none⟩) (hcap:es.length≤cap) (hmax:cap≤maxLen) (hW:∀cs∈es,cs.length=W)
   (hc:∀(i j:Nat) cs c,es[i]?=some cs→cs[j]?=some c→K b (off+i*W+j)∧w.cell? ⟨b,off+i*W+j,none⟩=some (f i j)∧one (f i j))
   (hs:∀(i j:Nat) cs c,es[i]?=some cs→cs[j]?=some c→RelV w K c (f i j)):RelV w K (.sl W es) (.slice p es.length cap)
 |el (cs:List PV) (b off:Nat) (f:Nat→Value) (hc:∀(j:Nat) c,cs[j]?=some c→K b (off+j)∧w.cell? ⟨b,off+j,none⟩=some (f j)∧one (f j)) (hs:∀(j:Nat) c,cs[j]?=some c→RelV w K c (f j)):
   RelV w K (.el cs) (.pointer (some ⟨b,off,none⟩))
 |fn (g:Fn) (xs ys:List PV) (us vs:List Value) (h1:xs.length=us.length) (h2:ys.length=vs.length) (r1:∀(j:Nat) c v,xs[j]?=some c→us[j]?=some v→RelV w K c v) (r2:∀(j:Nat) c v,ys[j]?=some c→vs[j]?=some v→RelV w K c v):
   RelV w K (.fn g xs ys) (.func g us.toArray vs.toArray)
inductive RelT(w:World)(E:Env)(r:Rows):TV→Value→Prop where
 |pv {p:PV} {v:Value} (h:RelV w E.K p v):RelT w E r (.pv p) v
 |unk (v:Value):RelT w E r .unk v
 |ptr (d off:Nat):RelT w E r (.ptr d off) (.pointer (some ⟨E.β d,off,none⟩))
 |own (d W:Nat) (es:List (List PV)) (v:Value) (h:RelV w E.K (.sl W es) v) (hr:∀e W' n,r d=some (e,W',n)→es.length≤n∧(es.length=n→W'=W∧v=hdr (E.γ d) n)):RelT w E r (.own d W es) v
 |bs (d off n c C:Nat) (hn:n≤c) (hc:c≤C) (hm:C≤maxLen):RelT w E r (.bs d off n c) (.slice (some ⟨E.β d,off,none⟩) n C)
 |it (d:Nat):RelT w E r (.it d) (.pointer (some ⟨E.ι d,0,none⟩))
 |fn (g:Fn) (xs ys:List TV) (us vs:List Value) (h1:xs.length=us.length) (h2:ys.length=vs.length) (r1:∀(j:Nat) c v,xs[j]?=some c→us[j]?=some v→RelT w E r c v) (r2:∀(j:Nat) c v,ys[j]?=some c→vs[j]?=some v→RelT w E r c v):
   RelT w E r (.fn g xs ys) (.func g us.toArray vs.toArray)
 |agg (cs:List TV) (vs:List Value) (hl:cs.length=vs.length) (h:∀(j:Nat) c v,cs[j]?=some c→vs[j]?=some v→RelT w E r c v) (ho:∀v∈vs,one v):RelT w E r (.agg cs) (.agg vs.toArray)
 |mp (ks:List Value) (xs:List TV) (b:Nat) (es:Array MapEntry) (clock:Nat) (g:Nat→Value) (hb:w.heap[b]?=some (Obj.map es clock)) (hk:es.toList.map MapEntry.key=ks) (hl:xs.length=ks.length)
   (hg:∀(j:Nat) e,es.toList[j]?=some e→e.val=g j) (h:∀(j:Nat) x,xs[j]?=some x→RelT w E r x (g j)):RelT w E r (.mp ks xs) (.map (some b))
 |tuple (cs:List TV) (vs:List Value) (hl:cs.length=vs.length) (h:∀(j:Nat) c v,cs[j]?=some c→vs[j]?=some v→RelT w E r c v):RelT w E r (.tuple cs) (.tuple vs.toArray)
inductive Ment(d:Nat):TV→Prop where
 |ptr (off:Nat):Ment d (.ptr d off)
 |own (W:Nat) (es:List (List PV)):Ment d (.own d W es)
 |bs (off n c:Nat):Ment d (.bs d off n c)
 |it:Ment d (.it d)
 |fn1 {g:Fn} {xs ys:List TV} {c:TV} (h:c∈xs) (hc:Ment d c):Ment d (.fn g xs ys)
 |fn2 {g:Fn} {xs ys:List TV} {c:TV} (h:c∈ys) (hc:Ment d c):Ment d (.fn g xs ys)
 |mp {ks:List Value} {xs:List TV} {c:TV} (h:c∈xs) (hc:Ment d c):Ment d (.mp ks xs)
 |agg {cs:List TV} {c:TV} (h:c∈cs) (hc:Ment d c):Ment d (.agg cs)
 |tuple {cs:List TV} {c:TV} (h:c∈cs) (hc:Ment d c):Ment d (.tuple cs)
def FS.ment(s:FS)(d:Nat):Prop:=(∃k x,s.t k=some x∧Ment d x)∨(∃e cs c,s.b e=some cs∧c∈cs∧Ment d c)
def Fresh(s:FS)(d:Nat):Prop:=¬s.ment d∧s.b d=none∧s.r d=none∧s.i d=none
def Maps(w w':World):Prop:=∀(b:Nat) (es:Array MapEntry) (c:Nat),w.heap[b]?=some (Obj.map es c)→w'.heap[b]?=some (Obj.map es c)
theorem Maps.refl(w:World):Maps w w:=fun _ _ _ h=>h
theorem Maps.below{w w':World}(h:Below w.heap.size w w'):Maps w w':=fun b _ _ hb=>(h.block b (gA hb).1).trans hb
theorem Maps.but{w w':World}(k:Nat)(hk:∀es c,w.heap[k]?≠some (Obj.map es c))(h:∀b,b≠k→w'.heap[b]?=w.heap[b]?):Maps w w':=fun b es c hb=>(h b (fun e=>hk es c (e▸hb))).trans hb
theorem RelV.mono{w w':World}{K K':Nat→Nat→Prop}{p:PV}{v:Value}(h:RelV w K p v)(hk:∀b o u,K b o→w.cell? ⟨b,o,none⟩=some u→K' b o∧w'.cell? ⟨b,o,none⟩=some u):RelV w' K' p v:=by
 induction h with
 |v x=>exact .v x
 |sl W es b off cap p f hp hcap hmax hW hc hs ih=>
  refine .sl W es b off cap p f hp hcap hmax hW (fun i j cs c h1 h2=> ?_) ih
  grind
 |el cs b off f hc hs ih=>
  refine .el cs b off f (fun j c h1=> ?_) ih
  grind
 |fn g xs ys us vs h1 h2 r1 r2 i1 i2=>exact .fn g xs ys us vs h1 h2 i1 i2
theorem RelT.mono{w w':World}{E E':Env}{r r':Rows}{x:TV}{v:Value}(h:RelT w E r x v)
  (hk:∀b o u,E.K b o→w.cell? ⟨b,o,none⟩=some u→E'.K b o∧w'.cell? ⟨b,o,none⟩=some u)
  (hb:∀d,Ment d x→E'.β d=E.β d∧E'.ι d=E.ι d)
  (hr:∀d e W n,Ment d x→r' d=some (e,W,n)→(r d=some (e,W,n)∧E'.γ d=E.γ d)∨(∃m,r d=some (e,W,m)∧m<n)) (hw:Maps w w'):RelT w' E' r' x v:=by
 induction h with
 |pv h=>exact .pv (h.mono hk)
 |unk v=>exact .unk v
 |ptr d off=>rw[←(hb d (.ptr off)).1];exact .ptr d off
 |own d W es v h h2=>
  refine .own d W es v (h.mono hk) (fun e W' n hn=> ?_);rcases hr d e W' n (.own W es) hn with⟨h3,h4⟩|⟨m,h3,h4⟩<;>grind
 |bs d off n c C hn hc hm=>rw[←(hb d (.bs off n c)).1];exact .bs d off n c C hn hc hm
 |it d=>rw[←(hb d .it).2];exact .it d
 |fn g xs ys us vs h1 h2 r1 r2 i1 i2=>
  exact .fn g xs ys us vs h1 h2 (fun j c v h1 h2=>i1 j c v h1 h2 (fun d hd=>hb d (.fn1 (gM h1) hd)) (fun d e W n hd=>hr d e W n (.fn1 (gM h1) hd)))
   (fun j c v h1 h2=>i2 j c v h1 h2 (fun d hd=>hb d (.fn2 (gM h1) hd)) (fun d e W n hd=>hr d e W n (.fn2 (gM h1) hd)))
 |mp ks xs b es clock g h1 h2 h3 h4 h ih=>
  exact .mp ks xs b es clock g (hw _ _ _ h1) h2 h3 h4 (fun j x hx=>ih j x hx (fun d hd=>hb d (.mp (gM hx) hd)) (fun d e W n hd=>hr d e W n (.mp (gM hx) hd)))
 |agg cs vs hl h ho ih=>
  exact .agg cs vs hl (fun j c v h1 h2=>ih j c v h1 h2 (fun d hd=>hb d (.agg (gM h1) hd)) (fun d e W n hd=>hr d e W n (.agg (gM h1) hd))) ho
 |tuple cs vs hl h ih=>
  exact .tuple cs vs hl (fun j c v h1 h2=>ih j c v h1 h2 (fun d hd=>hb d (.tuple (gM h1) hd)) (fun d e W n hd=>hr d e W n (.tuple (gM h1) hd)))
structure Low(X:Nat→Nat→Prop)(w0 w:World):Prop where
 os:w.os=w0.os
 tape:w.tape=w0.tape
 output:w.output=w0.output
 size:w0.heap.size≤w.heap.size
 block:∀k,k<w0.heap.size→(∀d,¬X d k)→w.heap[k]?=w0.heap[k]?
structure BoxAt(w:World)(E:Env)(r:Rows)(b:Nat)(cs:List TV):Prop where
 lt:b<w.heap.size
 obj:∃c e z,w.heap[b]?=some (.cells c e z)
 fz:∀o,w.frozen? ⟨b,o,none⟩=false
 cell:∀(j:Nat) c,cs[j]?=some c→∃v,w.cell? ⟨b,j,none⟩=some v∧one v∧RelT w E r c v
 out:∀o,¬E.K b o
structure RowAt(w:World)(E:Env)(b cap e W n:Nat):Prop where
 cells:∃cur,w.heap[b]?=some (.cells cur e (0,0))∧cur.size=cap*W
 le:n≤cap
 max:cap≤maxLen
 out:∀o,E.K b o→o<n*W
structure Base where
 w0:World
 K0:Nat→Nat→Prop
 X:Nat→Nat→Prop
 N:Nat
 E0:Env
 r0:Rows
 m:Nat
 ds:List Deferred
def Base.old(B:Base)(d:Nat):Prop:=1000≤d∧d<1000+B.m
structure Pas(B:Base)(r:Rows)(E:Env):Prop where
 β:∀d,B.old d→E.β d=B.E0.β d
 γ:∀d,B.old d→B.r0 d=none→E.γ d=B.E0.γ d
 row:∀d e W n,B.old d→r d=some (e,W,n)→∃n0,B.r0 d=some (e,W,n0)∧n0≤n∧(n0=n→E.γ d=B.E0.γ d)
structure MSim(B:Base)(b:Nat→Option (List TV))(r:Rows)(w:World)(E:Env):Prop where
 box:∀d cs,b d=some cs→BoxAt w E r (E.β d) cs∧(B.w0.heap.size≤E.β d∨B.X d (E.β d))
 row:∀d e W n,r d=some (e,W,n)→(E.γ d=none∧n=0)∨∃k cap,E.γ d=some (k,cap)∧(B.w0.heap.size≤k∨B.X d k)∧RowAt w E k cap e W n
 bb:∀d d' cs cs',b d=some cs→b d'=some cs'→E.β d=E.β d'→d=d'
 br:∀d d' cs q k cap,b d=some cs→r d'=some q→E.γ d'=some (k,cap)→E.β d≠k
 rr:∀d d' q q' k cap cap',r d=some q→r d'=some q'→E.γ d=some (k,cap)→E.γ d'=some (k,cap')→d=d'
 lt:∀k o,E.K k o→k<w.heap.size
 low:Low B.X B.w0 w
 keep:∀k o u,B.K0 k o→B.w0.cell? ⟨k,o,none⟩=some u→E.K k o∧w.cell? ⟨k,o,none⟩=some u
 knew:∀k o,E.K k o→B.K0 k o∨B.w0.heap.size≤k∨∃d,B.X d k
 pas:Pas B r E
structure Sim(B:Base)(s:FS)(a:Act)(w:World)(E:Env):Prop where
 defers:a.defers=B.ds
 size:a.tmps.size=B.N
 tmp:∀k x,s.t k=some x→k<B.N∧RelT w E s.r x (a.tmps.getD k undef)
 mem:MSim B s.b s.r w E
 itr:∀d z p,s.i d=some (z,p)→w.heap[E.ι d]?=some (.stringIter z p)∧B.w0.heap.size≤E.ι d
 ii:∀d d' q q',s.i d=some q→s.i d'=some q'→E.ι d=E.ι d'→d=d'
theorem z72{w:World}{a:Addr}{v:Value}(h:w.cell? a=some v):a.block<w.heap.size:=by
 grind [Nat.lt_or_ge,World.cell?,Array.getElem?_eq_none]
def setF{α:Type}(f:Nat→Option α)(k:Nat)(x:α):Nat→Option α:=fun j=>if j=k then some x else f j
theorem setF_self{α:Type}(f:Nat→Option α)(k:Nat)(x:α):setF f k x k=some x:=by simp[setF]
theorem setF_ne{α:Type}(f:Nat→Option α){k j:Nat}(x:α)(h:j≠k):setF f k x j=f j:=by simp[setF,h]
theorem z31{α:Type}{f:Nat→Option α}{k j:Nat}{x y:α}(h:setF f k x j=some y):(j=k∧y=x)∨(j≠k∧f j=some y):=by
 grind [setF_self,setF_ne]
def FS.setT(s:FS)(k:Nat)(x:TV):FS:={ s with t:=setF s.t k x }
def FS.setB(s:FS)(k:Nat)(x:List TV):FS:={ s with b:=setF s.b k x }
def FS.setR(s:FS)(k:Nat)(x:Nat×Nat×Nat):FS:={ s with r:=setF s.r k x }
def FS.setI(s:FS)(k:Nat)(x:ByteArray×Nat):FS:={ s with i:=setF s.i k x }
def FS.put(s:FS)(dst:Option Nat)(x:TV):FS:=match dst with|some k=>s.setT k x|none=>s
theorem Sim.setT{B:Base}{s:FS}{a:Act}{w:World}{E:Env}(h:Sim B s a w E){k:Nat}(hk:k<B.N){x:TV}{v:Value}(hx:RelT w E s.r x v):Sim B (s.setT k x) (a.put (some k) v) w E:=by
 refine⟨h.defers,by simp[Act.put,h.size],fun j y hy=> ?_,h.mem,h.itr,h.ii⟩;rcases z31 hy with⟨rfl,rfl⟩|⟨hj,hy⟩
 ·refine⟨hk,?_⟩;have:(a.put (some j) v).tmps.getD j undef=v:=by simp[Act.put,Array.getD,h.size,hk]
  rw[this];exact hx
 ·obtain⟨h1,h2⟩:=h.tmp j y hy;refine⟨h1,?_⟩;have:(a.put (some k) v).tmps.getD j undef=a.tmps.getD j undef:=by
   simp only[Act.put,Array.getD_eq_getD_getElem?]
   grind
  rw[this];exact h2
theorem Sim.put{B:Base}{s:FS}{a:Act}{w:World}{E:Env}(h:Sim B s a w E){dst:Option Nat}(hk:∀k,dst=some k→k<B.N){x:TV}{v:Value}(hx:RelT w E s.r x v):Sim B (s.put dst x) (a.put dst v) w E:=by
 cases dst with
 |none=>exact h
 |some k=>exact h.setT (hk k rfl) hx
theorem Sim.less{B:Base}{s s':FS}{a:Act}{w:World}{E:Env}(h:Sim B s a w E)(ht:∀k x,s'.t k=some x→s.t k=some x∨x=.unk∧∃y,s.t k=some y)
  (hb:∀d cs',s'.b d=some cs'→∃cs,s.b d=some cs∧∀(j:Nat) c,cs'[j]?=some c→(cs[j]?=some c∨c=.unk∧∃y,cs[j]?=some y)) (hr:∀d q,s'.r d=some q→s.r d=some q) (hi:∀d q,s'.i d=some q→s.i d=some q):Sim B s' a w E:=by
 have hm:∀{x:TV} {v:Value},RelT w E s.r x v→RelT w E s'.r x v:=fun hx=>hx.mono (fun _ _ _ h1 h2=>⟨h1,h2⟩) (fun _ _=>⟨rfl,rfl⟩) (fun d e W n _ h1=> .inl ⟨hr d _ h1,rfl⟩) (.refl _);refine⟨h.defers,h.size,fun k x hx=> ?_,⟨fun d cs' hd=> ?_,fun d e W n hd=>h.mem.row d e W n (hr d _ hd),fun d d' cs cs' h1 h2=> ?_,fun d d' cs q k cap h1 h2=> ?_,fun d d' q q' k cap cap' h1 h2=>h.mem.rr d d' q q' k cap cap' (hr d _ h1) (hr d' _ h2),h.mem.lt,h.mem.low,h.mem.keep,h.mem.knew,⟨h.mem.pas.β,h.mem.pas.γ,fun d e W n ho hd=>h.mem.pas.row d e W n ho (hr d _ hd)⟩⟩,
  fun d z p hd=>h.itr d z p (hi d _ hd),fun d d' q q' h1 h2=>h.ii d d' q q' (hi d _ h1) (hi d' _ h2)⟩
 ·rcases ht k x hx with h1|⟨rfl,y,h1⟩
  ·exact⟨(h.tmp k x h1).1,hm (h.tmp k x h1).2⟩
  ·exact⟨(h.tmp k y h1).1,.unk _⟩
 ·obtain⟨cs,h1,h2⟩:=hb d cs' hd;obtain⟨h3,h4⟩:=h.mem.box d cs h1;refine⟨⟨h3.lt,h3.obj,h3.fz,fun j c hc=> ?_,h3.out⟩,h4⟩;rcases h2 j c hc with h5|⟨rfl,y,h5⟩
  ·obtain⟨v,c1,c2,c3⟩:=h3.cell j c h5
   grind
  ·obtain⟨v,c1,c2,c3⟩:=h3.cell j y h5;exact⟨v,c1,c2,.unk v⟩
 ·obtain⟨c1,e1,_⟩:=hb d cs h1;obtain⟨c2,e2,_⟩:=hb d' cs' h2;exact h.mem.bb d d' c1 c2 e1 e2
 ·obtain⟨c1,e1,_⟩:=hb d cs h1;exact h.mem.br d d' c1 q k cap e1 (hr d' _ h2)
end Go.Sh
end

section
namespace Go.Sh
open Go Go.RowKit
section
variable{B:Base}{s:FS}{a:Act}{w w':World}{E:Env}
theorem Sim.step{s':FS}{E':Env}(h:Sim B s a w E)(ht:s'.t=s.t)(hm:MSim B s'.b s'.r w' E')
  (hk:∀b o u,E.K b o→w.cell? ⟨b,o,none⟩=some u→E'.K b o∧w'.cell? ⟨b,o,none⟩=some u)
  (hβ:∀d,s.ment d→E'.β d=E.β d∧E'.ι d=E.ι d)
  (hr:∀d e W n,s.ment d→s'.r d=some (e,W,n)→(s.r d=some (e,W,n)∧E'.γ d=E.γ d)∨(∃m,s.r d=some (e,W,m)∧m<n))
  (hi:∀d z p,s'.i d=some (z,p)→w'.heap[E'.ι d]?=some (.stringIter z p)∧B.w0.heap.size≤E'.ι d)
  (hii:∀d d' q q',s'.i d=some q→s'.i d'=some q'→E'.ι d=E'.ι d'→d=d') (hw:Maps w w'):Sim B s' a w' E':=by
 refine⟨h.defers,h.size,fun k x hx=> ?_,hm,hi,hii⟩;rw[ht]at hx;obtain⟨h1,h2⟩:=h.tmp k x hx;exact⟨h1,h2.mono hk (fun d hd=>hβ d (.inl ⟨k,x,hx,hd⟩)) (fun d e W n hd=>hr d e W n (.inl ⟨k,x,hx,hd⟩)) hw⟩
theorem MSim.ext(h:MSim B s.b s.r w E)(hb:Below w.heap.size w w')(E':Env)(hK:∀b o,E.K b o→E'.K b o)(hK':∀b o,E'.K b o→E.K b o∨(w.heap.size≤b∧b<w'.heap.size))
  (hβ:∀d,(s.ment d∨∃cs,s.b d=some cs)→E'.β d=E.β d∧E'.ι d=E.ι d) (hγ:∀d q,s.r d=some q→E'.γ d=E.γ d) (hold:∀d,B.old d→E'.β d=E.β d∧E'.γ d=E.γ d):MSim B s.b s.r w' E':=by
 have hk:∀b o u,E.K b o→w.cell? ⟨b,o,none⟩=some u→E'.K b o∧w'.cell? ⟨b,o,none⟩=some u:=fun b o u h1 h2=>
  ⟨hK b o h1,(hb.cell (p:=⟨b,o,none⟩) (z72 h2)).trans h2⟩
 have hr:∀d e W n,s.r d=some (e,W,n)→(s.r d=some (e,W,n)∧E'.γ d=E.γ d)∨(∃m,s.r d=some (e,W,m)∧m<n):=fun d e W n hd=> .inl ⟨hd,hγ d _ hd⟩;have hlow:=h.low.size;refine⟨fun d cs hd=> ?_,fun d e W n hd=> ?_,fun d d' cs cs' h1 h2 h3=> ?_,fun d d' cs q b cap h1 h2 h3=> ?_,fun d d' q q' b cap cap' h1 h2 h3 h4=> ?_,fun b o hbo=> ?_,?_,fun b o u h1 h2=> ?_,fun b o h1=> ?_,⟨fun d ho=>(hold d ho).1.trans (h.pas.β d ho),fun d ho h0=>(hold d ho).2.trans (h.pas.γ d ho h0),fun d e W n ho hd=> ?_⟩⟩
 ·obtain⟨h1,h2⟩:=h.box d cs hd;have e:=(hβ d (.inr ⟨cs,hd⟩)).1;rw[e];refine⟨⟨Nat.lt_of_lt_of_le h1.lt hb.size,(by rw[hb.block _ h1.lt];exact h1.obj),fun o=>(hb.frozen (p:=⟨E.β d,o,none⟩) h1.lt).trans (h1.fz o),fun j c hc=> ?_,fun o hk'=> ?_⟩,h2⟩
  ·obtain⟨v,c1,c2,c3⟩:=h1.cell j c hc;refine⟨v,(hb.cell (p:=⟨E.β d,j,none⟩) h1.lt).trans c1,c2,c3.mono hk (fun d' hd'=>hβ d' (.inl (.inr ⟨d,cs,c,hd,gM hc,hd'⟩))) (fun d e W n _=>hr d e W n) (.below hb)⟩
  ·rcases hK' _ _ hk' with h3|⟨h3,_⟩
   ·exact h1.out o h3
   ·have:=h1.lt;omega
 ·rw[hγ d _ hd];rcases h.row d e W n hd with h1|⟨b,cap,h1,h2,h3⟩
  ·grind
  ·obtain⟨cur,hc,hs⟩:=h3.cells;have hlt:b<w.heap.size:=(gA hc).1;refine .inr ⟨b,cap,h1,h2,⟨cur,(hb.block b hlt).trans hc,hs⟩,h3.le,h3.max,fun o ho=> ?_⟩;rcases hK' _ _ ho with h4|⟨h4,_⟩
   ·exact h3.out o h4
   ·omega
 ·rw[(hβ d (.inr ⟨cs,h1⟩)).1,(hβ d' (.inr ⟨cs',h2⟩)).1]at h3;exact h.bb d d' cs cs' h1 h2 h3
 ·rw[(hβ d (.inr ⟨cs,h1⟩)).1];rw[hγ d' q h2]at h3;exact h.br d d' cs q b cap h1 h2 h3
 ·rw[hγ d q h1]at h3;rw[hγ d' q' h2]at h4;exact h.rr d d' q q' b cap cap' h1 h2 h3 h4
 ·rcases hK' b o hbo with h1|⟨_,h1⟩
  ·exact Nat.lt_of_lt_of_le (h.lt b o h1) hb.size
  ·exact h1
 ·exact⟨hb.os.trans h.low.os,hb.tape.trans h.low.tape,hb.output.trans h.low.output,Nat.le_trans h.low.size hb.size,fun k hk' hx=>(hb.block k (Nat.lt_of_lt_of_le hk' h.low.size)).trans (h.low.block k hk' hx)⟩
 ·obtain⟨h3,h4⟩:=h.keep b o u h1 h2
  grind
 ·rcases hK' b o h1 with h2|⟨h2,_⟩
  ·exact h.knew b o h2
  ·omega
 ·rw[(hold d ho).2];exact h.pas.row d e W n ho hd
theorem Sim.ext(h:Sim B s a w E)(hb:Below w.heap.size w w')(E':Env)(hK:∀b o,E.K b o→E'.K b o)(hK':∀b o,E'.K b o→E.K b o∨(w.heap.size≤b∧b<w'.heap.size))
  (hβ:∀d,(s.ment d∨(∃cs,s.b d=some cs)∨∃q,s.i d=some q)→E'.β d=E.β d∧E'.ι d=E.ι d) (hγ:∀d q,s.r d=some q→E'.γ d=E.γ d) (hold:∀d,B.old d→E'.β d=E.β d∧E'.γ d=E.γ d):Sim B s a w' E':=by
 refine h.step rfl (h.mem.ext hb E' hK hK' (fun d hd=>hβ d (hd.imp id .inl)) hγ hold) (fun b o u h1 h2=>⟨hK b o h1,(hb.cell (p:=⟨b,o,none⟩) (z72 h2)).trans h2⟩) (fun d hd=>hβ d (.inl hd)) (fun d e W n _ hd=> .inl ⟨hd,hγ d _ hd⟩)
  (fun d z p hd=> ?_) (fun d d' q q' h1 h2 h3=> ?_) (.below hb)
 ·rw[(hβ d (.inr (.inr ⟨_,hd⟩))).2];obtain⟨h1,h2⟩:=h.itr d z p hd;exact⟨(hb.block _ (gA h1).1).trans h1,h2⟩
 ·rw[(hβ d (.inr (.inr ⟨_,h1⟩))).2,(hβ d' (.inr (.inr ⟨_,h2⟩))).2]at h3;exact h.ii d d' q q' h1 h2 h3
theorem Sim.same(h:Sim B s a w E)(hb:Below w.heap.size w w'):Sim B s a w' E:=h.ext hb E (fun _ _ h=>h) (fun _ _ h=> .inl h) (fun _ _=>⟨rfl,rfl⟩) (fun _ _ _=>rfl) (fun _ _=>⟨rfl,rfl⟩)
theorem Sim.newBp(h:Sim B s a w E){d:Nat}(hno:¬B.old d)(hf:Fresh s d)(ty:TypeId)(cs:List TV)(vs:List Value)(hl:cs.length≤vs.length)(hv:∀(j:Nat) c v,cs[j]?=some c→vs[j]?=some v→RelT w E s.r c v)(ho:∀(j:Nat) c v,cs[j]?=some c→vs[j]?=some v→one v)
  (hm:∀c∈cs,¬Ment d c):∃E',E'.β d=w.heap.size∧Sim B (s.setB d cs) a (w.alloc (.cells vs.toArray ty)) E':=by
 obtain⟨hf1,hf2,hf3,hf4⟩:=hf;have hb:Below w.heap.size w (w.alloc (.cells vs.toArray ty)):=(Below.refl _ _).alloc (Nat.le_refl _) _;let E':Env:={ E with β:=fun j=>if j=d then w.heap.size else E.β j }
 have hβ:∀d',d'≠d→E'.β d'=E.β d':=fun d' hd'=>by simp[E',hd']
 have hd:E'.β d=w.heap.size:=by simp[E']
 refine⟨E',hd,?_⟩;have h':Sim B s a (w.alloc (.cells vs.toArray ty)) E':=by
  refine h.ext hb E' (fun _ _ h=>h) (fun _ _ h=> .inl h) (fun d' hd'=>⟨hβ d' ?_,rfl⟩) (fun _ _ _=>rfl) (fun d' ho=>⟨hβ d' (fun e=>hno (e▸ho)),rfl⟩)
  grind
 have hlt:∀b o,E.K b o→b<w.heap.size:=h.mem.lt;have hm':=h'.mem;have key:∀e c,s.b e=some c→E'.β e≠w.heap.size:=fun e c he=>by
  have hne:e≠d:=by grind
  rw[hβ e hne];have:=(h.mem.box e c he).1.lt;omega
 refine⟨h'.defers,h'.size,h'.tmp,⟨fun e cs' he=> ?_,hm'.row,fun e e' c c' h1 h2 h3=> ?_,fun e e' c q b cap h1 h2 h3=> ?_,hm'.rr,hm'.lt,hm'.low,hm'.keep,hm'.knew,hm'.pas⟩,h'.itr,h'.ii⟩
 ·rcases z31 he with⟨rfl,rfl⟩|⟨hed,he⟩
  ·rw[hd];refine⟨⟨by simp,⟨_,_,_,heap_alloc_new _ _⟩,fun o=>by unfold World.frozen?;rw[heap_alloc_new];simp,fun j c hc=> ?_,fun o hk=> ?_⟩,.inl h.mem.low.size⟩
   ·have hj:j<vs.length:=Nat.lt_of_lt_of_le (gJ hc).1 hl;refine⟨vs[j],by simp[hj],ho j c _ hc (gE hj),?_⟩;refine(hv j c vs[j] hc (gE hj)).mono (fun b o u h1 h2=>⟨h1,(hb.cell (p:=⟨b,o,none⟩) (z72 h2)).trans h2⟩) (fun d' hd'=>⟨hβ d' ?_,rfl⟩) (fun d e W n _ hd=> .inl ⟨hd,rfl⟩) (.below hb)
    grind
   ·grind
  ·exact hm'.box e cs' he
 ·rcases z31 h1 with⟨x1,_⟩|⟨_,y1⟩<;>rcases z31 h2 with⟨x2,_⟩|⟨_,y2⟩
  ·omega
  ·grind
  ·grind
  ·exact hm'.bb e e' c c' y1 y2 h3
 ·rcases z31 h1 with⟨rfl,_⟩|⟨_,h1⟩
  ·rw[hd];intro hbb;have h3':E.γ e'=some (b,cap):=h3;rcases h.mem.row e' q.1 q.2.1 q.2.2 h2 with⟨h5,_⟩|⟨b',cap',h5,h6,h7⟩
   ·grind
   ·rw[h5]at h3';cases h3';obtain⟨cur,hc,_⟩:=h7.cells
    grind
  ·exact hm'.br e e' c q b cap h1 h2 h3
theorem Sim.newB(h:Sim B s a w E){d:Nat}(hno:¬B.old d)(hf:Fresh s d)(ty:TypeId)(cs:List TV)(vs:List Value)(hl:cs.length=vs.length)(hv:∀(j:Nat) c v,cs[j]?=some c→vs[j]?=some v→RelT w E s.r c v)(ho:∀v∈vs,one v)
  (hm:∀c∈cs,¬Ment d c):∃E',E'.β d=w.heap.size∧Sim B (s.setB d cs) a (w.alloc (.cells vs.toArray ty)) E':=h.newBp hno hf ty cs vs (Nat.le_of_eq hl) hv (fun _ _ v _ h2=>ho v (gM h2)) hm
theorem z160(b:Nat):∀(vs:List Value) (o:Nat) (w:World),(w.setCells b o vs).heap.size=w.heap.size
 |[],_,_=>rfl
 |v::r,o,w=>by rw[World.setCells,z160 b r];simp
theorem setCells_os(b:Nat):∀(vs:List Value) (o:Nat) (w:World),(w.setCells b o vs).os=w.os∧(w.setCells b o vs).tape=w.tape∧(w.setCells b o vs).output=w.output
 |[],_,_=>⟨rfl,rfl,rfl⟩
 |v::r,o,w=>by rw[World.setCells];exact setCells_os b r (o+1) (w.setCell ⟨b,o,none⟩ v)
theorem z62(b:Nat):∀(vs:List Value) (o:Nat) (w:World) (k:Nat),k≠b→(w.setCells b o vs).heap[k]?=w.heap[k]?
 |[],_,_,_,_=>rfl
 |v::r,o,w,k,h=>by
  rw[World.setCells,z62 b r (o+1) _ k h];exact Below.heap_setCell _ _ _ _ h
theorem setCells_obj(b:Nat):∀(vs:List Value) (o:Nat) (w:World),(∃c e z,w.heap[b]?=some (.cells c e z))→∃c e z,(w.setCells b o vs).heap[b]?=some (.cells c e z)
 |[],_,_,h=>h
 |v::r,o,w,⟨c,e,z,h⟩=>by
  rw[World.setCells];exact setCells_obj b r (o+1) _ ⟨_,e,z,by simp[World.setCell,Array.getElem?_modify,h];rfl⟩
def splice{α:Type}(cs:List α)(off:Nat)(xs:List α):List α:=cs.take off++xs++cs.drop (off+xs.length)
theorem z161{α:Type}{cs:List α}{off:Nat}{xs:List α}(h:off+xs.length≤cs.length):(splice cs off xs).length=cs.length:=by
 grind [splice]
theorem splice_in{α:Type}{cs:List α}{off:Nat}{xs:List α}(h:off+xs.length≤cs.length){j:Nat}(hj:off≤j)(hj':j<off+xs.length):(splice cs off xs)[j]?=xs[j-off]?:=by
 grind [splice,List.append_assoc,List.getElem?_append_right,List.getElem?_append_left]
theorem z165{α:Type}{cs:List α}{off:Nat}{xs:List α}(h:off+xs.length≤cs.length){j:Nat}(hj:j<off∨off+xs.length≤j):(splice cs off xs)[j]?=cs[j]?:=by
 grind [splice,List.append_assoc,List.getElem?_append_right]
theorem mem_splice{α:Type}{cs:List α}{off:Nat}{xs:List α}{c:α}(h:c∈splice cs off xs):c∈cs∨c∈xs:=by
 simp only[splice,List.mem_append]at h
 grind
theorem Sim.wr(h:Sim B s a w E){d off:Nat}{cs:List TV}(hd:s.b d=some cs)(xs:List TV)(vs:List Value)(hl:xs.length=vs.length)(hle:off+xs.length≤cs.length)
  (hv:∀(j:Nat) c v,xs[j]?=some c→vs[j]?=some v→RelT w E s.r c v) (ho:∀v∈vs,one v):Sim B (s.setB d (splice cs off xs)) a (w.setCells (E.β d) off vs) E:=by
 obtain⟨hbox,hnew⟩:=h.mem.box d cs hd;have hlen:vs.length=xs.length:=hl.symm;have hcell:∀b o,b≠E.β d→(w.setCells (E.β d) off vs).cell? ⟨b,o,none⟩=w.cell? ⟨b,o,none⟩:=fun b o hne=>World.cell?_setCells_out _ _ _ _ _ (fun h1 _=>absurd h1 hne);have hk:∀b o u,E.K b o→w.cell? ⟨b,o,none⟩=some u→E.K b o∧(w.setCells (E.β d) off vs).cell? ⟨b,o,none⟩=some u:=fun b o u h1 h2=>
  ⟨h1,(hcell b o (by rintro rfl;exact hbox.out o h1)).trans h2⟩
 have hmaps:Maps w (w.setCells (E.β d) off vs):=.but (E.β d) (by obtain⟨c,e,z,ho⟩:=hbox.obj;rw[ho];intro _ _ h0;cases h0) (fun b hb=>z62 _ _ _ _ _ hb);have hm:∀{x:TV} {v:Value},RelT w E s.r x v→RelT (w.setCells (E.β d) off vs) E s.r x v:=fun hx=>hx.mono hk (fun _ _=>⟨rfl,rfl⟩) (fun _ _ _ _ _ hd=> .inl ⟨hd,rfl⟩) hmaps;have hsome:∀j,j<vs.length→(w.cell? ⟨E.β d,off+j,none⟩).isSome=true:=fun j hj=>by
  obtain⟨c,hc⟩:∃c,cs[off+j]?=some c:=⟨_,gE (by omega)⟩
  obtain⟨v,h1,_⟩:=hbox.cell (off+j) c hc
  grind
 have hsz:=z160 (E.β d) vs off w;have hb1:∀{e c},(s.setB d (splice cs off xs)).b e=some c→∃c,s.b e=some c:=fun {e c} h1=>by
  rcases z31 h1 with⟨rfl,_⟩|⟨_,h1⟩<;>grind
 refine h.step rfl ⟨fun e cs' he=> ?_,fun e ty W n he=> ?_,fun e e' c c' h1 h2 h3=> ?_,fun e e' c q b cap h1 h2 h3=> ?_,h.mem.rr,fun b o hbo=>by rw[hsz];exact h.mem.lt b o hbo,?_,fun b o u h1 h2=> ?_,h.mem.knew,h.mem.pas⟩ hk (fun _ _=>⟨rfl,rfl⟩) (fun _ _ _ _ _ hd=> .inl ⟨hd,rfl⟩) (fun e z p he=> ?_) h.ii hmaps
 ·rcases z31 he with⟨rfl,rfl⟩|⟨hed,he⟩
  ·refine⟨⟨by rw[hsz];exact hbox.lt,setCells_obj _ _ _ _ hbox.obj,fun o=>by rw[World.frozen?_setCells];exact hbox.fz o,fun j c hc=> ?_,hbox.out⟩,hnew⟩;by_cases hj:off≤j∧j<off+xs.length
   ·rw[splice_in hle hj.1 hj.2]at hc;have hjl:j-off<vs.length:=by omega
    have hcell':=World.cell?_setCells_in (E.β e) vs off w hsome (j-off) hjl;rw[show off+(j-off)=j by omega]at hcell';exact⟨_,hcell',ho _ (List.getElem_mem hjl),hm (hv _ _ _ hc (gE hjl))⟩
   ·rw[z165 hle (by omega)]at hc;obtain⟨v,c1,c2,c3⟩:=hbox.cell j c hc;exact⟨v,(World.cell?_setCells_out _ _ _ _ _ (fun _ _=>by show j<off∨off+vs.length≤j;omega)).trans c1,c2,hm c3⟩
  ·obtain⟨h1,h2⟩:=h.mem.box e cs' he;have hne:E.β e≠E.β d:=fun hh=>hed (h.mem.bb e d cs' cs he hd hh);refine⟨⟨by rw[hsz];exact h1.lt,(by rw[z62 _ _ _ _ _ hne];exact h1.obj),fun o=>by rw[World.frozen?_setCells];exact h1.fz o,fun j c hc=> ?_,h1.out⟩,h2⟩;obtain⟨v,c1,c2,c3⟩:=h1.cell j c hc;exact⟨v,(hcell _ _ hne).trans c1,c2,hm c3⟩
 ·rcases h.mem.row e ty W n he with h1|⟨b,cap,h1,h2,h3⟩
  ·grind
  ·obtain⟨cur,hc,hs⟩:=h3.cells;exact .inr ⟨b,cap,h1,h2,⟨cur,(z62 _ _ _ _ _ (h.mem.br d e cs _ b cap hd he h1).symm).trans hc,hs⟩,h3.le,h3.max,h3.out⟩
 ·obtain⟨_,h1⟩:=hb1 h1;obtain⟨_,h2⟩:=hb1 h2;exact h.mem.bb e e' _ _ h1 h2 h3
 ·obtain⟨_,h1⟩:=hb1 h1;exact h.mem.br e e' _ q b cap h1 h2 h3
 ·obtain⟨o1,o2,o3⟩:=setCells_os (E.β d) vs off w;refine⟨o1.trans h.mem.low.os,o2.trans h.mem.low.tape,o3.trans h.mem.low.output,by rw[hsz];exact h.mem.low.size,fun k hk' hx=> ?_⟩;refine(z62 _ _ _ _ _ ?_).trans (h.mem.low.block k hk' hx)
  grind
 ·obtain⟨h3,h4⟩:=h.mem.keep b o u h1 h2
  grind
 ·obtain⟨h1,h2⟩:=h.itr e z p he;by_cases hv0:vs=[]
  ·subst hv0;exact⟨h1,h2⟩
  ·grind [z62,List.length_pos_iff,List.getElem?_eq_getElem,World.cell?]
theorem Sim.newI(h:Sim B s a w E){d:Nat}(hf:Fresh s d)(z:ByteArray):∃E',E'.ι d=w.heap.size∧Sim B (s.setI d (z,0)) a (w.alloc (.stringIter z 0)) E':=by
 obtain⟨hf1,hf2,hf3,hf4⟩:=hf;have hb:Below w.heap.size w (w.alloc (.stringIter z 0)):=(Below.refl _ _).alloc (Nat.le_refl _) _;let E':Env:={ E with ι:=fun j=>if j=d then w.heap.size else E.ι j }
 have hι:∀d',d'≠d→E'.ι d'=E.ι d':=fun d' hd'=>by simp[E',hd']
 have hd:E'.ι d=w.heap.size:=by simp[E']
 refine⟨E',hd,?_⟩;have h':Sim B s a (w.alloc (.stringIter z 0)) E':=by
  refine h.ext hb E' (fun _ _ h=>h) (fun _ _ h=> .inl h) (fun d' hd'=>⟨rfl,hι d' ?_⟩) (fun _ _ _=>rfl) (fun _ _=>⟨rfl,rfl⟩)
  grind
 refine⟨h'.defers,h'.size,h'.tmp,h'.mem,fun e y p he=> ?_,fun e e' q q' h1 h2 h3=> ?_⟩
 ·rcases z31 he with⟨x1,x2⟩|⟨_,y1⟩
  ·subst x1;cases x2;rw[hd];exact⟨heap_alloc_new _ _,h.mem.low.size⟩
  ·exact h'.itr e y p y1
 ·have key:∀e q,s.i e=some q→E'.ι e≠w.heap.size:=fun e q he=>by
   have hne:e≠d:=by grind
   rw[hι e hne];have:=(gA (h.itr e q.1 q.2 he).1).1;omega
  rcases z31 h1 with⟨x1,_⟩|⟨_,y1⟩<;>rcases z31 h2 with⟨x2,_⟩|⟨_,y2⟩
  ·omega
  ·grind
  ·grind
  ·exact h'.ii e e' q q' y1 y2 h3
theorem Sim.goI(h:Sim B s a w E){d p p':Nat}{z:ByteArray}(hd:s.i d=some (z,p)):Sim B (s.setI d (z,p')) a { w with heap:=w.heap.setIfInBounds (E.ι d) (.stringIter z p') } E:=by
 obtain⟨h0,h0'⟩:=h.itr d z p hd;have hlt:=(gA h0).1;have hblk:∀k,k≠E.ι d→({ w with heap:=w.heap.setIfInBounds (E.ι d) (.stringIter z p') }:World).heap[k]?=w.heap[k]?:=fun k hk=>by
  grind
 have hnew:({ w with heap:=w.heap.setIfInBounds (E.ι d) (.stringIter z p') }:World).heap[E.ι d]?=some (.stringIter z p'):=by simp[hlt]
 have hcell:∀b o,({ w with heap:=w.heap.setIfInBounds (E.ι d) (.stringIter z p') }:World).cell? ⟨b,o,none⟩=w.cell? ⟨b,o,none⟩:=fun b o=>by
  by_cases hb:b=E.ι d
  ·subst hb;simp only[World.cell?,hnew,h0]
  ·grind [World.cell?_of_block]
 have hfz:∀b o,({ w with heap:=w.heap.setIfInBounds (E.ι d) (.stringIter z p') }:World).frozen? ⟨b,o,none⟩=w.frozen? ⟨b,o,none⟩:=fun b o=>by
  by_cases hb:b=E.ι d
  ·subst hb;simp only[World.frozen?,hnew,h0]
  ·grind [World.frozen?_of_block]
 have hk:∀b o u,E.K b o→w.cell? ⟨b,o,none⟩=some u→E.K b o∧({ w with heap:=w.heap.setIfInBounds (E.ι d) (.stringIter z p') }:World).cell? ⟨b,o,none⟩=some u:=fun b o u h1 h2=>⟨h1,(hcell b o).trans h2⟩
 have hmaps:Maps w ({ w with heap:=w.heap.setIfInBounds (E.ι d) (.stringIter z p') }:World):=.but (E.ι d) (by rw[h0];intro _ _ h9;cases h9) hblk;refine h.step rfl ⟨fun e cs he=> ?_,fun e ty W n he=> ?_,h.mem.bb,h.mem.br,h.mem.rr,fun b o hbo=>by simpa using h.mem.lt b o hbo,?_,fun b o u h1 h2=> ?_,h.mem.knew,h.mem.pas⟩ hk (fun _ _=>⟨rfl,rfl⟩) (fun _ _ _ _ _ hd=> .inl ⟨hd,rfl⟩) (fun e y q he=> ?_) (fun e e' q q' h1 h2 h3=> ?_) hmaps
 ·obtain⟨h1,h2⟩:=h.mem.box e cs he;refine⟨⟨by simpa using h1.lt,(by obtain⟨c,e',z',hc⟩:=h1.obj;exact⟨c,e',z',(hblk _ (fun hh=>by rw[hh,h0]at hc;cases hc)).trans hc⟩),fun o=>(hfz _ _).trans (h1.fz o),fun j c hc=> ?_,h1.out⟩,h2⟩;obtain⟨v,c1,c2,c3⟩:=h1.cell j c hc;exact⟨v,(hcell _ _).trans c1,c2,c3.mono hk (fun _ _=>⟨rfl,rfl⟩) (fun _ _ _ _ _ hd=> .inl ⟨hd,rfl⟩) hmaps⟩
 ·rcases h.mem.row e ty W n he with h1|⟨b,cap,h1,h2,h3⟩
  ·grind
  ·obtain⟨cur,hc,hs⟩:=h3.cells;have hne:b≠E.ι d:=by grind
   exact .inr ⟨b,cap,h1,h2,⟨cur,(hblk b hne).trans hc,hs⟩,h3.le,h3.max,h3.out⟩
 ·refine⟨h.mem.low.os,h.mem.low.tape,h.mem.low.output,by simpa using h.mem.low.size,fun k hk' hx=> ?_⟩;exact(hblk k (by omega)).trans (h.mem.low.block k hk' hx)
 ·obtain⟨h3,h4⟩:=h.mem.keep b o u h1 h2
  grind
 ·rcases z31 he with⟨x1,x2⟩|⟨hne,y1⟩
  ·grind
  ·obtain⟨h1,h2⟩:=h.itr e y q y1;exact⟨(hblk _ (fun hh=>hne (h.ii e d _ _ y1 hd hh))).trans h1,h2⟩
 ·have hs1:∀{e q},(s.setI d (z,p')).i e=some q→∃q,s.i e=some q:=fun {e q} h1=>by
   rcases z31 h1 with⟨x1,_⟩|⟨_,y1⟩<;>grind
  obtain⟨_,h1⟩:=hs1 h1;obtain⟨_,h2⟩:=hs1 h2;exact h.ii e e' _ _ h1 h2 h3
end
section
variable{Bs:Base}{s:FS}{a:Act}{w w':World}{E E':Env}
theorem Sim.rowUp(h:Sim Bs s a w E){d e W n n':Nat}(hr:s.r d=some (e,W,n))(hn:n<n')
  (hk:∀b o u,E.K b o→w.cell? ⟨b,o,none⟩=some u→E'.K b o∧w'.cell? ⟨b,o,none⟩=some u) (hβ:E'.β=E.β) (hι:E'.ι=E.ι) (hγ:∀d',d'≠d→E'.γ d'=E.γ d')
  (hblk:∀k,k<w.heap.size→(∀cap,E.γ d≠some (k,cap))→w'.heap[k]?=w.heap[k]?)
  {b cap:Nat} (hb:E'.γ d=some (b,cap)) (hb0:Bs.w0.heap.size≤b∨Bs.X d b) (hrow:RowAt w' E' b cap e W n') (hbb:(∃c,E.γ d=some (b,c))∨w.heap.size≤b)
  (hK':∀k o,E'.K k o→E.K k o∨k=b) (hos:w'.os=w.os) (htape:w'.tape=w.tape) (hout:w'.output=w.output) (hsize:w.heap.size≤w'.heap.size):
  Sim Bs (s.setR d (e,W,n')) a w' E':=by
 have hrr:∀d' e' W' m,(s.setR d (e,W,n')).r d'=some (e',W',m)→(s.r d'=some (e',W',m)∧E'.γ d'=E.γ d')∨(∃q,s.r d'=some (e',W',q)∧q<m):=by
  intro d' e' W' m h1;rcases z31 h1 with⟨x1,x2⟩|⟨hd,h1⟩
  ·subst x1;cases x2;exact .inr ⟨n,hr,hn⟩
  ·exact .inl ⟨h1,hγ d' hd⟩
 have hmaps:Maps w w':=by
  intro k es c hm;have hlt:=(gA hm).1;refine(hblk k hlt (fun cap hg=> ?_)).trans hm;rcases h.mem.row d e W n hr with⟨h1,_⟩|⟨b',cap',h1,_,h3⟩
  ·rw[h1]at hg;cases hg
  ·rw[h1]at hg;cases hg;obtain⟨cur,hc,_⟩:=h3.cells;rw[hm]at hc;cases hc
 have hm:∀{x:TV} {v:Value},RelT w E s.r x v→RelT w' E' (s.setR d (e,W,n')).r x v:=fun hx=>hx.mono hk (fun _ _=>by rw[hβ,hι];exact⟨rfl,rfl⟩) (fun d' e' W' m _ h1=>hrr d' e' W' m h1) hmaps;have hnb:∀d' cs,s.b d'=some cs→E.β d'≠b:=by
  intro d' cs h1;rcases hbb with⟨c,hc⟩|hc
  ·exact h.mem.br d' d cs _ b c h1 hr hc
  ·have:=(h.mem.box d' cs h1).1.lt;omega
 have hnr:∀d' q b' c',d'≠d→s.r d'=some q→E.γ d'=some (b',c')→b'≠b:=by
  intro d' q b' c' hd h1 h2 h3;subst h3;rcases hbb with⟨c,hc⟩|hc
  ·exact hd (h.mem.rr d' d q _ b' c' c h1 hr h2 hc)
  ·rcases h.mem.row d' q.1 q.2.1 q.2.2 h1 with⟨h4,_⟩|⟨b2,c2,h4,_,h5⟩
   ·rw[h4]at h2;cases h2
   ·rw[h4]at h2;cases h2;obtain⟨cur,hcur,_⟩:=h5.cells;have:=(gA hcur).1;omega
 refine h.step rfl ⟨fun d' cs hd=> ?_,fun d' e' W' m hd=> ?_,fun d1 d2 c1 c2 h1 h2 h3=> ?_,fun d1 d2 c q b1 cap1 h1 h2 h3=> ?_,fun d1 d2 q q' b1 c1 c2 h1 h2 h3 h4=> ?_,fun k o hko=> ?_,?_,fun k o u h1 h2=> ?_,fun k o h1=> ?_,⟨fun d' ho=>by rw[hβ];exact h.mem.pas.β d' ho,fun d' ho h0=> ?_,fun d' e' W' m ho hd=> ?_⟩⟩ hk (fun _ _=>by rw[hβ,hι];exact⟨rfl,rfl⟩) (fun d' e' W' m _ h1=>hrr d' e' W' m h1) (fun d' z p hd=> ?_) (by rw[hι];exact h.ii) hmaps
 ·obtain⟨h1,h2⟩:=h.mem.box d' cs hd;rw[hβ];have hsame:w'.heap[E.β d']?=w.heap[E.β d']?:=hblk _ h1.lt (fun c hc=>h.mem.br d' d cs _ _ c hd hr hc rfl);refine⟨⟨Nat.lt_of_lt_of_le h1.lt hsize,(by rw[hsame];exact h1.obj),fun o=>(World.frozen?_of_block (w:=w) (a:=⟨E.β d',o,none⟩) hsame).trans (h1.fz o),fun j c hc=> ?_,fun o ho=> ?_⟩,h2⟩
  ·obtain⟨v,c1,c2,c3⟩:=h1.cell j c hc;exact⟨v,(World.cell?_of_block (w:=w) (a:=⟨E.β d',j,none⟩) hsame).trans c1,c2,hm c3⟩
  ·rcases hK' _ _ ho with h3|h3
   ·exact h1.out o h3
   ·exact hnb d' cs hd h3
 ·rcases z31 hd with⟨x1,x2⟩|⟨hdd,hd⟩
  ·subst x1;cases x2;exact .inr ⟨b,cap,hb,hb0,hrow⟩
  ·rw[hγ d' hdd];rcases h.mem.row d' e' W' m hd with h1|⟨b',c',h1,h2,h3⟩
   ·exact .inl h1
   ·obtain⟨cur,hc,hs⟩:=h3.cells;have hlt:=(gA hc).1;have hne:=hnr d' _ b' c' hdd hd h1;refine .inr ⟨b',c',h1,h2,⟨cur,(hblk b' hlt (fun c hc'=>hdd (h.mem.rr d' d _ _ b' c' c hd hr h1 hc'))).trans hc,hs⟩,h3.le,h3.max,fun o ho=> ?_⟩;rcases hK' _ _ ho with h4|h4
    ·exact h3.out o h4
    ·exact absurd h4 hne
 ·rw[hβ]at h3;exact h.mem.bb d1 d2 c1 c2 h1 h2 h3
 ·rw[hβ];rcases z31 h2 with⟨x1,_⟩|⟨hdd,h2⟩
  ·subst x1;rw[hb]at h3;cases h3;exact hnb d1 c h1
  ·rw[hγ d2 hdd]at h3;exact h.mem.br d1 d2 c q b1 cap1 h1 h2 h3
 ·rcases z31 h1 with⟨x1,_⟩|⟨h5,y1⟩<;>rcases z31 h2 with⟨x2,_⟩|⟨h6,y2⟩
  ·rw[x1,x2]
  ·rw[x1,hb]at h3;cases h3;rw[hγ d2 h6]at h4;exact absurd rfl (hnr d2 q' _ c2 h6 y2 h4)
  ·rw[hγ d1 h5]at h3;rw[x2,hb]at h4;cases h4;exact absurd rfl (hnr d1 q _ c1 h5 y1 h3)
  ·rw[hγ d1 h5]at h3;rw[hγ d2 h6]at h4;exact h.mem.rr d1 d2 q q' b1 c1 c2 y1 y2 h3 h4
 ·rcases hK' k o hko with h1|rfl
  ·exact Nat.lt_of_lt_of_le (h.mem.lt k o h1) hsize
  ·obtain⟨cur,hc,_⟩:=hrow.cells;exact(gA hc).1
 ·refine⟨hos.trans h.mem.low.os,htape.trans h.mem.low.tape,hout.trans h.mem.low.output,Nat.le_trans h.mem.low.size hsize,fun k hk' hx=> ?_⟩;refine(hblk k (Nat.lt_of_lt_of_le hk' h.mem.low.size) (fun c hc=> ?_)).trans (h.mem.low.block k hk' hx);rcases h.mem.row d e W n hr with⟨h1,_⟩|⟨b1,c1,h1,h2,_⟩
  ·rw[h1]at hc;cases hc
  ·rw[h1]at hc;cases hc;rcases h2 with h2|h2
   ·omega
   ·exact hx d h2
 ·obtain⟨h3,h4⟩:=h.mem.keep k o u h1 h2;exact hk k o u h3 h4
 ·rcases hK' k o h1 with h2|rfl
  ·exact h.mem.knew k o h2
  ·rcases hb0 with h2|h2
   ·exact .inr (.inl h2)
   ·exact .inr (.inr ⟨d,h2⟩)
 ·by_cases hd:d'=d
  ·subst hd;obtain⟨n0,h1,_⟩:=h.mem.pas.row d' e W n ho hr;rw[h0]at h1;cases h1
  ·rw[hγ d' hd];exact h.mem.pas.γ d' ho h0
 ·rcases z31 hd with⟨x1,x2⟩|⟨hdd,hd⟩
  ·subst x1;cases x2;obtain⟨n0,h1,h2,h3⟩:=h.mem.pas.row d' e W n ho hr;exact⟨n0,h1,by omega,fun he=>by omega⟩
  ·rw[hγ d' hdd];exact h.mem.pas.row d' e' W' m ho hd
 ·rw[hι];obtain⟨h1,h2⟩:=h.itr d' z p hd;refine⟨(hblk _ (gA h1).1 (fun c hc=> ?_)).trans h1,h2⟩;rcases h.mem.row d e W n hr with⟨h3,_⟩|⟨b1,c1,h3,_,h4⟩
  ·rw[h3]at hc;cases hc
  ·rw[h3]at hc;cases hc;obtain⟨cur,h5,_⟩:=h4.cells;rw[h1]at h5;cases h5
structure News(w:World)(K:Nat→Nat→Prop)(W:Nat)(es:List (List PV))(news:List Value)(f:Nat→Nat→Value):Prop where
 len:∀cs∈es,cs.length=W
 at_:∀(i j:Nat) cs c,es[i]?=some cs→cs[j]?=some c→news[i*W+j]?=some (f i j)∧one (f i j)∧RelV w K c (f i j)
theorem z66{w:World}{K:Nat→Nat→Prop}{W:Nat}{es:List (List PV)}{v:Value}(h:RelV w K (.sl W es) v):∃(b off cap:Nat) (p:Option Addr) (f:Nat→Nat→Value),v=.slice p es.length cap∧(es≠[]→p=some ⟨b,off,none⟩)∧es.length≤cap∧cap≤maxLen∧(∀cs∈es,cs.length=W)∧
  (∀(i j:Nat) cs c,es[i]?=some cs→cs[j]?=some c→(K b (off+i*W+j)∧w.cell? ⟨b,off+i*W+j,none⟩=some (f i j)∧one (f i j))∧RelV w K c (f i j)):=by
 cases h with
 |sl W es b off cap p f hp hcap hmax hW hc hs=>exact⟨b,off,cap,p,f,rfl,hp,hcap,hmax,hW,fun i j cs c h1 h2=>⟨hc i j cs c h1 h2,hs i j cs c h1 h2⟩⟩
theorem idx_lt{W i j n:Nat}(hi:i<n)(hj:j<W):i*W+j<n*W:=by
 have:=Nat.mul_le_mul_right W (show i+1≤n by omega)
 grind
theorem Sim.app{P:Program}(h:Sim Bs s a w E){d e W:Nat}{es es2:List (List PV)}{v x:Value}(hr:s.r d=some (e,W,es.length))(hv:RelT w E s.r (.own d W es) v)(hW:0<W)
  {t tx ty:TypeId} {i:TypeInfo} {z:Value} (ht:P.underlying t=some (.slice e)) (hi:P.info? e=some i) (hz:i.zero=some z) (hzl:z.cells.size=W) (his:i.size=W)
  {news:List Value} {f2:Nat→Nat→Value} (hnews:News w E.K W es2 news f2) (hsrc:Src P W tx x es2.length news w) (hfit:(es.length+es2.length)*i.bytes≤140737488355328) (h63:es.length+es2.length≤maxLen):
  ∃v' w' E',(Builtin.append_ #[t,tx] ty #[v,x]).run P w=.ok v' w'∧E'.β=E.β∧E'.ι=E.ι∧Sim Bs (s.setR d (e,W,es.length+es2.length)) a w' E'∧RelT w' E' (s.setR d (e,W,es.length+es2.length)).r (.own d W (es++es2)) v':=by
 cases hv with
 |own _ _ _ _ hrel hown=>
 obtain⟨_,hval⟩:=hown e W es.length hr;obtain⟨_,rfl⟩:=hval rfl;have hnl:=hsrc.newsLen;by_cases h0:es2=[]
 ·subst h0;have hnews0:news=[]:=List.eq_nil_of_length_eq_zero (by simpa using hnl);subst hnews0;have hset:s.setR d (e,W,es.length+([]:List (List PV)).length)=s:=by
   unfold FS.setR;have:setF s.r d (e,W,es.length+([]:List (List PV)).length)=s.r:=by
    funext j;by_cases hj:j=d
    ·subst hj;rw[setF_self];simp[hr]
    ·rw[setF_ne _ _ hj]
   rw[this]
  have hsrc':Src P i.size tx x 0 [] w:=by rw[his];exact hsrc
  refine⟨hdr (E.γ d) es.length,w,E,?_,rfl,rfl,by rw[hset];exact h,by rw[hset,List.append_nil];exact .own d W es _ hrel hown⟩;rcases h.mem.row d e W es.length hr with⟨h1,h2⟩|⟨b,cap,h1,h2,h3⟩
  ·rw[h1,h2];have:=run_append_nothing (P:=P) w t tx ty e i ht hi none 0 0 (Nat.le_refl _) x hsrc';simpa [hdr]using this
  ·rw[h1];have:=run_append_nothing (P:=P) w t tx ty e i ht hi (some ⟨b,0,none⟩) es.length cap h3.le x hsrc';simpa [hdr]using this
 have hpos:0<es2.length:=List.length_pos_iff.2 h0;have hsrc':Src P i.size tx x es2.length news w:=by rw[his];exact hsrc
 obtain⟨B,off,capR,p,f,hveq,hp,_,_,hWes,hcs⟩:=z66 hrel;have hlt2:∀{i j:Nat} {cs:List PV} {c:PV},es2[i]?=some cs→cs[j]?=some c→i<es2.length∧j<W:=by
  intro i j cs c h1 h2;have h3:=(gJ h1).1;have h4:=(gJ h2).1;rw[hnews.len cs (gM h1)]at h4;exact⟨h3,h4⟩
 have hlt1:∀{i j:Nat} {cs:List PV} {c:PV},es[i]?=some cs→cs[j]?=some c→i<es.length∧j<W:=by
  intro i j cs c h1 h2;have h3:=(gJ h1).1;have h4:=(gJ h2).1;rw[hWes cs (gM h1)]at h4;exact⟨h3,h4⟩
 have hread:∀(w':World) (E':Env) (b cap:Nat),(∀k o u,E.K k o→w.cell? ⟨k,o,none⟩=some u→E'.K k o∧w'.cell? ⟨k,o,none⟩=some u)→
   (∀o,o<(es.length+es2.length)*W→E'.K b o)→
   (∀(i j:Nat) cs c,es[i]?=some cs→cs[j]?=some c→w'.cell? ⟨b,i*W+j,none⟩=some (f i j))→
   (∀(j:Nat) u,news[j]?=some u→w'.cell? ⟨b,es.length*W+j,none⟩=some u)→es.length+es2.length≤cap→cap≤maxLen→
   E'.γ d=some (b,cap)→RelT w' E' (s.setR d (e,W,es.length+es2.length)).r (.own d W (es++es2)) (.slice (some ⟨b,0,none⟩) (es.length+es2.length) cap):=by
  intro w' E' b cap hk hKn hc1 hc2 hle hmax hg;have hlen:(es++es2).length=es.length+es2.length:=by simp
  refine .own d W (es++es2) _ ?_ (fun e' W' n hn=> ?_)
  ·rw[←hlen];refine .sl W (es++es2) b 0 cap _ (fun i j=>if i<es.length then f i j else f2 (i-es.length) j) (fun _=>rfl) (by rw[hlen];exact hle) hmax (fun cs hcs'=> ?_) (fun i j cs c h1 h2=> ?_) (fun i j cs c h1 h2=> ?_)
   ·rcases List.mem_append.1 hcs' with h1|h1
    ·exact hWes cs h1
    ·exact hnews.len cs h1
   ·by_cases hi':i<es.length
    ·rw[List.getElem?_append_left hi']at h1;have hj:=(hlt1 h1 h2).2;refine⟨hKn _ ?_,?_,?_⟩
     ·have:=idx_lt (n:=es.length+es2.length) (W:=W) (i:=i) (j:=j) (by omega) hj;omega
     ·simp only[hi',if_true,Nat.zero_add];exact hc1 i j cs c h1 h2
     ·simp only[hi',if_true];exact(hcs i j cs c h1 h2).1.2.2
    ·rw[List.getElem?_append_right (by omega)]at h1;obtain⟨hi2,hj⟩:=hlt2 h1 h2;obtain⟨n1,n2,_⟩:=hnews.at_ _ _ _ _ h1 h2;have hidx:0+i*W+j=es.length*W+((i-es.length)*W+j):=by
      rw[Nat.zero_add,←Nat.add_assoc,←Nat.add_mul];congr 2;omega
     refine⟨hKn _ ?_,?_,?_⟩
     ·have:=idx_lt (n:=es.length+es2.length) (W:=W) (i:=i) (j:=j) (by omega) hj;omega
     ·simp only[hi',if_false];rw[hidx];exact hc2 _ _ n1
     ·simp only[hi',if_false];exact n2
   ·by_cases hi':i<es.length
    ·rw[List.getElem?_append_left hi']at h1;simp only[hi',if_true];exact(hcs i j cs c h1 h2).2.mono hk
    ·rw[List.getElem?_append_right (by omega)]at h1;simp only[hi',if_false];exact(hnews.at_ _ _ _ _ h1 h2).2.2.mono hk
  ·simp only[FS.setR,setF_self,Option.some.injEq,Prod.mk.injEq]at hn;obtain⟨rfl,rfl,rfl⟩:=hn;exact⟨by rw[hlen];exact Nat.le_refl _,fun _=>⟨rfl,by rw[hg];rfl⟩⟩
 rcases h.mem.row d e W es.length hr with⟨h1,h2⟩|⟨b,cap,h1,h2,h3⟩
 ·
  have hes:es=[]:=List.eq_nil_of_length_eq_zero h2;subst hes;let cap':=grownCap w (0+es2.length) 0 e
  have hcap1:es2.length≤cap':=by have:=grownCap_ge w (0+es2.length) 0 e;simpa [cap']using this
  have hcap2:cap'≤maxLen:=grownCap_le_maxLen w _ 0 e (by simpa using h63);let cells:Array Value:=(([]:List Value)++news).toArray++Builtin.zeroCells z.cells (cap'-(0+es2.length))
  have hcsz:cells.size=cap'*W:=by
   simp only[cells,Array.size_append,List.nil_append,List.size_toArray,hnl,Builtin.zeroCells,Array.size_map,Array.size_range,hzl,Nat.zero_add];rw[←Nat.add_mul];congr 1;omega
  have hrun:=run_append_grow_src (P:=P) w t tx ty e i z ht hi hz none 0 0 [] (run_firstCells_none _ _ _ _ _) x es2.length news hsrc' (by omega) (by have:=h63;unfold maxLen at this;simp at this ⊢;omega)
   (growslice_fits (by omega) (by simpa using hfit))
  let w':=w.drew.alloc (.cells cells e)
  let E':Env:={ K:=fun k o=>E.K k o∨(k=w.heap.size∧o<es2.length*W),β:=E.β,ι:=E.ι,γ:=fun j=>if j=d then some (w.heap.size,cap')else E.γ j }
  have hb:Below w.heap.size w w':=((Below.refl _ _).drew).alloc (Nat.le_refl _) _;have hk:∀k o u,E.K k o→w.cell? ⟨k,o,none⟩=some u→E'.K k o∧w'.cell? ⟨k,o,none⟩=some u:=fun k o u hk1 hk2=>⟨.inl hk1,(hb.cell (p:=⟨k,o,none⟩) (z72 hk2)).trans hk2⟩
  have hnew:w'.heap[w.heap.size]?=some (.cells cells e (0,0)):=heap_alloc_new w.drew _;have hg:E'.γ d=some (w.heap.size,cap'):=by simp[E']
  have hcell:∀j u,cells[j]?=some u→w'.cell? ⟨w.heap.size,j,none⟩=some u:=fun j u hu=>by rw[cell_of_row w' _ _ _ _ _ hnew];exact hu
  refine⟨.slice (some ⟨w.heap.size,0,none⟩) (0+es2.length) cap',w',E',?_,rfl,rfl,?_,?_⟩
  ·rw[h1];exact hrun
  ·refine h.rowUp hr (by simp;omega) hk rfl rfl (fun d' hd'=>by simp[E',hd']) (fun k hk' _=>hb.block k hk') hg (.inl h.mem.low.size) ⟨⟨cells,hnew,hcsz⟩,by simpa using hcap1,hcap2,fun o ho=> ?_⟩ (.inr (Nat.le_refl _)) (fun k o ho=> ?_) hb.os hb.tape hb.output hb.size
   ·rcases ho with ho|⟨_,ho⟩
    ·have:=h.mem.lt _ _ ho;omega
    ·simpa using ho
   ·rcases ho with ho|⟨ho,_⟩
    ·exact .inl ho
    ·exact .inr ho
  ·have:=hread w' E' w.heap.size cap' hk (fun o ho=> .inr ⟨rfl,by simpa using ho⟩) (fun i j cs c h1=>by simp at h1) (fun j u hu=>by
    have hj:j<news.length:=(gJ hu).1;refine hcell _ _ ?_;simp only[cells,List.nil_append,List.length_nil,Nat.zero_mul,Nat.zero_add];rw[Array.getElem?_append_left (by simpa using hj)];simpa using hu) (by simpa using hcap1) hcap2 hg
   simpa using this
 ·obtain⟨cur,hcur,hcsz⟩:=h3.cells;have hblt:b<w.heap.size:=(gA hcur).1;have hle:=h3.le;have hol:∀(i j:Nat) cs c,es[i]?=some cs→cs[j]?=some c→cur[i*W+j]?=some (f i j):=by
   intro i j cs c hi1 hi2;have hne:es≠[]:=by rintro rfl;simp at hi1
   have hpp:=hp hne;rw[h1]at hveq;simp only[hdr]at hveq;injection hveq with hv1 hv2 hv3
   rw[hpp]at hv1;have hv4:(⟨b,0,none⟩:Addr)=⟨B,off,none⟩:=by injection hv1
   have hB:b=B:=congrArg Addr.block hv4;have hoff:0=off:=congrArg Addr.off hv4;have hcell:=(hcs i j cs c hi1 hi2).1.2.1;rw[←hB,←hoff,cell_of_row w _ _ _ _ _ hcur,Nat.zero_add]at hcell;exact hcell
  by_cases hroom:es.length+es2.length≤cap
  ·
   have hin:es.length*W+news.length≤cur.size:=by
    rw[hnl,hcsz,←Nat.add_mul];exact Nat.mul_le_mul_right W hroom
   have hsome:∀j,j<news.length→(w.cell? ⟨b,es.length*W+j,none⟩).isSome=true:=fun j hj=>by
    rw[cell_of_row w _ _ _ _ _ hcur,Array.getElem?_eq_getElem (by omega)];rfl
   have hfrz:∀o,w.frozen? ⟨b,o,none⟩=false:=fun o=>by unfold World.frozen?;simp only[hcur];simp
   have hrun:=run_append_room_src (P:=P) w t tx ty e i ht hi b 0 es.length cap x es2.length news hsrc' hroom (fun j hj=>by rw[his,Nat.zero_add];exact hsome j hj) (fun j _=>hfrz _);rw[his,Nat.zero_add]at hrun;let w':=w.setCells b (es.length*W) news
   let E':Env:={ K:=fun k o=>E.K k o∨(k=b∧o<(es.length+es2.length)*W),β:=E.β,ι:=E.ι,γ:=E.γ }
   have hk:∀k o u,E.K k o→w.cell? ⟨k,o,none⟩=some u→E'.K k o∧w'.cell? ⟨k,o,none⟩=some u:=fun k o u hk1 hk2=>
    ⟨.inl hk1,(World.cell?_setCells_out _ _ _ _ _ (fun hkb _=>by
     have hkb':k=b:=hkb;subst hkb';exact .inl (h3.out o hk1))).trans hk2⟩
   have hother:∀k,k<w.heap.size→(∀c,E.γ d≠some (k,c))→w'.heap[k]?=w.heap[k]?:=fun k hk' hne=>z62 _ _ _ _ _ (by rintro rfl;exact hne _ h1);have hcur':∃cur',w'.heap[b]?=some (.cells cur' e (0,0))∧cur'.size=cap*W:=by
    clear hread hrun hsome hin hk hother hol hcs;have:∀(vs:List Value) (o:Nat) (w:World) (cur:Array Value),w.heap[b]?=some (.cells cur e (0,0))→∃cur',(w.setCells b o vs).heap[b]?=some (.cells cur' e (0,0))∧cur'.size=cur.size:=by
     intro vs
     induction vs with
     |nil=>exact fun o w cur hc=>⟨cur,hc,rfl⟩
     |cons v r ih=>
      intro o w cur hc;obtain⟨cur',q1,q2⟩:=ih (o+1) (w.setCell ⟨b,o,none⟩ v) (cur.setIfInBounds o v) (by simp[World.setCell,Array.getElem?_modify,hc]);exact⟨cur',by rw[World.setCells];exact q1,by simpa using q2⟩
    obtain⟨cur',q1,q2⟩:=this news (es.length*W) w cur hcur;exact⟨cur',q1,q2.trans hcsz⟩
   obtain⟨o1,o2,o3⟩:=setCells_os b news (es.length*W) w;refine⟨.slice (some ⟨b,0,none⟩) (es.length+es2.length) cap,w',E',?_,rfl,rfl,?_,?_⟩
   ·rw[h1];exact hrun
   ·refine h.rowUp hr (by omega) hk rfl rfl (fun _ _=>rfl) hother h1 h2 ⟨hcur',hroom,h3.max,fun o ho=> ?_⟩ (.inl ⟨cap,h1⟩) (fun k o ho=> ?_) o1 o2 o3 (by rw[z160];exact Nat.le_refl _)
    ·rcases ho with ho|⟨_,ho⟩
     ·have:=h3.out o ho;have:=Nat.mul_le_mul_right W (show es.length≤es.length+es2.length by omega);omega
     ·exact ho
    ·rcases ho with ho|⟨ho,_⟩
     ·exact .inl ho
     ·exact .inr ho
   ·refine hread w' E' b cap hk (fun o ho=> .inr ⟨rfl,ho⟩) (fun i j cs c hi1 hi2=> ?_) (fun j u hu=> ?_) hroom h3.max h1
    ·obtain⟨hi3,hj⟩:=hlt1 hi1 hi2;have hlt:=idx_lt hi3 hj;rw[show w'.cell? ⟨b,i*W+j,none⟩=w.cell? ⟨b,i*W+j,none⟩ from World.cell?_setCells_out _ _ _ _ _ (fun _ _=> .inl hlt),cell_of_row w _ _ _ _ _ hcur];exact hol i j cs c hi1 hi2
    ·obtain⟨hj,rfl⟩:=gJ hu;exact World.cell?_setCells_in b news (es.length*W) w hsome j hj
  ·
   have hgt:cap<es.length+es2.length:=by omega
   let olds:List Value:=cur.toList.take (es.length*W)
   have hin:es.length*W≤cur.size:=by rw[hcsz];exact Nat.mul_le_mul_right W hle
   have hol2:olds.length=es.length*W:=by simp[olds];omega
   have hold:(Builtin.firstCells i.size es.length (.slice (some ⟨b,0,none⟩) es.length cap)).run P w.drew=.ok olds.toArray w.drew:=
    run_firstCells_some w.drew i.size es.length ⟨b,0,none⟩ es.length cap olds (by rw[his];exact hol2) (fun j u hu=>by
     rw[Addr.add_mid,Nat.zero_add];show w.cell? _=_;rw[cell_of_row w _ _ _ _ _ hcur];have hj:j<es.length*W:=by rw[←hol2];exact(gJ hu).1
     rw[←hu];simp[olds,hj])
   let cap':=grownCap w (es.length+es2.length) cap e
   have hcap1:es.length+es2.length≤cap':=grownCap_ge w _ _ e;have hcap2:cap'≤maxLen:=grownCap_le_maxLen w _ _ e h63;let cells:Array Value:=(olds++news).toArray++Builtin.zeroCells z.cells (cap'-(es.length+es2.length))
   have hcsz':cells.size=cap'*W:=by
    simp only[cells,Array.size_append,List.size_toArray,List.length_append,hol2,hnl,Builtin.zeroCells,Array.size_map,Array.size_range,hzl];rw[←Nat.add_mul,←Nat.add_mul];congr 1;omega
   have hrun:=run_append_grow_src (P:=P) w t tx ty e i z ht hi hz (some ⟨b,0,none⟩) es.length cap olds hold x es2.length news hsrc' hgt (by have:=h63;unfold maxLen at this;omega) (growslice_fits hgt hfit);let w':=w.drew.alloc (.cells cells e)
   let E':Env:={ K:=fun k o=>E.K k o∨(k=w.heap.size∧o<(es.length+es2.length)*W),β:=E.β,ι:=E.ι,γ:=fun j=>if j=d then some (w.heap.size,cap')else E.γ j }
   have hb:Below w.heap.size w w':=((Below.refl _ _).drew).alloc (Nat.le_refl _) _;have hk:∀k o u,E.K k o→w.cell? ⟨k,o,none⟩=some u→E'.K k o∧w'.cell? ⟨k,o,none⟩=some u:=fun k o u hk1 hk2=>⟨.inl hk1,(hb.cell (p:=⟨k,o,none⟩) (z72 hk2)).trans hk2⟩
   have hnew:w'.heap[w.heap.size]?=some (.cells cells e (0,0)):=heap_alloc_new w.drew _;have hg:E'.γ d=some (w.heap.size,cap'):=by simp[E']
   have hcell:∀j u,cells[j]?=some u→w'.cell? ⟨w.heap.size,j,none⟩=some u:=fun j u hu=>by rw[cell_of_row w' _ _ _ _ _ hnew];exact hu
   refine⟨.slice (some ⟨w.heap.size,0,none⟩) (es.length+es2.length) cap',w',E',?_,rfl,rfl,?_,?_⟩
   ·rw[h1];exact hrun
   ·refine h.rowUp hr (by omega) hk rfl rfl (fun d' hd'=>by simp[E',hd']) (fun k hk' _=>hb.block k hk') hg (.inl h.mem.low.size) ⟨⟨cells,hnew,hcsz'⟩,hcap1,hcap2,fun o ho=> ?_⟩ (.inr (Nat.le_refl _)) (fun k o ho=> ?_) hb.os hb.tape hb.output hb.size
    ·rcases ho with ho|⟨_,ho⟩
     ·have:=h.mem.lt _ _ ho;omega
     ·exact ho
    ·rcases ho with ho|⟨ho,_⟩
     ·exact .inl ho
     ·exact .inr ho
   ·refine hread w' E' w.heap.size cap' hk (fun o ho=> .inr ⟨rfl,ho⟩) (fun i j cs c hi1 hi2=> ?_) (fun j u hu=> ?_) hcap1 hcap2 hg
    ·obtain⟨hi3,hj⟩:=hlt1 hi1 hi2;have hlt:=idx_lt hi3 hj;refine hcell _ _ ?_;simp only[cells];rw[Array.getElem?_append_left (by simp[hol2];omega)];have:=hol i j cs c hi1 hi2;rw[List.getElem?_toArray,List.getElem?_append_left (by omega)];simp[olds,hlt,this]
    ·have hj:j<news.length:=(gJ hu).1;refine hcell _ _ ?_;simp only[cells];rw[Array.getElem?_append_left (by simp[hol2];omega)];rw[List.getElem?_toArray,List.getElem?_append_right (by omega),hol2,Nat.add_sub_cancel_left];exact hu
end
def z22{α:Type}(P:Program):Sem α→Option α
 | .pure a=>some a
 | .program k=>z22 P (k P)
 | .mark _ k=>z22 P k
 |_=>none
theorem pureRun_run{α:Type}{P:Program}{m:Sem α}{x:α}(h:z22 P m=some x)(w:World):m.run P w=.ok x w:=by
 induction m with
 |pure a=>simp[z22]at h;subst h;rfl
 |program k ih=>simp only[z22]at h;simp only[Sem.run];exact ih _ h
 |mark m k ih=>simp only[z22]at h;simp only[Sem.run];exact ih h
 |_=>simp[z22]at h
theorem z28{α β:Type}(P:Program)(m:Sem α)(f:α→Sem β):z22 P (m>>=f)=(z22 P m).bind fun x=>z22 P (f x):=by
 show z22 P (m.bind f)=_
 induction m with
 |pure a=>rfl
 |program k ih=>simp only[Sem.bind,z22];exact ih P
 |mark m k ih=>simp only[Sem.bind,z22];exact ih
 |_=>simp[Sem.bind,z22]
theorem z81{α:Type}(P:Program)(x:α):z22 P (pure x:Sem α)=some x:=rfl
def seqO{α β:Type}(f:α→Option β):List α→Option (List β)
 |[]=>some []
 |x::l=>match f x,seqO f l with
  |some y,some ys=>some (y::ys)
  |_,_=>none
theorem seqO_cons{α β:Type}{f:α→Option β}{x:α}{l:List α}{ys:List β}(h:seqO f (x::l)=some ys):∃y zs,f x=some y∧seqO f l=some zs∧ys=y::zs:=by
 simp only[seqO]at h
 grind
theorem z38{α β:Type}{f:α→Option β}:∀{l:List α} {ys:List β},seqO f l=some ys→l.length=ys.length∧∀(i:Nat) x,l[i]?=some x→∃y,ys[i]?=some y∧f x=some y
 |[],ys,h=>by simp[seqO]at h;subst h;simp
 |x::l,ys,h=>by
  obtain⟨y,zs,h1,h2,rfl⟩:=seqO_cons h;obtain⟨h3,h4⟩:=z38 h2
  grind
theorem z123{α β:Type}{f g:α→Option β}:∀{l:List α},(∀x∈l,f x=g x)→seqO f l=seqO g l
 |[],_=>rfl
 |x::l,h=>by
  have:=z123 (l:=l) (fun y hy=>h y (List.mem_cons_of_mem _ hy));simp only[seqO,h x (List.mem_cons_self ..),this]
inductive Arg where
 |tmp (t:Nat)
 |val (v:Value)
def Arg.of:Operand→Arg
 | .tmp t=> .tmp t
 | .const v=> .val v
 | .global g=> .val (.pointer (some ⟨g,0,none⟩))
 | .func f=> .val (.func (.func f) #[] #[])
def Arg.get(s:FS):Arg→Option TV
 | .tmp t=>s.t t
 | .val v=>some (.pv (.v v))
def Arg.reads:Arg→List Nat
 | .tmp t=>[t]
 | .val _=>[]
inductive SOp where
 |mov (x:Arg)
 |pick (c a b:Arg)
 |bin (op:BinOp) (t:TypeId) (x y:Arg)
 |un (op:UnOp) (x:Arg)
 |cvi (k:IntKind) (x:Arg)
 |cvs (x:Arg)
 |b2s (x:Arg)
 |imm (mx:Bool) (x y:Arg)
 |sidx (x i:Arg)
 |ssub (x:Arg) (lo hi:Option Arg)
 |slen (x:Arg)
 |new (zero:List Value)
 |box (x:Arg)
 |build (zero:List Value) (parts:List (Nat×Nat×Arg))
 |bsl (W:Nat) (xs:List Arg)
 |fld (agg:Bool) (off size:Nat) (x:Arg)
 |fldA (off:Nat) (x:Arg)
 |ld (agg:Bool) (size:Nat) (x:Arg)
 |st (size:Nat) (x y:Arg)
 |len (x:Arg)
 |idxA (W:Nat) (x i:Arg)
 |sub (W:Nat) (x:Arg) (lo hi:Option Arg)
 |app (e W bytes:Nat) (x y:Arg)
 |appS (e bytes:Nat) (x y:Arg)
 |appN (e W bytes:Nat) (x y:Arg)
 |appNS (e bytes:Nat) (x y:Arg)
 |appB (e W bytes:Nat) (x y:Arg)
 |call (f:Nat) (mode:Nat) (xs:List Arg)
 |callv (x:Arg) (mode:Nat) (xs:List Arg)
 |ext (x:Arg) (i:Nat)
 |nchk (x:Arg)
 |mkf (f:Fn) (first captured:List Arg)
 |rng (x:Arg)
 |nxt (x:Arg)
 |mks (bytes:Nat) (zero:List Value) (n:Arg)
 |bslO (e W:Nat) (xs:List Arg)
 |lkp (text:Bool) (zero:Value) (x i:Arg)
 |mkI (t:TypeId) (x:Arg)
 |pan (x:Arg)
 |fnil (ne:Bool) (x:Arg)
def TV.val1:TV→Option Value
 | .pv (.v x)=>some x
 |_=>none
def TV.val:TV→Option Value
 | .agg cs=>(seqO TV.val1 cs).map fun l=> .agg l.toArray
 |t=>t.val1
def TV.cells:TV→Option (List TV)
 | .agg cs=>some cs
 | .tuple _=>none
 | .unk=>none
 | .pv (.v x)=>if x.oneCell' then some [.pv (.v x)] else none
 |t=>some [t]
def TV.toPV:TV→Option PV
 | .pv p=>some p
 | .own _ W es=>some (.sl W es)
 |_=>none
def TV.pvs(t:TV):Option (List PV):=t.cells.bind fun cs=>seqO TV.toPV cs
def TV.elems(W:Nat):TV→Option (List (List PV))
 | .pv (.sl W' es)=>if Nat.beq W' W then some es else none
 | .own _ W' es=>if Nat.beq W' W then some es else none
 | .pv (.v (.slice none 0 0))=>some []
 |_=>none
def TV.isNil:TV→Bool
 | .pv (.v (.slice none 0 0))=>true
 |_=>false
def TV.slen:TV→Option Nat
 | .pv (.sl _ es)=>some es.length
 | .own _ _ es=>some es.length
 | .pv (.v (.slice _ n _))=>some n
 | .bs _ _ n _=>some n
 |_=>none
def TV.str:TV→Option ByteArray
 | .pv (.v (.string b))=>some b
 |_=>none
def bytesP(b:ByteArray):List (List PV):=b.data.toList.map fun u=>[.v (.int .u8 u.toNat)]
def byteOf:List PV→Option UInt8
 |[.v (.int .u8 n)]=>some (UInt8.ofNat n.toNat)
 |_=>none
def TV.int:TV→Option Int
 | .pv (.v (.int _ i))=>some i
 |_=>none
def TV.callee:TV→Option (Nat×List TV×List TV)
 | .fn (.func f) a b=>some (f,a,b)
 | .pv (.fn (.func f) a b)=>some (f,a.map .pv,b.map .pv)
 | .pv (.v (.func (.func f) ⟨[]⟩ ⟨[]⟩))=>some (f,[],[])
 |_=>none
def TV.fnil:TV→Option Bool
 | .fn _ _ _=>some false
 | .pv (.fn _ _ _)=>some false
 | .pv (.v .nilFunc)=>some true
 | .pv (.v (.func _ _ _))=>some false
 |_=>none
inductive MO where
 |box (cs:List TV)
 |row (e W n:Nat)
inductive Upd where
 |no
 |box (cs:List TV)
 |wr (d:Nat) (cs:List TV)
 |row (d:Nat) (q:Nat×Nat×Nat)
 |mem (us:List (Nat×MO))
 |it (d:Nat) (q:ByteArray×Nat)
def TV.ren0(ρ:Nat→Option Nat):TV→Option TV
 | .pv p=>some (.pv p)
 | .unk=>some .unk
 | .ptr d o=>(ρ d).map fun d'=> .ptr d' o
 | .own d W es=>some (match ρ d with|some d'=> .own d' W es|none=> .pv (.sl W es))
 | .bs d o n c=>(ρ d).map fun d'=> .bs d' o n c
 |_=>none
def TV.renF(ρ:Nat→Option Nat):TV→Option TV
 | .fn f a b=>match seqO (TV.ren0 ρ) a,seqO (TV.ren0 ρ) b with
  |some a',some b'=>some (.fn f a' b')
  |_,_=>none
 |t=>t.ren0 ρ
def TV.renE(ρ:Nat→Option Nat):TV→Option TV
 | .agg cs=>(seqO (TV.renF ρ) cs).map .agg
 |t=>t.renF ρ
def TV.ren1(ρ:Nat→Option Nat):TV→Option TV
 | .mp ks xs=>(seqO (TV.renE ρ) xs).map (.mp ks)
 |t=>t.renF ρ
def TV.ren2(ρ:Nat→Option Nat):TV→Option TV
 | .agg cs=>(seqO (TV.ren1 ρ) cs).map .agg
 |t=>t.ren1 ρ
def TV.ren3(ρ:Nat→Option Nat):TV→Option TV
 | .tuple ts=>(seqO (TV.ren2 ρ) ts).map .tuple
 |t=>t.ren2 ρ
def MO.ren(ρ:Nat→Option Nat):MO→Option MO
 | .box cs=>(seqO (TV.ren1 ρ) cs).map .box
 | .row e W n=>some (.row e W n)
def TV.ids0:TV→List Nat
 | .ptr d _=>[d]
 | .bs d _ _ _=>[d]
 | .own d _ _=>[d]
 |_=>[]
def TV.idsF:TV→List Nat
 | .fn _ a b=>a.flatMap TV.ids0++b.flatMap TV.ids0
 |t=>t.ids0
def TV.idsE:TV→List Nat
 | .agg cs=>cs.flatMap TV.idsF
 |t=>t.idsF
def TV.ids1:TV→List Nat
 | .mp _ xs=>xs.flatMap TV.idsE
 |t=>t.idsF
def TV.ids2:TV→List Nat
 | .agg cs=>cs.flatMap TV.ids1
 |t=>t.ids1
def pos:List Nat→Nat→Option Nat
 |[],_=>none
 |x::l,d=>if Nat.beq x d then some 0 else(pos l d).map (·+1)
def reach(s:FS)(rows:Bool):Nat→List Nat→List Nat→List Nat
 |0,_,seen=>seen
 |_,[],seen=>seen
 |f+1,d::l,seen=>match pos seen d with
  |some _=>reach s rows f l seen
  |none=>match s.b d with
   |some cs=>reach s rows f (cs.flatMap TV.ids1++l) (seen++[d])
   |none=>match s.r d,rows with
    |some _,true=>reach s rows f l (seen++[d])
    |_,_=>reach s rows f l seen
def rhoIn(I:List Nat)(d:Nat):Option Nat:=(pos I d).map (1000+·)
def newId(k q:Nat):Nat:=2000+4*k+q
def rhoOut(I:List Nat)(k:Nat)(d:Nat):Option Nat:=
 if Nat.ble 1000 d then match I[d-1000]? with
  |some i=>some i
  |none=>if Nat.blt (d-1000-I.length) 4 then some (newId k (d-1000-I.length))else none
 else none
def FS.mo(s:FS)(d:Nat):Option MO:=match s.b d,s.r d with
 |some cs,none=>some (.box cs)
 |none,some (e,W,n)=>some (.row e W n)
 |_,_=>none
def moOk:List MO→List MO→Bool
 |[],l=>Nat.ble l.length 4
 | .box _::l,.box _::l'=>moOk l l'
 | .row e W n::l,.row e' W' n'::l'=>Nat.beq e e'&&Nat.beq W W'&&Nat.ble n n'&&moOk l l'
 |_,_=>false
def outs(ρ:Nat→Option Nat):Nat→List MO→Option (List (Nat×MO))
 |_,[]=>some []
 |j,m::l=>match ρ (1000+j),m.ren ρ,outs ρ (j+1) l with
  |some i,some m',some r=>some ((i,m')::r)
  |_,_,_=>none
abbrev Oracle:=Nat→List TV→List MO→Option (TV×List MO)
def z95(C:Oracle)(s:FS)(k f mode:Nat)(xs:List TV):Option (TV×Upd):=
 let I:=if Nat.beq mode 0 then [] else reach s (Nat.beq mode 2) 64 (xs.flatMap TV.ids2) []
 match seqO (TV.ren2 (rhoIn I)) xs,seqO (fun d=>(s.mo d).bind (MO.ren (rhoIn I))) I with
 |some xs',some os=>match C f xs' os with
  |some (y,os')=>if moOk os os' then match y.ren3 (rhoOut I k),outs (rhoOut I k) 0 os' with
    |some y',some us=>some (y',.mem us)
    |_,_=>none
   else none
  |none=>none
 |_,_=>none
def fillT(cs:List TV):List (Nat×Nat×List TV)→Option (List TV)
 |[]=>some cs
 |(off,size,xs)::rest=>if xs.length=size∧off+size≤cs.length then fillT (splice cs off xs) rest else none
def partsT(s:FS)(parts:List (Nat×Nat×Arg)):Option (List (Nat×Nat×List TV)):=
 seqO (fun p:Nat×Nat×Arg=>((p.2.2.get s).bind TV.cells).map fun xs=>(p.1,p.2.1,xs)) parts
def bound(s:FS)(dflt:Nat):Option Arg→Option Nat
 |none=>some dflt
 |some x=>((x.get s).bind TV.int).bind fun i=>if 0≤i then some i.toNat else none
def dstId(dst:Option Nat):Nat:=match dst with|some d=>d|none=>900
def kdOf(text:Bool):TypeDesc:=if text then .string else .int .i64
def findKs(kd:TypeDesc)(k:Value):List Value→Nat→Option (Option Nat)
 |[],_=>some none
 |e::l,i=>match Instr.sameNow kd k e with
  |some true=>some (some i)
  |some false=>findKs kd k l (i+1)
  |none=>none
def zeroT(z:Value):TV:=match z with| .agg cs=> .agg (cs.toList.map fun v=> .pv (.v v))|v=> .pv (.v v)
def scal(P:Program)(m:Sem Value):Option (TV×Upd):=(z22 P m).map fun v=>(.pv (.v v),.no)
def eff(P:Program)(C:Oracle)(dst:Option Nat)(o:SOp)(s:FS):Option (TV×Upd):=
 match o with
 | .mov x=>(x.get s).map fun v=>(v,.no)
 | .pick c a b=>match c.get s with
  |some (.pv (.v (.bool t)))=>((if t then a else b).get s).map fun v=>(v,.no)
  |_=>none
 | .bin op t x y=>match(x.get s).bind TV.val,(y.get s).bind TV.val with
  |some .nilIface,some .nilIface=>none
  |some vx,some vy=>scal P (do eqGuard op t (.const vx) (.const vy) vx vy;binOp op t vx vy)
  |_,_=>none
 | .un op x=>match(x.get s).bind TV.val with
  |some v=>scal P (Op.unary op v)
  |none=>none
 | .cvi k x=>((x.get s).bind TV.int).map fun n=>(.pv (.v (.int k (k.wrap n))),.no)
 | .cvs x=>((x.get s).bind TV.str).map fun n=>(.pv (.v (.string n)),.no)
 | .b2s x=>(((x.get s).bind (TV.elems 1)).bind (seqO byteOf)).map fun l=>(.pv (.v (.string ⟨l.toArray⟩)),.no)
 | .imm mx x y=>match x.get s,y.get s with
  |some (.pv (.v (.int .i64 a))),some (.pv (.v (.int .i64 b)))=>some (.pv (.v (.int .i64 (if mx then max a b else min a b))),.no)
  |_,_=>none
 | .sidx x i=>match(x.get s).bind TV.str,(i.get s).bind TV.int with
  |some z,some k=>if 0≤k then(z.data.toList[k.toNat]?).map fun(b:UInt8)=>(.pv (.v (.int .u8 b.toNat)),.no)else none
  |_,_=>none
 | .ssub x lo hi=>match(x.get s).bind TV.str with
  |some z=>match bound s 0 lo,bound s z.size hi with
   |some l,some h=>if l≤h∧h≤z.size then some (.pv (.v (.string (z.extract l h))),.no)else none
   |_,_=>none
  |none=>none
 | .slen x=>((x.get s).bind TV.str).map fun z=>(.pv (.v (.int .i64 (z.size:Int))),.no)
 | .new zero=>match dst with
  |some d=>some (.ptr d 0,.box (zero.map fun v=> .pv (.v v)))
  |none=>none
 | .box x=>match dst with
  |some d=>((x.get s).bind TV.cells).map fun cs=>(.ptr d 0,.box cs)
  |none=>none
 | .build zero parts=>(partsT s parts).bind fun ps=>(fillT (zero.map fun v=> .pv (.v v)) ps).map fun cs=>(.agg cs,.no)
 | .bsl W xs=>(seqO (fun x:Arg=>(x.get s).bind TV.pvs) xs).bind fun es=>if es.all (fun e=>e.length==W)then some (.pv (.sl W es),.no)else none
 | .fld agg off size x=>match x.get s with
  |some (.agg cs)=>if agg then(if off+size≤cs.length then some (.agg ((cs.drop off).take size),.no)else none)else(cs[off]?).map fun c=>(c,.no)
  |_=>none
 | .fldA off x=>match x.get s with
  |some (.ptr d o)=>some (.ptr d (o+off),.no)
  |some (.pv (.el cs))=>some (.pv (.el (cs.drop off)),.no)
  |_=>none
 | .ld agg size x=>match x.get s with
  |some (.ptr d o)=>(s.b d).bind fun cs=>if agg then(if o+size≤cs.length then some (.agg ((cs.drop o).take size),.no)else none)else(cs[o]?).map fun c=>(c,.no)
  |some (.pv (.el cs))=>if agg then(if size≤cs.length then some (.agg ((cs.take size).map .pv),.no)else none)else(cs[0]?).map fun c=>(.pv c,.no)
  |_=>none
 | .st size x y=>match x.get s with
  |some (.ptr d o)=>(s.b d).bind fun cs=>((y.get s).bind TV.cells).bind fun xs=>if xs.length=size∧o+size≤cs.length then some (.pv (.v undef),.wr d (splice cs o xs))else none
  |_=>none
 | .len x=>((x.get s).bind TV.slen).map fun(n:Nat)=>(.pv (.v (.int .i64 (n:Int))),.no)
 | .idxA W x i=>match x.get s,(i.get s).bind TV.int with
  |some (.bs d off n _),some k=>if 0≤k∧k<n then some (.ptr d (off+k.toNat*W),.no)else none
  |some t,some k=>if 0≤k then((t.elems W).bind fun es=>es[k.toNat]?).map fun cs=>(.pv (.el cs),.no)else none
  |_,_=>none
 | .sub W x lo hi=>match x.get s with
  |some (.bs d off n c)=>match bound s 0 lo,bound s n hi with
   |some l,some h=>if l≤h∧h≤n∧n≤c then some (if c=l then .pv (.sl W [])else .bs d (off+l*W) (h-l) (c-l),.no)else none
   |_,_=>none
  |some t=>match t.elems W with
   |some es=>match bound s 0 lo,bound s es.length hi with
    |some l,some h=>if l≤h∧h≤es.length then some (.pv (.sl W ((es.take h).drop l)),.no)else none
    |_,_=>none
   |none=>none
  |none=>none
 | .app e W bytes x y=>match x.get s,(y.get s).bind (TV.elems W)with
  |some (.own d W' es),some es2=>if W'=W∧s.r d=some (e,W,es.length)∧(es.length+es2.length)*bytes≤140737488355328∧es.length+es2.length≤maxLen then some (.own d W (es++es2),.row d (e,W,es.length+es2.length))else none
  |_,_=>none
 | .appN e W bytes x y=>match dst,(x.get s).map TV.isNil,(y.get s).bind (TV.elems W)with
  |some d,some true,some es2=>if es2.length*bytes≤140737488355328∧es2.length≤maxLen then some (.own d W es2,.row d (e,W,es2.length))else none
  |_,_,_=>none
 | .appS e bytes x y=>match x.get s,(y.get s).bind TV.str with
  |some (.own d W' es),some b=>if W'=1∧s.r d=some (e,1,es.length)∧(es.length+b.size)*bytes≤140737488355328∧es.length+b.size≤maxLen then
    some (.own d 1 (es++bytesP b),.row d (e,1,es.length+b.size))else none
  |_,_=>none
 | .appNS e bytes x y=>match dst,(x.get s).map TV.isNil,(y.get s).bind TV.str with
  |some d,some true,some b=>if b.size*bytes≤140737488355328∧b.size≤maxLen then some (.own d 1 (bytesP b),.row d (e,1,b.size))else none
  |_,_,_=>none
 | .call f mode xs=>(seqO (fun x:Arg=>x.get s) xs).bind fun vs=>z95 C s (dstId dst) f mode vs
 | .callv x mode xs=>match(x.get s).bind TV.callee,seqO (fun x:Arg=>x.get s) xs with
  |some (f,a,b),some vs=>z95 C s (dstId dst) f mode (a++vs++b)
  |_,_=>none
 | .ext x i=>match x.get s with
  |some (.tuple ts)=>(ts[i]?).map fun c=>(c,.no)
  |_=>none
 | .nchk x=>match x.get s with
  |some (.ptr d o)=>some (.ptr d o,.no)
  |some (.pv (.el cs))=>some (.pv (.el cs),.no)
  |_=>none
 | .mkf f a b=>match seqO (fun x:Arg=>x.get s) a,seqO (fun x:Arg=>x.get s) b with
  |some a',some b'=>some (.fn f a' b',.no)
  |_,_=>none
 | .rng x=>match dst,(x.get s).bind TV.str with
  |some d,some z=>some (.it d,.it d (z,0))
  |_,_=>none
 | .nxt x=>match x.get s with
  |some (.it d)=>match s.i d with
   |some (z,p)=>if p<z.size then some (.tuple [.pv (.v (.bool true)),.pv (.v (.int .i64 (p:Int))),.pv (.v (.int .i32 (Utf8.decode z p).1))],.it d (z,p+(Utf8.decode z p).2))else some (.tuple [.pv (.v (.bool false))],.no)
   |none=>none
  |_=>none
 | .mks bytes zero n=>match dst,n.get s with
  |some d,some (.pv (.v (.int .i64 k)))=>if 0≤k∧bytes*k≤140737488355328∧k≤maxLen then some (.bs d 0 k.toNat k.toNat,.box ((List.replicate k.toNat (zero.map fun v=>TV.pv (.v v))).flatten))else none
  |_,_=>none
 | .bslO e W xs=>match dst,(seqO (fun x:Arg=>(x.get s).bind TV.pvs) xs)with
  |some d,some es=>if es.all (fun e=>e.length==W)then some (.own d W es,.row d (e,W,es.length))else none
  |_,_=>none
 | .lkp text zero x i=>match x.get s,(i.get s).bind TV.val1 with
  |some (.mp ks xs),some k=>match findKs (kdOf text) k ks 0 with
   |some (some j)=>(xs[j]?).map fun t=>(t,.no)
   |some none=>some (zeroT zero,.no)
   |none=>none
  |_,_=>none
 | .mkI t x=>((x.get s).bind TV.val).map fun v=>(.pv (.v (.iface t v)),.no)
 | .pan _=>none
 | .fnil ne x=>((x.get s).bind TV.fnil).map fun b=>(.pv (.v (.bool (b !=ne))),.no)
 | .appB _ W bytes x y=>match dst,(x.get s).map TV.isNil,(y.get s).bind (TV.elems W)with
  |some d,some true,some es2=>if es2.length*bytes≤140737488355328∧es2.length≤maxLen then(if es2.isEmpty then some (.pv (.v (.slice none 0 0)),.no)else some (.bs d 0 es2.length es2.length,.box (es2.flatten.map .pv)))else none
  |_,_,_=>none
def memB(us:List (Nat×MO))(f:Nat→Option (List TV)):Nat→Option (List TV):=fun j=>match us.lookup j with|some (.box cs)=>some cs|_=>f j
def memR(us:List (Nat×MO))(f:Rows):Rows:=fun j=>match us.lookup j with|some (.row e W n)=>some (e,W,n)|_=>f j
def FS.upd(s:FS)(dst:Option Nat):Upd→FS
 | .no=>s
 | .box cs=>match dst with|some d=>s.setB d cs|none=>s
 | .wr d cs=>s.setB d cs
 | .row d q=>s.setR d q
 | .mem us=>{ s with b:=memB us s.b,r:=memR us s.r }
 | .it d q=>s.setI d q
def SOp.news(dst:Option Nat):SOp→List Nat
 | .new _| .box _| .appN .. | .appNS .. | .rng _| .mks .. | .bslO .. | .appB .. =>match dst with|some d=>[d]|none=>[]
 | .call .. | .callv .. =>[newId (dstId dst) 0,newId (dstId dst) 1,newId (dstId dst) 2,newId (dstId dst) 3]
 |_=>[]
def z24(P:Program)(o:Oper)(h:Nat):Option SOp:=
 match o.op with
 | .move x| .assign x=>some (.mov (.of x))
 | .pick c a b=>some (.pick (.of c) (.of a) (.of b))
 | .alloc e=>match P.info? e with
  |some i=>match i.zero with
   |some z=>if z.cells.toList.all (·.oneCell')then some (.new z.cells.toList)else none
   |none=>none
  |none=>none
 | .box _ x=>some (.box (.of x))
 | .build t parts=>match P.info? t,P.underlying t with
  |some i,some (.struct fs)=>match i.zero with
   |some z=>if z.cells.toList.all (·.oneCell')&&fs.all (fun f=>(P.info? f.type).isSome)then((seqO (fun p:Nat×Operand=>match fs[p.1]? with
     |some f=>(P.info? f.type).map fun j=>(f.offset,j.size,Arg.of p.2)
     |none=>none) parts.toList).map fun ps=> .build z.cells.toList ps)else none
   |none=>none
  |some i,some (.array _ e)=>match i.zero,P.info? e with
   |some z,some j=>if z.cells.toList.all (·.oneCell')then some (.build z.cells.toList (parts.toList.map fun p=>(p.1*j.size,j.size,Arg.of p.2)))else none
   |_,_=>none
  |_,_=>none
 | .buildSlice t len parts=>match P.underlying t with
  |some (.slice e)=>match P.info? e with
   |some i=>match i.zero with
    |some z=>if parts.toList.map (·.1)=List.range len∧len*i.size≤16777216∧z.cells.size=i.size∧0<len*i.size then some (if Nat.beq h 1 then .bslO e i.size (parts.toList.map fun p=>Arg.of p.2)else .bsl i.size (parts.toList.map fun p=>Arg.of p.2))else none
    |none=>none
   |none=>none
  |_=>none
 | .load t x=>match P.underlying t,P.info? t with
  |some d,some i=>some (if d.isRow then .ld true i.size (.of x)else .ld false 1 (.of x))
  |_,_=>none
 | .store t x y=>match P.info? t with
  |some i=>some (.st i.size (.of x) (.of y))
  |none=>none
 | .nilCheck x=>some (.nchk (.of x))
 | .binOp op t x y _=>match y,op,P.underlying t with
  | .const .nilFunc,.eql,some (.func _ _ _)=>some (.fnil false (.of x))
  | .const .nilFunc,.neq,some (.func _ _ _)=>some (.fnil true (.of x))
  |_,_,_=>some (.bin op t (.of x) (.of y))
 | .unOp op _ x=>some (.un op (.of x))
 | .convert src dst x=>match P.underlying src,P.underlying dst with
  |some (.int _),some (.int k)=>some (.cvi k (.of x))
  |some .string,some .string=>some (.cvs (.of x))
  |some (.slice e),some .string=>match P.underlying e with
   |some (.int .u8)=>some (.b2s (.of x))
   |_=>none
  |_,_=>none
 | .slice t x lo hi none=>match P.underlying t with
  |some .string=>some (.ssub (.of x) (lo.map .of) (hi.map .of))
  |some (.slice e)=>match P.info? e with
   |some i=>some (.sub i.size (.of x) (lo.map .of) (hi.map .of))
   |none=>none
  |_=>none
 | .fieldAddr t x f=>match P.underlying t with
  |some (.struct fs)=>match fs[f]? with
   |some fd=>match P.info? fd.type with
    |some i=>if i.size=0 then none else some (.fldA fd.offset (.of x))
    |none=>none
   |none=>none
  |_=>none
 | .field t x f=>match P.underlying t with
  |some (.struct fs)=>match fs[f]? with
   |some fd=>match P.info? fd.type,P.underlying fd.type with
    |some i,some d=>some (.fld d.isRow fd.offset i.size (.of x))
    |_,_=>none
   |none=>none
  |_=>none
 | .indexAddr t x i=>match P.underlying t with
  |some (.slice e)=>match P.info? e with
   |some j=>some (.idxA j.size (.of x) (.of i))
   |none=>none
  |some (.array n e)=>match i,P.info? e with
   | .const (.int _ k),some j=>if 0≤k∧k<n then some (.fldA (k.toNat*j.size) (.of x))else none
   |_,_=>none
  |_=>none
 | .index t x i=>match P.underlying t with
  |some .string=>some (.sidx (.of x) (.of i))
  |_=>none
 | .lookup t x i false=>match P.underlying t with
  |some (.map k e)=>match P.info? e with
   |some j=>match j.zero with
    |some z=>if z.cells.toList.all (·.oneCell')=true then(match P.underlying k with
      |some .string=>some (.lkp true z (.of x) (.of i))
      |some (.int .i64)=>some (.lkp false z (.of x) (.of i))
      |_=>none)else none
    |none=>none
   |none=>none
  |_=>none
 | .makeInterface t x=>match P.underlying t with
  |some (.interface _)=>none
  |some _=>some (.mkI t (.of x))
  |none=>none
 | .panic x=>some (.pan (.of x))
 | .extract x i=>some (.ext (.of x) i)
 | .makeFunc f a b=>some (.mkf f (a.toList.map .of) (b.toList.map .of))
 | .range t x=>match P.underlying t with
  |some .string=>some (.rng (.of x))
  |_=>none
 | .next x true=>some (.nxt (.of x))
 | .makeSlice t l c=>match P.underlying t,l,c with
  |some (.slice e),.tmp a,.tmp b=>if Nat.beq a b then match P.info? e with
   |some i=>match i.zero with
    |some z=>if z.cells.size=i.size∧0<i.size∧z.cells.toList.all (·.oneCell')=true then some (.mks i.bytes z.cells.toList (.tmp a))else none
    |none=>none
   |none=>none else none
  |_,_,_=>none
 | .call { callee:=.builtin .len,args,argTypes }=>match argTypes.toList,args.toList with
  |[t],[x]=>match P.underlying t with
   |some (.slice _)=>some (.len (.of x))
   |some .string=>some (.slen (.of x))
   |_=>none
  |_,_=>none
 | .call { callee:=.builtin .min,args,argTypes }=>match args.toList,argTypes.toList with
  |[x,y],[t,_]=>match P.underlying t with
   |some (.int .i64)=>some (.imm false (.of x) (.of y))
   |_=>none
  |_,_=>none
 | .call { callee:=.builtin .max,args,argTypes }=>match args.toList,argTypes.toList with
  |[x,y],[t,_]=>match P.underlying t with
   |some (.int .i64)=>some (.imm true (.of x) (.of y))
   |_=>none
  |_,_=>none
 | .call { callee:=.builtin .append,args,argTypes }=>match args.toList,argTypes.toList with
  |[x,y],[t,tx]=>match P.underlying t with
   |some (.slice e)=>match P.info? e with
    |some i=>match i.zero with
     |some z=>if z.cells.size=i.size∧0<i.size then
       match P.underlying tx with
       |some (.slice _)=>some (if Nat.beq h 2 then .appB e i.size i.bytes (.of x) (.of y)else if Nat.beq h 1 then .appN e i.size i.bytes (.of x) (.of y)else .app e i.size i.bytes (.of x) (.of y))
       |some .string=>if i.size=1 then some (if Nat.beq h 1 then .appNS e i.bytes (.of x) (.of y)else .appS e i.bytes (.of x) (.of y))else none
       |_=>none
      else none
     |none=>none
    |none=>none
   |_=>none
  |_,_=>none
 | .call { callee:=.value (.func f),args,argTypes:=_ }=>match P.funcs[f]? with
  |some fn=>if fn.body.isSome&&fn.name != "runtime.NumGoroutine" then some (.call f h (args.toList.map .of))else none
  |none=>none
 | .call { callee:=.value (.tmp t),args,argTypes:=_ }=>some (.callv (.tmp t) h (args.toList.map .of))
 |_=>none
end Go.Sh
end

section
namespace Go.Sh
open Go Go.RowKit
set_option maxHeartbeats 1000000
section
variable{B:Base}{s:FS}{a:Act}{w w':World}{E E':Env}{r:Rows}{P:Program}
theorem z16(h:Sim B s a w E){x:Operand}{y:TV}(hx:(Arg.of x).get s=some y):RelT w E s.r y (a.eval x):=by
 cases x with
 |tmp t=>exact(h.tmp t y hx).2
 |const v=>simp[Arg.of,Arg.get]at hx;subst hx;exact .pv (.v _)
 |global g=>simp[Arg.of,Arg.get]at hx;subst hx;exact .pv (.v _)
 |func f=>simp[Arg.of,Arg.get]at hx;subst hx;exact .pv (.v _)
theorem val1_rel{t:TV}{v y:Value}(h:RelT w E r t v)(hy:t.val1=some y):v=y:=by
 cases h with
 |pv h=>cases h<;>grind [TV.val1]
 |_=>simp[TV.val1]at hy
theorem val_rel{t:TV}{v y:Value}(h:RelT w E r t v)(hy:t.val=some y):v=y:=by
 cases t with
 |agg cs=>
  cases h with
  |agg cs vs hl h ho=>
   simp only[TV.val]at hy;obtain⟨l,h1,rfl⟩:=gO hy;obtain⟨h2,h3⟩:=z38 h1;congr 2;apply List.ext_getElem?;intro i;rcases Nat.lt_or_ge i cs.length with hi|hi
   ·obtain⟨y,hy1,hy2⟩:=h3 i cs[i] (gE hi);rw[hy1,gE (by omega)];rw[val1_rel (h i cs[i] (vs[i]'(by omega)) (gE hi) (gE (by omega))) hy2]
   ·grind
 |_=>exact val1_rel h hy
theorem get_val(h:Sim B s a w E){x:Operand}{y:Value}(hx:((Arg.of x).get s).bind TV.val=some y):a.eval x=y:=by
 obtain⟨t,h1,h2⟩:=gB hx;exact val_rel (z16 h h1) h2
structure RelL(w:World)(E:Env)(r:Rows)(cs:List TV)(vs:List Value):Prop where
 len:cs.length=vs.length
 at_:∀(j:Nat) c v,cs[j]?=some c→vs[j]?=some v→RelT w E r c v
 ones:∀v∈vs,one v
theorem z155{t:TV}{v:Value}{cs:List TV}(h:RelT w E r t v)(hc:t.cells=some cs):∃vs:List Value,v.cells=vs.toArray∧RelL w E r cs vs:=by
 have one1:∀(t:TV) (v:Value),RelT w E r t v→v.oneCell'=true→∃vs:List Value,v.cells=vs.toArray∧RelL w E r [t] vs:=by
  intro t v h ho;refine⟨[v],?_,⟨rfl,fun j c u h1 h2=> ?_,fun u hu=> ?_⟩⟩
  ·cases v<;>first|rfl|cases ho
  ·grind
  ·grind
 cases h with
 |pv h=>
  cases h with
  |v x=>
   simp only[TV.cells]at hc;split at hc
   ·rename_i ho;cases hc;exact one1 _ _ (.pv (.v _)) ho
   ·cases hc
  |sl W es b off cap p f hp hcap hmax hW hc' hs=>
   simp only[TV.cells]at hc;cases hc;exact one1 _ _ (.pv (.sl W es b off cap p f hp hcap hmax hW hc' hs)) rfl
  |el cs b off f h1 h2=>simp only[TV.cells]at hc;cases hc;exact one1 _ _ (.pv (.el cs b off f h1 h2)) rfl
  |fn g xs ys us vs h1 h2 r1 r2=>simp only[TV.cells]at hc;cases hc;exact one1 _ _ (.pv (.fn g xs ys us vs h1 h2 r1 r2)) rfl
 |unk v=>simp[TV.cells]at hc
 |bs d off n c C h1 h2 h3=>simp only[TV.cells]at hc;cases hc;exact one1 _ _ (.bs d off n c C h1 h2 h3) rfl
 |it d=>simp only[TV.cells]at hc;cases hc;exact one1 _ _ (.it d) rfl
 |mp ks xs b es clock g h1 h2 h3 h4 h=>simp only[TV.cells]at hc;cases hc;exact one1 _ _ (.mp ks xs b es clock g h1 h2 h3 h4 h) rfl
 |fn g xs ys us vs h1 h2 r1 r2=>simp only[TV.cells]at hc;cases hc;exact one1 _ _ (.fn g xs ys us vs h1 h2 r1 r2) rfl
 |ptr d off=>simp only[TV.cells]at hc;cases hc;exact one1 _ _ (.ptr d off) rfl
 |own d W es v h1 h2=>
  simp only[TV.cells]at hc;cases hc;obtain⟨_,_,_,_,_,rfl,_⟩:=z66 h1;exact one1 _ _ (.own d W es _ h1 h2) rfl
 |agg cs vs hl h ho=>simp only[TV.cells]at hc;cases hc;exact⟨vs,rfl,hl,h,ho⟩
 |tuple cs vs hl h=>simp[TV.cells]at hc
theorem toPV_rel{t:TV}{v:Value}{p:PV}(h:RelT w E r t v)(hp:t.toPV=some p):RelV w E.K p v:=by
 cases h with
 |pv h=>grind [TV.toPV]
 |own d W es v h1 h2=>grind [TV.toPV]
 |_=>simp[TV.toPV]at hp
theorem pvs_rel{t:TV}{v:Value}{ps:List PV}(h:RelT w E r t v)(hp:t.pvs=some ps):∃vs:List Value,v.cells=vs.toArray∧ps.length=vs.length∧(∀(j:Nat) c u,ps[j]?=some c→vs[j]?=some u→RelV w E.K c u∧one u):=by
 obtain⟨cs,h1,h2⟩:=gB hp;obtain⟨vs,h3,h4⟩:=z155 h h1;obtain⟨h5,h6⟩:=z38 h2;refine⟨vs,h3,by rw[←h5,h4.len],fun j c u hc hu=> ?_⟩;have hj:j<cs.length:=by grind
 obtain⟨y,hy1,hy2⟩:=h6 j cs[j] (gE hj);rw[hc]at hy1;cases hy1;exact⟨toPV_rel (h4.at_ j _ u (gE hj) hu) hy2,h4.ones u (gM hu)⟩
theorem nil_elems{W:Nat}{es:List (List PV)}{v:Value}(he:TV.elems W (.pv (.v v))=some es):v=.slice none 0 0∧es=[]:=by
 grind [TV.elems]
theorem z135{t:TV}{v:Value}{W:Nat}{es:List (List PV)}(h:RelT w E r t v)(he:t.elems W=some es):RelV w E.K (.sl W es) v:=by
 cases t with
 |pv p=>
  cases p with
  |v x=>
   cases h with
   |pv h=>
   cases h;obtain⟨rfl,rfl⟩:=nil_elems he;exact .sl W [] 0 0 0 none (fun _ _=>undef) (by simp) (by simp) (Nat.zero_le _) (by simp) (by simp) (by simp)
  |sl W' es'=>
   simp only[TV.elems]at he;split at he
   ·rename_i hw;obtain rfl:=Nat.eq_of_beq_eq_true hw;cases he;cases h<;>grind
   ·cases he
  |el=>simp[TV.elems]at he
  |fn=>simp[TV.elems]at he
 |own d W' es'=>
  simp only[TV.elems]at he;split at he
  ·rename_i hw;obtain rfl:=Nat.eq_of_beq_eq_true hw;cases he;cases h<;>grind
  ·cases he
 |_=>simp[TV.elems]at he
theorem slen_rel{t:TV}{v:Value}{n:Nat}(h:RelT w E r t v)(he:t.slen=some n):∃p c,v=.slice p n c:=by
 cases h with
 |pv h=>
  cases h with
  |v=>
   cases v<;>simp[TV.slen]at he
   simp_all
  |sl W' es' b off cap p f hp hcap hmax hW hc' hs=>simp[TV.slen]at he;subst he;exact⟨p,cap,rfl⟩
  |_=>simp[TV.slen]at he
 |bs d off n' c C=>simp[TV.slen]at he;subst he;exact⟨_,C,rfl⟩
 |own d W' es' v h1 h2=>
  grind [TV.slen,z66]
 |_=>simp[TV.slen]at he
theorem int_rel{t:TV}{v:Value}{i:Int}(h:RelT w E r t v)(he:t.int=some i):∃k,v=.int k i:=by
 cases h with
 |pv h=>
  cases h with
  |v=>cases v<;>simp[TV.int]at he;subst he;exact⟨_,rfl⟩
  |_=>simp[TV.int]at he
 |_=>simp[TV.int]at he
theorem str_rel{t:TV}{v:Value}{b:ByteArray}(h:RelT w E r t v)(he:t.str=some b):v=.string b:=by
 cases h with
 |pv h=>
  cases h with
  |v=>cases v<;>simp[TV.str]at he;subst he;rfl
  |_=>simp[TV.str]at he
 |_=>grind [TV.str]
theorem RelL.splice{cs xs:List TV}{vs us:List Value}(h1:RelL w E r cs vs)(h2:RelL w E r xs us){off:Nat}(hle:off+xs.length≤cs.length):RelL w E r (splice cs off xs) (splice vs off us):=by
 have l1:=h1.len;have l2:=h2.len;refine⟨by rw[z161 hle,z161 (by omega),l1],fun j c v hc hv=> ?_,fun v hv=> ?_⟩
 ·by_cases hj:off≤j∧j<off+xs.length
  ·rw[splice_in hle hj.1 hj.2]at hc;rw[splice_in (by omega) hj.1 (by omega)]at hv;exact h2.at_ _ _ _ hc hv
  ·rw[z165 hle (by omega)]at hc;rw[z165 (by omega) (by omega)]at hv;exact h1.at_ _ _ _ hc hv
 ·rcases mem_splice hv with h|h
  ·exact h1.ones v h
  ·exact h2.ones v h
theorem RelL.drop{cs:List TV}{vs:List Value}(h:RelL w E r cs vs)(k:Nat):RelL w E r (cs.drop k) (vs.drop k):=
 ⟨by simp[h.len],fun j c v hc hv=>h.at_ (k+j) c v (by grind) (by grind),fun v hv=>h.ones v (List.mem_of_mem_drop hv)⟩
theorem RelL.take{cs:List TV}{vs:List Value}(h:RelL w E r cs vs)(k:Nat):RelL w E r (cs.take k) (vs.take k):=
 ⟨by simp[h.len],fun j c v hc hv=>by
  have hj:j<k:=by grind
  exact h.at_ j c v (by grind) (by grind),fun v hv=>h.ones v (List.mem_of_mem_take hv)⟩
theorem RelL.agg{cs:List TV}{vs:List Value}(h:RelL w E r cs vs):RelT w E r (.agg cs) (.agg vs.toArray):=.agg cs vs h.len h.at_ h.ones
theorem RelL.ofVals{vs:List Value}(h:∀v∈vs,one v):RelL w E r (vs.map fun v=> .pv (.v v)) vs:=
 ⟨by simp,fun j c v hc hv=>by simp[hv]at hc;subst hc;exact .pv (.v v),h⟩
theorem box_rel{b:Nat}{cs:List TV}(h:BoxAt w E r b cs):∃vs:List Value,RelL w E r cs vs∧∀(j:Nat) v,vs[j]?=some v→w.cell? ⟨b,j,none⟩=some v:=by
 refine⟨(List.range cs.length).map fun j=>(w.cell? ⟨b,j,none⟩).getD undef,⟨by simp,fun j c v hc hv=> ?_,fun v hv=> ?_⟩,fun j v hv=> ?_⟩
 ·obtain⟨u,h1,h2,h3⟩:=h.cell j c hc;have hj:=(gJ hc).1;simp[hj,h1]at hv;subst hv;exact h3
 ·obtain⟨j,hj,rfl⟩:=List.mem_map.1 hv;have hj':j<cs.length:=by simpa using hj
  obtain⟨u,h1,h2,h3⟩:=h.cell j cs[j] (gE hj');simpa [h1]using h2
 ·have hj:j<cs.length:=by have:=(gJ hv).1;simpa using this
  obtain⟨u,h1,h2,h3⟩:=h.cell j cs[j] (gE hj);simp[hj,h1]at hv;subst hv;exact h1
theorem foldSet:∀(vs:List Value) (off k:Nat) (cs:Array Value),off+k+vs.length≤cs.size→((vs.zipIdx k).foldl (fun(cs:Array Value) (cj:Value×Nat)=>cs.setIfInBounds (off+cj.2) cj.1) cs).toList=splice cs.toList (off+k) vs
 |[],off,k,cs,_=>by simp[splice]
 |v::r,off,k,cs,h=>by
  simp only[List.zipIdx_cons,List.foldl_cons];rw[foldSet r off (k+1) _ (by grind)];apply List.ext_getElem?;intro j;simp only[List.length_cons]at h
  grind [z165,splice_in,Array.toList_setIfInBounds,List.getElem?_set_ne]
theorem fill_rel{place:Nat→Option (Nat×Nat)}:∀{parts:List (Nat×Value)} {ps:List (Nat×Nat×List TV)} {cs cs':List TV} {vs:List Value},RelL w E r cs vs→parts.length=ps.length→
  (∀(j:Nat) p q,parts[j]?=some p→ps[j]?=some q→place p.1=some (q.1,q.2.1)∧∃us:List Value,p.2.cells=us.toArray∧RelL w E r q.2.2 us)→fillT cs ps=some cs'→
  ∃vs':List Value,Instr.fill place vs.toArray parts=some vs'.toArray∧RelL w E r cs' vs'
 |[],ps,cs,cs',vs,h,hl,hp,hf=>by
  cases ps with
  |nil=>simp[fillT]at hf;subst hf;exact⟨vs,rfl,h⟩
  |cons q qs=>simp at hl
 |(i,v)::parts,ps,cs,cs',vs,h,hl,hp,hf=>by
  cases ps with
  |nil=>simp at hl
  |cons q qs=>
   obtain⟨off,size,xs⟩:=q;simp only[fillT]at hf;split at hf
   ·rename_i hc;obtain⟨h1,us,h2,h3⟩:=hp 0 (i,v) (off,size,xs) rfl rfl
    dsimp only at h1 h2 h3
    have l1:=h.len;have l2:=h3.len;obtain⟨vs',h4,h5⟩:=fill_rel (parts:=parts) (place:=place) (h.splice h3 (off:=off) (by omega)) (by grind) (fun j p q hj1 hj2=>hp (j+1) p q (by grind) (by grind)) hf;refine⟨vs',?_,h5⟩;simp only[Instr.fill,h1,h2];have hcond:(us.toArray.size≠size||off+us.toArray.size>vs.toArray.size)=false:=by grind
    rw[hcond];simp only[Bool.false_eq_true,if_false];have hfold:=foldSet us off 0 vs.toArray (by grind);simp only[Nat.add_zero]at hfold;have:us.toArray.zipIdx.foldl (fun(cs:Array Value) (cj:Value×Nat)=>cs.setIfInBounds (off+cj.2) cj.1) vs.toArray=(splice vs off us).toArray:=by
     grind
    grind
   ·cases hf
end
end Go.Sh
end

section
namespace Go.Sh
open Go Go.RowKit
set_option maxHeartbeats 2000000
structure Glob where
 G:World→Prop
 n:Nat
 st:∀w w',G w→(∀k,k<n→w'.heap[k]?=w.heap[k]?)→G w'
 le:∀w,G w→n≤w.heap.size
def objB(os:List MO)(d:Nat):Option (List TV):=if 1000≤d then(match os[d-1000]? with|some (.box cs)=>some cs|_=>none)else none
def objR(os:List MO):Rows:=fun d=>if 1000≤d then(match os[d-1000]? with|some (.row e W n)=>some (e,W,n)|_=>none)else none
def objX(E:Env)(os:List MO)(d b:Nat):Prop:=(∃cs,objB os d=some cs∧E.β d=b)∨(∃q cap,objR os d=some q∧E.γ d=some (b,cap))
def start(w:World)(E:Env)(os:List MO)(N:Nat):Base:=⟨w,E.K,objX E os,N,E,objR os,os.length,[]⟩
structure Left(E:Env)(os:List MO)(E':Env)(os':List MO):Prop where
 beta:∀d,1000≤d→d<1000+os.length→E'.β d=E.β d
 gamma:∀d,1000≤d→d<1000+os.length→objR os d=none→E'.γ d=E.γ d
 row:∀d e W n,objR os d=some (e,W,n)→∃n',objR os' d=some (e,W,n')∧n≤n'∧(n=n'→E'.γ d=E.γ d)
def hasBody(P:Program)(f:Nat):Prop:=∃fn body,P.funcs[f]?=some fn∧fn.body=some body∧¬fn.name= "runtime.NumGoroutine"
def SCalls(P:Program)(g:Glob)(f:Nat)(xs:List TV)(os:List MO)(y:TV)(os':List MO):Prop:=
 hasBody P f∧∀(w:World) (E:Env) (vs:List Value),g.G w→MSim (start w E os 0) (objB os) (objR os) w E→(∀d b,objX E os d b→g.n≤b)→xs.length=vs.length→
  (∀(j:Nat) x v,xs[j]?=some x→vs[j]?=some v→RelT w E (objR os) x v)→
  Calls P f vs.toArray w fun e w'=>∃v E',e=.returned v∧MSim (start w E os 0) (objB os') (objR os') w' E'∧RelT w' E' (objR os') y v∧Left E os E' os'
section
variable{B:Base}{s:FS}{a:Act}{w w':World}{E E':Env}{r r':Rows}{P:Program}{ρ:Nat→Option Nat}
structure RenOk(E:Env)(r:Rows)(ρ:Nat→Option Nat)(E':Env)(r':Rows):Prop where
 at_:∀d d',ρ d=some d'→E'.β d'=E.β d∧E'.γ d'=E.γ d∧∀q,r' d'=some q→r d=some q
theorem ren0_rel(hρ:RenOk E r ρ E' r')(hk:∀b o u,E.K b o→w.cell? ⟨b,o,none⟩=some u→E'.K b o){x y:TV}{v:Value}(h:RelT w E r x v)(hx:x.ren0 ρ=some y):RelT w E' r' y v:=by
 cases h with
 |pv h=>simp only[TV.ren0]at hx;cases hx;exact .pv (h.mono fun b o u h1 h2=>⟨hk b o u h1 h2,h2⟩)
 |unk v=>simp only[TV.ren0]at hx;cases hx;exact .unk v
 |ptr d off=>
  simp only[TV.ren0]at hx;obtain⟨d',h1,rfl⟩:=gO hx;rw[←(hρ.at_ d d' h1).1];exact .ptr d' off
 |own d W es v h hr=>
  simp only[TV.ren0]at hx;cases hx;have h':RelV w E'.K (.sl W es) v:=h.mono fun b o u h1 h2=>⟨hk b o u h1 h2,h2⟩
  split
  ·rename_i d' h1;refine .own d' W es v h' (fun e W' n hn=> ?_);obtain⟨_,h2,h3⟩:=hρ.at_ d d' h1
   grind
  ·exact .pv h'
 |bs d off n c C hn hc hm=>
  simp only[TV.ren0]at hx;obtain⟨d',h1,rfl⟩:=gO hx;rw[←(hρ.at_ d d' h1).1];exact .bs d' off n c C hn hc hm
 |_=>simp[TV.ren0]at hx
theorem seqR{f:TV→Option TV}(hf:∀x y v,RelT w E r x v→f x=some y→RelT w E' r' y v){xs ys:List TV}{vs:List Value}(hl:xs.length=vs.length)(h:∀(j:Nat) c v,xs[j]?=some c→vs[j]?=some v→RelT w E r c v)(hs:seqO f xs=some ys):
  ys.length=vs.length∧∀(j:Nat) c v,ys[j]?=some c→vs[j]?=some v→RelT w E' r' c v:=by
 obtain⟨h1,h2⟩:=z38 hs;refine⟨by omega,fun j c v hc hv=> ?_⟩;have hj:j<xs.length:=by grind
 obtain⟨z,hz1,hz2⟩:=h2 j xs[j] (gE hj)
 grind
theorem renF_rel(hρ:RenOk E r ρ E' r')(hk:∀b o u,E.K b o→w.cell? ⟨b,o,none⟩=some u→E'.K b o){x y:TV}{v:Value}(h:RelT w E r x v)(hx:x.renF ρ=some y):RelT w E' r' y v:=by
 cases x with
 |fn f a b=>
  cases h with
  |fn g xs ys us vs h1 h2 r1 r2=>
  simp only[TV.renF]at hx;split at hx
  ·rename_i a' b' ha hb;cases hx;obtain⟨l1,q1⟩:=seqR (fun _ _ _=>ren0_rel hρ hk) h1 r1 ha;obtain⟨l2,q2⟩:=seqR (fun _ _ _=>ren0_rel hρ hk) h2 r2 hb;exact .fn f a' b' us vs l1 l2 q1 q2
  ·cases hx
 |_=>exact ren0_rel hρ hk h hx
theorem renE_rel(hρ:RenOk E r ρ E' r')(hk:∀b o u,E.K b o→w.cell? ⟨b,o,none⟩=some u→E'.K b o){x y:TV}{v:Value}(h:RelT w E r x v)(hx:x.renE ρ=some y):RelT w E' r' y v:=by
 cases x with
 |agg cs=>
  cases h with
  |agg cs vs hl h ho=>
  simp only[TV.renE]at hx;obtain⟨l,h1,rfl⟩:=gO hx;obtain⟨l1,q1⟩:=seqR (fun _ _ _=>renF_rel hρ hk) hl h h1;exact .agg l vs l1 q1 ho
 |_=>exact renF_rel hρ hk h hx
theorem ren1_rel(hρ:RenOk E r ρ E' r')(hk:∀b o u,E.K b o→w.cell? ⟨b,o,none⟩=some u→E'.K b o){x y:TV}{v:Value}(h:RelT w E r x v)(hx:x.ren1 ρ=some y):RelT w E' r' y v:=by
 cases x with
 |mp ks xs=>
  cases h with
  |mp ks xs b es clock g h1 h2 h3 h4 h=>
  simp only[TV.ren1]at hx;obtain⟨l,hs,rfl⟩:=gO hx;obtain⟨l1,q1⟩:=z38 hs;refine .mp ks l b es clock g h1 h2 (by omega) h4 (fun j z hz=> ?_);have hj:j<xs.length:=by grind
  obtain⟨z',hz1,hz2⟩:=q1 j xs[j] (gE hj);rw[hz]at hz1;cases hz1;exact renE_rel hρ hk (h j _ (gE hj)) hz2
 |_=>exact renF_rel hρ hk h hx
theorem ren2_rel(hρ:RenOk E r ρ E' r')(hk:∀b o u,E.K b o→w.cell? ⟨b,o,none⟩=some u→E'.K b o){x y:TV}{v:Value}(h:RelT w E r x v)(hx:x.ren2 ρ=some y):RelT w E' r' y v:=by
 cases x with
 |agg cs=>
  cases h with
  |agg cs vs hl h ho=>
  simp only[TV.ren2]at hx;obtain⟨l,h1,rfl⟩:=gO hx;obtain⟨l1,q1⟩:=seqR (fun _ _ _=>ren1_rel hρ hk) hl h h1;exact .agg l vs l1 q1 ho
 |_=>exact ren1_rel hρ hk h hx
theorem z131(hρ:RenOk E r ρ E' r')(hk:∀b o u,E.K b o→w.cell? ⟨b,o,none⟩=some u→E'.K b o){x y:TV}{v:Value}(h:RelT w E r x v)(hx:x.ren3 ρ=some y):RelT w E' r' y v:=by
 cases x with
 |tuple cs=>
  cases h with
  |tuple cs vs hl h=>
  simp only[TV.ren3]at hx;obtain⟨l,h1,rfl⟩:=gO hx;obtain⟨l1,q1⟩:=seqR (fun _ _ _=>ren2_rel hρ hk) hl h h1;exact .tuple l vs l1 q1
 |_=>exact ren2_rel hρ hk h hx
def Does(P:Program)(B:Base)(s':FS)(x:TV)(a:Act)(w:World)(o:Oper):Prop:=
 ∃nx v w' E',(execOp a.eval o).run P w=.ok nx w'∧(nx=.value v∨(nx=.skip∧v=undef))∧Sim B s' a w' E'∧RelT w' E' s'.r x v
theorem z162(h:Sim B s a w E){o:Oper}{x:TV}{v:Value}(hr:(execOp a.eval o).run P w=.ok (.value v) w)(hx:RelT w E s.r x v):Does P B s x a w o:=⟨_,v,w,E,hr,.inl rfl,h,hx⟩
theorem scal_inv{m:Sem Value}{x:TV}{u:Upd}(h:scal P m=some (x,u)):∃v,x=.pv (.v v)∧u=.no∧∀w,m.run P w=.ok v w:=by
 simp only[scal]at h
 grind [Option.map_eq_some_iff,pureRun_run]
theorem Sim.adopt(h:Sim B s a w E){d:Nat}(hno:¬B.old d)(hf:Fresh s d)(e W:Nat):∃E',E'.β=E.β∧E'.K=E.K∧E'.γ d=none∧Sim B (s.setR d (e,W,0)) a w E'∧∀x v,¬Ment d x→RelT w E s.r x v→RelT w E' (s.setR d (e,W,0)).r x v:=by
 obtain⟨hf1,hf2,hf3,_⟩:=hf;let E':Env:={ E with γ:=fun j=>if j=d then none else E.γ j }
 have hm:∀x v,¬Ment d x→RelT w E s.r x v→RelT w E' (s.setR d (e,W,0)).r x v:=by
  intro x v hx hrel;refine hrel.mono (fun b o u h1 h2=>⟨h1,h2⟩) (fun _ _=>⟨rfl,rfl⟩) (fun d' e' W' n hd' h1=> ?_) (.refl _);have hne:d'≠d:=by grind
  simp only[FS.setR,setF_ne _ _ hne]at h1
  grind
 have hne:∀{d':Nat} {q:Nat×Nat×Nat},s.r d'=some q→d'≠d:=by grind
 have hr':∀{d':Nat} {q:Nat×Nat×Nat},(s.setR d (e,W,0)).r d'=some q→(d'=d∧q=(e,W,0))∨s.r d'=some q:=by
  intro d' q h1;rcases z31 h1 with h2|⟨_,h2⟩<;>grind
 have hg:E'.γ d=none:=by simp[E']
 have hg':∀{d':Nat},d'≠d→E'.γ d'=E.γ d':=fun hd=>by simp[E',hd]
 refine⟨E',rfl,rfl,hg,⟨h.defers,h.size,fun k x hx=>⟨(h.tmp k x hx).1,hm _ _ (fun hd=>hf1 (.inl ⟨k,x,hx,hd⟩)) (h.tmp k x hx).2⟩,⟨fun d' cs hd=> ?_,fun d' e' W' n hd=> ?_,h.mem.bb,fun d1 d2 c q b cap h1 h2 h3=> ?_,fun d1 d2 q q' b c1 c2 h1 h2 h3 h4=> ?_,h.mem.lt,h.mem.low,h.mem.keep,h.mem.knew,⟨h.mem.pas.β,fun d' ho h0=>by rw[hg' (fun e=>hno (e▸ho))];exact h.mem.pas.γ d' ho h0,fun d' e' W' n ho hd=> ?_⟩⟩,h.itr,h.ii⟩,hm⟩
 ·obtain⟨h1,h2⟩:=h.mem.box d' cs hd;refine⟨⟨h1.lt,h1.obj,h1.fz,fun j c hc=> ?_,h1.out⟩,h2⟩;obtain⟨v,c1,c2,c3⟩:=h1.cell j c hc;exact⟨v,c1,c2,hm _ _ (fun hd'=>hf1 (.inr ⟨d',cs,c,hd,gM hc,hd'⟩)) c3⟩
 ·rcases hr' hd with⟨rfl,h2⟩|h1
  ·grind
  ·rw[hg' (hne h1)];rcases h.mem.row d' e' W' n h1 with h2|⟨b,cap,h2,h3,h4⟩
   ·grind
   ·exact .inr ⟨b,cap,h2,h3,h4.cells,h4.le,h4.max,h4.out⟩
 ·rcases hr' h2 with⟨rfl,_⟩|h2
  ·grind
  ·rw[hg' (hne h2)]at h3;exact h.mem.br d1 d2 c q b cap h1 h2 h3
 ·rcases hr' h1 with⟨rfl,_⟩|h1
  ·grind
  ·rcases hr' h2 with⟨rfl,_⟩|h2
   ·grind
   ·rw[hg' (hne h1)]at h3;rw[hg' (hne h2)]at h4;exact h.mem.rr d1 d2 q q' b c1 c2 h1 h2 h3 h4
 ·rcases hr' hd with⟨rfl,_⟩|h1
  ·grind
  ·rw[hg' (hne h1)];exact h.mem.pas.row d' e' W' n ho h1
theorem news_of{W:Nat}{es:List (List PV)}{v:Value}(hW:0<W)(h:RelV w E.K (.sl W es) v):∃(news:List Value) (f:Nat→Nat→Value),News w E.K W es news f∧news.length=es.length*W∧(∀u∈news,one u)∧
  ∃p cap,v=.slice p es.length cap∧(es=[]∨∃ad,p=some ad∧∀(j:Nat) u,news[j]?=some u→w.cell? (ad.add j)=some u):=by
 obtain⟨b,off,cap,p,f,rfl,hp,hcap,hmax,hWs,hc⟩:=z66 h;let news:List Value:=(List.range (es.length*W)).map fun q=>f (q / W) (q%W)
 have hget:∀(q:Nat) u,news[q]?=some u→q<es.length*W∧u=f (q / W) (q%W)∧∃cs c,es[q / W]?=some cs∧cs[q%W]?=some c:=by
  intro q u hq;have hlt:q<es.length*W:=by grind
  simp[news,hlt]at hq;have hi:q / W<es.length:=Nat.div_lt_of_lt_mul (by rw[Nat.mul_comm];exact hlt);have hcl:=hWs es[q / W] (List.getElem_mem hi);have hj:q%W<(es[q / W]).length:=by rw[hcl];exact Nat.mod_lt _ hW
  simp_all
 have hdm:∀q,q / W*W+q%W=q:=fun q=>by rw[Nat.mul_comm];exact Nat.div_add_mod q W
 refine⟨news,f,⟨hWs,fun i j cs c h1 h2=> ?_⟩,by simp[news],fun u hu=> ?_,p,cap,rfl,?_⟩
 ·have hi:i<es.length:=(gJ h1).1
  grind [idx_lt]
 ·grind [List.getElem?_of_mem]
 ·by_cases he:es=[]
  ·grind
  ·refine .inr ⟨⟨b,off,none⟩,hp he,fun j u hu=> ?_⟩;obtain⟨_,rfl,cs,c,h1,h2⟩:=hget j u hu;rw[Addr.add_mid,show off+j=off+j / W*W+j%W by rw[Nat.add_assoc,hdm]]
   grind
theorem src_of{W:Nat}{es:List (List PV)}{v:Value}(hW:0<W)(h:RelV w E.K (.sl W es) v){tx e':TypeId}(htx:P.underlying tx=some (.slice e')):∃(news:List Value) (f:Nat→Nat→Value),News w E.K W es news f∧Src P W tx v es.length news w:=by
 obtain⟨news,f,h1,h2,h3,p,cap,rfl,h4⟩:=news_of hW h;refine⟨news,f,h1,?_⟩;rcases h4 with rfl|⟨ad,rfl,h4⟩
 ·have:news=[]:=List.eq_nil_of_length_eq_zero (by simpa using h2);subst this;cases p with
  |none=>exact Src.ofNil w htx cap
  |some ad=>exact Src.ofSlice w htx ad 0 cap [] (by simp) (by simp) (by simp)
 ·exact Src.ofSlice w htx ad es.length cap news h2 h4 h3
theorem src_str{tx:TypeId}(b:ByteArray)(htx:P.underlying tx=some .string):∃(news:List Value) (f:Nat→Nat→Value),News w E.K 1 (bytesP b) news f∧Src P 1 tx (.string b) (bytesP b).length news w:=by
 have hl:(bytesP b).length=b.size:=by unfold bytesP;rw[List.length_map,Array.length_toList];rfl
 refine⟨byteCells b,fun i _=>(byteCells b).getD i undef,⟨fun cs hcs=> ?_,fun i j cs c h1 h2=> ?_⟩,by rw[hl];exact Src.ofString w htx b⟩
 ·grind [bytesP]
 ·simp only[bytesP,List.getElem?_map]at h1;obtain⟨u,hu,rfl⟩:=gO h1;cases j with
  |succ j=>simp at h2
  |zero=>
   simp at h2;subst h2;have:(byteCells b)[i]?=some (.int .u8 u.toNat):=by simp only[byteCells,List.getElem?_map];rw[hu];rfl
   have hget:(byteCells b).getD i undef=.int .u8 u.toNat:=by grind
   rw[Nat.mul_one,Nat.add_zero,hget];exact⟨this,rfl,.v _⟩
end
section
variable{B:Base}{s:FS}{a:Act}{w w':World}{E E':Env}{P:Program}{I:List Nat}
theorem z130:∀{I:List Nat} {d j:Nat},pos I d=some j→I[j]?=some d
 |[],_,_,h=>by simp[pos]at h
 |x::l,d,j,h=>by
  simp only[pos]at h;split at h
  ·grind [Nat.eq_of_beq_eq_true]
  ·obtain⟨i,h1,rfl⟩:=gO h;simpa using z130 h1
theorem pos_none:∀{I:List Nat} {d:Nat},pos I d=none→d∉I
 |[],_,_=>by simp
 |x::l,d,h=>by
  simp only[pos]at h;split at h
  ·cases h
  ·rename_i hx;have:pos l d=none:=by simp_all
   have hne:d≠x:=by grind [Nat.beq_refl]
   simp[hne,pos_none this]
theorem z69{I:List Nat}(hI:I.Nodup){d j:Nat}(h:I[j]?=some d):pos I d=some j:=by
 cases hp:pos I d with
 |none=>exact absurd (gM h) (pos_none hp)
 |some i=>
  have hi:=z130 hp
  grind [List.getElem?_eq_some_iff,List.getElem_inj]
theorem objB_eq{os:List MO}{j:Nat}{cs:List TV}(h:os[j]?=some (.box cs)):objB os (1000+j)=some cs:=by simp[objB,h]
theorem z49{os:List MO}{j e W n:Nat}(h:os[j]?=some (.row e W n)):objR os (1000+j)=some (e,W,n):=by simp[objR,h]
theorem z43{os:List MO}{d:Nat}{cs:List TV}(h:objB os d=some cs):∃j,d=1000+j∧os[j]?=some (.box cs):=by
 grind [objB]
theorem z27{os:List MO}{d e W n:Nat}(h:objR os d=some (e,W,n)):∃j,d=1000+j∧os[j]?=some (.row e W n):=by
 grind [objR]
def envIn(E:Env)(I:List Nat):Env:={ K:=E.K,β:=fun d=>E.β (I.getD (d-1000) 0),γ:=fun d=>E.γ (I.getD (d-1000) 0),ι:=E.ι }
theorem handed{os:List MO}(hos:seqO (fun d=>(s.mo d).bind (MO.ren (rhoIn I))) I=some os):
  I.length=os.length∧(∀(j:Nat) cs',os[j]?=some (MO.box cs')→∃i cs,I[j]?=some i∧s.b i=some cs∧seqO (TV.ren1 (rhoIn I)) cs=some cs'∧s.r i=none)∧(∀(j e W n:Nat),os[j]?=some (MO.row e W n)→∃i,I[j]?=some i∧s.b i=none∧s.r i=some (e,W,n)):=by
 obtain⟨h1,h2⟩:=z38 hos;have key:∀(j:Nat) m,os[j]?=some m→∃i,I[j]?=some i∧(s.mo i).bind (MO.ren (rhoIn I))=some m:=by
  intro j m hm;have hj:j<I.length:=by grind
  obtain⟨y,hy1,hy2⟩:=h2 j I[j] (gE hj)
  grind
 refine⟨h1,fun j cs' hm=> ?_,fun j e W n hm=> ?_⟩
 ·obtain⟨i,hi,h3⟩:=key j _ hm;obtain⟨m,h4,h5⟩:=gB h3;unfold FS.mo at h4;split at h4
  ·rename_i cs hcs hrn;cases h4;simp only[MO.ren]at h5;simp_all
  ·grind [MO.ren]
  ·cases h4
 ·obtain⟨i,hi,h3⟩:=key j _ hm;obtain⟨m,h4,h5⟩:=gB h3;unfold FS.mo at h4;split at h4
  ·cases h4;simp only[MO.ren]at h5;simp_all
  ·rename_i hb hr;cases h4;simp only[MO.ren]at h5;cases h5
   grind
  ·cases h4
theorem getD_of{I:List Nat}{j i:Nat}(h:I[j]?=some i):I.getD (1000+j-1000) 0=i:=by
 grind
theorem renIn{os:List MO}(hos:seqO (fun d=>(s.mo d).bind (MO.ren (rhoIn I))) I=some os):RenOk E s.r (rhoIn I) (envIn E I) (objR os):=by
 obtain⟨_,_,h3⟩:=handed hos;refine⟨fun d d' hd=> ?_⟩;obtain⟨j,h1,rfl⟩:=gO hd;have hi:=z130 h1;refine⟨by simp only[envIn];rw[getD_of hi],by simp only[envIn];rw[getD_of hi],fun q hq=> ?_⟩
 grind [z27]
theorem z100(h:Sim B s a w E)(hI:I.Nodup){os:List MO}(hos:seqO (fun d=>(s.mo d).bind (MO.ren (rhoIn I))) I=some os):
  MSim (start w (envIn E I) os 0) (objB os) (objR os) w (envIn E I):=by
 obtain⟨h1,h2,h3⟩:=handed hos;have hρ:RenOk E s.r (rhoIn I) (envIn E I) (objR os):=renIn hos;have hb:∀d cs',objB os d=some cs'→∃j i cs,d=1000+j∧I[j]?=some i∧s.b i=some cs∧seqO (TV.ren1 (rhoIn I)) cs=some cs'∧(envIn E I).β d=E.β i:=by
  intro d cs' hd;obtain⟨j,rfl,hj⟩:=z43 hd;obtain⟨i,cs,q1,q2,q3,_⟩:=h2 j cs' hj;exact⟨j,i,cs,rfl,q1,q2,q3,by simp only[envIn];rw[getD_of q1]⟩
 have hr:∀d e W n,objR os d=some (e,W,n)→∃j i,d=1000+j∧I[j]?=some i∧s.r i=some (e,W,n)∧(envIn E I).γ d=E.γ i:=by
  intro d e W n hd;obtain⟨j,rfl,hj⟩:=z27 hd;obtain⟨i,q1,q2,q3⟩:=h3 j e W n hj;exact⟨j,i,rfl,q1,q3,by simp only[envIn];rw[getD_of q1]⟩
 have inj:∀{j j' i:Nat},I[j]?=some i→I[j']?=some i→j=j':=fun {j j' i} q1 q2=>by
  have a1:=z69 hI q1;have a2:=z69 hI q2
  grind
 refine⟨fun d cs' hd=> ?_,fun d e W n hd=> ?_,fun d d' cs cs' e1 e2 e3=> ?_,fun d d' cs q k cap e1 e2 e3=> ?_,fun d d' q q' k cap cap' e1 e2 e3 e4=> ?_,h.mem.lt,⟨rfl,rfl,rfl,Nat.le_refl _,fun _ _ _=>rfl⟩,fun k o u e1 e2=>⟨e1,e2⟩,fun k o e1=> .inl e1,⟨fun _ _=>rfl,fun _ _ _=>rfl,fun d e W n _ hd=>⟨n,hd,Nat.le_refl _,fun _=>rfl⟩⟩⟩
 ·obtain⟨j,i,cs,rfl,q1,q2,q3,q4⟩:=hb d cs' hd;refine⟨?_,.inr (.inl ⟨cs',hd,rfl⟩)⟩;rw[q4];obtain⟨b1,_⟩:=h.mem.box i cs q2;refine⟨b1.lt,b1.obj,b1.fz,fun m c hc=> ?_,b1.out⟩;obtain⟨l1,l2⟩:=z38 q3;have hm:m<cs.length:=by grind
  obtain⟨z,z1,z2⟩:=l2 m cs[m] (gE hm);rw[hc]at z1;cases z1;obtain⟨v,c1,c2,c3⟩:=b1.cell m cs[m] (gE hm);exact⟨v,c1,c2,ren1_rel hρ (fun _ _ _ h _=>h) c3 z2⟩
 ·obtain⟨j,i,rfl,q1,q2,q3⟩:=hr d e W n hd;rw[q3];rcases h.mem.row i e W n q2 with h4|⟨k,cap,h4,h5,h6⟩
  ·grind
  ·exact .inr ⟨k,cap,h4,.inr (.inr ⟨_,cap,hd,by rw[q3];exact h4⟩),h6.cells,h6.le,h6.max,h6.out⟩
 ·obtain⟨j,i,c1,rfl,q1,q2,q3,q4⟩:=hb d cs e1;obtain⟨j',i',c1',rfl,q1',q2',q3',q4'⟩:=hb d' cs' e2;rw[q4,q4']at e3;obtain rfl:=h.mem.bb i i' _ _ q2 q2' e3
  grind
 ·obtain⟨j,i,c1,rfl,q1,q2,q3,q4⟩:=hb d cs e1;obtain⟨e,W,n⟩:=q;obtain⟨j',i',rfl,q1',q2',q3'⟩:=hr d' e W n e2;rw[q4];rw[q3']at e3;exact h.mem.br i i' _ _ k cap q2 q2' e3
 ·obtain⟨e,W,n⟩:=q;obtain⟨e',W',n'⟩:=q';obtain⟨j,i,rfl,q1,q2,q3⟩:=hr d e W n e1;obtain⟨j',i',rfl,q1',q2',q3'⟩:=hr d' e' W' n' e2;rw[q3]at e3;rw[q3']at e4;obtain rfl:=h.mem.rr i i' _ _ k cap cap' q2 q2' e3 e4
  grind
def newAt(k i:Nat):Option Nat:=if i=newId k 0 then some 0 else if i=newId k 1 then some 1 else if i=newId k 2 then some 2 else if i=newId k 3 then some 3 else none
theorem newAt_id{k q:Nat}(h:q<4):newAt k (newId k q)=some q:=by
 match q,h with
 |0,_=>simp[newAt,newId]
 |1,_=>simp[newAt,newId]
 |2,_=>simp[newAt,newId]
 |3,_=>simp[newAt,newId]
theorem newAt_some{k i q:Nat}(h:newAt k i=some q):i=newId k q∧q<4:=by
 grind [newAt]
def backAt(I:List Nat)(k i:Nat):Option Nat:=match pos I i with|some j=>some (1000+j)|none=>(newAt k i).map (1000+I.length+·)
def envOut(E E':Env)(I:List Nat)(k:Nat):Env:={ K:=E'.K,β:=fun i=>match backAt I k i with|some d=>E'.β d|none=>E.β i,γ:=fun i=>match backAt I k i with|some d=>E'.γ d|none=>E.γ i,ι:=E.ι }
theorem back_out(hI:I.Nodup){k d i:Nat}(hn:∀q<4,newId k q∉I)(h:rhoOut I k d=some i):backAt I k i=some d:=by
 unfold rhoOut at h;split at h
 ·rename_i h1;have h1:=Nat.le_of_ble_eq_true h1;split at h
  ·rename_i x hx;cases h;unfold backAt;rw[z69 hI hx]
   grind
  ·rename_i hx;split at h
   ·rename_i hq;rw[Nat.blt_eq]at hq;cases h;have hl:I.length≤d-1000:=by grind
    unfold backAt;cases hp:pos I (newId k (d-1000-I.length))with
    |some j=>exact absurd (gM (z130 hp)) (hn _ hq)
    |none=>simp only[newAt_id hq,Option.map_some];congr 1;omega
   ·cases h
 ·cases h
theorem out_back{k d i:Nat}(h:backAt I k i=some d):rhoOut I k d=some i∧1000≤d:=by
 unfold backAt at h;split at h
 ·grind [z130,rhoOut,Nat.ble_eq_true_of_le,Nat.add_sub_cancel_left]
 ·obtain⟨q,h1,rfl⟩:=gO h;obtain⟨rfl,hq⟩:=newAt_some h1;refine⟨?_,by omega⟩;unfold rhoOut;rw[if_pos (Nat.ble_eq_true_of_le (by omega)),List.getElem?_eq_none (by omega)];simp only;have e:1000+I.length+q-1000-I.length=q:=by omega
  simp_all
theorem outs_spec{ρ:Nat→Option Nat}:∀{l:List MO} {j:Nat} {us:List (Nat×MO)},outs ρ j l=some us→(∀i m',us.lookup i=some m'→∃(q:Nat) (m:MO),l[q]?=some m∧ρ (1000+(j+q))=some i∧m.ren ρ=some m')∧(∀(q:Nat) m,l[q]?=some m→∃i m',ρ (1000+(j+q))=some i∧m.ren ρ=some m'∧(i,m')∈us)
 |[],j,us,h=>by simp[outs]at h;subst h;exact⟨fun i m' h=>by simp at h,fun q m h=>by simp at h⟩
 |m::l,j,us,h=>by
  simp only[outs]at h;split at h
  ·rename_i i m' r h1 h2 h3;cases h;obtain⟨q1,q2⟩:=outs_spec h3;refine⟨fun x y hx=> ?_,fun q y hy=> ?_⟩
   ·simp only[List.lookup]at hx;split at hx
    ·rename_i he;cases hx;obtain rfl:x=i:=by grind
     exact⟨0,m,rfl,h1,h2⟩
    ·obtain⟨q,m0,a1,a2,a3⟩:=q1 x y hx;exact⟨q+1,m0,by simpa using a1,by rw[←a2];congr 2;omega,a3⟩
   ·grind
  ·cases h
theorem lookup_of_mem{us:List (Nat×MO)}{i:Nat}{m:MO}(h:(i,m)∈us):∃m',us.lookup i=some m':=by
 induction us with
 |nil=>simp at h
 |cons p l ih=>
  obtain⟨x,y⟩:=p;simp only[List.lookup];cases he:(i==x)<;>grind
theorem z99:∀{os os':List MO},moOk os os'=true→os'.length≤os.length+4∧os.length≤os'.length∧(∀(j:Nat) cs,os[j]?=some (MO.box cs)→∃cs',os'[j]?=some (MO.box cs'))∧(∀(j e W n:Nat),os[j]?=some (MO.row e W n)→∃n',os'[j]?=some (MO.row e W n')∧n≤n')
 |[],l,h=>by simp only[moOk]at h;have:=Nat.le_of_ble_eq_true h;exact⟨by simpa using this,by simp,by simp,by simp⟩
 | .box c::l,[],h=>by simp[moOk]at h
 | .box c::l,.row _ _ _::l',h=>by simp[moOk]at h
 | .row _ _ _::l,[],h=>by simp[moOk]at h
 | .row _ _ _::l,.box _::l',h=>by simp[moOk]at h
 | .box c::l,.box c'::l',h=>by
  simp only[moOk]at h;obtain⟨a1,a2,a3,a4⟩:=z99 h;refine⟨by simp;omega,by simp;omega,fun j cs hj=> ?_,fun j e W n hj=> ?_⟩
  ·cases j with
   |zero=>exact⟨c',rfl⟩
   |succ j=>simpa using a3 j cs (by simpa using hj)
  ·cases j with
   |zero=>simp at hj
   |succ j=>simpa using a4 j e W n (by simpa using hj)
 | .row e0 W0 n0::l,.row e1 W1 n1::l',h=>by
  simp only[moOk,Bool.and_eq_true]at h;obtain⟨⟨⟨b1,b2⟩,b3⟩,h⟩:=h;obtain⟨a1,a2,a3,a4⟩:=z99 h;obtain rfl:=Nat.eq_of_beq_eq_true b1;obtain rfl:=Nat.eq_of_beq_eq_true b2;have b3:=Nat.le_of_ble_eq_true b3;refine⟨by simp;omega,by simp;omega,fun j cs hj=> ?_,fun j e W n hj=> ?_⟩
  ·cases j with
   |zero=>simp at hj
   |succ j=>simpa using a3 j cs (by simpa using hj)
  ·cases j with
   |zero=>simp at hj;obtain⟨rfl,rfl,rfl⟩:=hj;exact⟨n1,rfl,b3⟩
   |succ j=>simpa using a4 j e W n (by simpa using hj)
end
section
variable{B:Base}{s:FS}{a:Act}{w w':World}{E E':Env}{P:Program}{I:List Nat}
def BoxWas(s:FS)(w:World)(E:Env)(i b:Nat):Prop:=w.heap.size≤b∨∃cs,s.b i=some cs∧E.β i=b
def RowWas(s:FS)(w:World)(E:Env)(i b:Nat):Prop:=w.heap.size≤b∨∃q cap,s.r i=some q∧E.γ i=some (b,cap)
theorem z154(h:Sim B s a w E)(hI:I.Nodup)(hIm:∀i∈I,s.ment i){k:Nat}(hm0:B.m≤1000)(hfr:∀q<4,Fresh s (newId k q)){os os':List MO}(hos:seqO (fun d=>(s.mo d).bind (MO.ren (rhoIn I))) I=some os)
  (hok:moOk os os'=true) {us:List (Nat×MO)} (hus:outs (rhoOut I k) 0 os'=some us) (hm:MSim (start w (envIn E I) os 0) (objB os') (objR os') w' E') (hl:Left (envIn E I) os E' os') (dst:Option Nat):
  Sim B (s.upd dst (.mem us)) a w' (envOut E E' I k)∧RenOk E' (objR os') (rhoOut I k) (envOut E E' I k) (s.upd dst (.mem us)).r:=by
 obtain⟨hlen,hB,hR⟩:=handed hos;obtain⟨ok1,ok2,ok3,ok4⟩:=z99 hok;have hn:∀q<4,newId k q∉I:=fun q hq hmem=>(hfr q hq).1 (hIm _ hmem);obtain⟨o1,o2⟩:=outs_spec hus;simp only[Nat.zero_add]at o1 o2;have hback:∀{d i},rhoOut I k d=some i→backAt I k i=some d:=fun hd=>back_out hI hn hd;have hL:∀{i m'},us.lookup i=some m'→∃(q:Nat) (m:MO),os'[q]?=some m∧backAt I k i=some (1000+q)∧rhoOut I k (1000+q)=some i∧m.ren (rhoOut I k)=some m':=fun hi=>by
  obtain⟨q,m,a1,a2,a3⟩:=o1 _ _ hi;exact⟨q,m,a1,hback a2,a2,a3⟩
 have hposIn:∀{i},i∈I→∃j,I[j]?=some i∧pos I i=some j∧backAt I k i=some (1000+j)∧j<os.length:=fun {i} hi=>by
  obtain⟨j,hj⟩:=List.getElem?_of_mem hi;have hp:=z69 hI hj;exact⟨j,hj,hp,by simp[backAt,hp],by rw[←hlen];exact(gJ hj).1⟩
 have hLin:∀{i},i∈I→∃m',us.lookup i=some m':=fun {i} hi=>by
  obtain⟨j,h1,h2,h3,h4⟩:=hposIn hi;obtain⟨i',m',b1,b2,b3⟩:=o2 j _ (gE (show j<os'.length by omega));have:rhoOut I k (1000+j)=some i:=(out_back h3).1;rw[this]at b1;cases b1;exact lookup_of_mem b3
 have hold:∀i,(∀q<4,i≠newId k q)→i∉I→backAt I k i=none:=fun i h1 h2=>by
  unfold backAt;cases hp:pos I i with
  |some j=>exact absurd (gM (z130 hp)) h2
  |none=>
   cases hq:newAt k i with
   |none=>rfl
   |some q=>obtain⟨e,hq⟩:=newAt_some hq;exact absurd e (h1 q hq)
 have hmold:∀{i},s.ment i→∀q<4,i≠newId k q:=fun hi q hq e=>(hfr q hq).1 (e▸hi);have hbold:∀{i cs},s.b i=some cs→∀q<4,i≠newId k q:=fun hi q hq e=>by have:=(hfr q hq).2.1;rw[←e,hi]at this;cases this
 have hrold:∀{i x},s.r i=some x→∀q<4,i≠newId k q:=fun hi q hq e=>by have:=(hfr q hq).2.2.1;rw[←e,hi]at this;cases this
 have hβ:∀{i},(∀q<4,i≠newId k q)→(envOut E E' I k).β i=E.β i:=fun {i} hi=>by
  by_cases hmem:i∈I
  ·obtain⟨j,h1,h2,h3,h4⟩:=hposIn hmem;simp only[envOut,h3];rw[hl.beta (1000+j) (by omega) (by omega)];simp only[envIn];rw[getD_of h1]
  ·simp only[envOut,hold i hi hmem]
 have hγout:∀{i},(∀q<4,i≠newId k q)→i∉I→(envOut E E' I k).γ i=E.γ i:=fun {i} hi hmem=>by simp only[envOut,hold i hi hmem]
 have hγin:∀{i j},I[j]?=some i→(envIn E I).γ (1000+j)=E.γ i:=fun hj=>by simp only[envIn];rw[getD_of hj]
 have hβin:∀{i j},I[j]?=some i→(envIn E I).β (1000+j)=E.β i:=fun hj=>by simp only[envIn];rw[getD_of hj]
 have hγbox:∀{i},(∀q<4,i≠newId k q)→(∀e W n,us.lookup i≠some (.row e W n))→(envOut E E' I k).γ i=E.γ i:=fun {i} hi hnr=>by
  by_cases hmem:i∈I
  ·obtain⟨j,h1,h2,h3,h4⟩:=hposIn hmem;obtain⟨m',hm'⟩:=hLin hmem;obtain⟨q,m,a1,a2,a3,a4⟩:=hL hm';have hq:q=j:=by rw[h3]at a2;have:=Option.some.inj a2;omega
   subst hq;have hrn:objR os (1000+q)=none:=by
    cases hx:objR os (1000+q)with
    |none=>rfl
    |some x=>
     obtain⟨e,W,n⟩:=x;obtain⟨j',hj',hj2⟩:=z27 hx;obtain rfl:q=j':=by omega
     obtain⟨n',hn',_⟩:=ok4 q e W n hj2;rw[hn']at a1;cases a1;simp only[MO.ren]at a4;cases a4;exact absurd hm' (hnr _ _ _)
   simp only[envOut,h3];rw[hl.gamma (1000+q) (by omega) (by omega) hrn];exact hγin h1
  ·exact hγout hi hmem
 have hren:RenOk E' (objR os') (rhoOut I k) (envOut E E' I k) (s.upd dst (.mem us)).r:=by
  refine⟨fun d i hd=> ?_⟩;have hb:=hback hd;refine⟨by simp only[envOut,hb],by simp only[envOut,hb],fun q hq=> ?_⟩;obtain⟨e,W,n⟩:=q;obtain⟨j,rfl⟩:∃j,d=1000+j:=⟨d-1000,by have:=(out_back hb).2;omega⟩
  simp only[FS.upd,memR]at hq;split at hq
  ·rename_i e' W' n' hlk;cases hq;obtain⟨q,m,a1,a2,a3,a4⟩:=hL hlk;rw[hb]at a2;obtain rfl:j=q:=by have:=Option.some.inj a2;omega
   cases m with
   |box cs=>simp only[MO.ren]at a4;obtain⟨_,_,h6⟩:=gO a4;cases h6
   |row e W n=>simp only[MO.ren]at a4;cases a4;exact z49 a1
  ·rename_i hnr;exfalso;by_cases hmem:i∈I
   ·obtain⟨j',h1,h2,h3,h4⟩:=hposIn hmem;obtain⟨m',hm'⟩:=hLin hmem;obtain⟨q,m,a1,a2,a3,a4⟩:=hL hm';obtain rfl:j'=q:=by rw[h3]at a2;have:=Option.some.inj a2;omega
    cases hx:os[j']with
    |box cs=>
     obtain⟨i',c,b1,b2,b3,b4⟩:=hB j' cs (by rw[←hx];exact gE h4);rw[h1]at b1;cases b1;rw[b4]at hq;cases hq
    |row e0 W0 n0=>
     obtain⟨n',hn',_⟩:=ok4 j' e0 W0 n0 (by rw[←hx];exact gE h4);rw[hn']at a1;cases a1;simp only[MO.ren]at a4;cases a4;exact hnr _ _ _ hm'
   ·have hnew:∃q,q<4∧i=newId k q:=by
     unfold backAt at hb;cases hp:pos I i with
     |some j=>exact absurd (gM (z130 hp)) hmem
     |none=>
      rw[hp]at hb;obtain⟨q,h1,_⟩:=gO hb;obtain⟨e,hq'⟩:=newAt_some h1;exact⟨q,hq',e⟩
    obtain⟨q,hq1,rfl⟩:=hnew;rw[(hfr q hq1).2.2.1]at hq;cases hq
 refine⟨?_,hren⟩;have hk:∀b o u,E.K b o→w.cell? ⟨b,o,none⟩=some u→(envOut E E' I k).K b o∧w'.cell? ⟨b,o,none⟩=some u:=hm.keep;have hrr:∀d e W n,s.ment d→(s.upd dst (.mem us)).r d=some (e,W,n)→(s.r d=some (e,W,n)∧(envOut E E' I k).γ d=E.γ d)∨(∃m,s.r d=some (e,W,m)∧m<n):=by
  intro d e W n hd hr;simp only[FS.upd,memR]at hr;split at hr
  ·rename_i e' W' n' hlk;cases hr;obtain⟨q,m,a1,a2,a3,a4⟩:=hL hlk;have hmem:d∈I:=by
    apply Classical.byContradiction;intro hno;rw[hold d (hmold hd) hno]at a2;cases a2
   obtain⟨j,h1,h2,h3,h4⟩:=hposIn hmem;obtain rfl:j=q:=by rw[h3]at a2;have:=Option.some.inj a2;omega
   cases m with
   |box cs=>simp only[MO.ren]at a4;obtain⟨_,_,h6⟩:=gO a4;cases h6
   |row e1 W1 n1=>
    simp only[MO.ren]at a4;cases a4;cases hx:os[j]with
    |box cs=>
     obtain⟨cs',hcs'⟩:=ok3 j cs (by rw[←hx];exact gE h4);rw[hcs']at a1;cases a1
    |row e0 W0 n0=>
     have hxo:os[j]?=some (.row e0 W0 n0):=by rw[←hx];exact gE h4
     obtain⟨i',b1,b2,b3⟩:=hR j e0 W0 n0 hxo;rw[h1]at b1;cases b1;obtain⟨n',c1,c2,c3⟩:=hl.row (1000+j) e0 W0 n0 (z49 hxo);rw[z49 a1]at c1;have c1':=Option.some.inj c1;simp only[Prod.mk.injEq]at c1';obtain⟨rfl,rfl,rfl⟩:=c1';rcases Nat.lt_or_ge n0 n with hlt|hge
     ·exact .inr ⟨n0,b3,hlt⟩
     ·obtain rfl:n0=n:=by omega
      refine .inl ⟨b3,?_⟩;simp only[envOut,h3];rw[c3 rfl];exact hγin h1
  ·rename_i hnr;exact .inl ⟨hr,hγbox (hmold hd) (fun e W n=>hnr e W n)⟩
 have hXbox:∀{d b},objX (envIn E I) os d b→(∃i cs,s.b i=some cs∧i∈I∧E.β i=b)∨(∃i q cap,s.r i=some q∧i∈I∧s.b i=none∧E.γ i=some (b,cap)):=by
  intro d b hx;rcases hx with⟨cs,h1,h2⟩|⟨⟨e,W,n⟩,cap,h1,h2⟩
  ·obtain⟨j,rfl,hj⟩:=z43 h1;obtain⟨i,c,b1,b2,_⟩:=hB j cs hj;exact .inl ⟨i,c,b2,gM b1,by rw[←hβin b1];exact h2⟩
  ·obtain⟨j,rfl,hj⟩:=z27 h1;obtain⟨i,b1,b2,b3⟩:=hR j e W n hj;exact .inr ⟨i,_,cap,b3,gM b1,b2,by rw[←hγin b1];exact h2⟩
 have hrowlt:∀{i q b cap},s.r i=some q→E.γ i=some (b,cap)→∃c e,w.heap[b]?=some (.cells c e (0,0)):=by
  intro i q b cap h1 h2;rcases h.mem.row i q.1 q.2.1 q.2.2 h1 with⟨h3,_⟩|⟨b',c',h3,_,h5⟩
  ·rw[h3]at h2;cases h2
  ·rw[h3]at h2;cases h2;obtain⟨cur,hc,_⟩:=h5.cells;exact⟨cur,_,hc⟩
 have hmaps:Maps w w':=by
  intro b es c hb;have hlt:=(gA hb).1;refine(hm.low.block b hlt (fun d hx=> ?_)).trans hb;rcases hXbox hx with⟨i,cs,b1,_,b3⟩|⟨i,q,cap,b1,_,_,b3⟩
  ·obtain⟨c',e',z',ho⟩:=(h.mem.box i cs b1).1.obj;rw[b3,hb]at ho;cases ho
  ·obtain⟨c',e',ho⟩:=hrowlt b1 b3;rw[hb]at ho;cases ho
 have hmono:∀{x:TV} {v:Value},(∀d,Ment d x→s.ment d)→RelT w E s.r x v→RelT w' (envOut E E' I k) (s.upd dst (.mem us)).r x v:=fun hx hv=>
  hv.mono hk (fun d hd=>⟨hβ (hmold (hx d hd)),rfl⟩) (fun d e W n hd=>hrr d e W n (hx d hd)) hmaps
 have hboxsame:∀{i cs},s.b i=some cs→i∉I→∀d,¬objX (envIn E I) os d (E.β i):=by
  intro i cs h1 h2 d hx;rcases hXbox hx with⟨i',c,b1,b2,b3⟩|⟨i',q,cap,b1,b2,_,b3⟩
  ·have:=h.mem.bb i' i _ _ b1 h1 b3;subst this;exact h2 b2
  ·exact h.mem.br i i' _ _ _ cap h1 b1 b3 rfl
 have hrowsame:∀{i q b cap},s.r i=some q→(i∉I∨∃cs,s.b i=some cs)→E.γ i=some (b,cap)→∀d,¬objX (envIn E I) os d b:=by
  intro i q b cap h1 h2 h3 d hx;rcases hXbox hx with⟨i',c,b1,b2,b3⟩|⟨i',q',cap',b1,b2,b4,b3⟩
  ·exact h.mem.br i' i _ _ _ cap b1 h1 h3 b3
  ·have:=h.mem.rr i i' _ _ _ _ _ h1 b1 h3 b3;subst this;rcases h2 with h2|⟨cs,h2⟩
   ·exact h2 b2
   ·rw[h2]at b4;cases b4
 have hboxI:∀{i cs'},(s.upd dst (.mem us)).b i=some cs'→(∃(q:Nat) (c0:List TV),os'[q]?=some (.box c0)∧rhoOut I k (1000+q)=some i∧seqO (TV.ren1 (rhoOut I k)) c0=some cs'∧(envOut E E' I k).β i=E'.β (1000+q))∨(s.b i=some cs'∧i∉I∧(envOut E E' I k).β i=E.β i):=by
  intro i cs' hi;simp only[FS.upd,memB]at hi;split at hi
  ·rename_i c hlk;cases hi;obtain⟨q,m,a1,a2,a3,a4⟩:=hL hlk;cases m with
   |row e W n=>simp[MO.ren]at a4
   |box c0=>
    simp only[MO.ren]at a4;obtain⟨l,h6,h7⟩:=gO a4;cases h7;exact .inl ⟨q,c0,a1,a3,h6,by simp only[envOut,a2]⟩
  ·rename_i hnb;refine .inr ⟨hi,fun hmem=> ?_,hβ (hbold hi)⟩;obtain⟨m',hm'⟩:=hLin hmem;obtain⟨j,h1,h2,h3,h4⟩:=hposIn hmem;obtain⟨q,m,a1,a2,a3,a4⟩:=hL hm';obtain rfl:j=q:=by rw[h3]at a2;have:=Option.some.inj a2;omega
   cases hx:os[j]with
   |row e0 W0 n0=>
    obtain⟨i',b1,b2,b3⟩:=hR j e0 W0 n0 (by rw[←hx];exact gE h4);rw[h1]at b1;cases b1;rw[hi]at b2;cases b2
   |box cs=>
    obtain⟨cs2,hcs2⟩:=ok3 j cs (by rw[←hx];exact gE h4);rw[hcs2]at a1;cases a1;simp only[MO.ren]at a4;obtain⟨l,h6,h7⟩:=gO a4;subst h7;exact hnb _ hm'
 have hrowI:∀{i e W n},(s.upd dst (.mem us)).r i=some (e,W,n)→(∃q:Nat,os'[q]?=some (.row e W n)∧rhoOut I k (1000+q)=some i∧(envOut E E' I k).γ i=E'.γ (1000+q))∨(s.r i=some (e,W,n)∧(i∉I∨∃cs,s.b i=some cs)∧(envOut E E' I k).γ i=E.γ i):=by
  intro i e W n hi;simp only[FS.upd,memR]at hi;split at hi
  ·rename_i e' W' n' hlk;cases hi;obtain⟨q,m,a1,a2,a3,a4⟩:=hL hlk;cases m with
   |box c0=>simp only[MO.ren]at a4;obtain⟨_,_,h6⟩:=gO a4;cases h6
   |row e1 W1 n1=>
    simp only[MO.ren]at a4;cases a4;exact .inl ⟨q,a1,a3,by simp only[envOut,a2]⟩
  ·rename_i hnr;refine .inr ⟨hi,?_,hγbox (hrold hi) (fun e W n=>hnr e W n)⟩;by_cases hmem:i∈I
   ·right;obtain⟨m',hm'⟩:=hLin hmem;obtain⟨j,h1,h2,h3,h4⟩:=hposIn hmem;obtain⟨q,m,a1,a2,a3,a4⟩:=hL hm';obtain rfl:j=q:=by rw[h3]at a2;have:=Option.some.inj a2;omega
    cases hx:os[j]with
    |box cs=>
     obtain⟨i',c,b1,b2,_⟩:=hB j cs (by rw[←hx];exact gE h4);rw[h1]at b1;cases b1;exact⟨c,b2⟩
    |row e0 W0 n0=>
     obtain⟨n',hn',_⟩:=ok4 j e0 W0 n0 (by rw[←hx];exact gE h4);rw[hn']at a1;cases a1;simp only[MO.ren]at a4;cases a4;exact absurd hm' (hnr _ _ _)
   ·exact .inl hmem
 have hboxW:∀{q:Nat} {c0 i},os'[q]?=some (.box c0)→rhoOut I k (1000+q)=some i→BoxWas s w E i (E'.β (1000+q)):=by
  intro q c0 i h1 h2;rcases(hm.box (1000+q) c0 (objB_eq h1)).2 with h3|h3
  ·exact .inl h3
  ·right;rcases h3 with⟨cs,h4,h5⟩|⟨⟨e,W,n⟩,cap,h4,h5⟩
   ·obtain⟨j,hj,hj2⟩:=z43 h4;obtain rfl:q=j:=by omega
    obtain⟨i',c,b1,b2,_⟩:=hB q cs hj2;have:backAt I k i'=some (1000+q):=by simp[backAt,z69 hI b1]
    have:=(out_back this).1;rw[h2]at this;cases this;exact⟨c,b2,by rw[←h5];exact(hβin b1).symm⟩
   ·obtain⟨j,hj,hj2⟩:=z27 h4;obtain rfl:q=j:=by omega
    obtain⟨n',hn',_⟩:=ok4 q e W n hj2;rw[h1]at hn';cases hn'
 have hrowW:∀{q e W n i b cap:Nat},os'[q]?=some (.row e W n)→rhoOut I k (1000+q)=some i→E'.γ (1000+q)=some (b,cap)→RowWas s w E i b:=by
  intro q e W n i b cap h1 h2 h0;rcases hm.row (1000+q) e W n (z49 h1)with⟨h3,_⟩|⟨b',c',h3,h4,_⟩
  ·rw[h3]at h0;cases h0
  ·rw[h3]at h0;cases h0;rcases h4 with h4|h4
   ·exact .inl h4
   ·right;rcases h4 with⟨cs,h5,h6⟩|⟨⟨e1,W1,n1⟩,cap',h5,h6⟩
    ·obtain⟨j,hj,hj2⟩:=z43 h5;obtain rfl:q=j:=by omega
     obtain⟨cs',hn'⟩:=ok3 q cs hj2;rw[h1]at hn';cases hn'
    ·obtain⟨j,hj,hj2⟩:=z27 h5;obtain rfl:q=j:=by omega
     obtain⟨i',b1,b2,b3⟩:=hR q e1 W1 n1 hj2;have:backAt I k i'=some (1000+q):=by simp[backAt,z69 hI b1]
     have:=(out_back this).1;rw[h2]at this;cases this;exact⟨_,cap',b3,by rw[←h6];exact(hγin b1).symm⟩
 have hw0:=h.mem.low.size;have hdd:∀{q q' i:Nat},rhoOut I k (1000+q)=some i→rhoOut I k (1000+q')=some i→q=q':=fun h1 h2=>by
  have a1:=hback h1;rw[hback h2]at a1;have:=Option.some.inj a1;omega
 have hoold:∀{d},B.old d→∀q<4,d≠newId k q:=fun ho q hq e=>by have:=ho.2;unfold newId at e;omega
 have hXlow:∀{d b},objX (envIn E I) os d b→B.w0.heap.size≤b∨∃d,B.X d b:=by
  intro d b hx;rcases hXbox hx with⟨i',c,b1,b2,b3⟩|⟨i',q,cap,b1,b2,_,b3⟩
  ·rcases(h.mem.box i' c b1).2 with h1|h1
   ·rw[b3]at h1;exact .inl h1
   ·rw[b3]at h1;exact .inr ⟨_,h1⟩
  ·rcases h.mem.row i' q.1 q.2.1 q.2.2 b1 with⟨h3,_⟩|⟨b',c',h3,h4,_⟩
   ·rw[h3]at b3;cases b3
   ·rw[h3]at b3;cases b3;rcases h4 with h4|h4
    ·exact .inl h4
    ·exact .inr ⟨_,h4⟩
 refine h.step rfl ⟨fun i cs' hi=> ?_,fun i e W n hi=> ?_,fun i i' cs cs' e1 e2 e3=> ?_,fun i i' cs q b cap e1 e2 e3=> ?_,fun i i' q q' b cap cap' e1 e2 e3 e4=> ?_,hm.lt,?_,fun b o u h1 h2=> ?_,fun b o h1=> ?_,⟨fun d ho=>(hβ (hoold ho)).trans (h.mem.pas.β d ho),fun d ho h0=> ?_,fun d e W n ho hd=> ?_⟩⟩ hk (fun d hd=>⟨hβ (hmold hd),rfl⟩) (fun d e W n hd=>hrr d e W n hd) (fun d z p hd=> ?_) h.ii hmaps
 ·rcases hboxI hi with⟨q,c0,a1,a2,a3,a4⟩|⟨a1,a2,a3⟩
  ·rw[a4];obtain⟨b1,b2⟩:=hm.box (1000+q) c0 (objB_eq a1);refine⟨⟨b1.lt,b1.obj,b1.fz,fun j c hc=> ?_,b1.out⟩,?_⟩
   ·obtain⟨l1,l2⟩:=z38 a3;have hj:j<c0.length:=by rw[l1];exact(gJ hc).1
    obtain⟨z,z1,z2⟩:=l2 j c0[j] (gE hj);rw[hc]at z1;cases z1;obtain⟨v,c1,c2,c3⟩:=b1.cell j c0[j] (gE hj);exact⟨v,c1,c2,ren1_rel hren (fun _ _ _ h _=>h) c3 z2⟩
   ·rcases hboxW a1 a2 with h1|⟨cs,h1,h2⟩
    ·exact .inl (by omega)
    ·rw[←h2];exact(h.mem.box i cs h1).2
  ·rw[a3];obtain⟨b1,b2⟩:=h.mem.box i cs' a1;have hsame:w'.heap[E.β i]?=w.heap[E.β i]?:=hm.low.block _ b1.lt (hboxsame a1 a2);refine⟨⟨Nat.lt_of_lt_of_le b1.lt hm.low.size,by rw[hsame];exact b1.obj,fun o=>(World.frozen?_of_block (w:=w) (a:=⟨E.β i,o,none⟩) hsame).trans (b1.fz o),fun j c hc=> ?_,fun o ho=> ?_⟩,b2⟩
   ·obtain⟨v,c1,c2,c3⟩:=b1.cell j c hc;exact⟨v,(World.cell?_of_block (w:=w) (a:=⟨E.β i,j,none⟩) hsame).trans c1,c2,hmono (fun d hd=> .inr ⟨i,cs',c,a1,gM hc,hd⟩) c3⟩
   ·rcases hm.knew _ _ ho with h1|h1|⟨d,h1⟩
    ·exact b1.out o h1
    ·have:=b1.lt;have h1:w.heap.size≤E.β i:=h1;omega
    ·exact hboxsame a1 a2 d h1
 ·rcases hrowI hi with⟨q,a1,a2,a3⟩|⟨a1,a2,a3⟩
  ·rw[a3];rcases hm.row (1000+q) e W n (z49 a1)with h1|⟨b,cap,h1,h2,h3⟩
   ·exact .inl h1
   ·refine .inr ⟨b,cap,h1,?_,h3.cells,h3.le,h3.max,h3.out⟩;rcases hrowW a1 a2 h1 with h4|⟨q0,cap0,h4,h5⟩
    ·exact .inl (by omega)
    ·rcases h.mem.row i q0.1 q0.2.1 q0.2.2 h4 with⟨h6,_⟩|⟨b',c',h6,h7,_⟩
     ·rw[h6]at h5;cases h5
     ·rw[h6]at h5;cases h5;exact h7
  ·rw[a3];rcases h.mem.row i e W n a1 with h1|⟨b,cap,h1,h2,h3⟩
   ·exact .inl h1
   ·obtain⟨cur,hc,hs⟩:=h3.cells;have hlt:=(gA hc).1;have hX:=hrowsame a1 a2 h1;refine .inr ⟨b,cap,h1,h2,⟨cur,(hm.low.block b hlt hX).trans hc,hs⟩,h3.le,h3.max,fun o ho=> ?_⟩;rcases hm.knew _ _ ho with h4|h4|⟨d,h4⟩
    ·exact h3.out o h4
    ·have h4:w.heap.size≤b:=h4;omega
    ·exact absurd h4 (hX d)
 ·rcases hboxI e1 with⟨q,c0,a1,a2,a3,a4⟩|⟨a1,a2,a3⟩<;>rcases hboxI e2 with⟨q',c0',b1,b2,b3,b4⟩|⟨b1,b2,b3⟩
  ·rw[a4,b4]at e3;have:=hm.bb _ _ _ _ (objB_eq a1) (objB_eq b1) e3;obtain rfl:q=q':=by omega
   rw[a2]at b2;exact Option.some.inj b2
  ·rw[a4,b3]at e3;have:=(h.mem.box i' _ b1).1.lt;rcases hboxW a1 a2 with h1|⟨c,h1,h2⟩
   ·omega
   ·exact h.mem.bb i i' _ _ h1 b1 (h2.trans e3)
  ·rw[a3,b4]at e3;have:=(h.mem.box i _ a1).1.lt;rcases hboxW b1 b2 with h1|⟨c,h1,h2⟩
   ·omega
   ·exact h.mem.bb i i' _ _ a1 h1 (e3.trans h2.symm)
  ·rw[a3,b3]at e3;exact h.mem.bb i i' _ _ a1 b1 e3
 ·obtain⟨e,W,n⟩:=q;rcases hboxI e1 with⟨q,c0,a1,a2,a3,a4⟩|⟨a1,a2,a3⟩<;>rcases hrowI e2 with⟨q',b1,b2,b3⟩|⟨b1,b2,b3⟩
  ·rw[a4];rw[b3]at e3;exact hm.br _ _ _ _ b cap (objB_eq a1) (z49 b1) e3
  ·rw[a4];rw[b3]at e3;obtain⟨c,e',hc⟩:=hrowlt b1 e3;have:=(gA hc).1;rcases hboxW a1 a2 with h1|⟨c,h1,h2⟩
   ·omega
   ·rw[←h2];exact h.mem.br i i' _ _ b cap h1 b1 e3
  ·rw[a3];rw[b3]at e3;have:=(h.mem.box i _ a1).1.lt;rcases hrowW b1 b2 e3 with h1|⟨q0,cap0,h1,h2⟩
   ·omega
   ·exact h.mem.br i i' _ _ b cap0 a1 h1 h2
  ·rw[a3];rw[b3]at e3;exact h.mem.br i i' _ _ b cap a1 b1 e3
 ·obtain⟨e,W,n⟩:=q;obtain⟨e',W',n'⟩:=q';rcases hrowI e1 with⟨q,a1,a2,a3⟩|⟨a1,a2,a3⟩<;>rcases hrowI e2 with⟨q',b1,b2,b3⟩|⟨b1,b2,b3⟩
  ·rw[a3]at e3;rw[b3]at e4;have:=hm.rr _ _ _ _ b cap cap' (z49 a1) (z49 b1) e3 e4;obtain rfl:q=q':=by omega
   rw[a2]at b2;exact Option.some.inj b2
  ·rw[a3]at e3;rw[b3]at e4;obtain⟨c,e',hc⟩:=hrowlt b1 e4;have:=(gA hc).1;rcases hrowW a1 a2 e3 with h1|⟨q0,cap0,h1,h2⟩
   ·omega
   ·exact h.mem.rr i i' _ _ b cap0 cap' h1 b1 h2 e4
  ·rw[a3]at e3;rw[b3]at e4;obtain⟨c,e',hc⟩:=hrowlt a1 e3;have:=(gA hc).1;rcases hrowW b1 b2 e4 with h1|⟨q0,cap0,h1,h2⟩
   ·omega
   ·exact h.mem.rr i i' _ _ b cap cap0 a1 h1 e3 h2
  ·rw[a3]at e3;rw[b3]at e4;exact h.mem.rr i i' _ _ b cap cap' a1 b1 e3 e4
 ·refine⟨hm.low.os.trans h.mem.low.os,hm.low.tape.trans h.mem.low.tape,hm.low.output.trans h.mem.low.output,Nat.le_trans hw0 hm.low.size,fun b hb hx=> ?_⟩;refine(hm.low.block b (Nat.lt_of_lt_of_le hb hw0) (fun d hd=> ?_)).trans (h.mem.low.block b hb hx);rcases hXlow hd with h1|⟨d',h1⟩
  ·omega
  ·exact hx d' h1
 ·obtain⟨h3,h4⟩:=h.mem.keep b o u h1 h2;exact hm.keep b o u h3 h4
 ·rcases hm.knew b o h1 with h2|h2|⟨d,h2⟩
  ·exact h.mem.knew b o h2
  ·exact .inr (.inl (Nat.le_trans hw0 h2))
  ·rcases hXlow h2 with h3|h3
   ·exact .inr (.inl h3)
   ·exact .inr (.inr h3)
 ·refine(hγbox (hoold ho) (fun e W n hlk=> ?_)).trans (h.mem.pas.γ d ho h0);obtain⟨q,m,a1,a2,a3,a4⟩:=hL hlk;have hmem:d∈I:=by
   apply Classical.byContradiction;intro hno;rw[hold d (hoold ho) hno]at a2;cases a2
  obtain⟨j,h1,h2,h3,h4⟩:=hposIn hmem;obtain rfl:j=q:=by rw[h3]at a2;have:=Option.some.inj a2;omega
  cases m with
  |box cs=>simp only[MO.ren]at a4;obtain⟨_,_,h6⟩:=gO a4;cases h6
  |row e1 W1 n1=>
   cases hx:os[j]with
   |box cs=>
    obtain⟨cs',hcs'⟩:=ok3 j cs (by rw[←hx];exact gE h4);rw[hcs']at a1;cases a1
   |row e0 W0 n0=>
    obtain⟨i',b1,b2,b3⟩:=hR j e0 W0 n0 (by rw[←hx];exact gE h4);rw[h1]at b1;cases b1;obtain⟨n2,c1,_⟩:=h.mem.pas.row d e0 W0 n0 ho b3;rw[h0]at c1;cases c1
 ·rcases hrowI hd with⟨q,a1,a2,a3⟩|⟨a1,a2,a3⟩
  ·have hb:=hback a2;have hmem:d∈I:=by
    apply Classical.byContradiction;intro hno;rw[hold d (hoold ho) hno]at hb;cases hb
   obtain⟨j,h1,h2,h3,h4⟩:=hposIn hmem;obtain rfl:j=q:=by rw[h3]at hb;have:=Option.some.inj hb;omega
   cases hx:os[j]with
   |box cs=>
    obtain⟨cs',hcs'⟩:=ok3 j cs (by rw[←hx];exact gE h4);rw[hcs']at a1;cases a1
   |row e0 W0 n0=>
    have hxo:os[j]?=some (.row e0 W0 n0):=by rw[←hx];exact gE h4
    obtain⟨i',b1,b2,b3⟩:=hR j e0 W0 n0 hxo;rw[h1]at b1;cases b1;obtain⟨n',c1,c2,c3⟩:=hl.row (1000+j) e0 W0 n0 (z49 hxo);rw[z49 a1]at c1;have c1':=Option.some.inj c1;simp only[Prod.mk.injEq]at c1';obtain⟨rfl,rfl,rfl⟩:=c1';obtain⟨n2,d1,d2,d3⟩:=h.mem.pas.row d e W n0 ho b3;refine⟨n2,d1,by omega,fun he=> ?_⟩;have e1:n2=n0:=by omega
    have e2:n0=n:=by omega
    rw[a3,c3 e2,hγin h1];exact d3 e1
  ·rw[a3];exact h.mem.pas.row d e W n ho a1
 ·obtain⟨h1,h2⟩:=h.itr d z p hd;refine⟨(hm.low.block _ (gA h1).1 (fun d' hx=> ?_)).trans h1,h2⟩;rcases hXbox hx with⟨i',c,b1,b2,b3⟩|⟨i',q,cap,b1,b2,_,b3⟩
  ·obtain⟨c',e',z',ho⟩:=(h.mem.box i' c b1).1.obj;rw[b3,h1]at ho;cases ho
  ·obtain⟨c',e',hc⟩:=hrowlt b1 b3;rw[h1]at hc;cases hc
end
section
variable{B:Base}{s:FS}{a:Act}{w w':World}{E E':Env}{r:Rows}{P:Program}{C:Oracle}
variable{d:Nat}
theorem z26{x:Arg}{t:TV}(h:x.get s=some t)(hm:Ment d t):s.ment d:=by
 cases x with
 |tmp k=>exact .inl ⟨k,t,h,hm⟩
 |val v=>simp[Arg.get]at h;subst h;cases hm
theorem cells_ment{t c:TV}{cs:List TV}(h:t.cells=some cs)(hc:c∈cs)(hm:Ment d c):Ment d t:=by
 cases t with
 |agg cs'=>simp[TV.cells]at h;subst h;exact .agg hc hm
 |tuple ts=>simp[TV.cells]at h
 |pv p=>
  cases p with
  |v x=>
   simp only[TV.cells]at h
   grind
  |_=>grind [TV.cells]
 |unk=>simp[TV.cells]at h
 |_=>grind [TV.cells]
theorem z89{t:TypeId}{i:TypeInfo}(h:P.info? t=some i)(w:World):(sizeOf t).run P w=.ok i.size w:=by simp[sizeOf,typeInfo,h]
theorem run_isAgg{t:TypeId}{d:TypeDesc}(h:P.underlying t=some d)(w:World):(isAgg t).run P w=.ok d.isRow w:=by
 unfold isAgg;rw[Sem.run_bind,run_underlying h w];cases d<;>simp_all [TypeDesc.isRow]
theorem z147(b o:Nat)(ty:TypeId)(d:TypeDesc)(i:TypeInfo)(vs:List Value)(hu:P.underlying ty=some d)(hi:P.info? ty=some i)(hc:w.rangeAt b o vs)(hl:if d.isRow then vs.length=i.size else vs.length=1):
  (loadVar ty ⟨b,o,none⟩).run P w=.ok (if d.isRow then .agg vs.toArray else vs.getD 0 undef) w:=by
 cases hd:d.isRow with
 |true=>
  simp only[hd,if_true]at hl ⊢;exact run_loadVar_mid w b o ty vs d hc hu hd (by rw[hi,hl];rfl)
 |false=>
  simp only[hd,Bool.false_eq_true,if_false]at hl ⊢;obtain⟨v,rfl⟩:∃v,vs=[v]:=by cases vs with|nil=>simp at hl|cons v r=>cases r with|nil=>exact⟨v,rfl⟩|cons=>simp at hl
  have h0:=hc 0 v rfl;simp only[Nat.add_zero]at h0;unfold loadVar;rw[Sem.run_bind,run_isAgg hu,hd];simp_all
theorem z170(b o:Nat)(ty:TypeId)(i:TypeInfo)(v:Value)(us:List Value)(hv:v.cells=us.toArray)(hi:P.info? ty=some i)(hl:us.length=i.size)(ht:w.there b o us.length)(h1:∀u∈us,one u):
  (storeVar ty ⟨b,o,none⟩ v).run P w=.ok () (w.setCells b o us):=by
 have:=run_storeCells_cells (P:=P) b o us 0 w (fun j hj=>by simpa using(ht j hj).1) (fun j hj=>by simpa using(ht j hj).2) h1;simp only[Nat.add_zero]at this;simp[storeVar,sizeOf,typeInfo,hi,hv,hl,this]
theorem does_ld(h:Sim B s a w E){o:Oper}{t:TypeId}{x:Operand}(ho:o.op=.load t x){d:TypeDesc}{i:TypeInfo}(hu:P.underlying t=some d)(hi:P.info? t=some i)
  {y:TV} {u:Upd} (he:eff P C o.dst (if d.isRow then .ld true i.size (.of x)else .ld false 1 (.of x)) s=some (y,u)):u=.no∧Does P B s y a w o:=by
 have key:∀(b off:Nat) (cs:List TV) (vs:List Value),a.eval x=.pointer (some ⟨b,off,none⟩)→RelL w E s.r cs vs→w.rangeAt b off vs→
   (if d.isRow then(cs.length=i.size∧y=.agg cs)else(cs.length=1∧cs[0]?=some y))→Does P B s y a w o:=by
  intro b off cs vs hx hrel hr hy;have hrun:=z147 (P:=P) (w:=w) b off t d i vs hu hi hr (by
   cases hd:d.isRow<;>simp only[hd,if_true,if_false,Bool.false_eq_true]at hy ⊢
   ·rw[←hrel.len];exact hy.1
   ·rw[←hrel.len];exact hy.1)
  refine z162 h (v:=if d.isRow then .agg vs.toArray else vs.getD 0 undef) ?_ ?_
  ·simp[execOp,ho,hx,Instr.loadAt,Instr.sureAddr,hrun,Result.andThen]
  ·cases hd:d.isRow<;>simp only[hd,if_true,if_false,Bool.false_eq_true]at hy ⊢
   ·have hl:0<vs.length:=by rw[←hrel.len];omega
    refine hrel.at_ 0 y _ hy.2 ?_;rw[List.getD_eq_getElem?_getD,gE hl];rfl
   ·rw[hy.2];exact hrel.agg
 have hget:∀z,(Arg.of x).get s=some z→RelT w E s.r z (a.eval x):=fun z hz=>z16 h hz;generalize hR:d.isRow=R at he key;cases R with
 |true=>
  simp only[eff,if_true]at he;split at he
  ·rename_i dd off hg;obtain⟨cs,hb,he⟩:=gB he;split at he
   ·rename_i hle;cases he;refine⟨rfl,?_⟩;have hx:=hget _ hg;generalize hv:a.eval x=v at hx;cases hx;obtain⟨hbox,_⟩:=h.mem.box dd cs hb;obtain⟨vs,hrel,hcell⟩:=box_rel hbox;refine key (E.β dd) off ((cs.drop off).take i.size) ((vs.drop off).take i.size) hv ((hrel.drop off).take _) (fun j v hv'=> ?_) ?_
    ·have hj:j<i.size:=by have:=(gJ hv').1;simp at this;omega
     simp[hj]at hv';exact hcell _ _ hv'
    ·simp;omega
   ·cases he
  ·rename_i cs hg;split at he
   ·rename_i hle;cases he;refine⟨rfl,?_⟩;have hx:=hget _ hg;generalize hv:a.eval x=v at hx;cases hx with
    |pv hx=>
    cases hx with
    |el _ b off f hc hs=>
    refine key b off ((cs.take i.size).map .pv) ((List.range i.size).map f) hv ⟨by simp;omega,fun j c v hc' hv'=> ?_,fun v hv'=> ?_⟩ (fun j v hv'=> ?_) ?_
    ·have hj:j<i.size:=by have:=(gJ hv').1;simpa using this
     simp[hj]at hc' hv';obtain⟨p,hp,rfl⟩:=hc';subst hv';exact .pv (hs j p hp)
    ·obtain⟨j,hj,rfl⟩:=List.mem_map.1 hv';have hj':j<i.size:=by simpa using hj
     exact(hc j cs[j] (gE (by omega))).2.2
    ·have hj:j<i.size:=by have:=(gJ hv').1;simpa using this
     simp[hj]at hv';subst hv';exact(hc j (cs[j]'(by omega)) (gE (by omega))).2.1
    ·simp;omega
   ·cases he
  ·cases he
 |false=>
  simp only[eff,Bool.false_eq_true,if_false]at he;split at he
  ·rename_i dd off hg;obtain⟨cs,hb,he⟩:=gB he;obtain⟨c,hc,he⟩:=gO he;cases he;refine⟨rfl,?_⟩;have hx:=hget _ hg;generalize hv:a.eval x=v at hx;cases hx;obtain⟨hbox,_⟩:=h.mem.box dd cs hb;obtain⟨v,h1,h2,h3⟩:=hbox.cell off y hc;refine key (E.β dd) off [y] [v] hv ⟨rfl,fun j c' v' hc' hv'=> ?_,fun u hu=>by simp at hu;subst hu;exact h2⟩ (fun j u hu=> ?_) ?_
   ·cases j with
    |zero=>simp at hc' hv';subst hc';subst hv';exact h3
    |succ j=>simp at hc'
   ·cases j with
    |zero=>simp at hu;subst hu;exact h1
    |succ j=>simp at hu
   ·simp
  ·rename_i cs hg;obtain⟨c,hc,he⟩:=gO he;cases he;refine⟨rfl,?_⟩;have hx:=hget _ hg;generalize hv:a.eval x=v at hx;cases hx with
   |pv hx=>
   cases hx with
   |el _ b off f hc1 hs1=>
   obtain⟨_,h1,h2⟩:=hc1 0 c hc;refine key b off [.pv c] [f 0] hv ⟨rfl,fun j c' v' hc' hv'=> ?_,fun u hu=>by simp at hu;subst hu;exact h2⟩ (fun j u hu=> ?_) ?_
   ·cases j with
    |zero=>simp at hc' hv';subst hc';subst hv';exact .pv (hs1 0 c hc)
    |succ j=>simp at hc'
   ·cases j with
    |zero=>simp at hu;subst hu;exact h1
    |succ j=>simp at hu
   ·simp
  ·cases he
theorem does_st(h:Sim B s a w E){o:Oper}{t:TypeId}{x y:Operand}(ho:o.op=.store t x y){i:TypeInfo}(hi:P.info? t=some i)
  {z:TV} {u:Upd} (he:eff P C o.dst (.st i.size (.of x) (.of y)) s=some (z,u)):Does P B (s.upd o.dst u) z a w o:=by
 simp only[eff]at he;split at he
 ·rename_i dd off hg;obtain⟨cs,hb,he⟩:=gB he;obtain⟨xs,hxs,he⟩:=gB he;obtain⟨ty,hy1,hy2⟩:=gB hxs;split at he
  ·rename_i hle;cases he;have hx:=z16 h hg;generalize hv:a.eval x=v at hx;cases hx;obtain⟨us,hu1,hu2⟩:=z155 (z16 h hy1) hy2;obtain⟨hbox,_⟩:=h.mem.box dd cs hb;have hlen:=hu2.len;have hrun:=z170 (P:=P) (w:=w) (E.β dd) off t i (a.eval y) us hu1 hi (by omega) (fun j hj=>⟨by
    obtain⟨c,hc⟩:∃c,cs[off+j]?=some c:=⟨_,gE (by omega)⟩
    obtain⟨v,h1,_⟩:=hbox.cell _ c hc;rw[h1];rfl,hbox.fz _⟩) hu2.ones
   refine⟨.skip,undef,w.setCells (E.β dd) off us,E,?_,.inr ⟨rfl,rfl⟩,h.wr hb xs us hlen (by omega) hu2.at_ hu2.ones,.pv (.v _)⟩;simp[execOp,ho,hv,Instr.storeAt,Instr.sureAddr,hrun,Result.andThen]
  ·cases he
 ·cases he
theorem does_box(h:Sim B s a w E){o:Oper}{t:TypeId}{x:Operand}(ho:o.op=.box t x)(hno:∀d,o.dst=some d→¬B.old d)(hf:∀d,o.dst=some d→Fresh s d){z:TV}{u:Upd}(he:eff P C o.dst (.box (.of x)) s=some (z,u)):Does P B (s.upd o.dst u) z a w o:=by
 simp only[eff]at he;cases hd:o.dst with
 |none=>grind
 |some d=>
  rw[hd]at he;obtain⟨cs,h1,he⟩:=gO he;obtain⟨ty,h2,h3⟩:=gB h1;cases he;obtain⟨us,hu1,hu2⟩:=z155 (z16 h h2) h3;have hm:∀c∈cs,¬Ment d c:=by
   intro c hc hmc;exact(hf d hd).1 (z26 h2 (cells_ment h3 hc hmc))
  obtain⟨E',hE,hS⟩:=h.newB (hno d hd) (hf d hd) t cs us hu2.len hu2.at_ hu2.ones hm;refine⟨.value (.pointer (some ⟨w.heap.size,0,none⟩)),_,w.alloc (.cells us.toArray t),E',?_,.inl rfl,hS,?_⟩
  ·simp[execOp,ho,Instr.box,newVar,newRow,hu1,Result.andThen]
  ·rw[←hE];exact .ptr d 0
theorem does_new(h:Sim B s a w E){o:Oper}{t:TypeId}(ho:o.op=.alloc t)(hno:∀d,o.dst=some d→¬B.old d)(hf:∀d,o.dst=some d→Fresh s d){i:TypeInfo}{zv:Value}(hi:P.info? t=some i)(hz:i.zero=some zv)(h1:zv.cells.toList.all (·.oneCell')=true)
  {z:TV} {u:Upd} (he:eff P C o.dst (.new zv.cells.toList) s=some (z,u)):Does P B (s.upd o.dst u) z a w o:=by
 simp only[eff]at he;cases hd:o.dst with
 |none=>grind
 |some d=>
  rw[hd]at he;cases he;have hones:∀v∈zv.cells.toList,one v:=fun v hv=>List.all_eq_true.1 h1 v hv;have hrel:=RelL.ofVals (w:=w) (E:=E) (r:=s.r) hones;obtain⟨E',hE,hS⟩:=h.newB (hno d hd) (hf d hd) t _ zv.cells.toList hrel.len hrel.at_ hones (by
   intro c hc hmc;obtain⟨v,_,rfl⟩:=List.mem_map.1 hc;cases hmc)
  refine⟨.value (.pointer (some ⟨w.heap.size,0,none⟩)),_,w.alloc (.cells zv.cells t),E',?_,.inl rfl,(by simp only[Array.toArray_toList]at hS;exact hS),?_⟩
  ·simp[execOp,ho,Instr.alloc,zeroValue,typeInfo,hi,hz,newVar,newRow,Result.andThen]
  ·rw[←hE];exact .ptr d 0
theorem does_build(h:Sim B s a w E){o:Oper}{t:TypeId}{parts:Array (Nat×Operand)}(ho:o.op=.build t parts){i:TypeInfo}{fs:Array Field}{zv:Value}(hi:P.info? t=some i)(hu:P.underlying t=some (.struct fs))(hz:i.zero=some zv)
    (h1 : zv.cells.toList.all (·.oneCell') = true) {ps : List (Nat × Nat × Arg)} (hps : seqO (fun p : Nat × Operand => match fs[p.1]? with
          |some f=>(P.info? f.type).map fun j=>(f.offset,j.size,Arg.of p.2)
          |none=>none) parts.toList=some ps)
    (hfs:∀(k:Nat) f,fs[k]?=some f→∃j,P.info? f.type=some j)
    {z:TV} {u:Upd} (he:eff P C o.dst (.build zv.cells.toList ps) s=some (z,u)):u=.no∧Does P B s z a w o:=by
  simp only[eff]at he
  obtain⟨qs,hq,he⟩:=gB he
  obtain⟨cs',hf,he⟩:=gO he
  cases he
  refine⟨rfl,?_⟩
  have hones:∀v∈zv.cells.toList,one v:=fun v hv=>List.all_eq_true.1 h1 v hv
  have hrel:=RelL.ofVals (w:=w) (E:=E) (r:=s.r) hones
  obtain⟨l1,hs1⟩:=z38 hps
  obtain⟨l2,hs2⟩:=z38 hq
  have hsz:∃places:Array (Nat×Nat),(fs.mapM (m:=Sem) fun f=>Prod.mk f.offset<$>sizeOf f.type).run P w=.ok places w∧∀(k:Nat) f j,fs[k]?=some f→P.info? f.type=some j→places[k]?=some (f.offset,j.size):=by
    have:∀(l:List Field),(∀f∈l,∃j,P.info? f.type=some j)→∃pl:List (Nat×Nat),(l.mapM (m:=Sem) fun f=>Prod.mk f.offset<$>sizeOf f.type).run P w=.ok pl w∧∀(k:Nat) f j,l[k]?=some f→P.info? f.type=some j→pl[k]?=some (f.offset,j.size):=by
      intro l
      induction l with
      |nil=>exact fun _=>⟨[],rfl,by simp⟩
      |cons f l ih=>
        intro hl
        obtain⟨pl,hp1,hp2⟩:=ih fun g hg=>hl g (List.mem_cons_of_mem _ hg)
        obtain⟨j,hj⟩:=hl f (List.mem_cons_self ..)
        refine⟨(f.offset,j.size)::pl,?_,fun k g q hk hq'=> ?_⟩
        · simp[List.mapM_cons,z89 hj,Result.andThen,hp1]
        · cases k with
          |zero=>simp at hk;subst hk;rw[hj]at hq';cases hq';rfl
          |succ k=>simpa using hp2 k g q (by simpa using hk) hq'
    obtain⟨pl,hp1,hp2⟩:=this fs.toList (fun f hf=>by
      obtain⟨k,hk⟩:=List.getElem?_of_mem hf
      exact hfs k f (by simpa using hk))
    refine⟨pl.toArray,?_,fun k f j hk hj=>by simpa using hp2 k f j (by simpa using hk) hj⟩
    rw[←Array.toArray_toList (xs:=fs),List.mapM_toArray]
    simp[hp1,Result.andThen]
  obtain⟨places,hpl,hplaces⟩:=hsz
  obtain⟨vs',hfill,hrel'⟩:=fill_rel (place:=fun k=>places[k]?) (parts:=(parts.map fun p=>(p.1,a.eval p.2)).toList) (ps:=qs) (vs:=zv.cells.toList) hrel (by simp;rw[←Array.length_toList,l1,l2]) (fun j p q hp hq'=>by
    simp only[Array.toList_map,List.getElem?_map]at hp
    obtain⟨⟨k,x⟩,hx,rfl⟩:=gO hp
    obtain⟨y,hy1,hy2⟩:=hs1 j (k,x) hx
    obtain⟨y',hy1',hy2'⟩:=hs2 j y hy1
    rw[hq']at hy1';cases hy1'
    dsimp only at hy2
    split at hy2
    · rename_i f hf1
      obtain⟨jj,hj1,hj2⟩:=gO hy2
      subst hj2
      dsimp only at hy2'
      obtain⟨xs,hxs,he2⟩:=gO hy2'
      subst he2
      obtain⟨ty,ht1,ht2⟩:=gB hxs
      obtain⟨us,hu1,hu2⟩:=z155 (z16 h ht1) ht2
      exact⟨hplaces k f jj hf1 hj1,us,hu1,hu2⟩
    · cases hy2) hf
  refine z162 h (v:=.agg vs'.toArray) ?_ hrel'.agg
  have hzv:zv.cells.toList.toArray=zv.cells:=by simp
  rw[hzv]at hfill
  simp only[Array.toList_map]at hfill
  simp[execOp,ho,Instr.build,zeroValue,typeInfo,hi,hz,run_underlying hu,Result.andThen,hpl,hfill]
theorem does_buildA(h:Sim B s a w E){o:Oper}{t e:TypeId}{n:Nat}{parts:Array (Nat×Operand)}(ho:o.op=.build t parts){i j:TypeInfo}{zv:Value}(hi:P.info? t=some i)(hu:P.underlying t=some (.array n e))(hz:i.zero=some zv)(hj:P.info? e=some j)
  (h1:zv.cells.toList.all (·.oneCell')=true) {z:TV} {u:Upd} (he:eff P C o.dst (.build zv.cells.toList (parts.toList.map fun p=>(p.1*j.size,j.size,Arg.of p.2))) s=some (z,u)):u=.no∧Does P B s z a w o:=by
 simp only[eff]at he;obtain⟨qs,hq,he⟩:=gB he;obtain⟨cs',hf,he⟩:=gO he;cases he;refine⟨rfl,?_⟩;have hones:∀v∈zv.cells.toList,one v:=fun v hv=>List.all_eq_true.1 h1 v hv;have hrel:=RelL.ofVals (w:=w) (E:=E) (r:=s.r) hones;obtain⟨l2,hs2⟩:=z38 hq;obtain⟨vs',hfill,hrel'⟩:=fill_rel (place:=fun k=>some (k*j.size,j.size)) (parts:=(parts.map fun p=>(p.1,a.eval p.2)).toList) (ps:=qs) (vs:=zv.cells.toList) hrel (by simp at l2 ⊢;omega) (fun q p y hp hq'=>by
  simp only[Array.toList_map,List.getElem?_map]at hp;obtain⟨⟨k,x⟩,hx,rfl⟩:=gO hp;obtain⟨y',hy1',hy2'⟩:=hs2 q (k*j.size,j.size,Arg.of x) (by rw[List.getElem?_map,hx];rfl);rw[hq']at hy1';cases hy1'
  dsimp only at hy2'
  obtain⟨xs,hxs,he2⟩:=gO hy2';subst he2;obtain⟨ty,ht1,ht2⟩:=gB hxs;obtain⟨us,hu1,hu2⟩:=z155 (z16 h ht1) ht2;exact⟨rfl,us,hu1,hu2⟩) hf
 refine z162 h (v:=.agg vs'.toArray) ?_ hrel'.agg;have hzv:zv.cells.toList.toArray=zv.cells:=by simp
 rw[hzv]at hfill;simp only[Array.toList_map]at hfill;simp[execOp,ho,Instr.build,zeroValue,typeInfo,hi,hz,run_underlying hu,z89 hj,Result.andThen,hfill]
end
section
variable{B:Base}{s:FS}{a:Act}{w w':World}{E E':Env}{r:Rows}{P:Program}{C:Oracle}
theorem fillSeq{W:Nat}:∀(vs:List Value) (k:Nat) (arr:Array Value),(∀v∈vs,v.cells.size=W)→arr.size=(k+vs.length)*W→
  ∃res:Array Value,Instr.fill (fun i=>some (i*W,W)) arr ((vs.zipIdx k).map fun p=>(p.2,p.1))=some res∧res.toList=arr.toList.take (k*W)++vs.flatMap (·.cells.toList)
 |[],k,arr,_,h=>⟨arr,rfl,by simp at h ⊢;rw[List.take_of_length_le (by simp[h])]⟩
 |v::vs,k,arr,hv,h=>by
  have hvl:=hv v (List.mem_cons_self ..);have hsz:k*W+W≤arr.size:=by rw[h];simp only[List.length_cons];rw[←Nat.succ_mul];exact Nat.mul_le_mul_right W (by omega)
  have hfold:=foldSet v.cells.toList (k*W) 0 arr (by simp[hvl];omega);have hl:(splice arr.toList (k*W) v.cells.toList).length=arr.toList.length:=z161 (by simp[hvl];omega);simp only[Nat.add_zero]at hfold;obtain⟨res,h1,h2⟩:=fillSeq vs (k+1) (splice arr.toList (k*W) v.cells.toList).toArray (fun u hu=>hv u (List.mem_cons_of_mem _ hu)) (by
   simp only[List.size_toArray,hl];simp only[Array.length_toList,h,List.length_cons];congr 1;omega)
  refine⟨res,?_,?_⟩
  ·simp only[List.zipIdx_cons,List.map_cons,Instr.fill,hvl];have hcond:(W≠W||k*W+W>arr.size)=false:=by simp;omega
   rw[hcond];simp only[Bool.false_eq_true,if_false];have:v.cells.zipIdx.foldl (fun(cs:Array Value) (cj:Value×Nat)=>cs.setIfInBounds (k*W+cj.2) cj.1) arr=(splice arr.toList (k*W) v.cells.toList).toArray:=by
    have hus:∀us:List Value,us.toArray.zipIdx.foldl (fun(cs:Array Value) (cj:Value×Nat)=>cs.setIfInBounds (k*W+cj.2) cj.1) arr=us.zipIdx.foldl (fun(cs:Array Value) (cj:Value×Nat)=>cs.setIfInBounds (k*W+cj.2) cj.1) arr:=fun us=>by simp
    have:=hus v.cells.toList;rw[Array.toArray_toList]at this;rw[this,←hfold]
   rw[←h1,←this]
  ·rw[h2,List.flatMap_cons,←List.append_assoc];congr 1;simp only[splice];have e:(k+1)*W=k*W+W:=by rw[Nat.add_mul];omega
   rw[e,List.take_append_of_le_length (by simp[hvl];omega),List.take_of_length_le (by simp[hvl];omega)]
theorem range_pairs{α:Type}{l:List (Nat×α)}(h:l.map (·.1)=List.range l.length):l=((l.map (·.2)).zipIdx 0).map fun p=>(p.2,p.1):=by
 apply List.ext_getElem?;intro i;rcases Nat.lt_or_ge i l.length with hi|hi
 ·have:=congrArg (·[i]?) h
  grind
 ·grind
theorem does_bsl(h:Sim B s a w E){o:Oper}{t e:TypeId}{len:Nat}{parts:Array (Nat×Operand)}(ho:o.op=.buildSlice t len parts){i:TypeInfo}{zv:Value}(hu:P.underlying t=some (.slice e))(hi:P.info? e=some i)(hz:i.zero=some zv)
  (h1:parts.toList.map (·.1)=List.range len∧len*i.size≤16777216∧zv.cells.size=i.size∧0<len*i.size) {z:TV} {u:Upd} (he:eff P C o.dst (.bsl i.size (parts.toList.map fun p=>Arg.of p.2)) s=some (z,u)):u=.no∧Does P B s z a w o:=by
 obtain⟨hr,hsmall,hzl,hpos⟩:=h1;have hlen:parts.toList.length=len:=by have:=congrArg List.length hr;simpa using this
 simp only[eff]at he;obtain⟨es,hes,he⟩:=gB he;split at he
 ·rename_i hall;cases he;refine⟨rfl,?_⟩;obtain⟨l1,hs1⟩:=z38 hes;have l1':parts.toList.length=es.length:=by simpa using l1
  let vals:List Value:=parts.toList.map fun p=>a.eval p.2
  have hel:∀e'∈es,e'.length=i.size:=fun e' he'=>by simpa using List.all_eq_true.1 hall e' he'
  have hrel:∀(k:Nat) ps,es[k]?=some ps→∃(v:Value) (us:List Value),vals[k]?=some v∧v.cells=us.toArray∧ps.length=us.length∧(∀(j:Nat) c u,ps[j]?=some c→us[j]?=some u→RelV w E.K c u∧one u):=by
   intro k ps hk;have hkl:k<parts.toList.length:=by rw[l1'];exact(gJ hk).1
   obtain⟨y,hy1,hy2⟩:=hs1 k (Arg.of (parts.toList[k]).2) (by rw[List.getElem?_map,gE hkl];rfl);rw[hk]at hy1;cases hy1;obtain⟨t',ht1,ht2⟩:=gB hy2;obtain⟨us,hu1,hu2,hu3⟩:=pvs_rel (z16 h ht1) ht2;exact⟨a.eval (parts.toList[k]).2,us,by simp only[vals];rw[List.getElem?_map,gE hkl];rfl,hu1,hu2,hu3⟩
  have hvl:∀v∈vals,v.cells.size=i.size:=by
   intro v hv;obtain⟨k,hk⟩:=List.getElem?_of_mem hv;have hkl:k<es.length:=by rw[←l1'];have:=(gJ hk).1;simpa [vals]using this
   obtain⟨v',us,hv1,hv2,hv3,_⟩:=hrel k es[k] (gE hkl);rw[hk]at hv1;cases hv1;rw[hv2];simp[←hv3,hel _ (List.getElem_mem hkl)]
  have hvlen:vals.length=len:=by simp[vals];simpa using hlen
  obtain⟨res,hf1,hf2⟩:=fillSeq (W:=i.size) vals 0 ((Array.range (len*i.size)).map (zv.cells[·%zv.cells.size]!)) hvl (by simp[hvlen]);simp only[Nat.zero_mul,List.take_zero,List.nil_append]at hf2;have hparts:(parts.map fun p=>(p.1,a.eval p.2)).toList=(vals.zipIdx 0).map fun p=>(p.2,p.1):=by
   have:=range_pairs (l:=(parts.map fun p=>(p.1,a.eval p.2)).toList) (by simp[←hr];rw[←Array.length_toList,hlen];simpa [Function.comp_def]using hr);rw[this];congr 2;simp[vals,Function.comp_def]
  have hrun:=run_buildSlice (P:=P) w t e len (parts.map fun p=>(p.1,a.eval p.2)) res i zv hu hi hz (by omega) (by omega) (by rw[hparts];exact hf1);have hb:Below w.heap.size w (w.alloc (.cells res e)):=(Below.refl _ _).alloc (Nat.le_refl _) _;let E':Env:={ E with K:=fun b o=>E.K b o∨b=w.heap.size }
  have hk:∀b o u,E.K b o→w.cell? ⟨b,o,none⟩=some u→E'.K b o∧(w.alloc (.cells res e)).cell? ⟨b,o,none⟩=some u:=fun b o u h1 h2=>⟨.inl h1,(hb.cell (p:=⟨b,o,none⟩) (z72 h2)).trans h2⟩
  refine⟨.value (.slice (some ⟨w.heap.size,0,none⟩) len len),_,w.alloc (.cells res e),E',?_,.inl rfl,h.ext hb E' (fun _ _ h=> .inl h) (fun b o hbo=> ?_) (fun _ _=>⟨rfl,rfl⟩) (fun _ _ _=>rfl) (fun _ _=>⟨rfl,rfl⟩),?_⟩
  ·simp[execOp,ho,hrun,Result.andThen]
  ·rcases hbo with h1|rfl
   ·exact .inl h1
   ·exact .inr ⟨Nat.le_refl _,by simp⟩
  ·have hesl:es.length=len:=by omega
   rw[←hesl];have hflat:∀(k j:Nat) ps c,es[k]?=some ps→ps[j]?=some c→∃u,res[k*i.size+j]?=some u∧RelV w E.K c u∧one u:=by
    intro k j ps c hk1 hk2;obtain⟨v,us,hv1,hv2,hv3,hv4⟩:=hrel k ps hk1;have hj:j<us.length:=by rw[←hv3];exact(gJ hk2).1
    obtain⟨a1,a2⟩:=hv4 j c us[j] hk2 (gE hj);refine⟨us[j],?_,a1,a2⟩;have hus:us.length=i.size:=by rw[←hv3];exact hel ps (gM hk1)
    rw[←Array.getElem?_toList,hf2];clear hf1 hf2 hrun hparts hb hk;have:∀(vals:List Value) (k:Nat) (v:Value),(∀v∈vals,v.cells.size=i.size)→vals[k]?=some v→∀j,j<i.size→(vals.flatMap (·.cells.toList))[k*i.size+j]?=v.cells.toList[j]?:=by
     intro vals
     induction vals with
     |nil=>intro k v _ hk;simp at hk
     |cons x r ih=>
      intro k v hv hk j hj;have hx:=hv x (List.mem_cons_self ..);rw[List.flatMap_cons];cases k with
      |zero=>simp at hk;subst hk;rw[List.getElem?_append_left (by simp[hx];omega)];simp
      |succ k=>
       have e:(k+1)*i.size+j=i.size+(k*i.size+j):=by rw[Nat.add_mul];omega
       rw[List.getElem?_append_right (by simp[hx];omega)];rw[show(k+1)*i.size+j-x.cells.toList.length=k*i.size+j by simp[hx];omega];exact ih k v (fun u hu=>hv u (List.mem_cons_of_mem _ hu)) (by simpa using hk) j hj
    rw[this vals k v hvl hv1 j (by omega),hv2];simp[hj]
   refine .pv (.sl i.size es w.heap.size 0 es.length _ (fun k j=>(res[k*i.size+j]?).getD undef) (fun _=>rfl) (Nat.le_refl _) ?_ hel (fun k j ps c hk1 hk2=> ?_) (fun k j ps c hk1 hk2=> ?_))
   ·have:es.length≤es.length*i.size:=Nat.le_mul_of_pos_right _ (Nat.pos_of_ne_zero (fun h0=>by rw[h0]at hpos;simp at hpos));unfold maxLen;rw[hesl]at this ⊢;omega
   ·obtain⟨u,hu1,hu2,hu3⟩:=hflat k j ps c hk1 hk2;refine⟨.inr rfl,?_,by simpa [hu1]using hu3⟩;rw[Nat.zero_add,World.cell?_alloc_new,hu1];rfl
   ·obtain⟨u,hu1,hu2,hu3⟩:=hflat k j ps c hk1 hk2;rw[hu1];exact hu2.mono hk
 ·cases he
theorem len_flat{W:Nat}:∀(vs:List Value),(∀v∈vs,v.cells.size=W)→(vs.flatMap (·.cells.toList)).length=vs.length*W
 |[],_=>by simp
 |v::r,h=>by
  rw[List.flatMap_cons,List.length_append,len_flat r (fun u hu=>h u (List.mem_cons_of_mem _ hu)),List.length_cons,Nat.add_mul,Array.length_toList,h v (List.mem_cons_self ..)];omega
theorem bsl_core(h:Sim B s a w E){o:Oper}{t e:TypeId}{len:Nat}{parts:Array (Nat×Operand)}(ho:o.op=.buildSlice t len parts){i:TypeInfo}{zv:Value}(hu:P.underlying t=some (.slice e))(hi:P.info? e=some i)(hz:i.zero=some zv)
  (h1:parts.toList.map (·.1)=List.range len∧len*i.size≤16777216∧zv.cells.size=i.size∧0<len*i.size) {es:List (List PV)} (hes:seqO (fun x:Arg=>(x.get s).bind TV.pvs) (parts.toList.map fun p=>Arg.of p.2)=some es) (hel:∀e'∈es,e'.length=i.size):
  ∃res:Array Value,(execOp a.eval o).run P w=.ok (.value (.slice (some ⟨w.heap.size,0,none⟩) len len)) (w.alloc (.cells res e))∧es.length=len∧res.size=len*i.size∧
   ∀(k j:Nat) ps c,es[k]?=some ps→ps[j]?=some c→∃u,res[k*i.size+j]?=some u∧RelV w E.K c u∧one u:=by
 obtain⟨hr,hsmall,hzl,hpos⟩:=h1;have hlen:parts.toList.length=len:=by have:=congrArg List.length hr;simpa using this
 obtain⟨l1,hs1⟩:=z38 hes;have l1':parts.toList.length=es.length:=by grind
 let vals:List Value:=parts.toList.map fun p=>a.eval p.2
 have hrel:∀(k:Nat) ps,es[k]?=some ps→∃(v:Value) (us:List Value),vals[k]?=some v∧v.cells=us.toArray∧ps.length=us.length∧(∀(j:Nat) c u,ps[j]?=some c→us[j]?=some u→RelV w E.K c u∧one u):=by
  intro k ps hk;have hkl:k<parts.toList.length:=by grind
  obtain⟨y,hy1,hy2⟩:=hs1 k (Arg.of (parts.toList[k]).2) (by rw[List.getElem?_map,gE hkl];rfl);rw[hk]at hy1;cases hy1;obtain⟨t',ht1,ht2⟩:=gB hy2;obtain⟨us,hu1,hu2,hu3⟩:=pvs_rel (z16 h ht1) ht2
  grind
 have hvl:∀v∈vals,v.cells.size=i.size:=by
  intro v hv;obtain⟨k,hk⟩:=List.getElem?_of_mem hv;have hkl:k<es.length:=by grind
  obtain⟨v',us,hv1,hv2,hv3,_⟩:=hrel k es[k] (gE hkl)
  grind
 have hvlen:vals.length=len:=by grind
 obtain⟨res,hf1,hf2⟩:=fillSeq (W:=i.size) vals 0 ((Array.range (len*i.size)).map (zv.cells[·%zv.cells.size]!)) hvl (by simp[hvlen]);simp only[Nat.zero_mul,List.take_zero,List.nil_append]at hf2;have hparts:(parts.map fun p=>(p.1,a.eval p.2)).toList=(vals.zipIdx 0).map fun p=>(p.2,p.1):=by
  have:=range_pairs (l:=(parts.map fun p=>(p.1,a.eval p.2)).toList) (by simp[←hr];rw[←Array.length_toList,hlen];simpa [Function.comp_def]using hr);rw[this];congr 2;simp[vals,Function.comp_def]
 have hrun:=run_buildSlice (P:=P) w t e len (parts.map fun p=>(p.1,a.eval p.2)) res i zv hu hi hz (by omega) (by omega) (by rw[hparts];exact hf1);have hflat:∀(k j:Nat) ps c,es[k]?=some ps→ps[j]?=some c→∃u,res[k*i.size+j]?=some u∧RelV w E.K c u∧one u:=by
  intro k j ps c hk1 hk2;obtain⟨v,us,hv1,hv2,hv3,hv4⟩:=hrel k ps hk1;have hj:j<us.length:=by grind
  obtain⟨a1,a2⟩:=hv4 j c us[j] hk2 (gE hj);refine⟨us[j],?_,a1,a2⟩;have hus:us.length=i.size:=by grind
  rw[←Array.getElem?_toList,hf2];clear hf1 hf2 hrun hparts;have:∀(vals:List Value) (k:Nat) (v:Value),(∀v∈vals,v.cells.size=i.size)→vals[k]?=some v→∀j,j<i.size→(vals.flatMap (·.cells.toList))[k*i.size+j]?=v.cells.toList[j]?:=by
   intro vals
   induction vals with
   |nil=>simp
   |cons x r ih=>
    intro k v hv hk j hj;have hx:=hv x (List.mem_cons_self ..);rw[List.flatMap_cons];cases k with
    |zero=>grind
    |succ k=>
     have e:(k+1)*i.size+j=i.size+(k*i.size+j):=by grind
     rw[List.getElem?_append_right (by simp[hx];omega)];simp_all
  grind
 refine⟨res,by simp[execOp,ho,hrun,Result.andThen],by omega,?_,hflat⟩
 grind [Array.length_toList,len_flat]
theorem does_bslO(h:Sim B s a w E){o:Oper}{t e:TypeId}{len:Nat}{parts:Array (Nat×Operand)}(ho:o.op=.buildSlice t len parts){i:TypeInfo}{zv:Value}(hu:P.underlying t=some (.slice e))(hi:P.info? e=some i)(hz:i.zero=some zv)
  (h1:parts.toList.map (·.1)=List.range len∧len*i.size≤16777216∧zv.cells.size=i.size∧0<len*i.size) {d:Nat} (hno:¬B.old d) (hf:Fresh s d) {es:List (List PV)} (hes:seqO (fun x:Arg=>(x.get s).bind TV.pvs) (parts.toList.map fun p=>Arg.of p.2)=some es) (hel:∀e'∈es,e'.length=i.size):
  Does P B (s.setR d (e,i.size,es.length)) (.own d i.size es) a w o:=by
 obtain⟨res,hrun,hlen,hres,hflat⟩:=bsl_core h ho hu hi hz h1 hes hel;obtain⟨_,hsmall,_,hpos⟩:=h1;have hW:0<i.size:=Nat.pos_of_ne_zero (fun h0=>by rw[h0]at hpos;simp at hpos);have hl0:0<es.length:=Nat.pos_of_ne_zero (fun h0=>by rw[hlen]at h0;rw[h0]at hpos;simp at hpos);have hmax:es.length≤maxLen:=by
  have:es.length≤es.length*i.size:=Nat.le_mul_of_pos_right _ hW;unfold maxLen;rw[hlen]at this ⊢;omega
 obtain⟨E1,hβ,hK,hg,hS,hm⟩:=h.adopt hno hf e i.size;let E':Env:={ K:=fun k o=>E1.K k o∨(k=w.heap.size∧o<es.length*i.size),β:=E1.β,ι:=E1.ι,γ:=fun j=>if j=d then some (w.heap.size,es.length)else E1.γ j }
 have hb:Below w.heap.size w (w.alloc (.cells res e)):=(Below.refl _ _).alloc (Nat.le_refl _) _;have hk:∀k o u,E1.K k o→w.cell? ⟨k,o,none⟩=some u→E'.K k o∧(w.alloc (.cells res e)).cell? ⟨k,o,none⟩=some u:=fun k o u hk1 hk2=>⟨.inl hk1,(hb.cell (p:=⟨k,o,none⟩) (z72 hk2)).trans hk2⟩
 have hnew:(w.alloc (.cells res e)).heap[w.heap.size]?=some (.cells res e (0,0)):=heap_alloc_new w _;have hS':=hS.rowUp (d:=d) (e:=e) (W:=i.size) (n:=0) (n':=es.length) (E':=E') (w':=w.alloc (.cells res e)) (b:=w.heap.size) (cap:=es.length) (by simp[FS.setR,setF]) hl0 hk rfl rfl (fun d' hd'=>by simp[E',hd']) (fun k hk' _=>hb.block k hk') (by simp[E']) (.inl h.mem.low.size)
  ⟨⟨res,hnew,by rw[hlen];exact hres⟩,Nat.le_refl _,hmax,fun o ho=>by
   rcases ho with ho|⟨_,ho⟩
   ·have:=hS.mem.lt _ _ ho;omega
   ·exact ho⟩ (.inr (Nat.le_refl _)) (fun k o ho=>by
   rcases ho with ho|⟨ho,_⟩
   ·exact .inl ho
   ·exact .inr ho) hb.os hb.tape hb.output hb.size
 have hset:(s.setR d (e,i.size,0)).setR d (e,i.size,es.length)=s.setR d (e,i.size,es.length):=by
  unfold FS.setR;simp only[FS.mk.injEq,true_and,and_true];funext j;by_cases hj:j=d<;>simp[setF,hj]
 rw[hset]at hS';refine⟨_,_,w.alloc (.cells res e),E',hrun,.inl rfl,hS',?_⟩;rw[←hlen];refine .own d i.size es _ (.sl i.size es w.heap.size 0 es.length _ (fun k j=>(res[k*i.size+j]?).getD undef) (fun _=>rfl) (Nat.le_refl _) hmax hel (fun k j ps c hk1 hk2=> ?_) (fun k j ps c hk1 hk2=> ?_)) (fun e' W' n hn=> ?_)
 ·obtain⟨u,hu1,hu2,hu3⟩:=hflat k j ps c hk1 hk2;have hkl:k<es.length:=(gJ hk1).1;have hjl:j<i.size:=by rw[←hel ps (gM hk1)];exact(gJ hk2).1
  refine⟨.inr ⟨rfl,by rw[Nat.zero_add];exact idx_lt hkl hjl⟩,?_,by simpa [hu1]using hu3⟩;rw[Nat.zero_add,World.cell?_alloc_new,hu1];rfl
 ·obtain⟨u,hu1,hu2,hu3⟩:=hflat k j ps c hk1 hk2;rw[hu1];exact hu2.mono (fun b o u q1 q2=>hk b o u (by rw[hK];exact q1) q2)
 ·simp only[FS.setR,setF_self,Option.some.injEq,Prod.mk.injEq]at hn;obtain⟨rfl,rfl,rfl⟩:=hn;exact⟨Nat.le_refl _,fun _=>⟨rfl,by simp[E',hdr]⟩⟩
theorem does_app(h:Sim B s a w E){o:Oper}{x y:Operand}{t tx e:TypeId}(ho:o.op=.call { callee:=.builtin .append,args:= #[x,y],argTypes:= #[t,tx] }){i:TypeInfo}{zv:Value}(hu:P.underlying t=some (.slice e))(hi:P.info? e=some i)(hz:i.zero=some zv)
  (hzl:zv.cells.size=i.size) (hpos:0<i.size) {d:Nat} {es es2:List (List PV)} {v:Value} (hv:a.eval x=v) (hr:s.r d=some (e,i.size,es.length)) (hrel:RelT w E s.r (.own d i.size es) v)
  (hsrc:∃(news:List Value) (f:Nat→Nat→Value),News w E.K i.size es2 news f∧Src P i.size tx (a.eval y) es2.length news w) (hfit:(es.length+es2.length)*i.bytes≤140737488355328) (h63:es.length+es2.length≤maxLen):
  Does P B (s.setR d (e,i.size,es.length+es2.length)) (.own d i.size (es++es2)) a w o:=by
 obtain⟨news,f,hn,hsrc⟩:=hsrc;obtain⟨v',w',E',h1,_,_,h2,h3⟩:=h.app (P:=P) (ty:=o.type) hr hrel hpos hu hi hz hzl rfl hn hsrc hfit h63;refine⟨.value v',v',w',E',?_,.inl rfl,h2,h3⟩;simp[execOp,ho,resolve,invoke,builtin,hv,h1,Result.andThen]
theorem does_appN(h:Sim B s a w E){o:Oper}{x y:Operand}{t tx e:TypeId}(ho:o.op=.call { callee:=.builtin .append,args:= #[x,y],argTypes:= #[t,tx] }){i:TypeInfo}{zv:Value}(hu:P.underlying t=some (.slice e))(hi:P.info? e=some i)(hz:i.zero=some zv)
  (hzl:zv.cells.size=i.size) (hpos:0<i.size) {d:Nat} (hno:¬B.old d) (hf:Fresh s d) {es2:List (List PV)} (hv:a.eval x=.slice none 0 0)
  (hsrc:∃(news:List Value) (f:Nat→Nat→Value),News w E.K i.size es2 news f∧Src P i.size tx (a.eval y) es2.length news w) (hfit:es2.length*i.bytes≤140737488355328) (h63:es2.length≤maxLen):
  Does P B (s.setR d (e,i.size,es2.length)) (.own d i.size es2) a w o:=by
 obtain⟨E',hβ,hK,hg,hS,hm⟩:=h.adopt hno hf e i.size;have hr:(s.setR d (e,i.size,0)).r d=some (e,i.size,([]:List (List PV)).length):=by simp[FS.setR,setF]
 have hrel:RelT w E' (s.setR d (e,i.size,0)).r (.own d i.size []) (.slice none 0 0):=by
  refine .own d i.size [] _ (.sl i.size [] 0 0 0 none (fun _ _=>undef) (by simp) (by simp) (Nat.zero_le _) (by simp) (by simp) (by simp)) (fun e' W' n hn=> ?_);rw[hr]at hn;cases hn;exact⟨Nat.le_refl _,fun _=>⟨rfl,by rw[hg];rfl⟩⟩
 have:=does_app (P:=P) hS ho hu hi hz hzl hpos hv hr hrel (es2:=es2) (by rw[hK];exact hsrc) (by simpa using hfit) (by simpa using h63);have hset:(s.setR d (e,i.size,0)).setR d (e,i.size,([]:List (List PV)).length+es2.length)=s.setR d (e,i.size,es2.length):=by
  unfold FS.setR;simp only[List.length_nil,Nat.zero_add,FS.mk.injEq,true_and,and_true]
  grind [setF]
 grind
theorem flat_len{W:Nat}:∀{es:List (List PV)},(∀cs∈es,cs.length=W)→es.flatten.length=es.length*W
 |[],_=>by simp
 |cs::es,h=>by
  rw[List.flatten_cons,List.length_append,flat_len (es:=es) (fun x hx=>h x (List.mem_cons_of_mem _ hx)),h cs (List.mem_cons_self ..),List.length_cons,Nat.add_mul];omega
theorem flat_at{W:Nat}:∀{es:List (List PV)},(∀cs∈es,cs.length=W)→∀{j:Nat} {p:PV},es.flatten[j]?=some p→∃k q cs,es[k]?=some cs∧cs[q]?=some p∧j=k*W+q
 |[],_,j,p,hp=>by simp at hp
 |cs::es,h,j,p,hp=>by
  have hW:=h cs (List.mem_cons_self ..);rw[List.flatten_cons]at hp;rcases Nat.lt_or_ge j cs.length with hj|hj
  ·rw[List.getElem?_append_left hj]at hp;exact⟨0,j,cs,rfl,hp,by omega⟩
  ·rw[List.getElem?_append_right hj]at hp;obtain⟨k,q,ds,h1,h2,h3⟩:=flat_at (es:=es) (fun x hx=>h x (List.mem_cons_of_mem _ hx)) hp;exact⟨k+1,q,ds,by simpa using h1,h2,by rw[Nat.add_mul];omega⟩
theorem does_appB0(h:Sim B s a w E){o:Oper}{x y:Operand}{t tx e:TypeId}(ho:o.op=.call { callee:=.builtin .append,args:= #[x,y],argTypes:= #[t,tx] }){i:TypeInfo}(hu:P.underlying t=some (.slice e))(hi:P.info? e=some i)(hv:a.eval x=.slice none 0 0)
  (hsrc:∃(news:List Value) (f:Nat→Nat→Value),News w E.K i.size [] news f∧Src P i.size tx (a.eval y) ([]:List (List PV)).length news w):Does P B s (.pv (.v (.slice none 0 0))) a w o:=by
 obtain⟨news,f,hn,hsrc⟩:=hsrc;have hnl:=hsrc.newsLen;have hnews0:news=[]:=List.eq_nil_of_length_eq_zero (by simpa using hnl);subst hnews0;have:=run_append_nothing (P:=P) w t tx o.type e i hu hi none 0 0 (Nat.le_refl _) (a.eval y) hsrc;refine⟨.value (.slice none 0 0),_,w,E,?_,.inl rfl,h,.pv (.v _)⟩;simp[execOp,ho,resolve,invoke,builtin,hv,this,Result.andThen]
theorem does_appB(h:Sim B s a w E){o:Oper}{x y:Operand}{t tx e:TypeId}(ho:o.op=.call { callee:=.builtin .append,args:= #[x,y],argTypes:= #[t,tx] }){i:TypeInfo}{zv:Value}(hu:P.underlying t=some (.slice e))(hi:P.info? e=some i)(hz:i.zero=some zv)
  (hzl:zv.cells.size=i.size) (hpos:0<i.size) {d:Nat} (hno:¬B.old d) (hf:Fresh s d) {es2:List (List PV)} (hv:a.eval x=.slice none 0 0)
  (hsrc:∃(news:List Value) (f:Nat→Nat→Value),News w E.K i.size es2 news f∧Src P i.size tx (a.eval y) es2.length news w) (hne:es2≠[]) (hfit:es2.length*i.bytes≤140737488355328) (h63:es2.length≤maxLen):
  Does P B (s.setB d (es2.flatten.map .pv)) (.bs d 0 es2.length es2.length) a w o:=by
 obtain⟨news,f,hn,hsrc⟩:=hsrc;have hnl:=hsrc.newsLen;have hpos2:0<es2.length:=List.length_pos_iff.2 hne;let cap':=grownCap w (0+es2.length) 0 e
 have hcap1:es2.length≤cap':=by have:=grownCap_ge w (0+es2.length) 0 e;simpa [cap']using this
 have hcap2:cap'≤maxLen:=grownCap_le_maxLen w _ 0 e (by simpa using h63);have hrun:=run_append_grow_src (P:=P) w t tx o.type e i zv hu hi hz none 0 0 [] (run_firstCells_none _ _ _ _ _) (a.eval y) es2.length news hsrc (by omega) (by have:=h63;unfold maxLen at this;simp at this ⊢;omega) (growslice_fits (by omega) (by simpa using hfit));have hS:=h.same (w':=w.drew) ((Below.refl _ _).drew);have hrel:∀(j:Nat) c v,(es2.flatten.map TV.pv)[j]?=some c→(news++(Builtin.zeroCells zv.cells (cap'-(0+es2.length))).toList)[j]?=some v→one v∧RelT w.drew E s.r c v:=by
  intro j c v hc hv';rw[List.getElem?_map]at hc;obtain⟨p,hp,rfl⟩:=gO hc;obtain⟨k,q,cs,hk,hq,rfl⟩:=flat_at hn.len hp;obtain⟨n1,n2,n3⟩:=hn.at_ k q cs p hk hq;rw[List.getElem?_append_left (gJ n1).1,n1]at hv';cases hv';exact⟨n2,.pv (n3.mono fun _ _ _ h1 h2=>⟨h1,h2⟩)⟩
 obtain⟨E',hE,hS'⟩:=hS.newBp hno hf e (es2.flatten.map TV.pv) (news++(Builtin.zeroCells zv.cells (cap'-(0+es2.length))).toList) (by rw[List.length_map,flat_len hn.len,List.length_append,hnl];omega) (fun j c v h1 h2=>(hrel j c v h1 h2).2) (fun j c v h1 h2=>(hrel j c v h1 h2).1) (fun c hc hm=>by
  obtain⟨p,_,rfl⟩:=List.mem_map.1 hc;cases hm)
 have harr:(news++(Builtin.zeroCells zv.cells (cap'-(0+es2.length))).toList).toArray=(([]:List Value)++news).toArray++Builtin.zeroCells zv.cells (cap'-(0+es2.length)):=by simp
 rw[harr]at hS';refine⟨.value (.slice (some ⟨w.heap.size,0,none⟩) (0+es2.length) cap'),_,_,E',?_,.inl rfl,hS',?_⟩
 ·simp[execOp,ho,resolve,invoke,builtin,hv,hrun,Result.andThen,cap']
 ·rw[Nat.zero_add,show w.heap.size=E'.β d from hE.symm];exact .bs d 0 _ _ _ (Nat.le_refl _) hcap1 hcap2
end
theorem findKs_none{kd:TypeDesc}{k:Value}:∀(es:List MapEntry) (i:Nat),findKs kd k (es.map MapEntry.key) i=some none→Instr.findNow kd k es i=some none
 |[],i,_=>rfl
 |e::es,i,h=>by
  simp only[List.map_cons,findKs]at h;simp only[Instr.findNow];cases hs:Instr.sameNow kd k e.key with
  |none=>grind
  |some b=>
   rw[hs]at h;cases b with
   |true=>cases h
   |false=>exact findKs_none es (i+1) h
theorem findKs_some{kd:TypeDesc}{k:Value}:∀(es:List MapEntry) (i j:Nat),findKs kd k (es.map MapEntry.key) i=some (some j)→i≤j∧∃e,es[j-i]?=some e∧Instr.findNow kd k es i=some (some (j,e.val))
 |[],i,j,h=>by cases h
 |e::es,i,j,h=>by
  simp only[List.map_cons,findKs]at h;simp only[Instr.findNow];cases hs:Instr.sameNow kd k e.key with
  |none=>grind
  |some b=>
   rw[hs]at h;cases b with
   |true=>simp_all
   |false=>
    obtain⟨h1,e',h2,h3⟩:=findKs_some es (i+1) j h
    grind
theorem checkKey_kd'{P:Program}{w:World}{t:TypeId}(text b:Bool)(n:Nat)(v:Value)(h:P.underlying t=some (kdOf text)):(Instr.checkKey b (n+1) t v).run P w=.ok () w:=by
 rw[Instr.checkKey,Sem.run_bind,run_underlying h];cases text<;>simp[kdOf,Result.andThen]
theorem checkKey_kd{P:Program}{w:World}{t:TypeId}(text b:Bool)(v:Value)(h:P.underlying t=some (kdOf text)):(Instr.checkKey b 10000 t v).run P w=.ok () w:=checkKey_kd' text b 9999 v h
theorem run_lkp{P:Program}{w:World}{t kt et:TypeId}{text:Bool}{b clock:Nat}{es:Array MapEntry}{k z:Value}(ht:P.underlying t=some (.map kt et))(hk:P.underlying kt=some (kdOf text))(hz:(zeroValue et).run P w=.ok z w)(hb:w.heap[b]?=some (.map es clock))
  {r:Option Nat} (hr:findKs (kdOf text) k (es.toList.map MapEntry.key) 0=some r):
  (Instr.lookup t (.map (some b)) k false).run P w=.ok (match r with|some j=>((es.toList[j]?).map MapEntry.val).getD z|none=>z) w:=by
 have hget:=Go.MapKept.run_getObj_map (P:=P) hb;cases r with
 |none=>
  have h1:=findKs_none _ _ hr;simp[Instr.lookup,run_underlying ht,hget,checkKey_kd text _ _ hk,Instr.findKey,run_underlying hk,h1,hz,Result.andThen]
 |some j=>
  obtain⟨_,e,h2,h3⟩:=findKs_some _ _ _ hr;rw[Nat.sub_zero]at h2;simp[Instr.lookup,run_underlying ht,hget,checkKey_kd text _ _ hk,Instr.findKey,run_underlying hk,h3,Result.andThen]
  grind
end Go.Sh
end

section
namespace Go.Sh
open Go Go.RowKit
set_option maxHeartbeats 4000000
section
variable{B:Base}{s:FS}{a:Act}{w w':World}{E E':Env}{r:Rows}{P:Program}{C:Oracle}{g:Glob}
theorem eqGuard_const(op:BinOp)(t:TypeId)(x y:Operand)(vx vy:Value)(h:¬(vx=.nilIface∧vy=.nilIface)):eqGuard op t x y vx vy=eqGuard op t (.const vx) (.const vy) vx vy:=by
 unfold eqGuard
 grind
theorem z64{o:Oper}{s':FS}{x:TV}(hd:Does P B s' x a w o)(hdst:∀k,o.dst=some k→k<B.N){next:Act→World→Prop}{Q:Exit→Act→World→Prop}
  (hn:∀v w' E',Sim B (s'.put o.dst x) (a.put o.dst v) w' E'→next (a.put o.dst v) w'):o.wp P a w next Q:=by
 obtain⟨nx,v,w',E',h1,h2,h3,h4⟩:=hd;unfold Oper.wp;rw[h1];rcases h2 with rfl|⟨rfl,rfl⟩
 ·exact hn v w' E' (h3.put hdst h4)
 ·exact hn undef w' E' (h3.put hdst h4)
theorem z134(h:Sim B s a w E){x:Option Operand}{dflt n:Nat}(hx:bound s dflt (x.map Arg.of)=some n):(x=none∧n=dflt)∨∃y k,x=some y∧a.eval y=.int k n:=by
 cases x with
 |none=>grind [bound]
 |some x=>
  obtain⟨i,h1,h2⟩:=gB hx;obtain⟨t,h3,h4⟩:=gB h1;split at h2
  ·rename_i h0;obtain⟨k,hk⟩:=int_rel (z16 h h3) h4
   grind
  ·cases h2
theorem run_slice_any{t e:TypeId}{i:TypeInfo}(hu:P.underlying t=some (.slice e))(hi:P.info? e=some i)(p:Option Addr)(len cap:Nat)(lo hi':Option Value)(l h:Nat)(hl:(lo=none∧l=0)∨∃k,lo=some (.int k l))(hh:(hi'=none∧h=len)∨∃k,hi'=some (.int k h))(h1:l≤h)(h2:h≤len)(h3:len≤cap):
  (Instr.sliceAt t (.slice p len cap) lo hi' none).run P w=.ok (.slice (if cap=l then p else p.map (·.add (l*i.size))) (h-l) (cap-l)) w:=by
 have hb:(Instr.sliceBounds true len cap lo hi' none).run P w=.ok (l,h,cap) w:=by
  rcases hl with⟨rfl,rfl⟩|⟨k,rfl⟩<;>rcases hh with⟨rfl,rfl⟩|⟨k',rfl⟩
  ·simp[Instr.sliceBounds]
  ·simp[Instr.sliceBounds,Instr.sliceBound,asIntOf,Result.andThen]
   grind
  ·simp[Instr.sliceBounds,Instr.sliceBound,asIntOf,Result.andThen]
   grind
  ·simp[Instr.sliceBounds,Instr.sliceBound,asIntOf,Result.andThen]
   grind
 simp[Instr.sliceAt,Instr.slice,run_underlying hu,hb,z89 hi,Result.andThen]
theorem ids0_ment{t:TV}{d:Nat}(h:d∈t.ids0):Ment d t:=by
 cases t<;>simp only[TV.ids0,List.mem_singleton,List.not_mem_nil]at h
 ·subst h;exact .ptr _
 ·subst h;exact .own _ _
 ·subst h;exact .bs _ _ _
theorem idsF_ment{t:TV}{d:Nat}(h:d∈t.idsF):Ment d t:=by
 cases t with
 |fn f x y=>
  simp only[TV.idsF,List.mem_append,List.mem_flatMap]at h;rcases h with⟨c,h1,h2⟩|⟨c,h1,h2⟩
  ·exact .fn1 h1 (ids0_ment h2)
  ·exact .fn2 h1 (ids0_ment h2)
 |_=>exact ids0_ment h
theorem idsE_ment{t:TV}{d:Nat}(h:d∈t.idsE):Ment d t:=by
 cases t with
 |agg cs=>
  simp only[TV.idsE,List.mem_flatMap]at h;obtain⟨c,h1,h2⟩:=h;exact .agg h1 (idsF_ment h2)
 |_=>exact idsF_ment h
theorem ids1_ment{t:TV}{d:Nat}(h:d∈t.ids1):Ment d t:=by
 cases t with
 |mp ks xs=>
  simp only[TV.ids1,List.mem_flatMap]at h;obtain⟨c,h1,h2⟩:=h;exact .mp h1 (idsE_ment h2)
 |_=>exact idsF_ment h
theorem ids2_ment{t:TV}{d:Nat}(h:d∈t.ids2):Ment d t:=by
 cases t with
 |agg cs=>
  simp only[TV.ids2,List.mem_flatMap]at h;obtain⟨c,h1,h2⟩:=h;exact .agg h1 (ids1_ment h2)
 |_=>exact ids1_ment h
theorem z102{rows:Bool}:∀(n:Nat) (l seen:List Nat),seen.Nodup→(∀d∈seen,s.ment d)→(∀d∈l,s.ment d)→(reach s rows n l seen).Nodup∧∀d∈reach s rows n l seen,s.ment d
 |0,l,seen,h1,h2,_=>by simp only[reach];exact⟨h1,h2⟩
 |n+1,[],seen,h1,h2,_=>by simp only[reach];exact⟨h1,h2⟩
 |n+1,d::l,seen,h1,h2,h3=>by
  have hl:∀d∈l,s.ment d:=fun x hx=>h3 x (List.mem_cons_of_mem _ hx);have hd:=h3 d (List.mem_cons_self ..);simp only[reach];cases hp:pos seen d with
  |some j=>exact z102 n l seen h1 h2 hl
  |none=>
   have hnot:=pos_none hp;have hnd:(seen++[d]).Nodup:=List.nodup_append.2 ⟨h1,by simp,by
    intro x hx y hy;simp at hy;subst hy;rintro rfl;exact hnot hx⟩
   have hms:∀x∈seen++[d],s.ment x:=by
    intro x hx;rcases List.mem_append.1 hx with hx|hx
    ·exact h2 x hx
    ·simp at hx;subst hx;exact hd
   cases hb:s.b d with
   |some cs=>
    refine z102 n _ _ hnd hms (fun x hx=> ?_);rcases List.mem_append.1 hx with hx|hx
    ·obtain⟨c,hc,hx⟩:=List.mem_flatMap.1 hx;exact .inr ⟨d,cs,c,hb,hc,ids1_ment hx⟩
    ·exact hl x hx
   |none=>
    cases hr:s.r d with
    |none=>exact z102 n l seen h1 h2 hl
    |some q=>
     cases rows with
     |true=>exact z102 n l _ hnd hms hl
     |false=>exact z102 n l seen h1 h2 hl
def handI(s:FS)(mode:Nat)(xs:List TV):List Nat:=if Nat.beq mode 0 then [] else reach s (Nat.beq mode 2) 64 (xs.flatMap TV.ids2) []
theorem handI_spec(mode:Nat){xs:List TV}(h:∀x∈xs,∀d,Ment d x→s.ment d):(handI s mode xs).Nodup∧∀d∈handI s mode xs,s.ment d:=by
 unfold handI;split
 ·simp
 ·refine z102 _ _ _ (by simp) (by simp) (fun d hd=> ?_);obtain⟨x,hx,hd⟩:=List.mem_flatMap.1 hd;exact h x hx d (ids2_ment hd)
theorem callEff_inv{k f mode:Nat}{xs:List TV}{x:TV}{u:Upd}(h:z95 C s k f mode xs=some (x,u)):∃xs' os y os' us,seqO (TV.ren2 (rhoIn (handI s mode xs))) xs=some xs'∧seqO (fun d=>(s.mo d).bind (MO.ren (rhoIn (handI s mode xs)))) (handI s mode xs)=some os∧
  C f xs' os=some (y,os')∧moOk os os'=true∧y.ren3 (rhoOut (handI s mode xs) k)=some x∧outs (rhoOut (handI s mode xs) k) 0 os'=some us∧u=.mem us:=by
 unfold z95 at h;simp only[]at h;split at h
 ·rename_i xs' os h1 h2;split at h
  ·rename_i y os' h3;split at h
   ·rename_i h4;split at h
    ·rename_i y' us h5 h6;cases h;exact⟨xs',os,y,os',us,h1,h2,h3,h4,h5,h6,rfl⟩
    ·cases h
   ·cases h
  ·cases h
 ·cases h
theorem wp_callAt(h:Sim B s a w E)(hG:g.G B.w0)(hX:∀d b,B.X d b→g.n≤b){o:Oper}{f mode:Nat}{xs:List TV}{vs:List Value}(hmx:∀x∈xs,∀d,Ment d x→s.ment d)(hl:xs.length=vs.length)(hxs:∀(j:Nat) x v,xs[j]?=some x→vs[j]?=some v→RelT w E s.r x v)
  (hop:hasBody P f→(execOp a.eval o).run P w=.ok (.enter f vs.toArray) w) (hdst:∀k,o.dst=some k→k<B.N) (hC:∀f xs os y os',C f xs os=some (y,os')→SCalls P g f xs os y os') (hm0:B.m≤1000) (hf:∀q<4,Fresh s (newId (dstId o.dst) q))
  {x:TV} {u:Upd} (he:z95 C s (dstId o.dst) f mode xs=some (x,u)) {next:Act→World→Prop} {Q:Exit→Act→World→Prop}
  (hn:∀v w' E',Sim B ((s.upd o.dst u).put o.dst x) (a.put o.dst v) w' E'→next (a.put o.dst v) w'):o.wp P a w next Q:=by
 obtain⟨xs',os,y,os',us,h1,h2,h3,h4,h5,h6,rfl⟩:=callEff_inv he;obtain⟨hI,hIm⟩:=handI_spec mode hmx;obtain⟨hbody,hcall⟩:=hC f xs' os y os' h3;have hn0:=g.le _ hG;have hGw:g.G w:=g.st _ _ hG (fun k hk=>h.mem.low.block k (by omega) (fun d hd=>by have:=hX d k hd;omega));have hrho:RenOk E s.r (rhoIn (handI s mode xs)) (envIn E (handI s mode xs)) (objR os):=renIn h2;obtain⟨l1,q1⟩:=seqR (w:=w) (fun _ _ _=>ren2_rel hrho (fun _ _ _ h _=>h)) hl hxs h1;have hblk:∀d b,objX (envIn E (handI s mode xs)) os d b→g.n≤b:=by
  intro d b hx;obtain⟨hlen,hB,hR⟩:=handed h2;rcases hx with⟨cs,e1,e2⟩|⟨⟨e,W,n⟩,cap,e1,e2⟩
  ·obtain⟨j,rfl,hj⟩:=z43 e1;obtain⟨i,c,b1,b2,_⟩:=hB j cs hj;have e3:E.β i=b:=by rw[←e2];simp only[envIn];rw[getD_of b1]
   rcases(h.mem.box i c b2).2 with e4|e4<;>grind
  ·obtain⟨j,rfl,hj⟩:=z27 e1;obtain⟨i,b1,b2,b3⟩:=hR j e W n hj;have e3:E.γ i=some (b,cap):=by rw[←e2];simp only[envIn];rw[getD_of b1]
   rcases h.mem.row i e W n b3 with⟨e4,_⟩|⟨b',c',e4,e5,_⟩<;>grind
 have hcalls:=hcall w (envIn E (handI s mode xs)) vs hGw (z100 h hI h2) hblk l1 q1;unfold Oper.wp;rw[hop hbody];refine hcalls.mono ?_;rintro e w' ⟨v,E',rfl,hm,hv,hleft⟩;obtain⟨hS,hren⟩:=z154 h hI hIm hm0 hf h2 h4 h6 hm hleft o.dst;exact hn v w' _ (hS.put hdst (z131 hren (fun _ _ _ h _=>h) hv h5))
theorem get_list(h:Sim B s a w E){xs:List Operand}{ts:List TV}(hx:seqO (fun x:Arg=>x.get s) (xs.map Arg.of)=some ts):ts.length=(xs.map a.eval).length∧(∀(j:Nat) x v,ts[j]?=some x→(xs.map a.eval)[j]?=some v→RelT w E s.r x v)∧∀x∈ts,∀d,Ment d x→s.ment d:=by
 obtain⟨l1,h1⟩:=z38 hx;have key:∀(j:Nat) x,ts[j]?=some x→∃y,xs[j]?=some y∧(Arg.of y).get s=some x:=by
  intro j x hj;have hjl:j<xs.length:=by grind
  obtain⟨y,hy1,hy2⟩:=h1 j (Arg.of xs[j]) (by rw[List.getElem?_map,gE hjl];rfl)
  grind
 grind [z16,List.getElem?_of_mem,z26]
theorem run_ssub{t:TypeId}(hu:P.underlying t=some .string)(z:ByteArray)(lo hi':Option Value)(l h:Nat)(hl:(lo=none∧l=0)∨∃k,lo=some (.int k l))(hh:(hi'=none∧h=z.size)∨∃k,hi'=some (.int k h))(h1:l≤h)(h2:h≤z.size):
  (Instr.sliceAt t (.string z) lo hi' none).run P w=.ok (.string (z.extract l h)) w:=by
 have hb:(Instr.sliceBounds false z.size z.size lo hi' none).run P w=.ok (l,h,z.size) w:=by
  rcases hl with⟨rfl,rfl⟩|⟨k,rfl⟩<;>rcases hh with⟨rfl,rfl⟩|⟨k',rfl⟩
  ·simp[Instr.sliceBounds]
  ·simp[Instr.sliceBounds,Instr.sliceBound,asIntOf,Result.andThen]
   grind
  ·simp[Instr.sliceBounds,Instr.sliceBound,asIntOf,Result.andThen]
   grind
  ·simp[Instr.sliceBounds,Instr.sliceBound,asIntOf,Result.andThen]
   grind
 simp[Instr.sliceAt,Instr.slice,run_underlying hu,hb,Result.andThen]
theorem run_b2s{es:List (List PV)}{v:Value}{l:List UInt8}(h:RelV w E.K (.sl 1 es) v)(hl:seqO byteOf es=some l):(Conv.bytesToString v).run P w=.ok (.string ⟨l.toArray⟩) w:=by
 obtain⟨b,off,cap,p,f,rfl,hp,hcap,hmax,hW,hc⟩:=z66 h;let num:List PV→Int:=fun e=>match e with|[.v (.int .u8 n)]=>n|_=>0
 have hes:∀(e:List PV) u,byteOf e=some u→e=[.v (.int .u8 (num e))]∧u=UInt8.ofNat (num e).toNat:=by
  intro e u he;unfold byteOf at he;split at he
  ·cases he;exact⟨rfl,rfl⟩
  ·cases he
 have hfold:∀(es:List (List PV)) (l:List UInt8) (acc:ByteArray),seqO byteOf es=some l→(es.map num).foldl (fun r n=>r.push (UInt8.ofNat n.toNat)) acc=⟨acc.data++l.toArray⟩:=by
  intro es
  induction es with
  |nil=>intro l acc hl;simp[seqO]at hl;subst hl;simp
  |cons e r ih=>
   intro l acc hl;obtain⟨y,zs,h1,h2,rfl⟩:=seqO_cons hl;simp;rw[ih zs _ h2,←(hes e y h1).2];cases acc;simp[ByteArray.push]
 cases p with
 |none=>
  have:es=[]:=by
   apply Classical.byContradiction;intro hne;have:=hp hne;cases this
  subst this;simp[seqO]at hl;subst hl;simp[Conv.bytesToString];rfl
 |some ad=>
  have hload:(loadCells ad es.length).run P w=.ok ((es.map num).map (Value.int .u8)).toArray w:=by
   have:=run_loadCells_list (P:=P) (w:=w) ad ((es.map num).map (Value.int .u8)) (fun j v hv=>by
    simp only[List.getElem?_map,Option.map_map]at hv;obtain⟨e,he,rfl⟩:=gO hv;obtain⟨l1,h1⟩:=z38 hl;obtain⟨u,_,hu⟩:=h1 j e he;obtain⟨e1,_⟩:=hes e u hu;have hpe:=hp (by rintro rfl;simp at he);have had:ad=⟨b,off,none⟩:=Option.some.inj hpe;subst had;obtain⟨⟨_,h2,_⟩,h3⟩:=hc j 0 e (.v (.int .u8 (num e))) he (by rw[e1];rfl);rw[Addr.add_mid];have hv:f j 0=.int .u8 (num e):=by
     generalize f j 0=q at h3;cases h3;rfl
    rw[hv]at h2;simpa using h2)
   simpa using this
  rw[run_bytesToString w ad es.length cap _ hload,hfold es l _ hl];simp
theorem relApp{xs ys:List TV}{us vs:List Value}(h1:xs.length=us.length)(h2:ys.length=vs.length)(r1:∀(j:Nat) c v,xs[j]?=some c→us[j]?=some v→RelT w E r c v)(r2:∀(j:Nat) c v,ys[j]?=some c→vs[j]?=some v→RelT w E r c v):
  ∀(j:Nat) c v,(xs++ys)[j]?=some c→(us++vs)[j]?=some v→RelT w E r c v:=by
 grind
theorem callee_rel{t:TV}{v:Value}{f:Nat}{fa fb:List TV}(h:RelT w E r t v)(ht:t.callee=some (f,fa,fb)):∃us cs:List Value,v=.func (.func f) us.toArray cs.toArray∧fa.length=us.length∧fb.length=cs.length∧
  (∀(j:Nat) c v,fa[j]?=some c→us[j]?=some v→RelT w E r c v)∧(∀(j:Nat) c v,fb[j]?=some c→cs[j]?=some v→RelT w E r c v)∧∀x,(x∈fa∨x∈fb)→∀d,Ment d x→Ment d t:=by
 unfold TV.callee at ht;split at ht
 ·cases ht;cases h with
  |fn g xs ys us vs h1 h2 r1 r2=>
  exact⟨us,vs,rfl,h1,h2,r1,r2,fun x hx d hd=>hx.elim (fun hx=> .fn1 hx hd) (fun hx=> .fn2 hx hd)⟩
 ·cases ht;cases h with
  |pv h=>
  cases h with
  |fn g xs ys us vs h1 h2 r1 r2=>
  refine⟨us,vs,rfl,by simpa using h1,by simpa using h2,fun j c v hc hv=> ?_,fun j c v hc hv=> ?_,fun x hx d hd=> ?_⟩
  ·rw[List.getElem?_map]at hc;obtain⟨p,hp,rfl⟩:=gO hc;exact .pv (r1 j p v hp hv)
  ·rw[List.getElem?_map]at hc;obtain⟨p,hp,rfl⟩:=gO hc;exact .pv (r2 j p v hp hv)
  ·rcases hx with hx|hx
   ·obtain⟨p,_,rfl⟩:=List.mem_map.1 hx;cases hd
   ·obtain⟨p,_,rfl⟩:=List.mem_map.1 hx;cases hd
 ·cases ht;cases h with
  |pv h=>
  cases h<;>grind
 ·cases ht
theorem made_list(z:Array Value)(hz:0<z.size):∀n,(madeCells z (n*z.size)).toList=(List.replicate n z.toList).flatten
 |0=>by simp[madeCells]
 |n+1=>by
  have ih:=made_list z hz n;simp only[madeCells,Array.toList_map,Array.toList_range]at ih ⊢;rw[Nat.add_mul,Nat.one_mul,List.range_add,List.map_append,ih,List.replicate_succ',List.flatten_append];congr 1;apply List.ext_getElem?;intro j;rcases Nat.lt_or_ge j z.size with hj|hj
  ·have e:(n*z.size+j)%z.size=j:=by rw[Nat.mul_comm,Nat.mul_add_mod,Nat.mod_eq_of_lt hj]
   simp[hj,e]
  ·rw[List.getElem?_eq_none (by simpa using hj),List.getElem?_eq_none (by simpa using hj)]
theorem does_mks(h:Sim B s a w E){o:Oper}{t e:TypeId}{la:Nat}(hop:o.op=.makeSlice t (.tmp la) (.tmp la))(hu:P.underlying t=some (.slice e)){i:TypeInfo}{zv:Value}(hi:P.info? e=some i)(hz:i.zero=some zv)(hzl:zv.cells.size=i.size∧0<i.size∧zv.cells.toList.all (·.oneCell')=true)
  {d:Nat} (hd:o.dst=some d) (hno:¬B.old d) (hf:Fresh s d) {k:Int} (hk:(Arg.tmp la).get s=some (.pv (.v (.int .i64 k)))) (hle:0≤k∧(i.bytes:Int)*k≤140737488355328∧k≤maxLen):
  Does P B (s.upd o.dst (.box ((List.replicate k.toNat (zv.cells.toList.map fun v=>TV.pv (.v v))).flatten))) (.bs d 0 k.toNat k.toNat) a w o:=by
 have hv:=val_rel (y:=.int .i64 k) (z16 h (x:=.tmp la) hk) rfl;have h63:k≤9223372036854775807:=by have:=hle.2.2;simp only[maxLen]at this;omega
 have hrun:=run_make (P:=P) w t e i zv hu hi hz .i64 .i64 k k hle.1 (Int.le_refl _) (by have:=hle.2.1;omega) h63;have hmade:(madeCells zv.cells (k.toNat*i.size)).toList=(List.replicate k.toNat zv.cells.toList).flatten:=by grind [made_list]
 have hmap:(List.replicate k.toNat (zv.cells.toList.map fun v=>TV.pv (.v v))).flatten=((List.replicate k.toNat zv.cells.toList).flatten).map fun v=>TV.pv (.v v):=by simp
 have ho:∀v∈(List.replicate k.toNat zv.cells.toList).flatten,one v:=by
  grind [List.mem_flatten]
 have hrel:=RelL.ofVals (w:=w) (E:=E) (r:=s.r) ho;obtain⟨E',hE,hS⟩:=h.newB hno hf e _ _ hrel.len hrel.at_ ho (by
  intro c hc hmc;obtain⟨v,_,rfl⟩:=List.mem_map.1 hc;cases hmc)
 have harr:(List.replicate k.toNat zv.cells.toList).flatten.toArray=madeCells zv.cells (k.toNat*i.size):=by grind
 rw[harr]at hS;refine⟨.value (.slice (some ⟨w.heap.size,0,none⟩) k.toNat k.toNat),_,w.alloc (.cells (madeCells zv.cells (k.toNat*i.size)) e),E',?_,.inl rfl,by rw[hd,hmap];exact hS,?_⟩
 ·simp[execOp,hop,hv,hrun,Result.andThen]
 ·rw[←hE];exact .bs d 0 _ _ _ (Nat.le_refl _) (Nat.le_refl _) (by have:=hle.2.2;omega)
theorem run_fnil1{t:TypeId}{p q:Array TypeId}{r:Bool}(hu:P.underlying t=some (.func p q r)):(Op.equal t .nilFunc .nilFunc).run P w=.ok true w:=by
 show(Op.equalIn (Op.maxDepth-1+1) t .nilFunc .nilFunc).run P w=_;rw[Op.equalIn];simp[run_underlying hu,Result.andThen]
theorem run_fnil2{t:TypeId}{p q:Array TypeId}{r:Bool}(hu:P.underlying t=some (.func p q r)){f:Fn}{c d:Array Value}:(Op.equal t (.func f c d) .nilFunc).run P w=.ok false w:=by
 show(Op.equalIn (Op.maxDepth-1+1) t (.func f c d) .nilFunc).run P w=_;rw[Op.equalIn];simp[run_underlying hu,Result.andThen]
theorem sim_op(h:Sim B s a w E){o:Oper}{sop:SOp}{hint:Nat}(hm0:B.m≤1000)(hN:B.N≤1000)(hG:g.G B.w0)(hX:∀d b,B.X d b→g.n≤b)(ht:z24 P o hint=some sop)(hdst:∀k,o.dst=some k→k<B.N)(hf:∀d∈sop.news o.dst,Fresh s d)(hC:∀f xs os y os',C f xs os=some (y,os')→SCalls P g f xs os y os')
  {x:TV} {u:Upd} (he:eff P C o.dst sop s=some (x,u)) {next:Act→World→Prop} {Q:Exit→Act→World→Prop}
  (hn:∀v w' E',Sim B ((s.upd o.dst u).put o.dst x) (a.put o.dst v) w' E'→next (a.put o.dst v) w'):o.wp P a w next Q:=by
 have hno:∀d,o.dst=some d→¬B.old d:=fun d hd ho=>Nat.not_lt.2 (Nat.le_trans hN ho.1) (hdst d hd);have vD:∀{v:Value},u=.no→(execOp a.eval o).run P w=.ok (.value v) w→RelT w E s.r x v→o.wp P a w next Q:=by
  rintro v rfl hr hx;exact z64 (z162 h hr hx) hdst hn
 have nD:u=.no∧Does P B s x a w o→o.wp P a w next Q:=by
  rintro⟨rfl,hd⟩;exact z64 hd hdst hn
 cases hop:o.op with
 |move z=>
  simp only[z24,hop,Option.some.injEq]at ht;subst ht;obtain⟨v,h1,h2⟩:=gO he;cases h2;exact vD rfl (by simp[execOp,hop]) (z16 h h1)
 |assign z=>
  simp only[z24,hop,Option.some.injEq]at ht;subst ht;obtain⟨v,h1,h2⟩:=gO he;cases h2;exact vD rfl (by simp[execOp,hop]) (z16 h h1)
 |pick c y z=>
  simp only[z24,hop,Option.some.injEq]at ht;subst ht;simp only[eff]at he;split at he
  ·rename_i t hc;have hc':=val_rel (y:=.bool t) (z16 h hc) rfl;obtain⟨v,h1,h2⟩:=gO he;cases h2;cases t
   ·exact vD rfl (by simp[execOp,hop,hc',asBool]) (z16 h h1)
   ·exact vD rfl (by simp[execOp,hop,hc',asBool]) (z16 h h1)
  ·cases he
 |alloc t=>
  simp only[z24,hop]at ht;split at ht<;>try(cases ht;done)
  rename_i i hi;split at ht<;>try(cases ht;done)
  rename_i zv hz;split at ht<;>try(cases ht;done)
  rename_i h1;cases ht;exact z64 (does_new h hop hno (fun d hd=>hf d (by simp[SOp.news,hd])) hi hz h1 he) hdst hn
 |box t z=>
  simp only[z24,hop,Option.some.injEq]at ht;subst ht;exact z64 (does_box h hop hno (fun d hd=>hf d (by simp[SOp.news,hd])) he) hdst hn
 |build t parts=>
  simp only[z24,hop]at ht;split at ht<;>try(cases ht;done)
  ·rename_i i fs hi hu;split at ht<;>try(cases ht;done)
   rename_i zv hz;split at ht<;>try(cases ht;done)
   rename_i h1;obtain⟨ps,h2,rfl⟩:=gO ht;rw[Bool.and_eq_true]at h1;exact nD (does_build h hop hi hu hz h1.1 h2 (fun k f hk=>by
    have:=Array.all_eq_true.1 h1.2 k (gA hk).1;rw[(gA hk).2]at this;exact Option.isSome_iff_exists.1 this) he)
  ·rename_i i n e hi hu;split at ht<;>try(cases ht;done)
   rename_i zv j hz hj;split at ht<;>try(cases ht;done)
   rename_i h1;cases ht;exact nD (does_buildA h hop hi hu hz hj h1 he)
 |buildSlice t len parts=>
  simp only[z24,hop]at ht;split at ht<;>try(cases ht;done)
  rename_i e hu;split at ht<;>try(cases ht;done)
  rename_i i hi;split at ht<;>try(cases ht;done)
  rename_i zv hz;split at ht<;>try(cases ht;done)
  rename_i h1;cases hin:Nat.beq hint 1 with
  |false=>
   rw[hin]at ht;simp only[Bool.false_eq_true,if_false,Option.some.injEq]at ht;subst ht;exact nD (does_bsl h hop hu hi hz h1 he)
  |true=>
   rw[hin]at ht;simp only[if_true,Option.some.injEq]at ht;subst ht;simp only[eff]at he;split at he
   ·rename_i d es hd hes;split at he
    ·rename_i hall;cases he;have hel:∀e'∈es,e'.length=i.size:=fun e' he'=>by simpa using List.all_eq_true.1 hall e' he'
     have:=does_bslO (P:=P) h hop hu hi hz h1 (hno d hd) (hf d (by simp[SOp.news,hd])) hes hel;rw[hd]at hn hdst;refine z64 (s':=s.setR d (e,i.size,es.length)) this (by rw[hd];exact hdst) (by rw[hd];exact hn)
    ·cases he
   ·cases he
 |load t z=>
  simp only[z24,hop]at ht;split at ht<;>try(cases ht;done)
  rename_i d i hu hi;cases ht;exact nD (does_ld h hop hu hi he)
 |store t y z=>
  simp only[z24,hop]at ht;split at ht<;>try(cases ht;done)
  rename_i i hi;cases ht;exact z64 (does_st h hop hi he) hdst hn
 |nilCheck z=>
  simp only[z24,hop,Option.some.injEq]at ht;subst ht;simp only[eff]at he;split at he
  ·rename_i d off hz;cases he;have hx:=z16 h hz;generalize hv:a.eval z=v at hx;cases hx;exact vD rfl (by simp[execOp,hop,hv]) (.ptr d off)
  ·rename_i cs hz;cases he;have hx:=z16 h hz;generalize hv:a.eval z=v at hx;cases hx with
   |pv hx=>
   cases hx with
   |el _ b off f h1 h2=>exact vD rfl (by simp[execOp,hop,hv]) (.pv (.el cs b off f h1 h2))
  ·cases he
 |binOp op t y z t'=>
  simp only[z24,hop]at ht;have nilK:∀ne:Bool,eff P C o.dst (.fnil ne (.of y)) s=some (x,u)→z=.const .nilFunc→op=(if ne then .neq else .eql)→(∃p q r,P.underlying t=some (.func p q r))→o.wp P a w next Q:=by
   intro ne he hz hq hu;simp only[eff]at he;obtain⟨b,h1,h2⟩:=gO he;cases h2;obtain⟨ty,hy1,hy2⟩:=gB h1;have hx:=z16 h hy1;obtain⟨p,q,r,hu⟩:=hu;have hrun:(execOp a.eval o).run P w=.ok (.value (.bool (b !=ne))) w:=by
    generalize hv:a.eval y=v at hx;have hez:a.eval (.const .nilFunc)=.nilFunc:=rfl;have hv2:(b=true∧v=.nilFunc)∨(b=false∧∃f c d,v=.func f c d):=by
     cases hx with
     |fn g xs ys us vs _ _ _ _=>simp only[TV.fnil,Option.some.injEq]at hy2;exact .inr ⟨hy2.symm,_,_,_,rfl⟩
     |pv hx=>
      cases hx with
      |fn g xs ys us vs _ _ _ _=>simp only[TV.fnil,Option.some.injEq]at hy2;exact .inr ⟨hy2.symm,_,_,_,rfl⟩
      |v=>
       cases v<;>simp only[TV.fnil,Option.some.injEq,reduceCtorEq]at hy2
       ·exact .inr ⟨hy2.symm,_,_,_,rfl⟩
       ·exact .inl ⟨hy2.symm,rfl⟩
      |_=>simp[TV.fnil]at hy2
     |_=>simp[TV.fnil]at hy2
    rcases hv2 with⟨rfl,rfl⟩|⟨rfl,f,c,d,rfl⟩<;>cases ne<;>simp only[Bool.false_eq_true,if_false,if_true]at hq<;>subst hq<;>subst hz<;>
     simp only[execOp,hop,hv,hez,eqGuard,binOp,run_fnil1 hu,run_fnil2 hu,Sem.run_bind,Result.andThen]<;>rfl
   exact vD rfl hrun (.pv (.v _))
  split at ht
  ·rename_i hu;simp only[Option.some.injEq]at ht;subst ht;exact nilK false he rfl rfl ⟨_,_,_,hu⟩
  ·rename_i hu;simp only[Option.some.injEq]at ht;subst ht;exact nilK true he rfl rfl ⟨_,_,_,hu⟩
  rename_i z op _ _ _ _ _;simp only[Option.some.injEq]at ht;subst ht;simp only[eff]at he;split at he
  ·cases he
  ·rename_i vx vy hne hx hy;obtain⟨v,rfl,rfl,hrun⟩:=scal_inv he;have e1:=get_val h hx;have e2:=get_val h hy;have hq:=eqGuard_const op t y z vx vy (fun hh=>hne hh.1 hh.2);have hr:=hrun w;refine vD rfl (v:=v) ?_ (.pv (.v v));simp only[execOp,hop,e1,e2];rw[hq];simp only[Sem.run_bind]at hr ⊢;rw[hr];rfl
  ·cases he
 |unOp op t y=>
  simp only[z24,hop,Option.some.injEq]at ht;subst ht;simp only[eff]at he;split at he
  ·rename_i vx hx;obtain⟨v,rfl,rfl,hrun⟩:=scal_inv he;exact vD rfl (by simp[execOp,hop,get_val h hx,hrun w,Result.andThen]) (.pv (.v v))
  ·cases he
 |convert src dst y=>
  simp only[z24,hop]at ht;split at ht<;>try(cases ht;done)
  ·rename_i k1 k2 hs hd;cases ht;simp only[eff]at he;obtain⟨n,h1,h2⟩:=gO he;cases h2;obtain⟨ty,hy1,hy2⟩:=gB h1;obtain⟨k,hk⟩:=int_rel (z16 h hy1) hy2;exact vD rfl (v:=.int k2 (k2.wrap n)) (by simp[execOp,hop,hk,convert,run_underlying hs,run_underlying hd,Conv.intToInt,Result.andThen]) (.pv (.v _))
  ·rename_i hs hd;cases ht;simp only[eff]at he;obtain⟨n,h1,h2⟩:=gO he;cases h2;obtain⟨ty,hy1,hy2⟩:=gB h1;have hk:=str_rel (z16 h hy1) hy2;exact vD rfl (v:=.string n) (by simp[execOp,hop,hk,convert,run_underlying hs,run_underlying hd,Result.andThen]) (.pv (.v _))
  ·rename_i e hs hd;split at ht<;>try(cases ht;done)
   rename_i he8;cases ht;simp only[eff]at he;obtain⟨l,h1,h2⟩:=gO he;cases h2;obtain⟨es,hes,hl⟩:=gB h1;obtain⟨ty,hy1,hy2⟩:=gB hes;have hrel:=z135 (z16 h hy1) hy2;have hb:=run_b2s (P:=P) hrel hl;obtain⟨b,off,cap,p,f,hv,_⟩:=z66 hrel;rw[hv]at hb;exact vD rfl (v:=.string ⟨l.toArray⟩) (by simp[execOp,hop,hv,convert,run_underlying hs,run_underlying hd,run_underlying he8,hb,Result.andThen]) (.pv (.v _))
 |slice t y lo hi mx=>
  cases mx with
  |some m=>simp[z24,hop]at ht
  |none=>
   simp only[z24,hop]at ht;split at ht
   ·rename_i hu;cases ht;simp only[eff]at he;split at he
    ·rename_i z hz;obtain⟨ty,hy1,hy2⟩:=gB hz;have hv:=str_rel (z16 h hy1) hy2;split at he
     ·rename_i l hh hl1 hh1;split at he
      ·rename_i hle;cases he;have hl2:=z134 h hl1;have hh2:=z134 h hh1;have hrun:=run_ssub (P:=P) (w:=w) hu z (lo.map a.eval) (hi.map a.eval) l hh
        (hl2.imp (fun⟨h1,h2⟩=>⟨by rw[h1];rfl,h2⟩) (fun⟨q,k,h1,h2⟩=>⟨k,by rw[h1,Option.map_some,h2]⟩))
        (hh2.imp (fun⟨h1,h2⟩=>⟨by rw[h1];rfl,h2⟩) (fun⟨q,k,h1,h2⟩=>⟨k,by rw[h1,Option.map_some,h2]⟩)) hle.1 hle.2
       exact vD rfl (v:=.string (z.extract l hh)) (by simp[execOp,hop,hv,hrun,Result.andThen]) (.pv (.v _))
      ·cases he
     ·cases he
    ·cases he
   ·rename_i e hu;split at ht<;>try(cases ht;done)
    rename_i i hi';cases ht;simp only[eff]at he;split at he
    ·rename_i d off n c hbs;have hx:=z16 h hbs;generalize hv:a.eval y=v at hx;cases hx with
     |bs _ _ _ _ C hnc hcC hCm=>
     split at he
     ·rename_i l hh hl1 hh1;split at he
      ·rename_i hle;cases he;have hl2:=z134 h hl1;have hh2:=z134 h hh1;have hrun:=run_slice_any (P:=P) (w:=w) hu hi' (some ⟨E.β d,off,none⟩) n C (lo.map a.eval) (hi.map a.eval) l hh
        (hl2.imp (fun⟨h1,h2⟩=>⟨by rw[h1];rfl,h2⟩) (fun⟨q,k,h1,h2⟩=>⟨k,by rw[h1,Option.map_some,h2]⟩))
        (hh2.imp (fun⟨h1,h2⟩=>⟨by rw[h1];rfl,h2⟩) (fun⟨q,k,h1,h2⟩=>⟨k,by rw[h1,Option.map_some,h2]⟩)) hle.1 hle.2.1 (by omega)
       refine vD rfl (v:=.slice (if C=l then some ⟨E.β d,off,none⟩ else(some (⟨E.β d,off,none⟩:Addr)).map (·.add (l*i.size))) (hh-l) (C-l)) (by simp only[execOp,hop,hv,Option.map_none];rw[Sem.run_bind,hrun];rfl) ?_;by_cases hcl:c=l
       ·have h0:hh-l=0:=by omega
        rw[if_pos hcl,h0];exact .pv (.sl i.size [] 0 0 (C-l) _ (fun _ _=>undef) (by simp) (Nat.zero_le _) (by omega) (by simp) (by simp) (by simp))
       ·have h0:¬C=l:=by omega
        simp only[if_neg h0,if_neg hcl,Option.map_some,Addr.add_mid];exact .bs d _ _ _ _ (by omega) (by omega) (by omega)
      ·cases he
     ·cases he
    ·rename_i ty hnb hy1;split at he<;>try(cases he;done)
     rename_i es hy2;have hrel:=z135 (z16 h hy1) hy2;obtain⟨b,off,cap,p,f,hv,hp,hcap,hmax,hW,hc⟩:=z66 hrel;split at he
     ·rename_i l hh hl1 hh1;split at he
      ·rename_i hle;cases he;have hl2:=z134 h hl1;have hh2:=z134 h hh1;have hrun:=run_slice_any (P:=P) (w:=w) hu hi' p es.length cap (lo.map a.eval) (hi.map a.eval) l hh
        (hl2.imp (fun⟨h1,h2⟩=>⟨by rw[h1];rfl,h2⟩) (fun⟨q,k,h1,h2⟩=>⟨k,by rw[h1,Option.map_some,h2]⟩))
        (hh2.imp (fun⟨h1,h2⟩=>⟨by rw[h1];rfl,h2⟩) (fun⟨q,k,h1,h2⟩=>⟨k,by rw[h1,Option.map_some,h2]⟩)) hle.1 hle.2 hcap
       refine vD rfl (v:=.slice (if cap=l then p else p.map (·.add (l*i.size))) (hh-l) (cap-l)) ?_ (.pv ?_)
       ·simp[execOp,hop,hv,hrun,Result.andThen]
       ·have hlen:((es.take hh).drop l).length=hh-l:=by simp;omega
        have hget:∀(k:Nat) ps,((es.take hh).drop l)[k]?=some ps→es[l+k]?=some ps∧k<hh-l:=by
         intro k ps hk;have hk':k<hh-l:=by rw[←hlen];exact(gJ hk).1
         rw[List.getElem?_drop,List.getElem?_take_of_lt (by omega)]at hk;exact⟨hk,hk'⟩
        rw[←hlen];refine .sl i.size _ b (off+l*i.size) (cap-l) _ (fun k j=>f (l+k) j) (fun hne=> ?_) (by rw[hlen];omega) (by omega) (fun cs hcs=>hW cs (List.mem_of_mem_take (List.mem_of_mem_drop hcs))) (fun k j ps c h1 h2=> ?_) (fun k j ps c h1 h2=> ?_)
        ·have h0:0<hh-l:=by rw[←hlen];exact List.length_pos_iff.2 hne
         have hpe:=hp (by rintro rfl;simp at hle;omega);rw[if_neg (by omega),hpe];simp[Addr.add_mid]
        ·obtain⟨h3,_⟩:=hget k ps h1;have:=(hc (l+k) j ps c h3 h2).1;rw[Nat.add_mul,←Nat.add_assoc]at this;exact this
        ·obtain⟨h3,_⟩:=hget k ps h1;exact(hc (l+k) j ps c h3 h2).2
      ·cases he
     ·cases he
    ·cases he
   ·cases ht
 |fieldAddr t y k=>
  simp only[z24,hop]at ht;split at ht<;>try(cases ht;done)
  rename_i fs hu;split at ht<;>try(cases ht;done)
  rename_i fd hfd;split at ht<;>try(cases ht;done)
  rename_i i hi;split at ht
  ·cases ht
  rename_i hsz;cases ht;have hrun:∀(b off:Nat),(Instr.fieldAt t (.pointer (some ⟨b,off,none⟩)) k).run P w=.ok (.pointer (some ⟨b,off+fd.offset,none⟩)) w:=by
   intro b off;simp[Instr.fieldAt,run_underlying hu,hfd,Instr.sureAddr,fieldPlace,z89 hi,hsz,Addr.add_mid,Result.andThen]
  simp only[eff]at he;split at he
  ·rename_i d off hz;cases he;have hx:=z16 h hz;generalize hv:a.eval y=v at hx;cases hx;exact vD rfl (by simp[execOp,hop,hv,hrun,Result.andThen]) (.ptr d (off+fd.offset))
  ·rename_i cs hz;cases he;have hx:=z16 h hz;generalize hv:a.eval y=v at hx;cases hx with
   |pv hx=>
   cases hx with
   |el _ b off f h1 h2=>
    refine vD rfl (v:=.pointer (some ⟨b,off+fd.offset,none⟩)) (by simp[execOp,hop,hv,hrun,Result.andThen]) (.pv ?_);refine .el _ b (off+fd.offset) (fun j=>f (fd.offset+j)) (fun j c hc=> ?_) (fun j c hc=>h2 _ c (by simpa using hc));have:=h1 (fd.offset+j) c (by simpa using hc);rw[←Nat.add_assoc]at this;exact this
  ·cases he
 |field t y k=>
  simp only[z24,hop]at ht;split at ht<;>try(cases ht;done)
  rename_i fs hu;split at ht<;>try(cases ht;done)
  rename_i fd hfd;split at ht<;>try(cases ht;done)
  rename_i i d hi hd;cases ht;simp only[eff]at he;split at he
  ·rename_i cs hz;have hx:=z16 h hz;generalize hv:a.eval y=v at hx;cases hx with
   |agg _ vs hl hat hones=>
   have hL:RelL w E s.r cs vs:=⟨hl,hat,hones⟩
   cases hR:d.isRow with
   |true=>
    simp only[hR,if_true]at he;split at he
    ·cases he;refine vD rfl (v:=.agg ((vs.drop fd.offset).take i.size).toArray) ?_ (((hL.drop _).take _).agg);simp[execOp,hop,hv,Instr.field,run_underlying hu,hfd,asAgg,part,run_isAgg hd,hR,z89 hi,Result.andThen]
    ·cases he
   |false=>
    simp only[hR,Bool.false_eq_true,if_false]at he;obtain⟨c,hc,h2⟩:=gO he;cases h2;have hlt:fd.offset<vs.length:=by rw[←hl];exact(gJ hc).1
    refine vD rfl (v:=vs[fd.offset]) ?_ (hat _ _ _ hc (gE hlt));simp[execOp,hop,hv,Instr.field,run_underlying hu,hfd,asAgg,part,run_isAgg hd,hR,hlt,Result.andThen]
  ·cases he
 |indexAddr t y z=>
  simp only[z24,hop]at ht;split at ht<;>try(cases ht;done)
  rotate_left
  ·rename_i n e hu;split at ht<;>try(cases ht;done)
   rename_i kk k i hi;split at ht<;>try(cases ht;done)
   rename_i h0;cases ht;have hez:a.eval (.const (.int kk k))=.int kk k:=rfl;have hrun:∀(b off:Nat),(Instr.indexAt t (.pointer (some ⟨b,off,none⟩)) (.int kk k)).run P w=.ok (.pointer (some ⟨b,off+k.toNat*i.size,none⟩)) w:=by
    intro b off;simp[Instr.indexAt,asIntOf,run_underlying hu,h0.1,h0.2,Instr.sureAddr,z89 hi,Addr.add_mid,Result.andThen]
   simp only[eff]at he;split at he
   ·rename_i d off hz;cases he;have hx:=z16 h hz;generalize hv:a.eval y=v at hx;cases hx;exact vD rfl (by simp[execOp,hop,hv,hez,hrun,Result.andThen]) (.ptr d (off+k.toNat*i.size))
   ·rename_i cs hz;cases he;have hx:=z16 h hz;generalize hv:a.eval y=v at hx;cases hx with
    |pv hx=>
    cases hx with
    |el _ b off f h1 h2=>
     refine vD rfl (v:=.pointer (some ⟨b,off+k.toNat*i.size,none⟩)) (by simp[execOp,hop,hv,hez,hrun,Result.andThen]) (.pv ?_);refine .el _ b (off+k.toNat*i.size) (fun j=>f (k.toNat*i.size+j)) (fun j c hc=> ?_) (fun j c hc=>h2 _ c (by simpa using hc));have:=h1 (k.toNat*i.size+j) c (by simpa using hc);rw[←Nat.add_assoc]at this;exact this
   ·cases he
  rename_i e hu;split at ht<;>try(cases ht;done)
  rename_i i hi;cases ht;simp only[eff]at he;split at he
  ·rename_i d off n c k hbs hk;split at he
   ·rename_i h0;cases he;obtain⟨tz,hz1,hz2⟩:=gB hk;obtain⟨kk,hkk⟩:=int_rel (z16 h hz1) hz2;have hx:=z16 h hbs;generalize hv:a.eval y=v at hx;cases hx;refine vD rfl (v:=.pointer (some ⟨E.β d,off+k.toNat*i.size,none⟩)) ?_ (.ptr d _);simp[execOp,hop,hv,hkk,Instr.indexAt,asIntOf,run_underlying hu,h0.1,h0.2,z89 hi,Addr.add_mid,Result.andThen]
   ·cases he
  ·rename_i ty k hnb hy1 hk;split at he
   ·rename_i h0;obtain⟨cs,hcs0,h2⟩:=gO he;cases h2;obtain⟨es,hy2,hcs⟩:=gB hcs0;obtain⟨tz,hz1,hz2⟩:=gB hk;obtain⟨kk,hkk⟩:=int_rel (z16 h hz1) hz2;have hrel:=z135 (z16 h hy1) hy2;obtain⟨b,off,cap,p,f,hv,hp,hcap,hmax,hW,hc⟩:=z66 hrel;have hlt:k.toNat<es.length:=(gJ hcs).1;have hpe:=hp (by rintro rfl;simp at hlt);subst hpe;refine vD rfl (v:=.pointer (some ⟨b,off+k.toNat*i.size,none⟩)) ?_ (.pv ?_)
    ·have hlt':k<(es.length:Int):=by omega
     simp[execOp,hop,hv,hkk,Instr.indexAt,asIntOf,run_underlying hu,h0,hlt',z89 hi,Addr.add_mid,Result.andThen]
    ·exact .el cs b (off+k.toNat*i.size) (fun j=>f k.toNat j) (fun j c hj=>(hc _ j cs c hcs hj).1) (fun j c hj=>(hc _ j cs c hcs hj).2)
   ·cases he
  ·cases he
 |lookup t y i c=>
  cases c with
  |true=>simp only[z24,hop]at ht;cases ht
  |false=>
  simp only[z24,hop]at ht;split at ht<;>try(cases ht;done)
  rename_i kt et hu;split at ht<;>try(cases ht;done)
  rename_i j hj;split at ht<;>try(cases ht;done)
  rename_i z hz;split at ht<;>try(cases ht;done)
  rename_i hones;have hzr:∀w,(zeroValue et).run P w=.ok z w:=fun w=>by simp[zeroValue,typeInfo,hj,hz,Result.andThen]
  have hzt:RelT w E s.r (zeroT z) z:=by
   unfold zeroT;split
   ·rename_i cs;have:=(RelL.ofVals (w:=w) (E:=E) (r:=s.r) (vs:=cs.toList) (fun v hv=>List.all_eq_true.1 hones v hv)).agg;simpa using this
   ·exact .pv (.v _)
  have key:∀text,P.underlying kt=some (kdOf text)→sop=.lkp text z (.of y) (.of i)→o.wp P a w next Q:=by
   intro text hk hs;subst hs;simp only[eff]at he;split at he
   ·rename_i ks xs kv hy hi';obtain⟨ti,hi1,hi2⟩:=gB hi';have hkv:=val1_rel (z16 h hi1) hi2;have hm:=z16 h hy;generalize hv:a.eval y=v at hm;cases hm with
    |mp ks xs b es clock gv q1 q2 q3 q4 q5=>
    subst q2;split at he
    ·rename_i jj hf;obtain⟨tj,t1,t2⟩:=gO he;cases t2;have hrun:=run_lkp (P:=P) hu hk (hzr w) q1 hf;have hlt:jj<es.toList.length:=by have:=(gJ t1).1;rw[q3,List.length_map]at this;exact this
     have hg:=q4 jj _ (gE hlt);refine vD rfl (v:=gv jj) ?_ (q5 jj _ t1);simp only[gE hlt,Option.map_some,Option.getD_some,hg]at hrun;simp[execOp,hop,hv,hkv,hrun,Result.andThen]
    ·rename_i hf;cases he;have hrun:=run_lkp (P:=P) hu hk (hzr w) q1 hf;exact vD rfl (v:=z) (by simp[execOp,hop,hv,hkv,hrun,Result.andThen]) hzt
    ·cases he
   ·cases he
  split at ht<;>try(cases ht;done)
  ·rename_i hk;cases ht;exact key true hk rfl
  ·rename_i hk;cases ht;exact key false hk rfl
 |index t y z=>
  simp only[z24,hop]at ht;split at ht<;>try(cases ht;done)
  rename_i hu;cases ht;simp only[eff]at he;split at he
  ·rename_i zs k hx hy;split at he
   ·rename_i h0;obtain⟨bt,h1,h2⟩:=gO he;cases h2;obtain⟨ty,hy1,hy2⟩:=gB hx;obtain⟨tz,hz1,hz2⟩:=gB hy;have hv:=str_rel (z16 h hy1) hy2;obtain⟨kk,hkk⟩:=int_rel (z16 h hz1) hz2;have hget:zs[k.toNat]?=some bt:=by
     have hlt:=(gJ h1).1;have hlt':k.toNat<zs.size:=by simpa using hlt
     rw[getElem?_pos zs k.toNat hlt'];have:=(gJ h1).2;rw[←this];simp;rfl
    exact vD rfl (v:=.int .u8 bt.toNat) (by simp[execOp,hop,hv,hkk,Instr.index,asIntOf,run_underlying hu,h0,hget,Result.andThen]) (.pv (.v _))
   ·cases he
  ·cases he
 |extract y k=>
  simp only[z24,hop,Option.some.injEq]at ht;subst ht;simp only[eff]at he;split at he
  ·rename_i ts hz;obtain⟨c,hc,h2⟩:=gO he;cases h2;have hx:=z16 h hz;generalize hv:a.eval y=v at hx;cases hx with
   |tuple _ vs hl hat=>
   have hlt:k<vs.length:=by rw[←hl];exact(gJ hc).1
   exact vD rfl (v:=vs[k]) (by simp[execOp,hop,hv,Instr.extract,hlt]) (hat _ _ _ hc (gE hlt))
  ·cases he
 |makeFunc fn fst cap=>
  simp only[z24,hop,Option.some.injEq]at ht;subst ht;simp only[eff]at he;split at he
  ·rename_i xa xb ha hb;cases he;obtain⟨a1,a2,_⟩:=get_list h ha;obtain⟨b1,b2,_⟩:=get_list h hb;refine vD rfl (v:=.func fn (fst.map a.eval) (cap.map a.eval)) (by simp[execOp,hop,Instr.makeFunc]) ?_;have e1:fst.map a.eval=(fst.toList.map a.eval).toArray:=by rw[←Array.toList_map,Array.toArray_toList]
   have e2:cap.map a.eval=(cap.toList.map a.eval).toArray:=by rw[←Array.toList_map,Array.toArray_toList]
   rw[e1,e2];exact .fn fn xa xb _ _ a1 b1 a2 b2
  ·cases he
 |range t y=>
  simp only[z24,hop]at ht;split at ht<;>try(cases ht;done)
  rename_i hu;cases ht;simp only[eff]at he;split at he
  ·rename_i d z hd hz;cases he;obtain⟨ty,hy1,hy2⟩:=gB hz;have hv:=str_rel (z16 h hy1) hy2;obtain⟨E',hE,hS⟩:=h.newI (hf d (by simp[SOp.news,hd])) z;refine z64 (s':=s.setI d (z,0)) ⟨.value (.pointer (some ⟨w.heap.size,0,none⟩)),_,w.alloc (.stringIter z 0),E',?_,.inl rfl,hS,?_⟩ hdst hn
   ·simp[execOp,hop,hv,Instr.range,run_underlying hu,Result.andThen]
   ·rw[←hE];exact .it d
  ·cases he
 |next y str=>
  cases str with
  |false=>simp[z24,hop]at ht
  |true=>
   simp only[z24,hop,Option.some.injEq]at ht;subst ht;simp only[eff]at he;split at he
   ·rename_i d hz;have hx:=z16 h hz;generalize hv:a.eval y=v at hx;cases hx;split at he
    ·rename_i z p hi;obtain⟨h1,h2⟩:=h.itr d z p hi;have hr3:∀(v1 v2 v3:Value) (w:World) (E:Env) (r:Rows),RelT w E r (.tuple [.pv (.v v1),.pv (.v v2),.pv (.v v3)]) (.tuple #[v1,v2,v3]):=by
      intro v1 v2 v3 w E r;refine .tuple _ [v1,v2,v3] rfl (fun j c v hc hv=> ?_)
      match j with
      |0=>simp at hc hv;subst hc;subst hv;exact .pv (.v _)
      |1=>simp at hc hv;subst hc;subst hv;exact .pv (.v _)
      |2=>simp at hc hv;subst hc;subst hv;exact .pv (.v _)
      |n+3=>simp at hc
     split at he
     ·rename_i hlt;cases he;refine z64 (s':=s.setI d (z,p+(Utf8.decode z p).2)) ⟨.value (.tuple #[.bool true,.int .i64 p,.int .i32 (Utf8.decode z p).1]),_,_,E,?_,.inl rfl,h.goI hi,hr3 _ _ _ _ _ _⟩ hdst hn;simp[execOp,hop,hv,Instr.next,getObj,setObj,Sem.run,h1,hlt,Result.andThen,goInt]
     ·rename_i hlt;cases he;refine vD rfl (v:=.tuple #[.bool false]) ?_ ?_
      ·simp[execOp,hop,hv,Instr.next,getObj,Sem.run,h1,hlt,Result.andThen]
      ·refine .tuple _ [.bool false] rfl (fun j c v hc hv=> ?_)
       match j with
       |0=>simp at hc hv;subst hc;subst hv;exact .pv (.v _)
       |n+1=>simp at hc
    ·cases he
   ·cases he
 |makeSlice t ln cp=>
  simp only[z24,hop]at ht;split at ht<;>try(cases ht;done)
  rename_i e la lb hu;split at ht<;>try(cases ht;done)
  rename_i hab;obtain rfl:=Nat.eq_of_beq_eq_true hab;split at ht<;>try(cases ht;done)
  rename_i i hi;split at ht<;>try(cases ht;done)
  rename_i zv hz;split at ht<;>try(cases ht;done)
  rename_i hzl;cases ht;simp only[eff]at he;split at he
  ·rename_i d k hd hk;split at he
   ·rename_i hle;cases he;exact z64 (does_mks h hop hu hi hz hzl hd (hno d hd) (hf d (by simp[SOp.news,hd])) hk hle) hdst hn
   ·cases he
  ·cases he
 |call c=>
  obtain⟨callee,args,ats⟩:=c;cases callee with
  |invoke=>simp[z24,hop]at ht
  |value gf=>
   have harr:(args.toList.map a.eval).toArray=args.map a.eval:=by rw[←Array.toList_map,Array.toArray_toList]
   cases gf with
   |func f=>
    simp only[z24,hop]at ht;split at ht<;>try(cases ht;done)
    rename_i fn hfn;split at ht<;>try(cases ht;done)
    rename_i hb;cases ht;simp only[eff]at he;obtain⟨xs,hxs,he⟩:=gB he;obtain⟨a1,a2,a3⟩:=get_list h hxs;refine wp_callAt h hG hX a3 a1 a2 (fun hbody=> ?_) hdst hC hm0 (fun q hq=>hf _ (by simp only[SOp.news];match q,hq with|0,_=>simp|1,_=>simp|2,_=>simp|3,_=>simp)) he hn;obtain⟨fn',body,h1,h2,h3⟩:=hbody;have hex:execOp a.eval o=callFunc f (#[]++args.map a.eval++ #[]):=by
     obtain⟨dst,op,type,pos,after,guard⟩:=o
     dsimp only at hop
     subst hop;rfl
    rw[hex,harr];simp[callFunc,h1,h2,h3]
   |tmp tt=>
    simp only[z24,hop,Option.some.injEq]at ht;subst ht;simp only[eff]at he;split at he
    ·rename_i f fa fb vs hcal hvs;obtain⟨tc,hc1,hc2⟩:=gB hcal;obtain⟨a1,a2,a3⟩:=get_list h hvs;have hcr:=z16 h (x:=.tmp tt) hc1;obtain⟨us,cs,e1,e2,e3,e4,e5,e6⟩:=callee_rel hcr hc2;refine wp_callAt (vs:=us++args.toList.map a.eval++cs) h hG hX (xs:=fa++vs++fb) ?_ ?_ ?_ (fun hbody=> ?_) hdst hC hm0 (fun q hq=>hf _ (by simp only[SOp.news];match q,hq with|0,_=>simp|1,_=>simp|2,_=>simp|3,_=>simp)) he hn
     ·intro x hx d hd;rcases List.mem_append.1 hx with hx|hx
      ·rcases List.mem_append.1 hx with hx|hx
       ·exact z26 hc1 (e6 x (.inl hx) d hd)
       ·exact a3 x hx d hd
      ·exact z26 hc1 (e6 x (.inr hx) d hd)
     ·simp[e2,e3];simpa using a1
     ·have hq1:=relApp (xs:=fa) (ys:=vs) e2 (by simpa using a1) e4 a2;exact relApp (by simp[e2];simpa using a1) e3 hq1 e5
     ·obtain⟨fn',body,h1,h2,h3⟩:=hbody;have hex:execOp a.eval o=callFunc f (us.toArray++args.map a.eval++cs.toArray):=by
       obtain⟨dst,op,type,pos,after,guard⟩:=o
       dsimp only at hop
       subst hop;show(do let d ←Deferred.ofValue (a.eval (.tmp tt)) (args.map a.eval);invoke d.target d.args)=_;rw[e1];rfl
      rw[hex];have:(us++args.toList.map a.eval++cs).toArray=us.toArray++args.map a.eval++cs.toArray:=by
       rw[←harr];simp
      rw[this];simp[callFunc,h1,h2,h3]
    ·cases he
   |_=>simp[z24,hop]at ht
  |builtin b=>
   cases b with
   |len=>
    simp only[z24,hop]at ht;split at ht<;>try(cases ht;done)
    rename_i t y hat har;obtain rfl:args= #[y]:=by rw[←Array.toArray_toList (xs:=args),har]
    obtain rfl:ats= #[t]:=by rw[←Array.toArray_toList (xs:=ats),hat]
    split at ht<;>try(cases ht;done)
    ·rename_i e hu;cases ht;simp only[eff]at he;obtain⟨n,hn1,h2⟩:=gO he;cases h2;obtain⟨ty,hy1,hy2⟩:=gB hn1;obtain⟨p,c,hv⟩:=slen_rel (z16 h hy1) hy2;refine vD rfl (v:=.int .i64 n) ?_ (.pv (.v _));simp[execOp,hop,resolve,invoke,builtin,hv,Builtin.len_,run_underlying hu,goInt,Result.andThen]
    ·rename_i hu;cases ht;simp only[eff]at he;obtain⟨n,hn1,h2⟩:=gO he;cases h2;obtain⟨ty,hy1,hy2⟩:=gB hn1;have hv:=str_rel (z16 h hy1) hy2;refine vD rfl (v:=.int .i64 n.size) ?_ (.pv (.v _));simp[execOp,hop,resolve,invoke,builtin,hv,Builtin.len_,run_underlying hu,goInt,Result.andThen]
   |min=>
    simp only[z24,hop]at ht;split at ht<;>try(cases ht;done)
    rename_i y z t t2 har hat;obtain rfl:args= #[y,z]:=by rw[←Array.toArray_toList (xs:=args),har]
    split at ht<;>try(cases ht;done)
    cases ht;simp only[eff]at he;split at he
    ·rename_i x1 x2 h1 h2;cases he;have e1:=val_rel (y:=.int .i64 x1) (z16 h h1) rfl;have e2:=val_rel (y:=.int .i64 x2) (z16 h h2) rfl;refine vD rfl (v:=.int .i64 (min x1 x2)) ?_ (.pv (.v _));have:(if x2<x1 then x2 else x1)=min x1 x2:=by rw[Int.min_def];split<;>split<;>omega
     simp[execOp,hop,resolve,invoke,builtin,e1,e2,Builtin.min_,Builtin.min2,this]
    ·cases he
   |max=>
    simp only[z24,hop]at ht;split at ht<;>try(cases ht;done)
    rename_i y z t t2 har hat;obtain rfl:args= #[y,z]:=by rw[←Array.toArray_toList (xs:=args),har]
    split at ht<;>try(cases ht;done)
    cases ht;simp only[eff]at he;split at he
    ·rename_i x1 x2 h1 h2;cases he;have e1:=val_rel (y:=.int .i64 x1) (z16 h h1) rfl;have e2:=val_rel (y:=.int .i64 x2) (z16 h h2) rfl;refine vD rfl (v:=.int .i64 (max x1 x2)) ?_ (.pv (.v _));have:(if x2>x1 then x2 else x1)=max x1 x2:=by rw[Int.max_def];split<;>split<;>omega
     simp[execOp,hop,resolve,invoke,builtin,e1,e2,Builtin.max_,Builtin.max2,this]
    ·cases he
   |append=>
    simp only[z24,hop]at ht;split at ht<;>try(cases ht;done)
    rename_i y z t tx har hat;obtain rfl:args= #[y,z]:=by rw[←Array.toArray_toList (xs:=args),har]
    obtain rfl:ats= #[t,tx]:=by rw[←Array.toArray_toList (xs:=ats),hat]
    split at ht<;>try(cases ht;done)
    rename_i e hu;split at ht<;>try(cases ht;done)
    rename_i i hi;split at ht<;>try(cases ht;done)
    rename_i zv hz;split at ht<;>try(cases ht;done)
    rename_i hzl;have hnil:((Arg.of y).get s).map TV.isNil=some true→a.eval y=.slice none 0 0:=by
     intro hy;obtain⟨ty,h1,h2⟩:=gO hy;have:=z16 h h1;unfold TV.isNil at h2;split at h2
     ·exact val_rel (y:=.slice none 0 0) this rfl
     ·cases h2
    split at ht<;>try(cases ht;done)
    ·rename_i e' htx;cases hin2:Nat.beq hint 2 with
     |true=>
      rw[hin2]at ht;simp only[if_true,Option.some.injEq]at ht;subst ht;simp only[eff]at he;split at he
      ·rename_i d es2 hd hnl hes;split at he
       ·rename_i hle;obtain⟨tz,hz1,hz2⟩:=gB hes;have hsrc:=src_of hzl.2 (z135 (z16 h hz1) hz2) htx;split at he
        ·rename_i hem;cases he;obtain rfl:=List.isEmpty_iff.1 hem;exact z64 (does_appB0 (P:=P) h hop hu hi (hnil hnl) hsrc) hdst hn
        ·rename_i hem;cases he;rw[hd]at hn hdst;exact z64 (s':=s.setB d (es2.flatten.map .pv)) (does_appB (P:=P) h hop hu hi hz hzl.1 hzl.2 (hno d hd) (hf d (by simp[SOp.news,hd])) (hnil hnl) hsrc (fun e=>hem (by rw[e];rfl)) hle.1 hle.2) (by rw[hd];exact hdst) (by rw[hd];exact hn)
       ·cases he
      ·cases he
     |false=>
     rw[hin2]at ht;simp only[Bool.false_eq_true,if_false]at ht;cases hin:Nat.beq hint 1 with
     |true=>
      rw[hin]at ht;simp only[if_true,Option.some.injEq]at ht;subst ht;simp only[eff]at he;split at he
      ·rename_i d es2 hd hnl hes;split at he
       ·rename_i hle;cases he;obtain⟨tz,hz1,hz2⟩:=gB hes;have:=does_appN (P:=P) h hop hu hi hz hzl.1 hzl.2 (hno d hd) (hf d (by simp[SOp.news,hd])) (hnil hnl) (src_of hzl.2 (z135 (z16 h hz1) hz2) htx) hle.1 hle.2;rw[hd]at hn hdst;refine z64 (s':=s.setR d (e,i.size,es2.length)) this (by rw[hd];exact hdst) (by rw[hd];exact hn)
       ·cases he
      ·cases he
     |false=>
      rw[hin]at ht;simp only[Bool.false_eq_true,if_false,Option.some.injEq]at ht;subst ht;simp only[eff]at he;split at he
      ·rename_i d W' es es2 hy hes;split at he
       ·rename_i hle;obtain⟨rfl,hr,h1,h2⟩:=hle;cases he;obtain⟨tz,hz1,hz2⟩:=gB hes;have:=does_app (P:=P) h hop hu hi hz hzl.1 hzl.2 rfl hr (z16 h hy) (src_of hzl.2 (z135 (z16 h hz1) hz2) htx) h1 h2;exact z64 this hdst hn
       ·cases he
      ·cases he
    ·rename_i htx;split at ht<;>try(cases ht;done)
     rename_i h1s;cases hin:Nat.beq hint 1 with
     |true=>
      rw[hin]at ht;simp only[if_true,Option.some.injEq]at ht;subst ht;simp only[eff]at he;split at he
      ·rename_i d b hd hnl hes;split at he
       ·rename_i hle;cases he;obtain⟨tz,hz1,hz2⟩:=gB hes;have hbl:(bytesP b).length=b.size:=by unfold bytesP;rw[List.length_map,Array.length_toList];rfl
        have:=does_appN (P:=P) (es2:=bytesP b) h hop hu hi hz hzl.1 hzl.2 (hno d hd) (hf d (by simp[SOp.news,hd])) (hnil hnl) (by rw[h1s,str_rel (z16 h hz1) hz2];exact src_str b htx) (by rw[hbl];exact hle.1) (by rw[hbl];exact hle.2);rw[h1s,hbl]at this;rw[hd]at hn hdst;exact z64 (s':=s.setR d (e,1,b.size)) this (by rw[hd];exact hdst) (by rw[hd];exact hn)
       ·cases he
      ·cases he
     |false=>
      rw[hin]at ht;simp only[Bool.false_eq_true,if_false,Option.some.injEq]at ht;subst ht;simp only[eff]at he;split at he
      ·rename_i d W' es b hy hes;split at he
       ·rename_i hle;obtain⟨rfl,hr,h1,h2⟩:=hle;cases he;obtain⟨tz,hz1,hz2⟩:=gB hes;have hbl:(bytesP b).length=b.size:=by unfold bytesP;rw[List.length_map,Array.length_toList];rfl
        have:=does_app (P:=P) (es2:=bytesP b) h hop hu hi hz hzl.1 hzl.2 rfl (by rw[h1s];exact hr) (by rw[h1s];exact z16 h hy) (by rw[h1s,str_rel (z16 h hz1) hz2];exact src_str b htx) (by rw[hbl];exact h1) (by rw[hbl];exact h2);rw[h1s,hbl]at this;exact z64 this hdst hn
       ·cases he
      ·cases he
   |_=>simp[z24,hop]at ht
 |makeInterface t y=>
  simp only[z24,hop]at ht;split at ht<;>try(cases ht;done)
  rename_i d hni hu;cases ht;simp only[eff]at he;obtain⟨v,h1,h2⟩:=gO he;cases h2;have hv:=get_val h h1;refine vD rfl (v:=.iface t v) ?_ (.pv (.v _));cases d<;>first|(exact(hni _ rfl).elim)|(simp[execOp,hop,hv,Instr.makeInterface,run_underlying hu,Result.andThen])
 |panic y=>
  simp only[z24,hop,Option.some.injEq]at ht;subst ht;simp[eff]at he
 |_=>simp[z24,hop]at ht
end
structure SOper where
 dst:Option Nat
 guard:Option (Nat×Bool)
 fp:Option Nat
 op:SOp
def readsL(xs:List Arg):List Nat:=xs.flatMap Arg.reads
def readsO(x:Option Arg):List Nat:=match x with|some x=>x.reads|none=>[]
def SOp.reads:SOp→List Nat
 | .mov x| .un _ x| .cvi _ x| .cvs x| .b2s x| .slen x| .box x| .fld _ _ _ x| .fldA _ x| .ld _ _ x| .len x| .ext x _| .nchk x| .rng x| .nxt x| .mks _ _ x| .mkI _ x| .pan x| .fnil _ x=>x.reads
 | .pick c a b=>c.reads++a.reads++b.reads
 | .bin _ _ x y| .imm _ x y| .sidx x y| .st _ x y| .idxA _ x y| .app _ _ _ x y| .appS _ _ x y| .appN _ _ _ x y| .appB _ _ _ x y| .appNS _ _ x y| .lkp _ _ x y=>x.reads++y.reads
 | .bsl _ xs| .bslO _ _ xs| .call _ _ xs=>readsL xs
 | .callv x _ xs=>x.reads++readsL xs
 | .mkf _ a b=>readsL a++readsL b
 | .ssub x lo hi| .sub _ x lo hi=>x.reads++readsO lo++readsO hi
 | .new _=>[]
 | .build _ ps=>readsL (ps.map (·.2.2))
def SOper.reads(o:SOper):List Nat:=(match o.guard with|some (g,_)=>[g]|none=>[])++o.op.reads
def SOp.rb:SOp→Bool
 | .ld .. | .st .. =>true
 | .call _ m _| .callv _ m _=> !Nat.beq m 0
 |_=>false
def SOp.wb:SOp→Bool
 | .st .. =>true
 | .call _ m _| .callv _ m _=> !Nat.beq m 0
 |_=>false
def SOp.wr:SOp→Bool
 | .app .. | .appS .. =>true
 | .call _ m _| .callv _ m _=> !Nat.beq m 0
 |_=>false
def SOp.wi:SOp→Bool
 | .nxt .. =>true
 |_=>false
def only:List Nat→Option Nat
 |[d]=>some d
 |_=>none
theorem only_eq{I:List Nat}{k:Nat}(h:only I=some k):I=[k]:=by
 unfold only at h;split at h
 ·grind
 ·cases h
def SOp.foot(s:FS):SOp→Option Nat
 | .ld _ _ x=>match x.get s with|some (.ptr d _)=>some d|some (.pv (.el _))=>some 999|_=>none
 | .st _ x _=>match x.get s with|some (.ptr d _)=>some d|_=>none
 | .call _ m xs=>match seqO (fun x:Arg=>x.get s) xs with
  |some args=>only (handI s m args)
  |none=>none
 |_=>none
theorem foot_call{s:FS}{f m:Nat}{xs:List Arg}{args:List TV}(hx:seqO (fun x:Arg=>x.get s) xs=some args){k:Nat}(h:SOp.foot s (.call f m xs)=some k):handI s m args=[k]:=by
 grind [only,SOp.foot,only_eq]
theorem wb_rb{o:SOp}(h:o.wb=true):o.rb=true:=by cases o<;>first|exact h|cases h|rfl
section
variable{P:Program}{C:Oracle}{s s':FS}{dst:Option Nat}{d:Nat}
theorem z30{x:Arg}(h:∀k∈x.reads,s'.t k=s.t k):x.get s'=x.get s:=by
 cases x with
 |tmp t=>exact h t (by simp[Arg.reads])
 |val v=>rfl
theorem getL_congr{α:Type}{xs:List Arg}(h:∀k∈readsL xs,s'.t k=s.t k)(f:TV→Option α):seqO (fun x:Arg=>(x.get s').bind f) xs=seqO (fun x:Arg=>(x.get s).bind f) xs:=
 z123 fun x hx=>by rw[z30 fun k hk=>h k (List.mem_flatMap.2 ⟨x,hx,hk⟩)]
theorem z118{xs:List Arg}(h:∀k∈readsL xs,s'.t k=s.t k):seqO (fun x:Arg=>x.get s') xs=seqO (fun x:Arg=>x.get s) xs:=
 z123 fun x hx=>z30 fun k hk=>h k (List.mem_flatMap.2 ⟨x,hx,hk⟩)
theorem bound_congr{x:Option Arg}(h:∀k∈readsO x,s'.t k=s.t k)(n:Nat):bound s' n x=bound s n x:=by
 cases x with
 |none=>rfl
 |some x=>simp only[bound];rw[z30 h]
theorem z122{s:FS}{rows:Bool}:∀(n:Nat) (l seen:List Nat),∀x∈seen,x∈reach s rows n l seen
 |0,_,_,x,hx=>by simp only[reach];exact hx
 |n+1,[],_,x,hx=>by simp only[reach];exact hx
 |n+1,d::l,seen,x,hx=>by
  simp only[reach];split
  ·exact z122 n _ _ x hx
  ·split
   ·exact z122 n _ _ x (List.mem_append_left _ hx)
   ·split
    ·exact z122 n _ _ x (List.mem_append_left _ hx)
    ·exact z122 n _ _ x hx
theorem z101{rows:Bool}{R:List Nat}(hb:∀d,s.ment d→d∈R→s'.b d=s.b d)(hb2:∀d,s.ment d→(s'.b d=none ↔ s.b d=none))(hr:∀d,s.ment d→s'.r d=s.r d):∀(n:Nat) (l seen:List Nat),(∀d∈l,s.ment d)→((∀d∈reach s rows n l seen,d∈R)∨(∀d∈reach s' rows n l seen,d∈R))→reach s' rows n l seen=reach s rows n l seen
 |0,_,_,_,_=>by simp only[reach]
 |n+1,[],_,_,_=>by simp only[reach]
 |n+1,d::l,seen,h,hR=>by
  have hd:=h d (List.mem_cons_self ..);have hl:∀x∈l,s.ment x:=fun x hx=>h x (List.mem_cons_of_mem _ hx);simp only[reach,hr d hd]at hR;simp only[reach,hr d hd];cases hp:pos seen d with
  |some j=>rw[hp]at hR;exact z101 hb hb2 hr n l seen hl hR
  |none=>
   rw[hp]at hR;cases hs:s.b d with
   |some cs=>
    rw[hs]at hR;obtain⟨cs',hs'⟩:∃cs',s'.b d=some cs':=by
     cases hc:s'.b d<;>grind
    rw[hs']at hR;simp only at hR;have hdR:d∈R:=hR.elim (fun h=>h d (z122 _ _ _ d (by simp))) (fun h=>h d (z122 _ _ _ d (by simp)));have he:=hb d hd hdR;rw[hs,hs']at he;cases he;rw[hs'];refine z101 hb hb2 hr n _ _ (fun x hx=> ?_) hR;rcases List.mem_append.1 hx with hx|hx
    ·obtain⟨c,hc,hx⟩:=List.mem_flatMap.1 hx;exact .inr ⟨d,cs,c,hs,hc,ids1_ment hx⟩
    ·grind
   |none=>
    have hs':=(hb2 d hd).2 hs;rw[hs,hs']at hR;rw[hs'];simp only at hR ⊢;cases hq:s.r d with
    |none=>rw[hq]at hR;simp only at hR ⊢;exact z101 hb hb2 hr n l seen hl hR
    |some q=>
     rw[hq]at hR;cases rows with
     |true=>simp only at hR ⊢;exact z101 hb hb2 hr n l _ hl hR
     |false=>simp only at hR ⊢;exact z101 hb hb2 hr n l seen hl hR
theorem callEff_congr{k f mode:Nat}{xs:List TV}(hm:∀x∈xs,∀d,Ment d x→s.ment d)(hb:(!Nat.beq mode 0)=true→∀d,s.ment d→d∈handI s mode xs→s'.b d=s.b d)(hb2:(!Nat.beq mode 0)=true→∀d,s.ment d→(s'.b d=none ↔ s.b d=none))(hr:(!Nat.beq mode 0)=true→∀d,s.ment d→s'.r d=s.r d):z95 C s' k f mode xs=z95 C s k f mode xs:=by
 unfold z95;cases h0:Nat.beq mode 0 with
 |true=>simp[seqO]
 |false=>
  simp only[h0,Bool.not_false,forall_const,handI,Bool.false_eq_true,if_false]at hb hb2 hr;have hids:∀d∈xs.flatMap TV.ids2,s.ment d:=fun d hd=>by
   obtain⟨x,hx,hd⟩:=List.mem_flatMap.1 hd;exact hm x hx d (ids2_ment hd)
  have e1:=z101 (rows:=Nat.beq mode 2) hb hb2 hr 64 (xs.flatMap TV.ids2) [] hids (.inl fun _ h=>h);have e2:=(z102 (s:=s) (rows:=Nat.beq mode 2) 64 (xs.flatMap TV.ids2) [] (by simp) (by simp) hids).2;simp only[Bool.false_eq_true,if_false,e1];have e3:seqO (fun d=>(s'.mo d).bind (MO.ren (rhoIn (reach s (Nat.beq mode 2) 64 (xs.flatMap TV.ids2) [])))) (reach s (Nat.beq mode 2) 64 (xs.flatMap TV.ids2) [])=seqO (fun d=>(s.mo d).bind (MO.ren (rhoIn (reach s (Nat.beq mode 2) 64 (xs.flatMap TV.ids2) [])))) (reach s (Nat.beq mode 2) 64 (xs.flatMap TV.ids2) []):=
   z123 fun x hx=>by unfold FS.mo;rw[hb x (e2 x hx) hx,hr x (e2 x hx)]
  rw[e3]
theorem seq_ment{xs:List Arg}{ts:List TV}(h:seqO (fun x:Arg=>x.get s) xs=some ts):∀x∈ts,∀d,Ment d x→s.ment d:=by
 intro x hx d hd;obtain⟨l1,h1⟩:=z38 h;obtain⟨j,hj⟩:=List.getElem?_of_mem hx;have hjl:j<xs.length:=by grind
 obtain⟨y,hy1,hy2⟩:=h1 j xs[j] (gE hjl)
 grind [z26]
theorem callee_ment{t:TV}{f:Nat}{fa fb:List TV}(ht:t.callee=some (f,fa,fb)):∀x,(x∈fa∨x∈fb)→∀d,Ment d x→Ment d t:=by
 unfold TV.callee at ht;split at ht
 ·cases ht;exact fun x hx d hd=>hx.elim (fun hx=> .fn1 hx hd) (fun hx=> .fn2 hx hd)
 ·cases ht;intro x hx d hd;rcases hx with hx|hx
  ·obtain⟨p,_,rfl⟩:=List.mem_map.1 hx;cases hd
  ·obtain⟨p,_,rfl⟩:=List.mem_map.1 hx;cases hd
 ·grind
 ·cases ht
theorem callv_ment{x:Arg}{t:TV}{f:Nat}{fa fb vs:List TV}{xs:List Arg}(h1:(x.get s).bind TV.callee=some (f,fa,fb))(h2:seqO (fun x:Arg=>x.get s) xs=some vs):∀y∈fa++vs++fb,∀d,Ment d y→s.ment d:=by
 grind [Option.bind_eq_some_iff,z26,callee_ment,seq_ment]
theorem eff_congr{o:SOp}(h:∀k∈o.reads,s'.t k=s.t k)(hb:o.rb=true→∀d,s.ment d→(∀k,o.foot s=some k→d=k)→s'.b d=s.b d)(hb2:o.rb=true→∀d,s.ment d→(s'.b d=none ↔ s.b d=none))(hr:o.wr=true→∀d,s.ment d→s'.r d=s.r d)(hi:o.wi=true→∀d,s.ment d→s'.i d=s.i d):eff P C dst o s'=eff P C dst o s:=by
 cases o with
 |mov x|un _ x|cvi _ x|cvs x|b2s x|slen x|box x|fld _ _ _ x|fldA _ x|len x|ext x _|nchk x|rng x|mks _ _ x|mkI _ x|fnil _ x=>simp only[eff,z30 (x:=x) h]
 |pan x=>rfl
 |pick c a b=>
  simp only[SOp.reads,List.mem_append]at h;have e1:=z30 (x:=c) fun k hk=>h k (.inl (.inl hk));have e2:=z30 (x:=a) fun k hk=>h k (.inl (.inr hk));have e3:=z30 (x:=b) fun k hk=>h k (.inr hk);simp only[eff,e1]
  grind
 |bin _ _ x y|imm _ x y|sidx x y|idxA _ x y|appN _ _ _ x y|appB _ _ _ x y|appNS _ _ x y|lkp _ _ x y=>
  simp only[SOp.reads,List.mem_append]at h;have e1:=z30 (x:=x) fun k hk=>h k (.inl hk);have e2:=z30 (x:=y) fun k hk=>h k (.inr hk);simp only[eff,e1,e2]
 |bsl _ xs|bslO _ _ xs=>simp only[eff,getL_congr h]
 |mkf _ a b=>
  simp only[SOp.reads,List.mem_append]at h;simp only[eff,z118 (xs:=a) fun k hk=>h k (.inl hk),z118 (xs:=b) fun k hk=>h k (.inr hk)]
 |call f m xs=>
  simp only[eff,z118 (xs:=xs) h];cases hx:seqO (fun x:Arg=>x.get s) xs with
  |none=>simp
  |some vs=>simp only[Option.bind_some];exact callEff_congr (seq_ment hx) (fun h0 d hd hdI=>hb h0 d hd (fun k hk=>by rw[foot_call hx hk]at hdI;simpa using hdI)) hb2 hr
 |callv x m xs=>
  simp only[SOp.reads,List.mem_append]at h;have e1:=z30 (x:=x) fun k hk=>h k (.inl hk);simp only[eff,e1,z118 (xs:=xs) fun k hk=>h k (.inr hk)];split
  ·rename_i f fa fb vs h1 h2;exact callEff_congr (callv_ment (t:=.unk) h1 h2) (fun h0 d hd _=>hb h0 d hd (fun k hk=>by cases hk)) hb2 hr
  ·rfl
 |ssub x lo up|sub _ x lo up=>
  simp only[SOp.reads,List.mem_append]at h;have e1:=z30 (x:=x) fun k hk=>h k (.inl (.inl hk));simp only[eff,e1,bound_congr (x:=lo) fun k hk=>h k (.inl (.inr hk)),bound_congr (x:=up) fun k hk=>h k (.inr hk)]
 |new _=>rfl
 |build z ps=>
  have:partsT s' ps=partsT s ps:=z123 fun p hp=>by
   rw[z30 fun k hk=>h k (List.mem_flatMap.2 ⟨p.2.2,List.mem_map.2 ⟨p,hp,rfl⟩,hk⟩)]
  simp only[eff,this]
 |ld a n x=>
  have e1:=z30 (x:=x) h;simp only[eff,e1];split
  ·rename_i d off hx;rw[hb rfl d (z26 hx (.ptr _)) (fun k hk=>by simp only[SOp.foot,hx]at hk;exact Option.some.inj hk)]
  ·rfl
  ·rfl
 |st n x y=>
  simp only[SOp.reads,List.mem_append]at h;have e1:=z30 (x:=x) fun k hk=>h k (.inl hk);have e2:=z30 (x:=y) fun k hk=>h k (.inr hk);simp only[eff,e1,e2];split
  ·rename_i d off hx;rw[hb rfl d (z26 hx (.ptr _)) (fun k hk=>by simp only[SOp.foot,hx]at hk;exact Option.some.inj hk)]
  ·rfl
 |nxt x=>
  have e1:=z30 (x:=x) h;simp only[eff,e1];split
  ·rename_i d hx;rw[hi rfl d (z26 hx .it)]
  ·rfl
 |app e W b x y=>
  simp only[SOp.reads,List.mem_append]at h;have e1:=z30 (x:=x) fun k hk=>h k (.inl hk);have e2:=z30 (x:=y) fun k hk=>h k (.inr hk);simp only[eff,e1,e2];split
  ·rename_i d W' es es2 hx _;rw[hr rfl d (z26 hx (.own _ _))]
  ·rfl
 |appS e b x y=>
  simp only[SOp.reads,List.mem_append]at h;have e1:=z30 (x:=x) fun k hk=>h k (.inl hk);have e2:=z30 (x:=y) fun k hk=>h k (.inr hk);simp only[eff,e1,e2];split
  ·rename_i d W' es es2 hx _;rw[hr rfl d (z26 hx (.own _ _))]
  ·rfl
def ovB(dst:Option Nat):Upd→Nat→Option (List TV)
 | .box cs,d=>if dst=some d then some cs else none
 | .wr e cs,d=>if d=e then some cs else none
 | .mem us,d=>match us.lookup d with|some (.box cs)=>some cs|_=>none
 |_,_=>none
def ovR:Upd→Nat→Option (Nat×Nat×Nat)
 | .row e q,d=>if d=e then some q else none
 | .mem us,d=>match us.lookup d with|some (.row e W n)=>some (e,W,n)|_=>none
 |_,_=>none
def ovI:Upd→Nat→Option (ByteArray×Nat)
 | .it e q,d=>if d=e then some q else none
 |_,_=>none
theorem upd_b(u:Upd):(s.upd dst u).b d=match ovB dst u d with|some cs=>some cs|none=>s.b d:=by
 cases u with
 |box cs=>
  cases dst with
  |none=>rfl
  |some e=>simp only[FS.upd,FS.setB,setF,ovB,Option.some.injEq];by_cases h:d=e<;>simp[h,Ne.symm,eq_comm]
 |wr e cs=>simp only[FS.upd,FS.setB,setF,ovB];split<;>rfl
 |mem us=>
  simp only[FS.upd,memB,ovB]
  grind
 |_=>rfl
theorem upd_r(u:Upd):(s.upd dst u).r d=match ovR u d with|some q=>some q|none=>s.r d:=by
 cases u with
 |row e q=>simp only[FS.upd,FS.setR,setF,ovR];split<;>rfl
 |mem us=>
  simp only[FS.upd,memR,ovR]
  grind
 |box cs=>cases dst<;>rfl
 |_=>rfl
theorem upd_i(u:Upd):(s.upd dst u).i d=match ovI u d with|some q=>some q|none=>s.i d:=by
 cases u with
 |it e q=>simp only[FS.upd,FS.setI,setF,ovI];split<;>rfl
 |box cs=>cases dst<;>rfl
 |_=>rfl
theorem upd_t(u:Upd):(s.upd dst u).t=s.t:=by cases u<;>first|rfl|(cases dst<;>rfl)
theorem put_t{k:Nat}{x:TV}:(s.put dst x).t k=if dst=some k then some x else s.t k:=by
 cases dst with
 |none=>simp[FS.put]
 |some d=>
  simp only[FS.put,FS.setT,setF,Option.some.injEq]
  grind
theorem put_b{x:TV}:(s.put dst x).b=s.b:=by cases dst<;>rfl
theorem put_r{x:TV}:(s.put dst x).r=s.r:=by cases dst<;>rfl
theorem put_i{x:TV}:(s.put dst x).i=s.i:=by cases dst<;>rfl
structure Shape(s:FS)(dst:Option Nat)(o:SOp)(x:TV)(u:Upd):Prop where
 b:∀d cs,ovB dst u d=some cs→d∈o.news dst∨(o.wb=true∧s.ment d∧(∀k,o.foot s=some k→d=k)∧∃cs0,s.b d=some cs0)
 r:∀d q,ovR u d=some q→d∈o.news dst∨(o.wr=true∧s.ment d)
 i:∀d q,ovI u d=some q→d∈o.news dst∨(o.wi=true∧s.ment d)
 x:∀d,Ment d x→s.ment d∨d∈o.news dst
 m:∀d e cs c,ovB dst u e=some cs→c∈cs→Ment d c→s.ment d∨d∈o.news dst
theorem Shape.no{o:SOp}{x:TV}(h:∀d,Ment d x→s.ment d∨d∈o.news dst):Shape s dst o x .no:=
 ⟨fun _ _ h=>(by cases h),fun _ _ h=>(by cases h),fun _ _ h=>(by cases h),h,fun _ _ _ _ h=>(by cases h)⟩
theorem z40{α:Type}{o:SOp}{q:Option α}{f:α→TV}{x:TV}{u:Upd}(h:q.map (fun v=>(f v,Upd.no))=some (x,u))(hx:∀v,q=some v→∀d,Ment d (f v)→s.ment d∨d∈o.news dst):Shape s dst o x u:=by
 obtain⟨v,h1,h⟩:=gO h;cases h;exact .no (hx v h1)
theorem scal_shape{o:SOp}{m:Sem Value}{x:TV}{u:Upd}(h:scal P m=some (x,u)):Shape s dst o x u:=by
 obtain⟨v,rfl,rfl,_⟩:=scal_inv h;exact .no (fun d hd=>by cases hd)
theorem z159{x:Arg}{c:TV}{cs:List TV}(h:(x.get s).bind TV.cells=some cs)(hc:c∈cs)(hm:Ment d c):s.ment d:=by
 grind [Option.bind_eq_some_iff,z26,cells_ment]
theorem fillT_mem{c:TV}:∀{ps:List (Nat×Nat×List TV)} {cs cs':List TV},fillT cs ps=some cs'→c∈cs'→c∈cs∨∃p∈ps,c∈p.2.2
 |[],cs,cs',h,hc=>by simp[fillT]at h;subst h;exact .inl hc
 |(off,size,xs)::ps,cs,cs',h,hc=>by
  simp only[fillT]at h;split at h
  ·rcases fillT_mem h hc with h1|⟨p,hp,h1⟩
   ·rcases mem_splice h1 with h2|h2<;>simp_all
   ·grind
  ·cases h
theorem ren0_ment{ρ:Nat→Option Nat}{t y:TV}(h:t.ren0 ρ=some y)(hm:Ment d y):∃d',ρ d'=some d:=by
 cases t<;>simp only[TV.ren0]at h
 ·cases h;cases hm
 ·cases h;cases hm
 ·obtain⟨d',h1,rfl⟩:=gO h;cases hm;exact⟨_,h1⟩
 ·cases h;split at hm
  ·rename_i d' h1;cases hm;exact⟨_,h1⟩
  ·cases hm
 ·obtain⟨d',h1,rfl⟩:=gO h;cases hm;exact⟨_,h1⟩
 all_goals cases h
theorem z82{ρ:Nat→Option Nat}{f:TV→Option TV}(hf:∀t y,f t=some y→Ment d y→∃d',ρ d'=some d){xs ys:List TV}(h:seqO f xs=some ys){c:TV}(hc:c∈ys)(hm:Ment d c):∃d',ρ d'=some d:=by
 obtain⟨l1,h1⟩:=z38 h;obtain⟨j,hj⟩:=List.getElem?_of_mem hc;have hjl:j<xs.length:=by grind
 obtain⟨y,hy1,hy2⟩:=h1 j xs[j] (gE hjl)
 grind
theorem renF_ment{ρ:Nat→Option Nat}{t y:TV}(h:t.renF ρ=some y)(hm:Ment d y):∃d',ρ d'=some d:=by
 cases t with
 |fn f a b=>
  simp only[TV.renF]at h;split at h
  ·rename_i a' b' h1 h2;cases h;cases hm with
   |fn1 hc hm=>exact z82 (fun _ _=>ren0_ment) h1 hc hm
   |fn2 hc hm=>exact z82 (fun _ _=>ren0_ment) h2 hc hm
  ·cases h
 |_=>grind [only,TV.renF,ren0_ment]
theorem renE_ment{ρ:Nat→Option Nat}{t y:TV}(h:t.renE ρ=some y)(hm:Ment d y):∃d',ρ d'=some d:=by
 cases t with
 |agg cs=>
  simp only[TV.renE]at h;obtain⟨l,h1,rfl⟩:=gO h;cases hm with
  |agg hc hm=>exact z82 (fun _ _=>renF_ment) h1 hc hm
 |_=>grind [only,TV.renE,renF_ment]
theorem ren1_ment{ρ:Nat→Option Nat}{t y:TV}(h:t.ren1 ρ=some y)(hm:Ment d y):∃d',ρ d'=some d:=by
 cases t with
 |mp ks xs=>
  simp only[TV.ren1]at h;obtain⟨l,h1,rfl⟩:=gO h;cases hm with
  |mp hc hm=>exact z82 (fun _ _=>renE_ment) h1 hc hm
 |_=>grind [only,TV.ren1,renF_ment]
theorem ren2_ment{ρ:Nat→Option Nat}{t y:TV}(h:t.ren2 ρ=some y)(hm:Ment d y):∃d',ρ d'=some d:=by
 cases t with
 |agg cs=>
  simp only[TV.ren2]at h;obtain⟨l,h1,rfl⟩:=gO h;cases hm with
  |agg hc hm=>exact z82 (fun _ _=>ren1_ment) h1 hc hm
 |_=>grind [only,TV.ren2,ren1_ment]
theorem ren3_ment{ρ:Nat→Option Nat}{t y:TV}(h:t.ren3 ρ=some y)(hm:Ment d y):∃d',ρ d'=some d:=by
 cases t with
 |tuple cs=>
  simp only[TV.ren3]at h;obtain⟨l,h1,rfl⟩:=gO h;cases hm with
  |tuple hc hm=>exact z82 (fun _ _=>ren2_ment) h1 hc hm
 |_=>grind [only,TV.ren3,ren2_ment]
theorem rhoOut_inv{I:List Nat}{k d d':Nat}(h:rhoOut I k d'=some d):d∈I∨∃q,q<4∧d=newId k q:=by
 grind [rhoOut,List.mem_of_getElem?,Nat.blt_eq]
theorem call_shape{k f mode:Nat}{xs:List TV}{x:TV}{u:Upd}{o:SOp}(hm:∀x∈xs,∀d,Ment d x→s.ment d)(hk:k=dstId dst)(hnews:o.news dst=[newId k 0,newId k 1,newId k 2,newId k 3])(hwb:o.wb= !Nat.beq mode 0)(hwr:o.wr= !Nat.beq mode 0)(hft:∀k,o.foot s=some k→handI s mode xs=[k])(h:z95 C s k f mode xs=some (x,u)):Shape s dst o x u:=by
 obtain⟨xs',os,y,os',us,h1,h2,h3,h4,h5,h6,rfl⟩:=callEff_inv h;obtain⟨hI,hIm⟩:=handI_spec (s:=s) mode hm;have key:∀d d',rhoOut (handI s mode xs) k d'=some d→d∈o.news dst∨((!Nat.beq mode 0)=true∧s.ment d):=by
  grind [rhoOut_inv,Nat.beq,handI]
 have key':∀d d',rhoOut (handI s mode xs) k d'=some d→s.ment d∨d∈o.news dst:=fun d d' hd=>(key d d' hd).elim .inr (fun h=> .inl h.2);have hlk:∀i m,us.lookup i=some m→∃d' m0,rhoOut (handI s mode xs) k d'=some i∧MO.ren (rhoOut (handI s mode xs) k) m0=some m:=fun i m hi=>by
  grind [outs_spec]
 refine⟨fun d cs hd=> ?_,fun d q hd=> ?_,fun d q hd=>(by cases hd),fun d hd=> ?_,fun d e cs c he hc hd=> ?_⟩
 ·simp only[ovB]at hd;split at hd
  ·rename_i cs0 hl;obtain⟨q,m0,a0,a1,a2⟩:=(outs_spec h6).1 _ _ hl;rw[hwb];rcases key d _ a1 with hn|hn
   ·grind
   ·cases hI:(handI s mode xs)[q]? with
    |none=>
     left;rw[Nat.zero_add]at a1;unfold rhoOut at a1
     grind [Nat.ble_eq_true_of_le,Nat.add_sub_cancel_left,only,Nat.blt_eq,handI]
    |some i=>
     right;rw[Nat.zero_add]at a1;unfold rhoOut at a1;rw[if_pos (Nat.ble_eq_true_of_le (by omega)),Nat.add_sub_cancel_left,hI]at a1;cases a1;refine⟨hn.1,hn.2,fun k hk=> ?_,?_⟩
     ·grind
     ·obtain⟨g1,g2,g3⟩:=handed h2;obtain⟨_,_,_,o4⟩:=z99 h4;have hq:q<os.length:=by grind
      cases hm0:os[q]with
      |box c0=>
       obtain⟨i',c,b1,b2,_⟩:=g2 q c0 (by rw[←hm0];exact gE hq)
       grind
      |row e W n=>
       obtain⟨n',hn',_⟩:=o4 q e W n (by rw[←hm0];exact gE hq)
       grind [MO.ren]
  ·cases hd
 ·grind [only,ovR]
 ·grind [ren3_ment]
 ·simp only[ovB]at he;split at he
  ·rename_i hl;cases he;obtain⟨d',m0,_,a2⟩:=hlk _ _ hl;cases m0 with
   |row e W n=>simp[MO.ren]at a2
   |box c0=>
    simp only[MO.ren]at a2;obtain⟨l,a3,a4⟩:=gO a2;cases a4;obtain⟨d',a5⟩:=z82 (ρ:=rhoOut (handI s mode xs) k) (f:=TV.ren1 (rhoOut (handI s mode xs) k)) (fun _ _ h1 h2=>ren1_ment h1 h2) a3 hc hd
    grind
  ·cases he
theorem eff_shape{o:SOp}{x:TV}{u:Upd}(h:eff P C dst o s=some (x,u)):Shape s dst o x u:=by
 cases o with
 |mov y=>exact z40 (f:=fun c=>c) h (fun v hv d hd=> .inl (z26 hv hd))
 |pick c y z=>
  simp only[eff]at h;split at h
  ·exact z40 (f:=fun c=>c) h (fun v hv d hd=> .inl (z26 hv hd))
  ·cases h
 |bin op t a b=>
  simp only[eff]at h
  grind [scal_shape]
 |un op a=>
  simp only[eff]at h
  grind [scal_shape]
 |cvi k a=>exact z40 h (fun v hv d hd=>by cases hd)
 |mkI t a=>exact z40 h (fun v hv d hd=>by cases hd)
 |fnil t a=>exact z40 h (fun v hv d hd=>by cases hd)
 |pan a=>cases h
 |cvs a=>exact z40 h (fun v hv d hd=>by cases hd)
 |b2s a=>exact z40 h (fun v hv d hd=>by cases hd)
 |slen a=>exact z40 h (fun v hv d hd=>by cases hd)
 |len a=>exact z40 h (fun v hv d hd=>by cases hd)
 |imm mx a b=>
  simp only[eff]at h;split at h
  ·cases h;exact .no (fun d hd=>by cases hd)
  ·cases h
 |sidx a b=>
  simp only[eff]at h;split at h
  ·split at h
   ·exact z40 h (fun v hv d hd=>by cases hd)
   ·cases h
  ·cases h
 |ssub a b c=>
  simp only[eff]at h;split at h
  ·split at h
   ·split at h
    ·cases h;exact .no (fun d hd=>by cases hd)
    ·cases h
   ·cases h
  ·cases h
 |new z=>
  simp only[eff]at h;split at h
  ·cases h;refine⟨fun d cs hd=> ?_,fun _ _ h=>(by cases h),fun _ _ h=>(by cases h),fun d hd=> ?_,fun d e cs c he hc hd=> ?_⟩
   ·grind [only,ovB,SOp.news]
   ·cases hd;exact .inr (by simp[SOp.news])
   ·simp only[ovB]at he;split at he
    ·cases he;obtain⟨v,_,rfl⟩:=List.mem_map.1 hc;cases hd
    ·cases he
  ·cases h
 |box y=>
  simp only[eff]at h;split at h
  ·obtain⟨cs',h1,h2⟩:=gO h;cases h2;refine⟨fun d cs hd=> ?_,fun _ _ h=>(by cases h),fun _ _ h=>(by cases h),fun d hd=> ?_,fun d e cs c he hc hd=> ?_⟩
   ·grind [only,ovB,SOp.news]
   ·cases hd;exact .inr (by simp[SOp.news])
   ·grind [only,ovB,z159]
  ·cases h
 |mks bytes z n=>
  simp only[eff]at h;split at h
  ·split at h
   ·cases h;refine⟨fun d cs hd=> ?_,fun _ _ h=>(by cases h),fun _ _ h=>(by cases h),fun d hd=> ?_,fun d e cs c he hc hd=> ?_⟩
    ·grind [only,ovB,SOp.news]
    ·cases hd;exact .inr (by simp[SOp.news])
    ·simp only[ovB]at he;split at he
     ·cases he;obtain⟨l,h1,h2⟩:=List.mem_flatten.1 hc;rw[List.eq_of_mem_replicate h1]at h2;obtain⟨v,_,rfl⟩:=List.mem_map.1 h2;cases hd
     ·cases he
   ·cases h
  ·cases h
 |build z ps=>
  simp only[eff]at h;obtain⟨qs,h1,h⟩:=gB h;refine z40 h (fun v hv d hm=> ?_);cases hm with
  |agg hc hm=>
  rcases fillT_mem hv hc with h3|⟨p,hp,h3⟩
  ·obtain⟨w,_,rfl⟩:=List.mem_map.1 h3;cases hm
  ·obtain⟨k,hk⟩:=List.getElem?_of_mem hp;obtain⟨l1,hs1⟩:=z38 h1;have hkl:k<ps.length:=by grind
   obtain⟨y,hy1,hy2⟩:=hs1 k ps[k] (gE hkl)
   grind [Option.map_eq_some_iff,z159]
 |lkp text z y i=>
  simp only[eff]at h;split at h
  ·rename_i ks xs k hy _;split at h
   ·exact z40 (f:=fun t=>t) h (fun v hv d hm=> .inl (z26 hy (.mp (gM hv) hm)))
   ·cases h;refine .no (fun d hm=> ?_);unfold zeroT at hm;split at hm
    ·cases hm with
     |agg hc hm=>obtain⟨v,_,rfl⟩:=List.mem_map.1 hc;cases hm
    ·cases hm
   ·cases h
  ·cases h
 |bslO e W xs=>
  simp only[eff]at h;split at h
  ·split at h
   ·cases h;refine⟨fun _ _ h=>(by cases h),fun d q hd=> ?_,fun _ _ h=>(by cases h),fun d hm=> ?_,fun _ _ _ _ h=>(by cases h)⟩
    ·grind [only,ovR,SOp.news]
    ·cases hm;exact .inr (by simp[SOp.news])
   ·cases h
  ·cases h
 |bsl W xs=>
  simp only[eff]at h;obtain⟨_,_,h⟩:=gB h;split at h
  ·cases h;exact .no (fun d hd=>by cases hd)
  ·cases h
 |fld a off size y=>
  simp only[eff]at h;split at h
  ·rename_i cs hy;split at h
   ·split at h
    ·cases h;refine .no (fun d hm=> ?_);cases hm with
     |agg hc hm=>exact .inl (z26 hy (.agg (List.mem_of_mem_drop (List.mem_of_mem_take hc)) hm))
    ·cases h
   ·exact z40 (f:=fun c=>c) h (fun v hv d hm=> .inl (z26 hy (.agg (gM hv) hm)))
  ·cases h
 |fldA off y=>
  simp only[eff]at h;split at h
  ·rename_i d' o' hy;cases h;exact .no (fun d hm=>by cases hm;exact .inl (z26 hy (.ptr _)))
  ·cases h;exact .no (fun d hm=>by cases hm)
  ·cases h
 |ld a size y=>
  simp only[eff]at h;split at h
  ·rename_i d' o' hy;obtain⟨cs,hb,h⟩:=gB h;split at h
   ·split at h
    ·cases h;refine .no (fun d hm=> ?_);cases hm with
     |agg hc hm=>exact .inl (.inr ⟨d',cs,_,hb,List.mem_of_mem_drop (List.mem_of_mem_take hc),hm⟩)
    ·cases h
   ·exact z40 (f:=fun c=>c) h (fun v hv d hm=> .inl (.inr ⟨d',cs,_,hb,gM hv,hm⟩))
  ·split at h
   ·split at h
    ·cases h;refine .no (fun d hm=> ?_);cases hm with
     |agg hc hm=>
      obtain⟨p,_,rfl⟩:=List.mem_map.1 hc;cases hm
    ·cases h
   ·exact z40 h (fun v hv d hm=>by cases hm)
  ·cases h
 |st n y z=>
  simp only[eff]at h;split at h
  ·rename_i d' o' hy;obtain⟨cs,hb,h⟩:=gB h;obtain⟨xs,hxs,h⟩:=gB h;split at h
   ·cases h;refine⟨fun d cs' hd=> ?_,fun _ _ h=>(by cases h),fun _ _ h=>(by cases h),fun d hd=>(by cases hd),fun d e cs' c he hc hd=> ?_⟩
    ·simp only[ovB]at hd;split at hd
     ·rename_i e;subst e;exact .inr ⟨rfl,z26 hy (.ptr _),fun k hk=>by simp only[SOp.foot,hy]at hk;exact Option.some.inj hk,_,hb⟩
     ·cases hd
    ·simp only[ovB]at he;split at he
     ·cases he;rcases mem_splice hc with h1|h1
      ·exact .inl (.inr ⟨_,cs,c,hb,h1,hd⟩)
      ·grind [z159]
     ·cases he
   ·cases h
  ·cases h
 |idxA W y i=>
  simp only[eff]at h;split at h
  ·rename_i hy _;split at h
   ·cases h;exact .no (fun d hm=>by cases hm;exact .inl (z26 hy (.bs _ _ _)))
   ·cases h
  ·split at h
   ·exact z40 h (fun v hv d hm=>by cases hm)
   ·cases h
  ·cases h
 |sub W y lo hi=>
  simp only[eff]at h;split at h
  ·rename_i hy;split at h
   ·split at h
    ·cases h;refine .no (fun d hm=> ?_);split at hm<;>cases hm
     exact .inl (z26 hy (.bs _ _ _))
    ·cases h
   ·cases h
  ·split at h
   ·split at h
    ·split at h
     ·cases h;exact .no (fun d hm=>by cases hm)
     ·cases h
    ·cases h
   ·cases h
  ·cases h
 |app e W b y z=>
  simp only[eff]at h;split at h
  ·rename_i d' W' es es2 hy _;split at h
   ·cases h;refine⟨fun _ _ h=>(by cases h),fun d q hd=> ?_,fun _ _ h=>(by cases h),fun d hm=> ?_,fun _ _ _ _ h=>(by cases h)⟩
    ·simp only[ovR]at hd;split at hd
     ·rename_i e;subst e;exact .inr ⟨rfl,z26 hy (.own _ _)⟩
     ·cases hd
    ·cases hm;exact .inl (z26 hy (.own _ _))
   ·cases h
  ·cases h
 |appS e b y z=>
  simp only[eff]at h;split at h
  ·rename_i d' W' es es2 hy _;split at h
   ·cases h;refine⟨fun _ _ h=>(by cases h),fun d q hd=> ?_,fun _ _ h=>(by cases h),fun d hm=> ?_,fun _ _ _ _ h=>(by cases h)⟩
    ·simp only[ovR]at hd;split at hd
     ·rename_i e;subst e;exact .inr ⟨rfl,z26 hy (.own _ _)⟩
     ·cases hd
    ·cases hm;exact .inl (z26 hy (.own _ _))
   ·cases h
  ·cases h
 |appN e W b y z=>
  simp only[eff]at h;split at h
  ·split at h
   ·cases h;refine⟨fun _ _ h=>(by cases h),fun d q hd=> ?_,fun _ _ h=>(by cases h),fun d hm=> ?_,fun _ _ _ _ h=>(by cases h)⟩
    ·grind [only,ovR,SOp.news]
    ·cases hm;exact .inr (by simp[SOp.news])
   ·cases h
  ·cases h
 |appB e W b y z=>
  simp only[eff]at h;split at h
  ·split at h
   ·split at h
    ·cases h;exact .no (fun d hd=>by cases hd)
    ·cases h;refine⟨fun d cs hd=> ?_,fun _ _ h=>(by cases h),fun _ _ h=>(by cases h),fun d hd=> ?_,fun d e cs c he hc hd=> ?_⟩
     ·grind [only,ovB,SOp.news]
     ·cases hd;exact .inr (by simp[SOp.news])
     ·simp only[ovB]at he;split at he
      ·cases he;obtain⟨v,_,rfl⟩:=List.mem_map.1 hc;cases hd
      ·cases he
   ·cases h
  ·cases h
 |appNS e b y z=>
  simp only[eff]at h;split at h
  ·split at h
   ·cases h;refine⟨fun _ _ h=>(by cases h),fun d q hd=> ?_,fun _ _ h=>(by cases h),fun d hm=> ?_,fun _ _ _ _ h=>(by cases h)⟩
    ·grind [only,ovR,SOp.news]
    ·cases hm;exact .inr (by simp[SOp.news])
   ·cases h
  ·cases h
 |call f m xs=>
  simp only[eff]at h;obtain⟨vs,hv,h⟩:=gB h;exact call_shape (seq_ment hv) rfl rfl rfl rfl (fun k hk=>foot_call hv hk) h
 |callv y m xs=>
  simp only[eff]at h;split at h
  ·rename_i h1 h2;exact call_shape (callv_ment (t:=.unk) h1 h2) rfl rfl rfl rfl (fun k hk=>by cases hk) h
  ·cases h
 |ext y i=>
  simp only[eff]at h;split at h
  ·rename_i ts hy;exact z40 (f:=fun c=>c) h (fun v hv d hm=> .inl (z26 hy (.tuple (gM hv) hm)))
  ·cases h
 |nchk y=>
  simp only[eff]at h;split at h
  ·rename_i hy;cases h;exact .no (fun d hm=> .inl (z26 hy hm))
  ·rename_i hy;cases h;exact .no (fun d hm=> .inl (z26 hy hm))
  ·cases h
 |mkf f a b=>
  simp only[eff]at h;split at h
  ·rename_i h1 h2;cases h;refine .no (fun d hm=> ?_);cases hm<;>grind [seq_ment]
  ·cases h
 |rng y=>
  simp only[eff]at h;split at h
  ·cases h;refine⟨fun _ _ h=>(by cases h),fun _ _ h=>(by cases h),fun d q hd=> ?_,fun d hm=> ?_,fun _ _ _ _ h=>(by cases h)⟩
   ·grind [only,ovI,SOp.news]
   ·cases hm;exact .inr (by simp[SOp.news])
  ·cases h
 |nxt y=>
  simp only[eff]at h;split at h
  ·rename_i hy;split at h
   ·split at h
    ·cases h;refine⟨fun _ _ h=>(by cases h),fun _ _ h=>(by cases h),fun d q hd=> ?_,fun d hm=> ?_,fun _ _ _ _ h=>(by cases h)⟩
     ·simp only[ovI]at hd;split at hd
      ·rename_i e;subst e;exact .inr ⟨rfl,z26 hy .it⟩
      ·cases hd
     ·cases hm with
      |tuple hc hm=>simp at hc;rcases hc with rfl|rfl|rfl<;>cases hm
    ·cases h;refine .no (fun d hm=> ?_);cases hm with
     |tuple hc hm=>simp at hc;subst hc;cases hm
   ·cases h
  ·cases h
end
section
variable{P:Program}{C C':Oracle}{s s':FS}
def isK:Option Nat→Nat→Bool
 |some k,d=>Nat.beq k d
 |none,_=>false
theorem isK_eq{x:Option Nat}{d:Nat}(h:isK x d=true):x=some d:=by
 cases x with
 |none=>cases h
 |some k=>rw[Nat.eq_of_beq_eq_true h]
def footOk(o:SOper)(s:FS):Bool:=match o.fp with
 |none=>true
 |some d=>isK (o.op.foot s) d
def effF(P:Program)(C:Oracle)(o:SOper)(s:FS):Option (TV×Upd):=match footOk o s with|true=>eff P C o.dst o.op s|false=>none
theorem effF_eff{o:SOper}{e:TV×Upd}(h:effF P C o s=some e):eff P C o.dst o.op s=some e∧∀d,o.fp=some d→o.op.foot s=some d:=by
 grind [effF,footOk,isK_eq]
def effG(P:Program)(C:Oracle)(o:SOper)(s:FS):Option (TV×Upd):=
 match o.guard with
 |some (g,want)=>match s.t g with
  |some (.pv (.v (.bool b)))=>if b==want then effF P C o s else some (.pv (.v undef),.no)
  |some (.pv (.v _))=>some (.pv (.v undef),.no)
  |_=>none
 |none=>effF P C o s
def FS.after(s:FS)(o:SOper)(e:TV×Upd):FS:=(s.upd o.dst e.2).put o.dst e.1
def step(P:Program)(C:Oracle)(o:SOper)(s:FS):Option FS:=(effG P C o s).map (s.after o)
def SOper.news(o:SOper):List Nat:=o.op.news o.dst
def unlike:Option Nat→Option Nat→Bool
 |some a,some b=> !Nat.beq a b
 |_,_=>false
def noClash(o p:SOper):Bool:=(unlike o.fp p.fp||(!(o.op.wb&&p.op.rb)&& !(p.op.wb&&o.op.rb)))&& !(o.op.wr&&p.op.wr)&& !(o.op.wi&&p.op.wi)
def apart(o p:SOper):Bool:=
 (match o.dst with|some d=> !p.reads.contains d&&p.dst !=some d|none=>true)&&(match p.dst with|some d=> !o.reads.contains d&&o.dst !=some d|none=>true)&&noClash o p
theorem apart_symm{o p:SOper}(h:apart o p=true):apart p o=true:=by
 unfold apart noClash at*;simp only[Bool.and_eq_true,Bool.or_eq_true]at h ⊢;obtain⟨⟨h1,h2⟩,⟨h3,h5⟩,h6⟩:=h;refine⟨⟨h2,h1⟩,⟨?_,?_⟩,?_⟩
 ·rcases h3 with h3|⟨h3,h4⟩
  ·left;cases ho:o.fp with
   |none=>rw[ho]at h3;cases h3
   |some a=>
    cases hp:p.fp<;>grind [only,unlike,Bool.not_eq_true',Nat.beq,Nat.eq_of_beq_eq_true,Nat.beq_refl]
  ·grind
 ·grind
 ·grind
theorem unlike_spec{a b:Option Nat}(h:unlike a b=true):∃x y,a=some x∧b=some y∧x≠y:=by
 cases a with
 |none=>cases h
 |some x=>
  cases b<;>grind [only,unlike,Bool.not_eq_true',Nat.beq_refl]
def FreshO(o:SOper)(s:FS):Prop:=∀d∈o.news,Fresh s d
theorem effG_cases{o:SOper}{e:TV×Upd}(h:effG P C o s=some e):e=(.pv (.v undef),.no)∨effF P C o s=some e:=by
 grind [effG]
theorem z115{o:SOper}{e:TV×Upd}(h:effG P C o s=some e):Shape s o.dst o.op e.1 e.2:=by
 rcases effG_cases h with rfl|h
 ·exact .no (fun d hd=>by cases hd)
 ·exact eff_shape (x:=e.1) (u:=e.2) (effF_eff h).1
theorem foot_at(I:List Nat)(k:Nat):isK (only I) k=true ↔ I=[k]:=by
 match I with
 |[]=>simp[only,isK]
 |[d]=>exact⟨fun h=>by rw[Nat.eq_of_beq_eq_true h],fun h=>by cases h;exact Nat.beq_refl k⟩
 |_::_::_=>simp[only,isK]
theorem footOk_congr{o:SOper}(h:∀k∈o.op.reads,s'.t k=s.t k)(hb:o.op.rb=true→∀d,s.ment d→(∀k,o.fp=some k→d=k)→s'.b d=s.b d)(hb2:o.op.rb=true→∀d,s.ment d→(s'.b d=none ↔ s.b d=none))(hr:o.op.wr=true→∀d,s.ment d→s'.r d=s.r d):footOk o s'=footOk o s:=by
 unfold footOk;cases hfp:o.fp with
 |none=>rfl
 |some k=>
  cases hop:o.op with
  |ld a n x=>rw[hop]at h;simp only[SOp.foot,z30 (x:=x) h]
  |st n x y=>grind [only,SOp.reads,SOp.foot,z30]
  |call f m xs=>
   rw[hop]at h hb hb2 hr;simp only[SOp.foot,z118 (xs:=xs) h];cases hx:seqO (fun x:Arg=>x.get s) xs with
   |none=>rfl
   |some args=>
    simp only;rw[Bool.eq_iff_iff,foot_at,foot_at];cases h0:Nat.beq m 0 with
    |true=>simp[handI,h0]
    |false=>
     have hrb:(SOp.call f m xs).rb=true:=by simp[SOp.rb,h0]
     have hwr:(SOp.call f m xs).wr=true:=by simp[SOp.wr,h0]
     have hids:∀d∈args.flatMap TV.ids2,s.ment d:=fun d hd=>by
      grind [seq_ment,ids2_ment]
     have key:((∀d∈handI s m args,d∈[k])∨(∀d∈handI s' m args,d∈[k]))→handI s' m args=handI s m args:=by
      intro hk;simp only[handI,h0,Bool.false_eq_true,if_false]at hk ⊢;exact z101 (R:=[k]) (fun d hd hdk=>hb hrb d hd (fun k' hk'=>by rw[hfp]at hk';cases hk';simpa using hdk)) (hb2 hrb) (hr hwr) 64 _ [] hids hk
     grind
  |_=>rfl
theorem effG_congr{o:SOper}(h:∀k∈o.reads,s'.t k=s.t k)(hb:o.op.rb=true→∀d,s.ment d→(∀k,o.fp=some k→d=k)→s'.b d=s.b d)(hb2:o.op.rb=true→∀d,s.ment d→(s'.b d=none ↔ s.b d=none))(hr:o.op.wr=true→∀d,s.ment d→s'.r d=s.r d)(hi:o.op.wi=true→∀d,s.ment d→s'.i d=s.i d):effG P C o s'=effG P C o s:=by
 have hrd:∀k∈o.op.reads,s'.t k=s.t k:=fun k hk=>h k (by simp[SOper.reads,hk]);have hft:footOk o s'=footOk o s:=footOk_congr hrd hb hb2 hr;have he:effF P C o s'=effF P C o s:=by
  grind [effF,footOk,eff_congr,isK_eq]
 grind [effG,only,SOper.reads]
theorem effG_apart{o p:SOper}(hap:apart o p=true)(hf:FreshO o s){e:TV×Upd}(he:effG P C o s=some e):effG P C' p (s.after o e)=effG P C' p s:=by
 unfold apart noClash at hap;simp only[Bool.and_eq_true,Bool.not_eq_true',Bool.or_eq_true]at hap;obtain⟨⟨h1,h2⟩,⟨h34,h5⟩,h6⟩:=hap;have hS:=z115 he;have hfo:∀d cs,ovB o.dst e.2 d=some cs→d∈o.op.news o.dst∨(o.op.wb=true∧(∀k,o.fp=some k→d=k)∧∃c0,s.b d=some c0):=by
  intro d cs hd;rcases effG_cases he with rfl|he'
  ·cases hd
  ·rcases hS.b d cs hd with h|⟨h,_,h',h''⟩
   ·grind
   ·exact .inr ⟨h,fun k hk=>h' k ((effF_eff he').2 k hk),h''⟩
 have hne:∀d,s.ment d→d∉o.op.news o.dst:=fun d hd hn=>(hf d hn).1 hd;refine effG_congr (fun k hk=> ?_) (fun hb d hd hdk=> ?_) (fun hb d hd=> ?_) (fun hr d hd=> ?_) (fun hi d hd=> ?_)
 ·grind [FS.after,put_t,upd_t]
 ·unfold FS.after;rw[put_b,upd_b]
  grind [ovB,unlike_spec]
 ·unfold FS.after;rw[put_b,upd_b]
  grind
 ·unfold FS.after;rw[put_r,upd_r];cases ho:ovR e.2 d with
  |none=>rfl
  |some cs=>
   rcases hS.r d cs ho with h|⟨h,_⟩<;>grind
 ·unfold FS.after;rw[put_i,upd_i];cases ho:ovI e.2 d with
  |none=>rfl
  |some cs=>
   rcases hS.i d cs ho with h|⟨h,_⟩<;>grind
theorem FS.ext'{a b:FS}(h1:∀k,a.t k=b.t k)(h2:∀k,a.b k=b.b k)(h3:∀k,a.r k=b.r k)(h4:∀k,a.i k=b.i k):a=b:=by
 cases a;cases b;simp only[FS.mk.injEq]
 grind
def mkOk(a b:SOper):Bool:=a.news.all fun d=> !b.news.contains d
theorem mkOk_spec{a b:SOper}(h:mkOk a b=true){d:Nat}(h1:d∈a.news)(h2:d∈b.news):False:=by
 have:=List.all_eq_true.1 h d h1
 grind
theorem after_comm{o p:SOper}(hap:apart o p=true)(hmk:mkOk o p=true)(hfo:FreshO o s)(hfp:FreshO p s){e f:TV×Upd}(he:effG P C o s=some e)(hf:effG P C' p s=some f):(s.after o e).after p f=(s.after p f).after o e:=by
 unfold apart noClash at hap;simp only[Bool.and_eq_true,Bool.not_eq_true',Bool.or_eq_true]at hap;obtain⟨⟨h1,h2⟩,⟨h34,h5⟩,h6⟩:=hap;have hdd:∀k,o.dst=some k→p.dst≠some k:=by
  grind
 have hSo:=z115 he;have hSp:=z115 hf;have clash:∀{d:Nat} {A Bo:Bool},(d∈o.op.news o.dst∨(A=true∧s.ment d))→(d∈p.op.news p.dst∨(Bo=true∧s.ment d))→(A&&Bo)=false→False:=by
  intro d A Bo q1 q2 hq;rcases q1 with q1|⟨q1,q1'⟩<;>rcases q2 with q2|⟨q2,q2'⟩
  ·exact mkOk_spec hmk q1 q2
  ·exact(hfo d q1).1 q2'
  ·exact(hfp d q2).1 q1'
  ·grind
 refine FS.ext' (fun k=> ?_) (fun k=> ?_) (fun k=> ?_) (fun k=> ?_)
 ·unfold FS.after;simp only[put_t,upd_t]
  grind
 ·unfold FS.after;simp only[put_b,upd_b];cases q1:ovB o.dst e.2 k with
  |none=>rfl
  |some x=>
   cases q2:ovB p.dst f.2 k with
   |none=>rfl
   |some y=>
    exfalso;rcases h34 with hu|⟨h3,_⟩
    ·obtain⟨x',y',e1,e2,e3⟩:=unlike_spec hu;have k1:∀(o:SOper) (C:Oracle) (e:TV×Upd),effG P C o s=some e→∀cs,ovB o.dst e.2 k=some cs→∀z,o.fp=some z→k∈o.op.news o.dst∨(k=z∧s.ment k):=by
      intro o C e he cs hd z hz;rcases effG_cases he with rfl|he'
      ·cases hd
      ·rcases(z115 he).b k cs hd with h|⟨_,h0,h',_⟩
       ·grind
       ·exact .inr ⟨h' z ((effF_eff he').2 z hz),h0⟩
     rcases k1 o C e he _ q1 x' e1 with a1|a1
     ·rcases k1 p C' f hf _ q2 y' e2 with a2|a2
      ·simp_all
      ·exact(hfo k a1).1 a2.2
     ·rcases k1 p C' f hf _ q2 y' e2 with a2|a2
      ·exact(hfp k a2).1 a1.2
      ·omega
    ·refine clash ((hSo.b k _ q1).imp id (fun h=>⟨h.1,h.2.1⟩)) ((hSp.b k _ q2).imp id (fun h=>⟨h.1,h.2.1⟩)) ?_
     grind [wb_rb]
 ·unfold FS.after;simp only[put_r,upd_r];cases q1:ovR e.2 k with
  |none=>rfl
  |some x=>
   cases q2:ovR f.2 k with
   |none=>rfl
   |some y=>exact(clash (hSo.r k _ q1) (hSp.r k _ q2) h5).elim
 ·unfold FS.after;simp only[put_i,upd_i];cases q1:ovI e.2 k with
  |none=>rfl
  |some x=>
   cases q2:ovI f.2 k with
   |none=>rfl
   |some y=>exact(clash (hSo.i k _ q1) (hSp.i k _ q2) h6).elim
theorem step_comm{o p:SOper}(hap:apart o p=true)(hmk:mkOk o p=true)(hfo:FreshO o s)(hfp:FreshO p s){s1 s2:FS}(h1:step P C o s=some s1)(h2:step P C' p s1=some s2):∃s1',step P C' p s=some s1'∧step P C o s1'=some s2:=by
 grind [Option.map_eq_some_iff,effG_apart,step,apart_symm,after_comm]
theorem fresh_after{o p:SOper}(hf:FreshO p s)(hmk:mkOk o p=true){s1:FS}(h:step P C o s=some s1):FreshO p s1:=by
 obtain⟨e,he,rfl⟩:=gO h;have hS:=z115 he;intro d hd;obtain⟨f1,f2,f3,f4⟩:=hf d hd;have hno:d∉o.op.news o.dst:=fun h=>mkOk_spec hmk h hd;have hm:∀{A:Prop},(s.ment d∨d∈o.op.news o.dst)→A:=fun h=>h.elim (fun h=>absurd h f1) (fun h=>absurd h hno);refine⟨?_,?_,?_,?_⟩
 ·rintro(⟨k,y,hk,hy⟩|⟨k,cs,c,hk,hc,hy⟩)
  ·unfold FS.after at hk;rw[put_t,upd_t]at hk;split at hk
   ·cases hk;exact hm (hS.x d hy)
   ·exact f1 (.inl ⟨k,y,hk,hy⟩)
  ·unfold FS.after at hk;rw[put_b,upd_b]at hk;cases ho:ovB o.dst e.2 k with
   |none=>rw[ho]at hk;exact f1 (.inr ⟨k,cs,c,hk,hc,hy⟩)
   |some x=>rw[ho]at hk;cases hk;exact hm (hS.m d k cs c ho hc hy)
 ·unfold FS.after;rw[put_b,upd_b];cases ho:ovB o.dst e.2 d with
  |none=>exact f2
  |some x=>exact hm ((hS.b d x ho).elim .inr (fun h=> .inl h.2.1))
 ·unfold FS.after;rw[put_r,upd_r];cases ho:ovR e.2 d with
  |none=>exact f3
  |some x=>exact hm ((hS.r d x ho).elim .inr (fun h=> .inl h.2))
 ·unfold FS.after;rw[put_i,upd_i];cases ho:ovI e.2 d with
  |none=>exact f4
  |some x=>exact hm ((hS.i d x ho).elim .inr (fun h=> .inl h.2))
end
def dstOk(N:Nat):Option Nat→Bool
 |some d=>Nat.blt d N
 |none=>true
def z149(ops:Array Oper):Option (Nat×Bool)→Option (Option (Nat×Bool))
 |none=>some none
 |some (j,want)=>match(ops[j]?).bind (·.dst)with
  |some d=>some (some (d,want))
  |none=>none
def z78(P:Program)(N:Nat)(H:Option Nat→Nat)(fp:Option Nat)(ops:Array Oper)(o:Oper):Option SOper:=
 match z149 ops o.guard,z24 P o (H o.dst)with
 |some g,some op=>if dstOk N o.dst then some ⟨o.dst,g,fp,op⟩ else none
 |_,_=>none
def direct(ops:Array Oper)(a i:Nat):Bool:=match ops[i]? with
 |some o=>o.after.any fun e=>Region.binds .any e&&Nat.beq e.on a
 |none=>false
def ahead(ops:Array Oper):Nat→Nat→Nat→Bool
 |0,a,i=>direct ops a i
 |f+1,a,i=>direct ops a i||(match ops[i]? with
  |some o=>o.after.any fun e=>Region.binds .any e&&ahead ops f a e.on
  |none=>false)
def pairOk(ops:Array Oper)(draw:Bool)(sops:List SOper)(i j:Nat):Bool:=
 match sops[i]?,sops[j]? with
 |some a,some b=>mkOk a b&&(!draw||apart a b||ahead ops 4 i j)
 |_,_=>false
def z103(ops:Array Oper)(draw:Bool)(sops:List SOper):Bool:=
 ((List.range sops.length).all fun j=>(List.range j).all fun i=>pairOk ops draw sops i j)&&
 (!draw||(List.range sops.length).all fun i=>match ops[i]? with|some o=>o.after.all fun e=> !Region.binds .any e||Nat.blt e.on i|none=>true)
def z132(P:Program)(N:Nat)(H:Option Nat→Nat)(fps:Nat→Option Nat)(ops:Array Oper):Nat→List Oper→Option (List SOper)
 |_,[]=>some []
 |j,o::l=>match z78 P N H (fps j) ops o,z132 P N H fps ops (j+1) l with
  |some x,some r=>some (x::r)
  |_,_=>none
theorem z71{P:Program}{N:Nat}{H:Option Nat→Nat}{fps:Nat→Option Nat}{ops:Array Oper}:∀{l:List Oper} {j:Nat} {sops:List SOper},z132 P N H fps ops j l=some sops→l.length=sops.length∧∀(i:Nat) o,l[i]?=some o→∃so,sops[i]?=some so∧z78 P N H (fps (j+i)) ops o=some so
 |[],j,sops,h=>by simp[z132]at h;subst h;simp
 |o::l,j,sops,h=>by
  simp only[z132]at h;split at h
  ·rename_i x r h1 h2;cases h;obtain⟨a1,a2⟩:=z71 h2
   grind
  ·cases h
def z39(P:Program)(N:Nat)(H:Option Nat→Nat)(fps:Nat→Option Nat)(ops:Array Oper)(draw:Bool):Option (List SOper):=
 match z132 P N H fps ops 0 ops.toList with
 |some sops=>if z103 ops draw sops then some sops else none
 |none=>none
section
variable{P:Program}{H:Option Nat→Nat}{ops:Array Oper}{B:Base}{C:Oracle}{sops:List SOper}{g:Glob}
def SoundC(P:Program)(g:Glob)(C:Oracle):Prop:=∀f xs os y os',C f xs os=some (y,os')→SCalls P g f xs os y os'
def Stp(P:Program)(g:Glob)(o:SOper)(s s':FS):Prop:=∃C,SoundC P g C∧step P C o s=some s'
theorem sim_step(hm0:B.m≤1000)(hN:B.N≤1000)(hG:g.G B.w0)(hX:∀d b,B.X d b→g.n≤b)(hC:SoundC P g C){s s':FS}{a:Act}{w:World}{E:Env}(h:Sim B s a w E){i:Nat}{o:Oper}{so:SOper}{fp:Option Nat}(hi:ops[i]?=some o)(ht:z78 P B.N H fp ops o=some so)(hf:FreshO so s)(hs:step P C so s=some s')
  {K:Act→World→Prop} {Q:Exit→Act→World→Prop} (hK:∀a' w' E',Sim B s' a' w' E'→K a' w'):wpOp P ops Q i K a w:=by
 unfold z78 at ht;split at ht<;>try(cases ht;done)
 rename_i gd op hg hop;split at ht<;>try(cases ht;done)
 rename_i hd;cases ht;have hdst:∀k,o.dst=some k→k<B.N:=by
  grind [only,dstOk,Nat.blt_eq]
 obtain⟨e,he,rfl⟩:=gO hs;have hdo:effF P C ⟨o.dst,gd,fp,op⟩ s=some e→o.wp P a w K Q:=fun he'=>
  sim_op (C:=C) h hm0 hN hG hX hop hdst hf hC (x:=e.1) (u:=e.2) (effF_eff he').1 (fun v w' E' hS=>hK _ _ _ hS)
 unfold wpOp;simp only[hi];unfold effG at he;cases hgo:o.guard with
 |none=>
  rw[hgo]at hg;simp only[z149,Option.some.injEq]at hg;subst hg;simp only at he;rw[if_pos (by simp[Region.wanted,hgo])]
  grind
 |some jw=>
  obtain⟨j,want⟩:=jw;rw[hgo]at hg;simp only[z149]at hg;split at hg<;>try(cases hg;done)
  rename_i d hjd;cases hg;simp only at he;have hskip:∀v,a.tmps[d]?=some v→(∀b,v=.bool b→(b==want)=false)→e=(.pv (.v undef),.no)→(if Region.wanted o (yielded ops a.tmps)=true then o.wp P a w K Q∨(o.asks P a w∧LetsOut Q)else K (a.put o.dst undef) w):=by
   intro v hv hb he';rw[if_neg]
   ·rw[he']at hK;exact hK _ _ E (h.put hdst (.pv (.v undef)))
   ·simp only[Region.wanted,hgo,yielded,hjd,Option.bind_some,hv]
    grind
  have hval:∀v,s.t d=some (.pv (.v v))→a.tmps[d]?=some v:=by
   intro v hv;obtain⟨h1,h2⟩:=h.tmp d _ hv;have h3:=val_rel (y:=v) h2 rfl;have hlt:d<a.tmps.size:=by rw[h.size];exact h1
   simp_all
  split at he
  ·rename_i b hb;have hv:=hval _ hb;split at he
   ·rename_i hbw;rw[if_pos]
    ·grind
    ·simp only[Region.wanted,hgo,yielded,hjd,Option.bind_some,hv]
     grind
   ·grind
  ·grind
  ·cases he
def RunI(P:Program)(g:Glob)(sops:List SOper):List Nat→FS→FS→Prop
 |[],s,sf=>s=sf
 |i::l,s,sf=>∃o s1,sops[i]?=some o∧Stp P g o s s1∧RunI P g sops l s1 sf
def MkAll(sops:List SOper):Prop:=∀(i j:Nat) a b,i≠j→sops[i]?=some a→sops[j]?=some b→mkOk a b=true
theorem mkOk_symm{a b:SOper}(h:mkOk a b=true):mkOk b a=true:=by
 grind [mkOk,List.all_eq_true,mkOk_spec]
theorem mkAll_of{draw:Bool}(h:z103 ops draw sops=true):MkAll sops:=by
 unfold z103 at h;rw[Bool.and_eq_true]at h;have key:∀(i j:Nat) a b,i<j→sops[i]?=some a→sops[j]?=some b→mkOk a b=true:=by
  intro i j a b hij ha hb;have hj:j<sops.length:=(gJ hb).1;have:=List.all_eq_true.1 (List.all_eq_true.1 h.1 j (by simpa using hj)) i (by simpa using hij)
  grind [pairOk]
 intro i j a b hne ha hb
 grind [Nat.lt_or_gt_of_ne,mkOk_symm]
def FreshI(sops:List SOper)(l:List Nat)(s:FS):Prop:=∀i∈l,∀o,sops[i]?=some o→FreshO o s
theorem z91(hmk:MkAll sops){l:List Nat}{i:Nat}{o:SOper}{s s1:FS}(hi:sops[i]?=some o)(hl:i∉l)(hf:FreshI sops l s)(hs:Stp P g o s s1):FreshI sops l s1:=by
 intro j hj p hp;obtain⟨C,_,hs⟩:=hs;exact fresh_after (hf j hj p hp) (hmk i j o p (by rintro rfl;exact hl hj) hi hp) hs
theorem swap_front(hmk:MkAll sops){i:Nat}{o:SOper}(hi:sops[i]?=some o){Bl:List Nat}{sf:FS}:∀(A:List Nat) (s:FS),(A++i::Bl).Nodup→(∀a∈A,∀oa,sops[a]?=some oa→apart oa o=true)→FreshI sops (A++i::Bl) s→
  RunI P g sops (A++i::Bl) s sf→∃s1,Stp P g o s s1∧RunI P g sops (A++Bl) s1 sf
 |[],s,_,_,_,h=>by
  obtain⟨o',s1,h0,h1,h2⟩:=h
  grind
 |a::A,s,hnd,hap,hf,h=>by
  obtain⟨oa,sa,hoa,h1,h2⟩:=h;simp only[List.cons_append,List.nodup_cons]at hnd;have hfa:FreshI sops (A++i::Bl) sa:=z91 hmk hoa hnd.1 (fun j hj=>hf j (List.mem_cons_of_mem _ hj)) h1;obtain⟨s1',h3,h4⟩:=swap_front hmk hi A sa hnd.2 (fun b hb=>hap b (List.mem_cons_of_mem _ hb)) hfa h2;obtain⟨C1,c1,h1⟩:=h1;obtain⟨C2,c2,h3⟩:=h3;obtain⟨s1,h5,h6⟩:=step_comm (hap a (List.mem_cons_self ..) oa hoa) (hmk a i oa o (by rintro rfl;exact hnd.1 (List.mem_append_right _ (List.mem_cons_self ..))) hoa hi) (hf a (List.mem_cons_self ..) oa hoa) (hf i (List.mem_cons_of_mem _ (List.mem_append_right _ (List.mem_cons_self ..))) o hi) h1 h3;exact⟨s1,⟨C2,c2,h5⟩,oa,s1',hoa,⟨C1,c1,h6⟩,h4⟩
def ClosedL(ops:Array Oper)(listed:Array Bool):Prop:=∀i o,ops[i]?=some o→listed.getD i true=true→∀e∈o.after,Region.binds .any e=true→listed.getD e.on false=true
theorem z142{listed:Array Bool}(hcl:ClosedL ops listed)(hsz:listed.size=ops.size):∀(f a i:Nat),(∀o,ops[i]?=some o→∀e∈o.after,Region.binds .any e=true→listed.getD e.on false=true)→ahead ops f a i=true→listed.getD a false=true:=by
 have hdir:∀a i,(∀o,ops[i]?=some o→∀e∈o.after,Region.binds .any e=true→listed.getD e.on false=true)→direct ops a i=true→listed.getD a false=true:=by
  intro a i h hd;unfold direct at hd;split at hd
  ·rename_i o ho;obtain⟨e,he1,he2⟩:=Array.any_eq_true'.1 hd;rw[Bool.and_eq_true]at he2
   grind [Nat.eq_of_beq_eq_true]
  ·cases hd
 intro f
 induction f with
 |zero=>exact hdir
 |succ f ih=>
  intro a i h hr;simp only[ahead,Bool.or_eq_true]at hr;rcases hr with hr|hr
  ·grind
  ·split at hr
   ·rename_i o ho;obtain⟨e,he1,he2⟩:=Array.any_eq_true'.1 hr;rw[Bool.and_eq_true]at he2;have hl:=h o ho e he1 he2.1;refine ih a e.on (fun o' ho' e' he' hb'=>hcl e.on o' ho' ?_ e' he' hb') he2.2
    grind
   ·cases hr
def rest(n:Nat)(listed:Array Bool):List Nat:=(List.range n).filter fun i=> !listed.getD i true
theorem any_sound(hm0:B.m≤1000)(hN:B.N≤1000)(hG:g.G B.w0)(hX:∀d b,B.X d b→g.n≤b){fps:Nat→Option Nat}(htr:z132 P B.N H fps ops 0 ops.toList=some sops)(hok:z103 ops true sops=true){sf:FS}{Q:Exit→Act→World→Prop}(hQ:∀a w E,Sim B sf a w E→Q .normal a w):
  ∀(fuel:Nat) (listed:Array Bool) (s:FS) (a:Act) (w:World) (E:Env),listed.size=ops.size→ClosedL ops listed→Sim B s a w E→FreshI sops (rest ops.size listed) s→RunI P g sops (rest ops.size listed) s sf→(rest ops.size listed).length≤fuel→
   wpAny P .any ops Q fuel listed a w:=by
 obtain⟨hlen,hspec⟩:=z71 htr;have hlen':ops.size=sops.length:=by simpa using hlen
 have hmk:=mkAll_of hok;have hback:∀(i:Nat) o,ops[i]?=some o→∀e∈o.after,Region.binds .any e=true→e.on<i:=by
  intro i o hi e he hb;unfold z103 at hok;rw[Bool.and_eq_true]at hok;have hil:i<sops.length:=by rw[←hlen'];exact(gA hi).1
  have h2:=hok.2;simp only[Bool.not_true,Bool.false_or]at h2;have:=List.all_eq_true.1 h2 i (by simpa using hil);rw[hi]at this;have:=Array.all_eq_true_iff_forall_mem.1 this e he;simp only[hb,Bool.not_true,Bool.false_or]at this;rw[Nat.blt_eq]at this;exact this
 have hrest:∀(listed:Array Bool) i,i∈rest ops.size listed ↔ i<ops.size∧listed.getD i true=false:=by
  intro listed i;simp[rest]
 have hready:∀(listed:Array Bool) i,i∈Region.ready .any ops listed ↔ i∈rest ops.size listed∧∀o,ops[i]?=some o→∀e∈o.after,Region.binds .any e=true→listed.getD e.on false=true:=by
  intro listed i;rw[hrest];unfold Region.ready;simp only[List.mem_filter,List.mem_range,Bool.and_eq_true,Bool.not_eq_true'];constructor
  ·rintro⟨h1,h2,h3⟩;refine⟨⟨h1,h2⟩,fun o ho e he hb=> ?_⟩;rw[ho]at h3;simp only[Option.map_some,Option.getD_some]at h3;have:=Array.all_eq_true_iff_forall_mem.1 h3 e he;simpa [hb]using this
  ·rintro⟨⟨h1,h2⟩,h3⟩;refine⟨h1,h2,?_⟩;obtain⟨o,ho⟩:∃o,ops[i]?=some o:=⟨_,Array.getElem?_eq_getElem h1⟩
   rw[ho];simp only[Option.map_some,Option.getD_some];refine Array.all_eq_true_iff_forall_mem.2 fun e he=> ?_;cases hb:Region.binds .any e
   ·rfl
   ·simp[h3 o ho e he hb]
 have hnil:∀(listed:Array Bool),listed.size=ops.size→Region.ready .any ops listed=[]→rest ops.size listed=[]:=by
  intro listed hsz hr;cases hrl:rest ops.size listed with
  |nil=>rfl
  |cons i l=>
   exfalso;have hi:i∈rest ops.size listed:=by rw[hrl];exact List.mem_cons_self ..
   have hmin:∀j,j<i→j∉rest ops.size listed:=by
    intro j hj hjm;have hp:(rest ops.size listed).Pairwise (·<·):=List.Pairwise.filter _ List.pairwise_lt_range;rw[hrl]at hp hjm;rcases List.mem_cons.1 hjm with rfl|hjm
    ·omega
    ·have:=(List.pairwise_cons.1 hp).1 j hjm;omega
   have:i∈Region.ready .any ops listed:=by
    rw[hready];refine⟨hi,fun o ho e he hb=> ?_⟩;have hlt:=hback i o ho e he hb;have hil:=((hrest listed i).1 hi).1;have hnm:=hmin e.on hlt;rw[hrest]at hnm;have hel:e.on<listed.size:=by omega
    have:listed.getD e.on true≠false:=fun h=>hnm ⟨by omega,h⟩;simpa [Array.getD,hel]using this
   rw[hr]at this;cases this
 intro fuel
 induction fuel with
 |zero=>
  intro listed s a w E hsz hcl hS hf hrun hle;have hr0:rest ops.size listed=[]:=List.eq_nil_of_length_eq_zero (by omega);rw[hr0]at hrun;have hrun:s=sf:=hrun;subst hrun;refine⟨?_,hQ a w E hS⟩;cases hrd:Region.ready .any ops listed with
  |nil=>rfl
  |cons i l=>
   have:=((hready listed i).1 (by rw[hrd];exact List.mem_cons_self ..)).1;rw[hr0]at this;cases this
 |succ fuel ih=>
  intro listed s a w E hsz hcl hS hf hrun hle;refine⟨fun hr=> ?_,fun i hi=> ?_⟩
  ·have hr0:=hnil listed hsz hr;rw[hr0]at hrun;have hrun:s=sf:=hrun;subst hrun;exact hQ a w E hS
  ·obtain⟨hir,hipre⟩:=(hready listed i).1 hi;obtain⟨hin,hil⟩:=(hrest listed i).1 hir;obtain⟨o,ho⟩:∃o,ops[i]?=some o:=⟨_,Array.getElem?_eq_getElem hin⟩
   obtain⟨so,hso,hto⟩:=hspec i o (by simpa using ho);obtain⟨A,Bl,hAB⟩:=List.append_of_mem hir;have hp:(rest ops.size listed).Pairwise (·<·):=List.Pairwise.filter _ List.pairwise_lt_range;have hnd:(rest ops.size listed).Nodup:=hp.imp (fun h=>Nat.ne_of_lt h);rw[hAB]at hp hnd hf hrun;have hA:∀j∈A,j<i:=fun j hj=>(List.pairwise_append.1 hp).2.2 j hj i (List.mem_cons_self ..);obtain⟨s1,hs1,hrun1⟩:=swap_front hmk hso A s hnd (fun j hj oa hoa=>by
    have hji:=hA j hj;have hjr:j∈rest ops.size listed:=by rw[hAB];exact List.mem_append_left _ hj
    have hjl:=((hrest listed j).1 hjr)
    unfold z103 at hok;rw[Bool.and_eq_true]at hok;have:=List.all_eq_true.1 (List.all_eq_true.1 hok.1 i (by simp;omega)) j (by simpa using hji);unfold pairOk at this;rw[hoa,hso]at this;simp only[Bool.and_eq_true,Bool.not_true,Bool.false_or,Bool.or_eq_true]at this;rcases this.2 with h1|h1
    ·exact h1
    ·have:=z142 hcl hsz 4 j i hipre h1;have hlt:j<listed.size:=by omega
     have h2:=hjl.2;simp[Array.getD,hlt]at this h2;rw[this]at h2;cases h2) hf hrun
   obtain⟨C1,hC1,hst1⟩:=hs1;have hs1:Stp P g so s s1:=⟨C1,hC1,hst1⟩
   refine sim_step hm0 hN hG hX hC1 hS ho hto (hf i (List.mem_append_right _ (List.mem_cons_self ..)) so hso) hst1 (fun a' w' E' hS'=> ?_);have hiAB:i∉A++Bl:=by
    have:=List.nodup_append.1 hnd;intro hm;rcases List.mem_append.1 hm with h1|h1
    ·exact this.2.2 i h1 i (List.mem_cons_self ..) rfl
    ·exact(List.nodup_cons.1 this.2.1).1 h1
   have hilt:i<listed.size:=by omega
   have hrest':rest ops.size (listed.setIfInBounds i true)=A++Bl:=by
    have h1:rest ops.size (listed.setIfInBounds i true)=(rest ops.size listed).filter (fun j=>j !=i):=by
     unfold rest;rw[List.filter_filter];apply List.filter_congr;intro j hj;have hjn:j<ops.size:=by simpa using hj
     have hjl:j<listed.size:=by omega
     by_cases hji:j=i
     ·subst hji;simp[Array.getD,hjl]
     ·simp[Array.getD,hjl,hji,Array.getElem_setIfInBounds,Ne.symm hji]
    rw[h1,hAB,List.filter_append,List.filter_cons];simp only[bne_self_eq_false,Bool.false_eq_true,if_false];rw[List.filter_eq_self.2,List.filter_eq_self.2]
    ·intro j hj;simp;rintro rfl;exact hiAB (List.mem_append_right _ hj)
    ·intro j hj;simp;rintro rfl;exact hiAB (List.mem_append_left _ hj)
   refine ih (listed.setIfInBounds i true) s1 a' w' E' (by simpa using hsz) ?_ hS' ?_ (by rw[hrest'];exact hrun1) ?_
   ·intro j oj hj hjl e he hb;have hset:∀k,listed.getD k false=true→(listed.setIfInBounds i true).getD k false=true:=by
     intro k hk;have hkl:k<listed.size:=by
      rcases Nat.lt_or_ge k listed.size with h1|h1
      ·exact h1
      ·simp[Array.getD,Nat.not_lt.2 h1]at hk
     by_cases hki:i=k
     ·subst hki;simp[Array.getD,hkl]
     ·rw[Array.getD_eq_getD_getElem?,Array.getElem?_setIfInBounds_ne hki,←Array.getD_eq_getD_getElem?];exact hk
    by_cases hji:j=i
    ·subst hji;exact hset _ (hipre oj hj e he hb)
    ·refine hset _ (hcl j oj hj ?_ e he hb);have hjn:j<listed.size:=by rw[hsz];exact(gA hj).1
     simp[Array.getD,hjn,Array.getElem_setIfInBounds,Ne.symm hji]at hjl;simp[Array.getD,hjn,hjl]
   ·rw[hrest'];refine z91 hmk hso hiAB (fun j hj=>hf j ?_) hs1;rcases List.mem_append.1 hj with h1|h1
    ·exact List.mem_append_left _ h1
    ·exact List.mem_append_right _ (List.mem_cons_of_mem _ h1)
   ·rw[hrest'];rw[hAB]at hle;simp at hle ⊢;omega
end
end Go.Sh
end
