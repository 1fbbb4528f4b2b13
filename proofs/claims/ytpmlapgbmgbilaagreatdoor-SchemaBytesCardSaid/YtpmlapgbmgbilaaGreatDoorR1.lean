/- Merged texts: S1 S2. No statement of the program is proved here. -/
import Derived.Lib.Replace
import Derived.Lib.ItoaLen
import Derived.Deep.RegionLaw
import Derived.Deep.MidRow
import Derived.Deep.AppendSrc
import Derived.Laws.AppendOwn
import Derived.Below
import Derived.Orders
import Derived.WalkKit
import Derived.Handy
import Derived.Deep.Upon
set_option linter.unusedSimpArgs false
set_option linter.unusedVariables false
set_option maxRecDepth 100000
set_option maxHeartbeats 8000000
section
namespace Go
theorem gE{α:Type _}{l:List α}{i:Nat}(h:i<l.length):l[i]?=some l[i]:=List.getElem?_eq_getElem h
theorem gJ{α:Type _}{l:List α}{i:Nat}{a:α}(h:l[i]?=some a):∃h:i<l.length,l[i]=a:=List.getElem?_eq_some_iff.1 h
theorem gM{α:Type _}{l:List α}{i:Nat}{a:α}(h:l[i]?=some a):a∈l:=List.mem_of_getElem? h
theorem gO{α β:Type _}{f:α→β}{x:Option α}{b:β}(h:x.map f=some b):∃a,x=some a∧f a=b:=Option.map_eq_some_iff.1 h
theorem gB{α β:Type _}{f:α→Option β}{x:Option α}{b:β}(h:x.bind f=some b):∃a,x=some a∧f a=some b:=Option.bind_eq_some_iff.1 h
theorem gA{α:Type _}{l:Array α}{i:Nat}{a:α}(h:l[i]?=some a):∃h:i<l.size,l[i]=a:=Array.getElem?_eq_some_iff.1 h
theorem wa2{p0 p1:Prop}(x0:p0)(x1:p1):p0∧p1:=⟨x0,x1⟩
theorem wa3{p0 p1 p2:Prop}(x0:p0)(x1:p1)(x2:p2):p0∧p1∧p2:=⟨x0,x1,x2⟩
theorem wa4{p0 p1 p2 p3:Prop}(x0:p0)(x1:p1)(x2:p2)(x3:p3):p0∧p1∧p2∧p3:=⟨x0,x1,x2,x3⟩
theorem wa5{p0 p1 p2 p3 p4:Prop}(x0:p0)(x1:p1)(x2:p2)(x3:p3)(x4:p4):p0∧p1∧p2∧p3∧p4:=⟨x0,x1,x2,x3,x4⟩
theorem wa6{p0 p1 p2 p3 p4 p5:Prop}(x0:p0)(x1:p1)(x2:p2)(x3:p3)(x4:p4)(x5:p5):p0∧p1∧p2∧p3∧p4∧p5:=⟨x0,x1,x2,x3,x4,x5⟩
theorem wa7{p0 p1 p2 p3 p4 p5 p6:Prop}(x0:p0)(x1:p1)(x2:p2)(x3:p3)(x4:p4)(x5:p5)(x6:p6):p0∧p1∧p2∧p3∧p4∧p5∧p6:=⟨x0,x1,x2,x3,x4,x5,x6⟩
theorem wa8{p0 p1 p2 p3 p4 p5 p6 p7:Prop}(x0:p0)(x1:p1)(x2:p2)(x3:p3)(x4:p4)(x5:p5)(x6:p6)(x7:p7):p0∧p1∧p2∧p3∧p4∧p5∧p6∧p7:=⟨x0,x1,x2,x3,x4,x5,x6,x7⟩
end Go
namespace Go
abbrev zB:=List UInt8
end Go
namespace Go.Sh
open Go Go.RowKit
inductive PV where
 |v (x:Value)
 |sl (W:Nat) (es:List (List PV))
 |el (cs:List PV)
 |fn (f:Fn) (first captured:List PV)
inductive TV where
 |pv (p:PV)
 |unk
 |ptr (d off:Nat)
 |own (d W:Nat) (es:List (List PV))
 |bs (d off n c:Nat)
 |tsl (W:Nat) (es:List (List PV))
 |it (d:Nat)
 |fn (f:Fn) (first captured:List TV)
 |agg (cs:List TV)
 |mp (ks:List Value) (xs:List TV)
 |tuple (ts:List TV)
structure FS where
 t:Nat→Option TV
 b:Nat→Option (List TV)
 r:Nat→Option (Nat×Nat×Nat)
 i:Nat→Option (ByteArray×Nat)
structure Env where
 K:Nat→Nat→Prop
 β:Nat→Nat
 γ:Nat→Option (Nat×Nat)
 ι:Nat→Nat
abbrev Rows:=Nat→Option (Nat×Nat×Nat)
def hdr(g:Option (Nat×Nat))(n:Nat):Value:=match g with|none=> .slice none n 0|some (b,c)=> .slice (some ⟨b,0,none⟩) n c
abbrev one(v:Value):Prop:=v.oneCell'=true
inductive RelV(w:World)(K:Nat→Nat→Prop):PV→Value→Prop where
 |v (x:Value):RelV w K (.v x) x
 |sl (W:Nat) (es:List (List PV)) (b off cap:Nat) (p:Option Addr) (f:Nat→Nat→Value) (hp:es≠[]→p=some ⟨b,off,none⟩) (hcap:es.length≤cap) (hmax:cap≤maxLen) (hW:∀cs∈es,cs.length=W)
   (hc:∀(i j:Nat) cs c,es[i]?=some cs→cs[j]?=some c→K b (off+i*W+j)∧w.cell? ⟨b,off+i*W+j,none⟩=some (f i j)∧one (f i j))
   (hs:∀(i j:Nat) cs c,es[i]?=some cs→cs[j]?=some c→RelV w K c (f i j)):RelV w K (.sl W es) (.slice p es.length cap)
 |el (cs:List PV) (b off:Nat) (f:Nat→Value) (hc:∀(j:Nat) c,cs[j]?=some c→K b (off+j)∧w.cell? ⟨b,off+j,none⟩=some (f j)∧one (f j)) (hs:∀(j:Nat) c,cs[j]?=some c→RelV w K c (f j)):
   RelV w K (.el cs) (.pointer (some ⟨b,off,none⟩))
 |fn (g:Fn) (xs ys:List PV) (us vs:List Value) (h1:xs.length=us.length) (h2:ys.length=vs.length) (r1:∀(j:Nat) c v,xs[j]?=some c→us[j]?=some v→RelV w K c v) (r2:∀(j:Nat) c v,ys[j]?=some c→vs[j]?=some v→RelV w K c v):
   RelV w K (.fn g xs ys) (.func g us.toArray vs.toArray)
inductive RelT(w:World)(E:Env)(r:Rows):TV→Value→Prop where
 |pv {p:PV} {v:Value} (h:RelV w E.K p v):RelT w E r (.pv p) v
 |unk (v:Value):RelT w E r .unk v
 |ptr (d off:Nat):RelT w E r (.ptr d off) (.pointer (some ⟨E.β d,off,none⟩))
 |own (d W:Nat) (es:List (List PV)) (v:Value) (h:RelV w E.K (.sl W es) v) (hr:∀e W' n,r d=some (e,W',n)→es.length≤n∧(es.length=n→W'=W∧v=hdr (E.γ d) n)):RelT w E r (.own d W es) v
 |bs (d off n c C:Nat) (hn:n≤c∧0<c∨c=0∧C=n) (hc:c≤C) (hm:C≤maxLen):RelT w E r (.bs d off n c) (.slice (some ⟨E.β d,off,none⟩) n C)
 |tsl (W:Nat) (es:List (List PV)) (p:Option Addr) (h:RelV w E.K (.sl W es) (.slice p es.length es.length)):RelT w E r (.tsl W es) (.slice p es.length es.length)
 |it (d:Nat):RelT w E r (.it d) (.pointer (some ⟨E.ι d,0,none⟩))
 |fn (g:Fn) (xs ys:List TV) (us vs:List Value) (h1:xs.length=us.length) (h2:ys.length=vs.length) (r1:∀(j:Nat) c v,xs[j]?=some c→us[j]?=some v→RelT w E r c v) (r2:∀(j:Nat) c v,ys[j]?=some c→vs[j]?=some v→RelT w E r c v):
   RelT w E r (.fn g xs ys) (.func g us.toArray vs.toArray)
 |agg (cs:List TV) (vs:List Value) (hl:cs.length=vs.length) (h:∀(j:Nat) c v,cs[j]?=some c→vs[j]?=some v→RelT w E r c v) (ho:∀v∈vs,one v):RelT w E r (.agg cs) (.agg vs.toArray)
 |mp (ks:List Value) (xs:List TV) (b:Nat) (es:Array MapEntry) (clock:Nat) (g:Nat→Value) (hb:w.heap[b]?=some (Obj.map es clock)) (hk:es.toList.map MapEntry.key=ks) (hl:xs.length=ks.length)
   (hg:∀(j:Nat) e,es.toList[j]?=some e→e.val=g j) (h:∀(j:Nat) x,xs[j]?=some x→RelT w E r x (g j)):RelT w E r (.mp ks xs) (.map (some b))
 |tuple (cs:List TV) (vs:List Value) (hl:cs.length=vs.length) (h:∀(j:Nat) c v,cs[j]?=some c→vs[j]?=some v→RelT w E r c v):RelT w E r (.tuple cs) (.tuple vs.toArray)
inductive Ment(d:Nat):TV→Prop where
 |ptr (off:Nat):Ment d (.ptr d off)
 |own (W:Nat) (es:List (List PV)):Ment d (.own d W es)
 |bs (off n c:Nat):Ment d (.bs d off n c)
 |it:Ment d (.it d)
 |fn1 {g:Fn} {xs ys:List TV} {c:TV} (h:c∈xs) (hc:Ment d c):Ment d (.fn g xs ys)
 |fn2 {g:Fn} {xs ys:List TV} {c:TV} (h:c∈ys) (hc:Ment d c):Ment d (.fn g xs ys)
 |mp {ks:List Value} {xs:List TV} {c:TV} (h:c∈xs) (hc:Ment d c):Ment d (.mp ks xs)
 |agg {cs:List TV} {c:TV} (h:c∈cs) (hc:Ment d c):Ment d (.agg cs)
 |tuple {cs:List TV} {c:TV} (h:c∈cs) (hc:Ment d c):Ment d (.tuple cs)
def FS.ment(s:FS)(d:Nat):Prop:=(∃k x,s.t k=some x∧Ment d x)∨(∃e cs c,s.b e=some cs∧c∈cs∧Ment d c)
def z0y(s:FS)(d:Nat):Prop:=¬s.ment d∧s.b d=none∧s.r d=none∧s.i d=none
def mark:Obj→Bool
 | .loop _=>true
 | .deferred _=>true
 |_=>false
def kept:Obj→Bool
 | .map _ _=>true
 |o=>mark o
theorem zlA{o:Obj}(h:mark o=true):kept o=true:=by cases o<;>first|rfl|exact h
def Maps(w w':World):Prop:=∀(b:Nat) (o:Obj),kept o=true→w.heap[b]?=some o→w'.heap[b]?=some o
theorem Maps.refl(w:World):Maps w w:=fun _ _ _ h=>h
theorem Maps.below{w w':World}(h:Below w.heap.size w w'):Maps w w':=fun b _ _ hb=>(h.block b (gA hb).1).trans hb
theorem Maps.but{w w':World}(k:Nat)(hk:∀o,kept o=true→w.heap[k]?≠some o)(h:∀b,b≠k→w'.heap[b]?=w.heap[b]?):Maps w w':=fun b o ho hb=>(h b (fun e=>hk o ho (e▸hb))).trans hb
theorem RelV.mono{w w':World}{K K':Nat→Nat→Prop}{p:PV}{v:Value}(h:RelV w K p v)(hk:∀b o u,K b o→w.cell? ⟨b,o,none⟩=some u→K' b o∧w'.cell? ⟨b,o,none⟩=some u):RelV w' K' p v:=by
 induction h with
 |v x=>exact .v x
 |sl W es b off cap p f hp hcap hmax hW hc hs ih=>
  refine .sl W es b off cap p f hp hcap hmax hW (fun i j cs c h1 h2=> ?_) ih
  grind
 |el cs b off f hc hs ih=>
  refine .el cs b off f (fun j c h1=> ?_) ih
  grind
 |fn g xs ys us vs h1 h2 r1 r2 i1 i2=>exact .fn g xs ys us vs h1 h2 i1 i2
theorem RelT.monoM{w w':World}{E E':Env}{r r':Rows}{x:TV}{v:Value}(h:RelT w E r x v)
  (hk:∀b o u,E.K b o→w.cell? ⟨b,o,none⟩=some u→E'.K b o∧w'.cell? ⟨b,o,none⟩=some u)
  (hb:∀d,Ment d x→E'.β d=E.β d∧E'.ι d=E.ι d)
  (hr:∀d e W n,Ment d x→r' d=some (e,W,n)→(r d=some (e,W,n)∧E'.γ d=E.γ d)∨(∃m,r d=some (e,W,m)∧m<n)) (hw:∀(b:Nat) (es:Array MapEntry) (c:Nat),w.heap[b]?=some (Obj.map es c)→w'.heap[b]?=some (Obj.map es c)):RelT w' E' r' x v:=by
 induction h with
 |pv h=>exact .pv (h.mono hk)
 |unk v=>exact .unk v
 |ptr d off=>rw[←(hb d (.ptr off)).1];exact .ptr d off
 |own d W es v h h2=>
  refine .own d W es v (h.mono hk) (fun e W' n hn=> ?_);rcases hr d e W' n (.own W es) hn with⟨h3,h4⟩|⟨m,h3,h4⟩<;>grind
 |bs d off n c C hn hc hm=>rw[←(hb d (.bs off n c)).1];exact .bs d off n c C hn hc hm
 |it d=>rw[←(hb d .it).2];exact .it d
 |tsl W es p h=>exact .tsl W es p (h.mono hk)
 |fn g xs ys us vs h1 h2 r1 r2 i1 i2=>
  exact .fn g xs ys us vs h1 h2 (fun j c v h1 h2=>i1 j c v h1 h2 (fun d hd=>hb d (.fn1 (gM h1) hd)) (fun d e W n hd=>hr d e W n (.fn1 (gM h1) hd)))
   (fun j c v h1 h2=>i2 j c v h1 h2 (fun d hd=>hb d (.fn2 (gM h1) hd)) (fun d e W n hd=>hr d e W n (.fn2 (gM h1) hd)))
 |mp ks xs b es clock g h1 h2 h3 h4 h ih=>
  exact .mp ks xs b es clock g (hw _ _ _ h1) h2 h3 h4 (fun j x hx=>ih j x hx (fun d hd=>hb d (.mp (gM hx) hd)) (fun d e W n hd=>hr d e W n (.mp (gM hx) hd)))
 |agg cs vs hl h ho ih=>
  exact .agg cs vs hl (fun j c v h1 h2=>ih j c v h1 h2 (fun d hd=>hb d (.agg (gM h1) hd)) (fun d e W n hd=>hr d e W n (.agg (gM h1) hd))) ho
 |tuple cs vs hl h ih=>
  exact .tuple cs vs hl (fun j c v h1 h2=>ih j c v h1 h2 (fun d hd=>hb d (.tuple (gM h1) hd)) (fun d e W n hd=>hr d e W n (.tuple (gM h1) hd)))
theorem RelT.mono{w w':World}{E E':Env}{r r':Rows}{x:TV}{v:Value}(h:RelT w E r x v)
  (hk:∀b o u,E.K b o→w.cell? ⟨b,o,none⟩=some u→E'.K b o∧w'.cell? ⟨b,o,none⟩=some u)
  (hb:∀d,Ment d x→E'.β d=E.β d∧E'.ι d=E.ι d)
  (hr:∀d e W n,Ment d x→r' d=some (e,W,n)→(r d=some (e,W,n)∧E'.γ d=E.γ d)∨(∃m,r d=some (e,W,m)∧m<n)) (hw:Maps w w'):RelT w' E' r' x v:=h.monoM hk hb hr fun _ _ _=>hw _ _ rfl
structure Low(X:Nat→Nat→Prop)(w0 w:World):Prop where
 os:w.os=w0.os
 tape:w.tape=w0.tape
 output:w.output=w0.output
 size:w0.heap.size≤w.heap.size
 block:∀k,k<w0.heap.size→(∀d,¬X d k)→w.heap[k]?=w0.heap[k]?
structure BoxAt(w:World)(E:Env)(r:Rows)(b:Nat)(cs:List TV):Prop where
 lt:b<w.heap.size
 obj:∃c e z,w.heap[b]?=some (.cells c e z)
 fz:∀o,w.frozen? ⟨b,o,none⟩=false
 cell:∀(j:Nat) c,cs[j]?=some c→∃v,w.cell? ⟨b,j,none⟩=some v∧one v∧RelT w E r c v
 out:∀o,¬E.K b o
structure RowAt(w:World)(E:Env)(b cap e W n:Nat):Prop where
 cells:∃cur,w.heap[b]?=some (.cells cur e (0,0))∧cur.size=cap*W
 le:n≤cap
 max:cap≤maxLen
 out:∀o,E.K b o→o<n*W
structure Base where
 w0:World
 K0:Nat→Nat→Prop
 X:Nat→Nat→Prop
 N:Nat
 E0:Env
 r0:Rows
 m:Nat
 ds:List Deferred
 pr:List (Nat×Obj)
 lp:Bool
def Base.old(B:Base)(d:Nat):Prop:=1000≤d∧d<1000+B.m
structure Pas(B:Base)(r:Rows)(E:Env):Prop where
 β:∀d,B.old d→E.β d=B.E0.β d
 γ:∀d,B.old d→B.r0 d=none→E.γ d=B.E0.γ d
 row:∀d e W n,B.old d→r d=some (e,W,n)→∃n0,B.r0 d=some (e,W,n0)∧n0≤n∧(n0=n→E.γ d=B.E0.γ d)
structure MSim(B:Base)(b:Nat→Option (List TV))(r:Rows)(w:World)(E:Env):Prop where
 box:∀d cs,b d=some cs→BoxAt w E r (E.β d) cs∧(B.w0.heap.size≤E.β d∨B.X d (E.β d))
 row:∀d e W n,r d=some (e,W,n)→(E.γ d=none∧n=0)∨∃k cap,E.γ d=some (k,cap)∧(B.w0.heap.size≤k∨B.X d k)∧RowAt w E k cap e W n
 bb:∀d d' cs cs',b d=some cs→b d'=some cs'→E.β d=E.β d'→d=d'
 br:∀d d' cs q k cap,b d=some cs→r d'=some q→E.γ d'=some (k,cap)→E.β d≠k
 rr:∀d d' q q' k cap cap',r d=some q→r d'=some q'→E.γ d=some (k,cap)→E.γ d'=some (k,cap')→d=d'
 lt:∀k o,E.K k o→k<w.heap.size
 low:Low B.X B.w0 w
 keep:∀k o u,B.K0 k o→B.w0.cell? ⟨k,o,none⟩=some u→E.K k o∧w.cell? ⟨k,o,none⟩=some u
 knew:∀k o,E.K k o→B.K0 k o∨B.w0.heap.size≤k∨∃d,B.X d k
 pas:Pas B r E
def zcD(D:Nat):Deferred:={ target:=.collected D,args:= #[] }
structure Dp(B:Base)(ds:List Deferred)(w:World):Prop where
 col:∃l:List Nat,(B.lp=false→l=[])∧l.Nodup∧ds=l.map zcD++B.ds∧∀D∈l,B.w0.heap.size≤D∧(∀p∈B.pr,p.1≠D)∧w.heap[D]?=some (.deferred (some []))
 pr:∀p∈B.pr,mark p.2=true∧w.heap[p.1]?=some p.2
theorem Dp.maps{B:Base}{ds:List Deferred}{w w':World}(h:Dp B ds w)(hw:Maps w w'):Dp B ds w':=
 ⟨let⟨l,h0,h1,h2,h3⟩:=h.col;⟨l,h0,h1,h2,fun D hD=>⟨(h3 D hD).1,(h3 D hD).2.1,hw _ _ rfl (h3 D hD).2.2⟩⟩,fun p hp=>⟨(h.pr p hp).1,hw _ _ (zlA (h.pr p hp).1) (h.pr p hp).2⟩⟩
theorem Dp.nil{B:Base}{ds:List Deferred}{w:World}(h:Dp B ds w)(hl:B.lp=false):ds=B.ds:=by
 obtain⟨l,h0,_,h2,_⟩:=h.col;rw[h2,h0 hl];rfl
theorem Dp.none{B:Base}{w:World}(hp:B.pr=[]):Dp B B.ds w:=⟨⟨[],fun _=>rfl,.nil,rfl,fun _ h=>by cases h⟩,fun p h=>by rw[hp]at h;cases h⟩
structure Sim(B:Base)(s:FS)(a:Act)(w:World)(E:Env):Prop where
 defers:Dp B a.defers w
 size:a.tmps.size=B.N
 tmp:∀k x,s.t k=some x→k<B.N∧RelT w E s.r x (a.tmps.getD k undef)
 mem:MSim B s.b s.r w E
 itr:∀d z p,s.i d=some (z,p)→w.heap[E.ι d]?=some (.stringIter z p)∧B.w0.heap.size≤E.ι d
 ii:∀d d' q q',s.i d=some q→s.i d'=some q'→E.ι d=E.ι d'→d=d'
theorem z1y{w:World}{a:Addr}{v:Value}(h:w.cell? a=some v):a.block<w.heap.size:=by
 grind [Nat.lt_or_ge,World.cell?,Array.getElem?_eq_none]
def z0I{α:Type}(f:Nat→Option α)(k:Nat)(x:α):Nat→Option α:=fun j=>if j=k then some x else f j
theorem z5t{α:Type}(f:Nat→Option α)(k:Nat)(x:α):z0I f k x k=some x:=by simp[z0I]
theorem zcW{α:Type}(f:Nat→Option α){k j:Nat}(x:α)(h:j≠k):z0I f k x j=f j:=by simp[z0I,h]
theorem z0d{α:Type}{f:Nat→Option α}{k j:Nat}{x y:α}(h:z0I f k x j=some y):(j=k∧y=x)∨(j≠k∧f j=some y):=by
 grind [z5t,zcW]
def FS.setT(s:FS)(k:Nat)(x:TV):FS:={ s with t:=z0I s.t k x }
def FS.setB(s:FS)(k:Nat)(x:List TV):FS:={ s with b:=z0I s.b k x }
def FS.setR(s:FS)(k:Nat)(x:Nat×Nat×Nat):FS:={ s with r:=z0I s.r k x }
def FS.setI(s:FS)(k:Nat)(x:ByteArray×Nat):FS:={ s with i:=z0I s.i k x }
def FS.put(s:FS)(dst:Option Nat)(x:TV):FS:=match dst with|some k=>s.setT k x|none=>s
theorem Sim.setT{B:Base}{s:FS}{a:Act}{w:World}{E:Env}(h:Sim B s a w E){k:Nat}(hk:k<B.N){x:TV}{v:Value}(hx:RelT w E s.r x v):Sim B (s.setT k x) (a.put (some k) v) w E:=by
 refine⟨h.defers,by simp[Act.put,h.size],fun j y hy=> ?_,h.mem,h.itr,h.ii⟩;rcases z0d hy with⟨rfl,rfl⟩|⟨hj,hy⟩
 ·refine⟨hk,?_⟩;have:(a.put (some j) v).tmps.getD j undef=v:=by simp[Act.put,Array.getD,h.size,hk]
  rw[this];exact hx
 ·obtain⟨h1,h2⟩:=h.tmp j y hy;refine⟨h1,?_⟩;have:(a.put (some k) v).tmps.getD j undef=a.tmps.getD j undef:=by
   simp only[Act.put,Array.getD_eq_getD_getElem?]
   grind
  rw[this];exact h2
theorem Sim.put{B:Base}{s:FS}{a:Act}{w:World}{E:Env}(h:Sim B s a w E){dst:Option Nat}(hk:∀k,dst=some k→k<B.N){x:TV}{v:Value}(hx:RelT w E s.r x v):Sim B (s.put dst x) (a.put dst v) w E:=by
 cases dst with
 |none=>exact h
 |some k=>exact h.setT (hk k rfl) hx
theorem Sim.less{B:Base}{s s':FS}{a:Act}{w:World}{E:Env}(h:Sim B s a w E)(ht:∀k x,s'.t k=some x→s.t k=some x∨x=.unk∧∃y,s.t k=some y)
  (hb:∀d cs',s'.b d=some cs'→∃cs,s.b d=some cs∧∀(j:Nat) c,cs'[j]?=some c→(cs[j]?=some c∨c=.unk∧∃y,cs[j]?=some y)) (hr:∀d q,s'.r d=some q→s.r d=some q) (hi:∀d q,s'.i d=some q→s.i d=some q):Sim B s' a w E:=by
 have hm:∀{x:TV} {v:Value},RelT w E s.r x v→RelT w E s'.r x v:=fun hx=>hx.mono (fun _ _ _ h1 h2=>⟨h1,h2⟩) (fun _ _=>⟨rfl,rfl⟩) (fun d e W n _ h1=> .inl ⟨hr d _ h1,rfl⟩) (.refl _);refine⟨h.defers,h.size,fun k x hx=> ?_,⟨fun d cs' hd=> ?_,fun d e W n hd=>h.mem.row d e W n (hr d _ hd),fun d d' cs cs' h1 h2=> ?_,fun d d' cs q k cap h1 h2=> ?_,fun d d' q q' k cap cap' h1 h2=>h.mem.rr d d' q q' k cap cap' (hr d _ h1) (hr d' _ h2),h.mem.lt,h.mem.low,h.mem.keep,h.mem.knew,⟨h.mem.pas.β,h.mem.pas.γ,fun d e W n ho hd=>h.mem.pas.row d e W n ho (hr d _ hd)⟩⟩,
  fun d z p hd=>h.itr d z p (hi d _ hd),fun d d' q q' h1 h2=>h.ii d d' q q' (hi d _ h1) (hi d' _ h2)⟩
 ·rcases ht k x hx with h1|⟨rfl,y,h1⟩
  ·exact⟨(h.tmp k x h1).1,hm (h.tmp k x h1).2⟩
  ·exact⟨(h.tmp k y h1).1,.unk _⟩
 ·obtain⟨cs,h1,h2⟩:=hb d cs' hd;obtain⟨h3,h4⟩:=h.mem.box d cs h1;refine⟨⟨h3.lt,h3.obj,h3.fz,fun j c hc=> ?_,h3.out⟩,h4⟩;rcases h2 j c hc with h5|⟨rfl,y,h5⟩
  ·obtain⟨v,c1,c2,c3⟩:=h3.cell j c h5
   grind
  ·obtain⟨v,c1,c2,c3⟩:=h3.cell j y h5;exact⟨v,c1,c2,.unk v⟩
 ·obtain⟨c1,e1,_⟩:=hb d cs h1;obtain⟨c2,e2,_⟩:=hb d' cs' h2;exact h.mem.bb d d' c1 c2 e1 e2
 ·obtain⟨c1,e1,_⟩:=hb d cs h1;exact h.mem.br d d' c1 q k cap e1 (hr d' _ h2)
end Go.Sh
end

section
namespace Go.Sh
open Go Go.RowKit
section
section
variable{B:Base}{s:FS}{a:Act}{w w':World}{E:Env}
theorem Sim.step{s':FS}{E':Env}(h:Sim B s a w E)(ht:s'.t=s.t)(hm:MSim B s'.b s'.r w' E')
  (hk:∀b o u,E.K b o→w.cell? ⟨b,o,none⟩=some u→E'.K b o∧w'.cell? ⟨b,o,none⟩=some u)
  (hβ:∀d,s.ment d→E'.β d=E.β d∧E'.ι d=E.ι d)
  (hr:∀d e W n,s.ment d→s'.r d=some (e,W,n)→(s.r d=some (e,W,n)∧E'.γ d=E.γ d)∨(∃m,s.r d=some (e,W,m)∧m<n))
  (hi:∀d z p,s'.i d=some (z,p)→w'.heap[E'.ι d]?=some (.stringIter z p)∧B.w0.heap.size≤E'.ι d)
  (hii:∀d d' q q',s'.i d=some q→s'.i d'=some q'→E'.ι d=E'.ι d'→d=d') (hw:Maps w w'):Sim B s' a w' E':=by
 refine⟨h.defers.maps hw,h.size,fun k x hx=> ?_,hm,hi,hii⟩;rw[ht]at hx;obtain⟨h1,h2⟩:=h.tmp k x hx;exact⟨h1,h2.mono hk (fun d hd=>hβ d (.inl ⟨k,x,hx,hd⟩)) (fun d e W n hd=>hr d e W n (.inl ⟨k,x,hx,hd⟩)) hw⟩
theorem MSim.ext(h:MSim B s.b s.r w E)(hb:Below w.heap.size w w')(E':Env)(hK:∀b o,E.K b o→E'.K b o)(hK':∀b o,E'.K b o→E.K b o∨(w.heap.size≤b∧b<w'.heap.size))
  (hβ:∀d,(s.ment d∨∃cs,s.b d=some cs)→E'.β d=E.β d∧E'.ι d=E.ι d) (hγ:∀d q,s.r d=some q→E'.γ d=E.γ d) (hold:∀d,B.old d→E'.β d=E.β d∧E'.γ d=E.γ d):MSim B s.b s.r w' E':=by
 have hk:∀b o u,E.K b o→w.cell? ⟨b,o,none⟩=some u→E'.K b o∧w'.cell? ⟨b,o,none⟩=some u:=fun b o u h1 h2=>
  ⟨hK b o h1,(hb.cell (p:=⟨b,o,none⟩) (z1y h2)).trans h2⟩
 have hr:∀d e W n,s.r d=some (e,W,n)→(s.r d=some (e,W,n)∧E'.γ d=E.γ d)∨(∃m,s.r d=some (e,W,m)∧m<n):=fun d e W n hd=> .inl ⟨hd,hγ d _ hd⟩;have hlow:=h.low.size;refine⟨fun d cs hd=> ?_,fun d e W n hd=> ?_,fun d d' cs cs' h1 h2 h3=> ?_,fun d d' cs q b cap h1 h2 h3=> ?_,fun d d' q q' b cap cap' h1 h2 h3 h4=> ?_,fun b o hbo=> ?_,?_,fun b o u h1 h2=> ?_,fun b o h1=> ?_,⟨fun d ho=>(hold d ho).1.trans (h.pas.β d ho),fun d ho h0=>(hold d ho).2.trans (h.pas.γ d ho h0),fun d e W n ho hd=> ?_⟩⟩
 ·obtain⟨h1,h2⟩:=h.box d cs hd;have e:=(hβ d (.inr ⟨cs,hd⟩)).1;rw[e];refine⟨⟨Nat.lt_of_lt_of_le h1.lt hb.size,(by rw[hb.block _ h1.lt];exact h1.obj),fun o=>(hb.frozen (p:=⟨E.β d,o,none⟩) h1.lt).trans (h1.fz o),fun j c hc=> ?_,fun o hk'=> ?_⟩,h2⟩
  ·obtain⟨v,c1,c2,c3⟩:=h1.cell j c hc;refine⟨v,(hb.cell (p:=⟨E.β d,j,none⟩) h1.lt).trans c1,c2,c3.mono hk (fun d' hd'=>hβ d' (.inl (.inr ⟨d,cs,c,hd,gM hc,hd'⟩))) (fun d e W n _=>hr d e W n) (.below hb)⟩
  ·rcases hK' _ _ hk' with h3|⟨h3,_⟩
   ·exact h1.out o h3
   ·have:=h1.lt;omega
 ·rw[hγ d _ hd];rcases h.row d e W n hd with h1|⟨b,cap,h1,h2,h3⟩
  ·grind
  ·obtain⟨cur,hc,hs⟩:=h3.cells;have hlt:b<w.heap.size:=(gA hc).1;refine .inr ⟨b,cap,h1,h2,⟨cur,(hb.block b hlt).trans hc,hs⟩,h3.le,h3.max,fun o ho=> ?_⟩;rcases hK' _ _ ho with h4|⟨h4,_⟩
   ·exact h3.out o h4
   ·omega
 ·rw[(hβ d (.inr ⟨cs,h1⟩)).1,(hβ d' (.inr ⟨cs',h2⟩)).1]at h3;exact h.bb d d' cs cs' h1 h2 h3
 ·rw[(hβ d (.inr ⟨cs,h1⟩)).1];rw[hγ d' q h2]at h3;exact h.br d d' cs q b cap h1 h2 h3
 ·rw[hγ d q h1]at h3;rw[hγ d' q' h2]at h4;exact h.rr d d' q q' b cap cap' h1 h2 h3 h4
 ·rcases hK' b o hbo with h1|⟨_,h1⟩
  ·exact Nat.lt_of_lt_of_le (h.lt b o h1) hb.size
  ·exact h1
 ·exact⟨hb.os.trans h.low.os,hb.tape.trans h.low.tape,hb.output.trans h.low.output,Nat.le_trans h.low.size hb.size,fun k hk' hx=>(hb.block k (Nat.lt_of_lt_of_le hk' h.low.size)).trans (h.low.block k hk' hx)⟩
 ·obtain⟨h3,h4⟩:=h.keep b o u h1 h2
  grind
 ·rcases hK' b o h1 with h2|⟨h2,_⟩
  ·exact h.knew b o h2
  ·omega
 ·rw[(hold d ho).2];exact h.pas.row d e W n ho hd
theorem Sim.ext(h:Sim B s a w E)(hb:Below w.heap.size w w')(E':Env)(hK:∀b o,E.K b o→E'.K b o)(hK':∀b o,E'.K b o→E.K b o∨(w.heap.size≤b∧b<w'.heap.size))
  (hβ:∀d,(s.ment d∨(∃cs,s.b d=some cs)∨∃q,s.i d=some q)→E'.β d=E.β d∧E'.ι d=E.ι d) (hγ:∀d q,s.r d=some q→E'.γ d=E.γ d) (hold:∀d,B.old d→E'.β d=E.β d∧E'.γ d=E.γ d):Sim B s a w' E':=by
 refine h.step rfl (h.mem.ext hb E' hK hK' (fun d hd=>hβ d (hd.imp id .inl)) hγ hold) (fun b o u h1 h2=>⟨hK b o h1,(hb.cell (p:=⟨b,o,none⟩) (z1y h2)).trans h2⟩) (fun d hd=>hβ d (.inl hd)) (fun d e W n _ hd=> .inl ⟨hd,hγ d _ hd⟩)
  (fun d z p hd=> ?_) (fun d d' q q' h1 h2 h3=> ?_) (.below hb)
 ·rw[(hβ d (.inr (.inr ⟨_,hd⟩))).2];obtain⟨h1,h2⟩:=h.itr d z p hd;exact⟨(hb.block _ (gA h1).1).trans h1,h2⟩
 ·rw[(hβ d (.inr (.inr ⟨_,h1⟩))).2,(hβ d' (.inr (.inr ⟨_,h2⟩))).2]at h3;exact h.ii d d' q q' h1 h2 h3
theorem Sim.same(h:Sim B s a w E)(hb:Below w.heap.size w w'):Sim B s a w' E:=h.ext hb E (fun _ _ h=>h) (fun _ _ h=> .inl h) (fun _ _=>⟨rfl,rfl⟩) (fun _ _ _=>rfl) (fun _ _=>⟨rfl,rfl⟩)
theorem Sim.newBp(h:Sim B s a w E){d:Nat}(hno:¬B.old d)(hf:z0y s d)(ty:TypeId)(cs:List TV)(vs:List Value)(hl:cs.length≤vs.length)(hv:∀(j:Nat) c v,cs[j]?=some c→vs[j]?=some v→RelT w E s.r c v)(ho:∀(j:Nat) c v,cs[j]?=some c→vs[j]?=some v→one v)
  (hm:∀c∈cs,¬Ment d c):∃E',E'.β d=w.heap.size∧Sim B (s.setB d cs) a (w.alloc (.cells vs.toArray ty)) E':=by
 obtain⟨hf1,hf2,hf3,hf4⟩:=hf;have hb:Below w.heap.size w (w.alloc (.cells vs.toArray ty)):=(Below.refl _ _).alloc (Nat.le_refl _) _;let E':Env:={ E with β:=fun j=>if j=d then w.heap.size else E.β j }
 have hβ:∀d',d'≠d→E'.β d'=E.β d':=fun d' hd'=>by simp[E',hd']
 have hd:E'.β d=w.heap.size:=by simp[E']
 refine⟨E',hd,?_⟩;have h':Sim B s a (w.alloc (.cells vs.toArray ty)) E':=by
  refine h.ext hb E' (fun _ _ h=>h) (fun _ _ h=> .inl h) (fun d' hd'=>⟨hβ d' ?_,rfl⟩) (fun _ _ _=>rfl) (fun d' ho=>⟨hβ d' (fun e=>hno (e▸ho)),rfl⟩)
  grind
 have hlt:∀b o,E.K b o→b<w.heap.size:=h.mem.lt;have hm':=h'.mem;have key:∀e c,s.b e=some c→E'.β e≠w.heap.size:=fun e c he=>by
  have hne:e≠d:=by grind
  rw[hβ e hne];have:=(h.mem.box e c he).1.lt;omega
 refine⟨h'.defers,h'.size,h'.tmp,⟨fun e cs' he=> ?_,hm'.row,fun e e' c c' h1 h2 h3=> ?_,fun e e' c q b cap h1 h2 h3=> ?_,hm'.rr,hm'.lt,hm'.low,hm'.keep,hm'.knew,hm'.pas⟩,h'.itr,h'.ii⟩
 ·rcases z0d he with⟨rfl,rfl⟩|⟨hed,he⟩
  ·rw[hd];refine⟨⟨by simp,⟨_,_,_,heap_alloc_new _ _⟩,fun o=>by unfold World.frozen?;rw[heap_alloc_new];simp,fun j c hc=> ?_,fun o hk=> ?_⟩,.inl h.mem.low.size⟩
   ·have hj:j<vs.length:=Nat.lt_of_lt_of_le (gJ hc).1 hl;refine⟨vs[j],by simp[hj],ho j c _ hc (gE hj),?_⟩;refine(hv j c vs[j] hc (gE hj)).mono (fun b o u h1 h2=>⟨h1,(hb.cell (p:=⟨b,o,none⟩) (z1y h2)).trans h2⟩) (fun d' hd'=>⟨hβ d' ?_,rfl⟩) (fun d e W n _ hd=> .inl ⟨hd,rfl⟩) (.below hb)
    grind
   ·grind
  ·exact hm'.box e cs' he
 ·rcases z0d h1 with⟨x1,_⟩|⟨_,y1⟩<;>rcases z0d h2 with⟨x2,_⟩|⟨_,y2⟩
  ·omega
  ·grind
  ·grind
  ·exact hm'.bb e e' c c' y1 y2 h3
 ·rcases z0d h1 with⟨rfl,_⟩|⟨_,h1⟩
  ·rw[hd];intro hbb;have h3':E.γ e'=some (b,cap):=h3;rcases h.mem.row e' q.1 q.2.1 q.2.2 h2 with⟨h5,_⟩|⟨b',cap',h5,h6,h7⟩
   ·grind
   ·rw[h5]at h3';cases h3';obtain⟨cur,hc,_⟩:=h7.cells
    grind
  ·exact hm'.br e e' c q b cap h1 h2 h3
theorem Sim.newB(h:Sim B s a w E){d:Nat}(hno:¬B.old d)(hf:z0y s d)(ty:TypeId)(cs:List TV)(vs:List Value)(hl:cs.length=vs.length)(hv:∀(j:Nat) c v,cs[j]?=some c→vs[j]?=some v→RelT w E s.r c v)(ho:∀v∈vs,one v)
  (hm:∀c∈cs,¬Ment d c):∃E',E'.β d=w.heap.size∧Sim B (s.setB d cs) a (w.alloc (.cells vs.toArray ty)) E':=h.newBp hno hf ty cs vs (Nat.le_of_eq hl) hv (fun _ _ v _ h2=>ho v (gM h2)) hm
theorem z5E(b:Nat):∀(vs:List Value) (o:Nat) (w:World),(w.setCells b o vs).heap.size=w.heap.size
 |[],_,_=>rfl
 |v::r,o,w=>by rw[World.setCells,z5E b r];simp
theorem z71(b:Nat):∀(vs:List Value) (o:Nat) (w:World),(w.setCells b o vs).os=w.os∧(w.setCells b o vs).tape=w.tape∧(w.setCells b o vs).output=w.output
 |[],_,_=>⟨rfl,rfl,rfl⟩
 |v::r,o,w=>by rw[World.setCells];exact z71 b r (o+1) (w.setCell ⟨b,o,none⟩ v)
theorem z1v(b:Nat):∀(vs:List Value) (o:Nat) (w:World) (k:Nat),k≠b→(w.setCells b o vs).heap[k]?=w.heap[k]?
 |[],_,_,_,_=>rfl
 |v::r,o,w,k,h=>by
  rw[World.setCells,z1v b r (o+1) _ k h];exact Below.heap_setCell _ _ _ _ h
theorem z9i(b:Nat):∀(vs:List Value) (o:Nat) (w:World),(∃c e z,w.heap[b]?=some (.cells c e z))→∃c e z,(w.setCells b o vs).heap[b]?=some (.cells c e z)
 |[],_,_,h=>h
 |v::r,o,w,⟨c,e,z,h⟩=>by
  rw[World.setCells];exact z9i b r (o+1) _ ⟨_,e,z,by simp[World.setCell,Array.getElem?_modify,h];rfl⟩
def splice{α:Type}(cs:List α)(off:Nat)(xs:List α):List α:=cs.take off++xs++cs.drop (off+xs.length)
theorem z5F{α:Type}{cs:List α}{off:Nat}{xs:List α}(h:off+xs.length≤cs.length):(splice cs off xs).length=cs.length:=by
 grind [splice]
theorem z6F{α:Type}{cs:List α}{off:Nat}{xs:List α}(h:off+xs.length≤cs.length){j:Nat}(hj:off≤j)(hj':j<off+xs.length):(splice cs off xs)[j]?=xs[j-off]?:=by
 grind [splice,List.append_assoc,List.getElem?_append_right,List.getElem?_append_left]
theorem z5Q{α:Type}{cs:List α}{off:Nat}{xs:List α}(h:off+xs.length≤cs.length){j:Nat}(hj:j<off∨off+xs.length≤j):(splice cs off xs)[j]?=cs[j]?:=by
 grind [splice,List.append_assoc,List.getElem?_append_right]
theorem z7N{α:Type}{cs:List α}{off:Nat}{xs:List α}{c:α}(h:c∈splice cs off xs):c∈cs∨c∈xs:=by
 simp only[splice,List.mem_append]at h
 grind
theorem Sim.wr(h:Sim B s a w E){d off:Nat}{cs:List TV}(hd:s.b d=some cs)(xs:List TV)(vs:List Value)(hl:xs.length=vs.length)(hle:off+xs.length≤cs.length)
  (hv:∀(j:Nat) c v,xs[j]?=some c→vs[j]?=some v→RelT w E s.r c v) (ho:∀v∈vs,one v):Sim B (s.setB d (splice cs off xs)) a (w.setCells (E.β d) off vs) E:=by
 obtain⟨hbox,hnew⟩:=h.mem.box d cs hd;have hlen:vs.length=xs.length:=hl.symm;have hcell:∀b o,b≠E.β d→(w.setCells (E.β d) off vs).cell? ⟨b,o,none⟩=w.cell? ⟨b,o,none⟩:=fun b o hne=>World.cell?_setCells_out _ _ _ _ _ (fun h1 _=>absurd h1 hne);have hk:∀b o u,E.K b o→w.cell? ⟨b,o,none⟩=some u→E.K b o∧(w.setCells (E.β d) off vs).cell? ⟨b,o,none⟩=some u:=fun b o u h1 h2=>
  ⟨h1,(hcell b o (by rintro rfl;exact hbox.out o h1)).trans h2⟩
 have hmaps:Maps w (w.setCells (E.β d) off vs):=.but (E.β d) (by obtain⟨c,e,z,ho⟩:=hbox.obj;rw[ho];rintro o h9 h0;cases h0;cases h9) (fun b hb=>z1v _ _ _ _ _ hb);have hm:∀{x:TV} {v:Value},RelT w E s.r x v→RelT (w.setCells (E.β d) off vs) E s.r x v:=fun hx=>hx.mono hk (fun _ _=>⟨rfl,rfl⟩) (fun _ _ _ _ _ hd=> .inl ⟨hd,rfl⟩) hmaps;have hsome:∀j,j<vs.length→(w.cell? ⟨E.β d,off+j,none⟩).isSome=true:=fun j hj=>by
  obtain⟨c,hc⟩:∃c,cs[off+j]?=some c:=⟨_,gE (by omega)⟩
  obtain⟨v,h1,_⟩:=hbox.cell (off+j) c hc
  grind
 have hsz:=z5E (E.β d) vs off w;have hb1:∀{e c},(s.setB d (splice cs off xs)).b e=some c→∃c,s.b e=some c:=fun {e c} h1=>by
  rcases z0d h1 with⟨rfl,_⟩|⟨_,h1⟩<;>grind
 refine h.step rfl ⟨fun e cs' he=> ?_,fun e ty W n he=> ?_,fun e e' c c' h1 h2 h3=> ?_,fun e e' c q b cap h1 h2 h3=> ?_,h.mem.rr,fun b o hbo=>by rw[hsz];exact h.mem.lt b o hbo,?_,fun b o u h1 h2=> ?_,h.mem.knew,h.mem.pas⟩ hk (fun _ _=>⟨rfl,rfl⟩) (fun _ _ _ _ _ hd=> .inl ⟨hd,rfl⟩) (fun e z p he=> ?_) h.ii hmaps
 ·rcases z0d he with⟨rfl,rfl⟩|⟨hed,he⟩
  ·refine⟨⟨by rw[hsz];exact hbox.lt,z9i _ _ _ _ hbox.obj,fun o=>by rw[World.frozen?_setCells];exact hbox.fz o,fun j c hc=> ?_,hbox.out⟩,hnew⟩;by_cases hj:off≤j∧j<off+xs.length
   ·rw[z6F hle hj.1 hj.2]at hc;have hjl:j-off<vs.length:=by omega
    have hcell':=World.cell?_setCells_in (E.β e) vs off w hsome (j-off) hjl;rw[show off+(j-off)=j by omega]at hcell';exact⟨_,hcell',ho _ (List.getElem_mem hjl),hm (hv _ _ _ hc (gE hjl))⟩
   ·rw[z5Q hle (by omega)]at hc;obtain⟨v,c1,c2,c3⟩:=hbox.cell j c hc;exact⟨v,(World.cell?_setCells_out _ _ _ _ _ (fun _ _=>by show j<off∨off+vs.length≤j;omega)).trans c1,c2,hm c3⟩
  ·obtain⟨h1,h2⟩:=h.mem.box e cs' he;have hne:E.β e≠E.β d:=fun hh=>hed (h.mem.bb e d cs' cs he hd hh);refine⟨⟨by rw[hsz];exact h1.lt,(by rw[z1v _ _ _ _ _ hne];exact h1.obj),fun o=>by rw[World.frozen?_setCells];exact h1.fz o,fun j c hc=> ?_,h1.out⟩,h2⟩;obtain⟨v,c1,c2,c3⟩:=h1.cell j c hc;exact⟨v,(hcell _ _ hne).trans c1,c2,hm c3⟩
 ·rcases h.mem.row e ty W n he with h1|⟨b,cap,h1,h2,h3⟩
  ·grind
  ·obtain⟨cur,hc,hs⟩:=h3.cells;exact .inr ⟨b,cap,h1,h2,⟨cur,(z1v _ _ _ _ _ (h.mem.br d e cs _ b cap hd he h1).symm).trans hc,hs⟩,h3.le,h3.max,h3.out⟩
 ·obtain⟨_,h1⟩:=hb1 h1;obtain⟨_,h2⟩:=hb1 h2;exact h.mem.bb e e' _ _ h1 h2 h3
 ·obtain⟨_,h1⟩:=hb1 h1;exact h.mem.br e e' _ q b cap h1 h2 h3
 ·obtain⟨o1,o2,o3⟩:=z71 (E.β d) vs off w;refine⟨o1.trans h.mem.low.os,o2.trans h.mem.low.tape,o3.trans h.mem.low.output,by rw[hsz];exact h.mem.low.size,fun k hk' hx=> ?_⟩;refine(z1v _ _ _ _ _ ?_).trans (h.mem.low.block k hk' hx)
  grind
 ·obtain⟨h3,h4⟩:=h.mem.keep b o u h1 h2
  grind
 ·obtain⟨h1,h2⟩:=h.itr e z p he;by_cases hv0:vs=[]
  ·subst hv0;exact⟨h1,h2⟩
  ·grind [z1v,List.length_pos_iff,List.getElem?_eq_getElem,World.cell?]
theorem Sim.newI(h:Sim B s a w E){d:Nat}(hf:z0y s d)(z:ByteArray):∃E',E'.ι d=w.heap.size∧Sim B (s.setI d (z,0)) a (w.alloc (.stringIter z 0)) E':=by
 obtain⟨hf1,hf2,hf3,hf4⟩:=hf;have hb:Below w.heap.size w (w.alloc (.stringIter z 0)):=(Below.refl _ _).alloc (Nat.le_refl _) _;let E':Env:={ E with ι:=fun j=>if j=d then w.heap.size else E.ι j }
 have hι:∀d',d'≠d→E'.ι d'=E.ι d':=fun d' hd'=>by simp[E',hd']
 have hd:E'.ι d=w.heap.size:=by simp[E']
 refine⟨E',hd,?_⟩;have h':Sim B s a (w.alloc (.stringIter z 0)) E':=by
  refine h.ext hb E' (fun _ _ h=>h) (fun _ _ h=> .inl h) (fun d' hd'=>⟨rfl,hι d' ?_⟩) (fun _ _ _=>rfl) (fun _ _=>⟨rfl,rfl⟩)
  grind
 refine⟨h'.defers,h'.size,h'.tmp,h'.mem,fun e y p he=> ?_,fun e e' q q' h1 h2 h3=> ?_⟩
 ·rcases z0d he with⟨x1,x2⟩|⟨_,y1⟩
  ·subst x1;cases x2;rw[hd];exact⟨heap_alloc_new _ _,h.mem.low.size⟩
  ·exact h'.itr e y p y1
 ·have key:∀e q,s.i e=some q→E'.ι e≠w.heap.size:=fun e q he=>by
   have hne:e≠d:=by grind
   rw[hι e hne];have:=(gA (h.itr e q.1 q.2 he).1).1;omega
  rcases z0d h1 with⟨x1,_⟩|⟨_,y1⟩<;>rcases z0d h2 with⟨x2,_⟩|⟨_,y2⟩
  ·omega
  ·grind
  ·grind
  ·exact h'.ii e e' q q' y1 y2 h3
theorem Sim.goI(h:Sim B s a w E){d p p':Nat}{z:ByteArray}(hd:s.i d=some (z,p)):Sim B (s.setI d (z,p')) a { w with heap:=w.heap.setIfInBounds (E.ι d) (.stringIter z p') } E:=by
 obtain⟨h0,h0'⟩:=h.itr d z p hd;have hlt:=(gA h0).1;have hblk:∀k,k≠E.ι d→({ w with heap:=w.heap.setIfInBounds (E.ι d) (.stringIter z p') }:World).heap[k]?=w.heap[k]?:=fun k hk=>by
  grind
 have hnew:({ w with heap:=w.heap.setIfInBounds (E.ι d) (.stringIter z p') }:World).heap[E.ι d]?=some (.stringIter z p'):=by simp[hlt]
 have hcell:∀b o,({ w with heap:=w.heap.setIfInBounds (E.ι d) (.stringIter z p') }:World).cell? ⟨b,o,none⟩=w.cell? ⟨b,o,none⟩:=fun b o=>by
  by_cases hb:b=E.ι d
  ·subst hb;simp only[World.cell?,hnew,h0]
  ·grind [World.cell?_of_block]
 have hfz:∀b o,({ w with heap:=w.heap.setIfInBounds (E.ι d) (.stringIter z p') }:World).frozen? ⟨b,o,none⟩=w.frozen? ⟨b,o,none⟩:=fun b o=>by
  by_cases hb:b=E.ι d
  ·subst hb;simp only[World.frozen?,hnew,h0]
  ·grind [World.frozen?_of_block]
 have hk:∀b o u,E.K b o→w.cell? ⟨b,o,none⟩=some u→E.K b o∧({ w with heap:=w.heap.setIfInBounds (E.ι d) (.stringIter z p') }:World).cell? ⟨b,o,none⟩=some u:=fun b o u h1 h2=>⟨h1,(hcell b o).trans h2⟩
 have hmaps:Maps w ({ w with heap:=w.heap.setIfInBounds (E.ι d) (.stringIter z p') }:World):=.but (E.ι d) (by rw[h0];rintro o h8 h9;cases h9;cases h8) hblk;refine h.step rfl ⟨fun e cs he=> ?_,fun e ty W n he=> ?_,h.mem.bb,h.mem.br,h.mem.rr,fun b o hbo=>by simpa using h.mem.lt b o hbo,?_,fun b o u h1 h2=> ?_,h.mem.knew,h.mem.pas⟩ hk (fun _ _=>⟨rfl,rfl⟩) (fun _ _ _ _ _ hd=> .inl ⟨hd,rfl⟩) (fun e y q he=> ?_) (fun e e' q q' h1 h2 h3=> ?_) hmaps
 ·obtain⟨h1,h2⟩:=h.mem.box e cs he;refine⟨⟨by simpa using h1.lt,(by obtain⟨c,e',z',hc⟩:=h1.obj;exact⟨c,e',z',(hblk _ (fun hh=>by rw[hh,h0]at hc;cases hc)).trans hc⟩),fun o=>(hfz _ _).trans (h1.fz o),fun j c hc=> ?_,h1.out⟩,h2⟩;obtain⟨v,c1,c2,c3⟩:=h1.cell j c hc;exact⟨v,(hcell _ _).trans c1,c2,c3.mono hk (fun _ _=>⟨rfl,rfl⟩) (fun _ _ _ _ _ hd=> .inl ⟨hd,rfl⟩) hmaps⟩
 ·rcases h.mem.row e ty W n he with h1|⟨b,cap,h1,h2,h3⟩
  ·grind
  ·obtain⟨cur,hc,hs⟩:=h3.cells;have hne:b≠E.ι d:=by grind
   exact .inr ⟨b,cap,h1,h2,⟨cur,(hblk b hne).trans hc,hs⟩,h3.le,h3.max,h3.out⟩
 ·refine⟨h.mem.low.os,h.mem.low.tape,h.mem.low.output,by simpa using h.mem.low.size,fun k hk' hx=> ?_⟩;exact(hblk k (by omega)).trans (h.mem.low.block k hk' hx)
 ·obtain⟨h3,h4⟩:=h.mem.keep b o u h1 h2
  grind
 ·rcases z0d he with⟨x1,x2⟩|⟨hne,y1⟩
  ·grind
  ·obtain⟨h1,h2⟩:=h.itr e y q y1;exact⟨(hblk _ (fun hh=>hne (h.ii e d _ _ y1 hd hh))).trans h1,h2⟩
 ·have hs1:∀{e q},(s.setI d (z,p')).i e=some q→∃q,s.i e=some q:=fun {e q} h1=>by
   rcases z0d h1 with⟨x1,_⟩|⟨_,y1⟩<;>grind
  obtain⟨_,h1⟩:=hs1 h1;obtain⟨_,h2⟩:=hs1 h2;exact h.ii e e' _ _ h1 h2 h3
end
end
end Go.Sh
end
