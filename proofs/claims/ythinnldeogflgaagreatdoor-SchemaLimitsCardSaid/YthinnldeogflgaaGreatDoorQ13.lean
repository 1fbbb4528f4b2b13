/- Merged texts: PClass PCls Px1 Px2. No statement of the program is proved here. -/
import Derived.Test.YthinnldeogflgaaGreatDoorQ12
import Derived.Lib.ItoaNum
import Derived.Lib.Join
set_option linter.unusedSimpArgs false
set_option linter.unusedVariables false
set_option maxRecDepth 100000
set_option maxHeartbeats 8000000
section
namespace Go.Mor
open Go
section
open Go.RowKit
structure Fld where
 n:zB
 t:Ty
 ix:Bool
structure Cls where
 n:zB
 fs:List Fld
def small(b:UInt8):Bool:=decide (97≤b.toNat∧b.toNat≤122)
def z0g(b:UInt8):Bool:=small b||decide (48≤b.toNat∧b.toNat≤57)||b.toNat==95
def zk(s:zB):Bool:=decide (1≤s.length∧s.length≤20)&&small (s.headD 0)&&s.all z0g
def zQ(f:Fld):Bool:=zk f.n&&zM f.t&&(!f.ix||decide (f.t.k≤3))
def fieldAt(c:List Fld)(name:zB):Int:=z0x (fun f=>f.n==name) c
def z2N(all:List Fld):Nat→List Fld→Bool
 |_,[]=>true
 |k,f::r=>zQ f&&fieldAt all f.n==k&&z2N all (k+1) r
def zd(c:Cls):Bool:=zk c.n&&decide (c.fs.length≤8)&&z2N c.fs 0 c.fs
def zbq(f g:Fld):Bool:=f.n==g.n&&f.t.k==g.t.k&&f.t.o==g.t.o&&f.ix==g.ix
def z2q:List Fld→List Fld→Bool
 |[],[]=>true
 |f::r,g::q=>zbq f g&&z2q r q
 |_,_=>false
def z5h(a b:Cls):Bool:=a.n==b.n&&z2q a.fs b.fs
def z1V:Nat→List Fld→List V→Int×Int
 |_,[],_=>(0,0)
 |_,_,[]=>(0,0)
 |k,f::fs,v::vs=>if zA v f.t then z1V (k+1) fs vs else(k,42)
def check(c:Cls)(vs:List V):Int×Int:=
 if !zd c then(0,40)else if vs.length≠c.fs.length then((min vs.length c.fs.length:Nat),42)else z1V 0 c.fs vs
def IsF(ok:Nat→Prop)(w:World)(l:List Fld)(c:Value):Prop:=
 ∃(b off cap:Nat) (p:Option Addr),c=.slice p l.length cap∧l.length≤cap∧cap≤maxLen∧(l≠[]→p=some ⟨b,off,none⟩∧ok b)∧
  ∀(i:Nat) (f:Fld),l[i]?=some f→w.cell? ⟨b,off+i*4,none⟩=some (.string (str f.n))∧w.cell? ⟨b,off+i*4+1,none⟩=some (.int .i64 f.t.k)
   ∧w.cell? ⟨b,off+i*4+2,none⟩=some (.int .i64 f.t.o)∧w.cell? ⟨b,off+i*4+3,none⟩=some (.bool f.ix)
theorem IsF.keepBy{ok:Nat→Prop}{w w':World}{l:List Fld}{c:Value}(h:IsF ok w l c)(hk:∀a v,ok a.block→w.cell? a=some v→w'.cell? a=some v):IsF ok w' l c:=by
 obtain⟨b,off,cap,p,h1,h2,h3,h4,h5⟩:=h;refine⟨b,off,cap,p,h1,h2,h3,h4,fun i f hf=> ?_⟩
 grind
theorem IsF.ext{ok:Nat→Prop}{w w':World}{l:List Fld}{c:Value}(h:IsF ok w l c)(hb:Below w.heap.size w w'):IsF ok w' l c:=
 h.keepBy fun _ _ _ hv=>(hb.cell (z0F hv)).trans hv
theorem IsF.keep{ok:Nat→Prop}{w w':World}{l:List Fld}{c:Value}(h:IsF ok w l c)(hk:∀b,ok b→w'.heap[b]?=w.heap[b]?):IsF ok w' l c:=
 h.keepBy fun a _ ho hv=>(World.cell?_of_block (w:=w) (hk a.block ho)).trans hv
theorem IsF.weaken{ok ok':Nat→Prop}{w:World}{l:List Fld}{c:Value}(h:IsF ok w l c)(hk:∀b,ok b→ok' b):IsF ok' w l c:=by
 obtain⟨b,off,cap,p,h1,h2,h3,h4,h5⟩:=h;exact⟨b,off,cap,p,h1,h2,h3,fun hl=>⟨(h4 hl).1,hk _ (h4 hl).2⟩,h5⟩
theorem IsF.none_{ok:Nat→Prop}{w:World}:IsF ok w [] (.slice none 0 0):=⟨0,0,0,none,rfl,by simp,Nat.zero_le _,by simp,by simp⟩
def pick(c n:Int):Int:=(if c<0 then -(c+1)else c)%n
theorem zfo(c n:Int)(hn:0<n):0≤pick c n∧pick c n<n:=⟨Int.emod_nonneg _ (by omega),Int.emod_lt_of_pos _ hn⟩
structure RawF where
 n:Int
 k:Int
 o:Int
 ix:Bool
structure Raw where
 n:Int
 fs:List RawF
def nmF(i:Int):zB:=([[97],[98,50],[110,97,109,101],[110,101,120,116,95,111,110,101],[107,105,100,115],[120]]:List (zB)).getD i.toNat []
def nmC(i:Int):zB:=([[110,111,100,101],[105,116,101,109],[117,115,101,114],[112,97,103,101,95,49],[108,101,97,102],[113]]:List (zB)).getD i.toNat []
def zdQ(r:RawF):Fld:=⟨nmF (pick r.n 6),⟨1+pick r.k 5,if pick r.k 5=4 then 1+pick r.o 4 else 0⟩,r.ix&&decide (1+pick r.k 5≤3)⟩
def zmM(acc:List Fld)(r:RawF):List Fld:=if fieldAt acc (zdQ r).n<0 then acc++[zdQ r] else acc
def zk7(x:Raw):Cls:=⟨nmC (pick x.n 6),(x.fs.take 6).foldl zmM []⟩
theorem zeV{α:Type}(p:α→Bool)(l:List α)(k:Nat)(x:α)(hx:l[k]?=some x)(hp:p x=true)(h:∀(i:Nat) y,i<k→l[i]?=some y→p y=false):z0x p l=k:=by
 have:l.findIdx? p=some k:=by
  grind [List.findIdx?_eq_some_iff_getElem,List.getElem?_eq_some_iff,List.getElem?_eq_getElem]
 simp[z0x,this]
theorem z3j{α:Type}(p:α→Bool)(l:List α)(k:Nat)(h:z0x p l=k):∃x,l[k]?=some x∧p x=true:=by
 grind [z0x,List.findIdx?_eq_some_iff_getElem,List.getElem?_eq_getElem]
theorem z3Y{α:Type}(p:α→Bool)(l:List α):z0x p l<0 ↔ ∀x∈l,p x=false:=by
 grind [z0x,List.findIdx?_eq_none_iff,List.findIdx?_eq_some_iff_getElem,List.getElem_mem]
def z6w(l:List Fld):Prop:=∀(i j:Nat) (f g:Fld),l[i]?=some f→l[j]?=some g→f.n=g.n→i=j
theorem zff(all:List Fld):∀(r:List Fld) (k:Nat),z2N all k r=true ↔ ∀(i:Nat) f,r[i]?=some f→zQ f=true∧fieldAt all f.n=((k+i:Nat):Int):=by
 intro r
 induction r with
 |nil=>grind [z2N]
 |cons g r ih=>
  intro k;rw[z2N,Bool.and_eq_true,Bool.and_eq_true,ih (k+1)];constructor
  ·grind
  ·intro h;have h0:=h 0 g (by simp);refine⟨⟨h0.1,by simpa using h0.2⟩,fun i f hf=> ?_⟩;have:=h (i+1) f (by grind)
   grind
theorem zdP{l:List Fld}(h:z6w l){i:Nat}{f:Fld}(hf:l[i]?=some f):fieldAt l f.n=i:=by
 refine zeV _ l i f hf (by simp) fun j y hj hy=> ?_;rw[beq_eq_false_iff_ne];intro he;have:=h j i y f hy hf he;omega
theorem z1n(c:Cls):zd c=true ↔ zk c.n=true∧c.fs.length≤8∧(∀f∈c.fs,zQ f=true)∧z6w c.fs:=by
 rw[zd,Bool.and_eq_true,Bool.and_eq_true,zff,decide_eq_true_iff];constructor
 ·rintro⟨⟨h1,h2⟩,h3⟩;refine⟨h1,h2,fun f hf=> ?_,fun i j f g hi hj he=> ?_⟩
  ·grind [List.getElem?_of_mem]
  ·grind
 ·grind [List.mem_of_getElem?,zdP]
theorem zgc{l:List Fld}{f:Fld}(h:z6w l)(hn:fieldAt l f.n<0):z6w (l++[f]):=by
 have hno:=(z3Y _ _).1 hn;intro i j a b ha hb he;rw[List.getElem?_append]at ha hb;split at ha<;>split at hb
 ·exact h i j a b ha hb he
 ·grind
 ·grind
 ·grind
structure GoodC(c:Cls):Prop where
 nm:zk c.n=true∧c.n.length≤8
 fs:∀f∈c.fs,zQ f=true∧f.n.length≤8
 di:z6w c.fs
 len:c.fs.length≤6
theorem GoodC.right{c:Cls}(h:GoodC c):zd c=true:=(z1n c).2 ⟨h.nm.1,by have:=h.len;omega,fun f hf=>(h.fs f hf).1,h.di⟩
end
def z0f(s:zB):Int:=
 if s=[42]∨s=[47]∨s=[37] then 4 else if s=[43]∨s=[45] then 3 else if s=[38] then 2
 else if s=[61]∨s=[60,62]∨s=[60]∨s=[60,61]∨s=[62]∨s=[62,61] then 1 else 0
def zx(s:zB):Int:=
 if s=[108,101,110]∨s=[116,101,120,116]∨s=[110,117,109] then 1
 else if s=[108,101,102,116]∨s=[114,105,103,104,116]∨s=[102,114,111,109]∨s=[102,105,110,100]∨s=[109,105,110]∨s=[109,97,120] then 2
 else if s=[105,102] then 3 else 0
def z0z(e:V):Bool:=
 if e.k≠1∧e.n≠0 then false
 else if e.k=1 then decide (0≤e.n)&&decide (e.n≤1000000000000000)&&e.s==[]&&e.l.length==0
 else if e.k=2 then zi e.s&&e.l.length==0
 else if e.k=3 then zk e.s&&e.l.length==0
 else if e.k=4 then decide (0<z0f e.s)&&e.l.length==2
 else if e.k=5 then e.s==[45]&&e.l.length==1
 else if e.k=6 then decide (0<zx e.s)&&decide ((e.l.length:Int)=zx e.s)
 else false
def okE:Nat→V→Bool
 |0,_=>false
 |d+1,e=>z0z e&&e.l.all (okE d)
def szE:Nat→V→Nat
 |0,_=>1
 |d+1,e=>1+(e.l.map (szE d)).sum
def z1Y(e:V):Bool:=okE 8 e&&decide (szE 8 e≤40)
structure Pc where
 k:Int
 n:Int
 s:zB
 p:Nat
def z6D(b:UInt8):Bool:=decide (48≤b.toNat∧b.toNat≤57)
def z2s:zB→Int→Nat→Int×Nat
 |[],n,z=>(n,z)
 |b::r,n,z=>if z6D b then z2s r (min (10*n+((b.toNat:Int) - 48)) 1000000000000001) (z+1)else(n,z)
def z0K:zB→Nat
 |[]=>0
 |b::r=>if z0g b then z0K r+1 else 0
def quoG:zB→zB→Nat→Option (zB×Nat)
 |[],_,_=>none
 |b::r,acc,k=>if b=34 then(if zi acc then some (acc,k+1)else none)
  else if b=92 then(match r with
   |[]=>none
   |c::r'=>if c=34∨c=92 then quoG r' (acc++[c]) (k+2)else none)
  else quoG r (acc++[b]) (k+1)
def z2k:zB→zB
 |[]=>[]
 |b::r=>if b=60 then(if r.head?=some 62 then [60,62] else if r.head?=some 61 then [60,61] else [60])
  else if b=62 then(if r.head?=some 61 then [62,61] else [62])
  else if b=61∨b=38∨b=43∨b=45∨b=42∨b=47∨b=37∨b=40∨b=41∨b=44 then [b] else []
def z0Y(l:zB)(at_:Nat):Option (Pc×Nat):=
 match l with
 |[]=>none
 |b::r=>
  if z6D b then(if 1000000000000000<(z2s l 0 0).1 then none else some (⟨1,(z2s l 0 0).1,[],at_⟩,(z2s l 0 0).2))
  else if small b then(if zk (l.take (z0K l))then some (⟨3,0,l.take (z0K l),at_⟩,z0K l)else none)
  else if b=34 then(match quoG r [] 1 with
   |some (t,k)=>some (⟨2,0,t,at_⟩,k)
   |none=>none)
  else if z2k l=[] then none else some (⟨4,0,z2k l,at_⟩,(z2k l).length)
inductive Lx where
 |ok (L:List Pc)
 |bad (p:Nat)
def z1w:Nat→zB→Nat→List Pc→Option Lx
 |0,_,_,_=>none
 |f+1,l,at_,acc=>match l with
  |[]=>some (.ok acc)
  |b::r=>if b=32 then z1w f r (at_+1) acc else match z0Y l at_ with
   |none=>some (.bad at_)
   |some (q,z)=>z1w f (l.drop z) (at_+z) (acc++[q])
inductive Rs(α:Type) where
 |ok (e:α) (p:Nat)
 |bad (a p:Nat)
def pkP(L:List Pc)(sz p:Nat):Pc:=(L[p]?).getD ⟨0,0,[],sz⟩
def z0n(q:Pc)(t:zB):Bool:=q.k==4&&q.s==t
mutual
def pE(L:List Pc)(sz:Nat):Nat→Int→Nat→Option (Rs V)
 |0,_,_=>none
 |f+1,zY,p=>match pT L sz f p with
  |some (.ok e p')=>pL L sz f zY e p'
  |some (.bad a p')=>some (.bad a p')
  |none=>none
def pL(L:List Pc)(sz:Nat):Nat→Int→V→Nat→Option (Rs V)
 |0,_,_,_=>none
 |f+1,zY,e,p=>
  if(pkP L sz p).k≠4∨z0f (pkP L sz p).s<zY then some (.ok e p)
  else match pE L sz f (z0f (pkP L sz p).s+1) (p+1)with
   |some (.ok e2 p2)=>pL L sz f zY (.mk 4 0 (pkP L sz p).s [e,e2]) p2
   |some (.bad a p')=>some (.bad a p')
   |none=>none
def pT(L:List Pc)(sz:Nat):Nat→Nat→Option (Rs V)
 |0,_=>none
 |f+1,p=>
  if z0n (pkP L sz p) [40] then(match pE L sz f 1 (p+1)with
   |some (.ok e p')=>if z0n (pkP L sz p') [41] then some (.ok e (p'+1))else some (.bad (pkP L sz p').p p')
   |some (.bad a p')=>some (.bad a p')
   |none=>none)
  else if z0n (pkP L sz p) [45] then(match pT L sz f (p+1)with
   |some (.ok e p')=>some (.ok (.mk 5 0 [45] [e]) p')
   |some (.bad a p')=>some (.bad a p')
   |none=>none)
  else if(pkP L sz p).k=1 then some (.ok (.mk 1 (pkP L sz p).n [] []) (p+1))
  else if(pkP L sz p).k=2 then some (.ok (.mk 2 0 (pkP L sz p).s []) (p+1))
  else if(pkP L sz p).k=3 then(if 0<zx (pkP L sz p).s∧z0n (pkP L sz (p+1)) [40]=true then(match pH L sz f (zx (pkP L sz p).s).toNat 0 (p+2) []with
    |some (.ok l p')=>some (.ok (.mk 6 0 (pkP L sz p).s l) p')
    |some (.bad a p')=>some (.bad a p')
    |none=>none)
   else some (.ok (.mk 3 0 (pkP L sz p).s []) (p+1)))
  else some (.bad (pkP L sz p).p (p+1))
def pH(L:List Pc)(sz:Nat):Nat→Nat→Nat→Nat→List V→Option (Rs (List V))
 |0,_,_,_,_=>none
 |f+1,n,k,p,acc=>
  if k<n then(if 0<k∧z0n (pkP L sz p) [44]=false then some (.bad (pkP L sz p).p p)
   else match pE L sz f 1 (if 0<k then p+1 else p)with
    |some (.ok e p')=>pH L sz f n (k+1) p' (acc++[e])
    |some (.bad a p')=>some (.bad a p')
    |none=>none)
  else if z0n (pkP L sz p) [41] then some (.ok acc (p+1))else some (.bad (pkP L sz p).p p)
end
def z2O(f:Nat)(l:zB):Option (V×Int×Int):=
 if 200<l.length then some (V.nil,200,50)
 else match z1w (l.length+1) l 0 []with
  |none=>none
  |some (.bad a)=>some (V.nil,a,50)
  |some (.ok L)=>match pE L l.length f 1 0 with
   |some (.ok e p)=>if p<L.length then some (V.nil,(pkP L l.length p).p,50)else if z1Y e then some (e,0,0)else some (V.nil,0,51)
   |some (.bad a _)=>some (V.nil,a,50)
   |none=>none
abbrev T3:=Int×Int×zB
def er(q:Pc):T3:=(q.k,q.n,q.s)
def sg(s:zB):T3:=(4,0,s)
def LexP(t:zB)(ts:List T3)(post:zB):Prop:=
 ∀(f a:Nat) (acc:List Pc),t.length+post.length<f→∃f' L,post.length<f'∧L.map er=ts∧z1w f (t++post) a acc=z1w f' post (a+t.length) (acc++L)
theorem LexP.nil(post:zB):LexP [] [] post:=fun f a acc h=>⟨f,[],by simpa using h,rfl,by simp⟩
theorem LexP.app{t1 t2:zB}{ts1 ts2:List T3}{post:zB}(h1:LexP t1 ts1 (t2++post))(h2:LexP t2 ts2 post):LexP (t1++t2) (ts1++ts2) post:=by
 intro f a acc hf;obtain⟨f1,L1,a1,a2,a3⟩:=h1 f a acc (by grind);obtain⟨f2,L2,b1,b2,b3⟩:=h2 f1 (a+t1.length) (acc++L1) (by grind);refine⟨f2,L1++L2,b1,by rw[List.map_append,a2,b2],?_⟩
 grind
theorem LexP.one{t:zB}{q:T3}{post:zB}{b:UInt8}{r:zB}(ht:t=b::r)(hb:b≠32)(h:∀a,∃p,z0Y (t++post) a=some (p,t.length)∧er p=q):LexP t [q] post:=by
 intro f a acc hf;obtain⟨f,rfl⟩:∃g,f=g+1:=⟨f-1,by omega⟩
 obtain⟨p,h1,h2⟩:=h a;refine⟨f,[p],by subst ht;simp at hf;omega,by simp[h2],?_⟩
 grind [z1w]
theorem zli(d:Nat)(hd:d<10):(UInt8.ofNat (48+d)).toNat=48+d:=by rw[UInt8.toNat_ofNat'];omega
theorem zkB(post acc:zB)(k:Nat):quoG (34::post) acc k=if zi acc then some (acc,k+1)else none:=by
 rw[quoG.eq_def];rfl
theorem zkC(c:UInt8)(r acc:zB)(k:Nat):quoG (92::c::r) acc k=if c=34∨c=92 then quoG r (acc++[c]) (k+2)else none:=by
 grind [quoG]
theorem zlS{b:UInt8}(h1:b≠34)(h2:b≠92)(r acc:zB)(k:Nat):quoG (b::r) acc k=quoG r (acc++[b]) (k+1):=by
 rw[quoG.eq_def];simp only[if_neg h1,if_neg h2]
theorem zd8{s:zB}(h:0<z0f s):s=[42]∨s=[47]∨s=[37]∨s=[43]∨s=[45]∨s=[38]∨s=[61]∨s=[60,62]∨s=[60]∨s=[60,61]∨s=[62]∨s=[62,61]:=by
 grind [z0f]
theorem zab{d:Nat}{e:V}(h:okE (d+1) e=true):z0z e=true∧∀x∈e.l,okE d x=true:=by
 rw[okE,Bool.and_eq_true]at h
 grind
theorem zjL{e:V}(h:z0z e=true)(hk:e.k=1):0≤e.n∧e.n≤1000000000000000∧e.s=[]∧e.l=[]:=by
 grind [z0z]
theorem z9i{e:V}(h:z0z e=true)(hk:e.k≠1):e.n=0:=by
 grind [z0z]
theorem zbw{e:V}(h:z0z e=true)(hk:e.k=2):e.n=0∧zi e.s=true∧e.l=[]:=by
 grind [z9i,z0z]
theorem zjM{e:V}(h:z0z e=true)(hk:e.k=3):e.n=0∧zk e.s=true∧e.l=[]:=by
 grind [z9i,z0z]
theorem z9j{e:V}(h:z0z e=true)(hk:e.k=4):e.n=0∧0<z0f e.s∧∃a b,e.l=[a,b]:=by
 have h0:=z9i h (by omega);unfold z0z at h;rw[if_neg (by simp[h0]),if_neg (by omega),if_neg (by omega),if_neg (by omega),if_pos hk]at h;simp at h;refine⟨h0,h.1,?_⟩
 match hl:e.l,h.2 with
 |[a,b],_=>simp
theorem zbx{e:V}(h:z0z e=true)(hk:e.k=5):e.n=0∧e.s=[45]∧∃a,e.l=[a]:=by
 have h0:=z9i h (by omega);unfold z0z at h;rw[if_neg (by simp[h0]),if_neg (by omega),if_neg (by omega),if_neg (by omega),if_neg (by omega),if_pos hk]at h;simp at h;refine⟨h0,h.1,?_⟩
 match hl:e.l,h.2 with
 |[a],_=>simp
theorem z9k{e:V}(h:z0z e=true)(hk:e.k=6):e.n=0∧0<zx e.s∧(e.l.length:Int)=zx e.s:=by
 grind [z9i,z0z]
theorem z44{e:V}(h:z0z e=true):e.k=1∨e.k=2∨e.k=3∨e.k=4∨e.k=5∨e.k=6:=by
 grind [z0z]
end Go.Mor
end
