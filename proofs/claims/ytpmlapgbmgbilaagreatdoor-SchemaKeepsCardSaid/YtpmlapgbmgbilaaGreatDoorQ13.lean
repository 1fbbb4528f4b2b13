/- Merged texts: PClass PCls Px1 Px2 Px3. No statement of the program is proved here. -/
import Derived.Test.YtpmlapgbmgbilaaGreatDoorQ12
import Derived.Lib.ItoaNum
import Derived.Lib.Join
set_option linter.unusedSimpArgs false
set_option linter.unusedVariables false
set_option maxRecDepth 100000
set_option maxHeartbeats 8000000
section
namespace Go.Mor
open Go
section
open Go.RowKit
structure Fld where
 n:zB
 t:Ty
 ix:Bool
structure Cls where
 n:zB
 fs:List Fld
def small(b:UInt8):Bool:=decide (97≤b.toNat∧b.toNat≤122)
def zS(b:UInt8):Bool:=small b||decide (48≤b.toNat∧b.toNat≤57)||b.toNat==95
def zb(s:zB):Bool:=decide (1≤s.length∧s.length≤20)&&small (s.headD 0)&&s.all zS
def zE(f:Fld):Bool:=zb f.n&&zi f.t&&(!f.ix||decide (f.t.k≤3))
def fieldAt(c:List Fld)(name:zB):Int:=z0K (fun f=>f.n==name) c
def z2R(all:List Fld):Nat→List Fld→Bool
 |_,[]=>true
 |k,f::r=>zE f&&fieldAt all f.n==k&&z2R all (k+1) r
def zd(c:Cls):Bool:=zb c.n&&decide (c.fs.length≤8)&&z2R c.fs 0 c.fs
def z8N(f g:Fld):Bool:=f.n==g.n&&f.t.k==g.t.k&&f.t.o==g.t.o&&f.ix==g.ix
def z1N:List Fld→List Fld→Bool
 |[],[]=>true
 |f::r,g::q=>z8N f g&&z1N r q
 |_,_=>false
def z40(a b:Cls):Bool:=a.n==b.n&&z1N a.fs b.fs
def z2u:Nat→List Fld→List V→Int×Int
 |_,[],_=>(0,0)
 |_,_,[]=>(0,0)
 |k,f::fs,v::vs=>if zI v f.t then z2u (k+1) fs vs else(k,42)
def check(c:Cls)(vs:List V):Int×Int:=
 if !zd c then(0,40)else if vs.length≠c.fs.length then((min vs.length c.fs.length:Nat),42)else z2u 0 c.fs vs
def IsF(ok:Nat→Prop)(w:World)(l:List Fld)(c:Value):Prop:=
 ∃(b off cap:Nat) (p:Option Addr),c=.slice p l.length cap∧l.length≤cap∧cap≤maxLen∧(l≠[]→p=some ⟨b,off,none⟩∧ok b)∧
  ∀(i:Nat) (f:Fld),l[i]?=some f→w.cell? ⟨b,off+i*4,none⟩=some (.string (str f.n))∧w.cell? ⟨b,off+i*4+1,none⟩=some (.int .i64 f.t.k)
   ∧w.cell? ⟨b,off+i*4+2,none⟩=some (.int .i64 f.t.o)∧w.cell? ⟨b,off+i*4+3,none⟩=some (.bool f.ix)
theorem IsF.keepBy{ok:Nat→Prop}{w w':World}{l:List Fld}{c:Value}(h:IsF ok w l c)(hk:∀a v,ok a.block→w.cell? a=some v→w'.cell? a=some v):IsF ok w' l c:=by
 obtain⟨b,off,cap,p,h1,h2,h3,h4,h5⟩:=h;refine⟨b,off,cap,p,h1,h2,h3,h4,fun i f hf=> ?_⟩
 grind
theorem IsF.ext{ok:Nat→Prop}{w w':World}{l:List Fld}{c:Value}(h:IsF ok w l c)(hb:Below w.heap.size w w'):IsF ok w' l c:=
 h.keepBy fun _ _ _ hv=>(hb.cell (z0S hv)).trans hv
theorem IsF.keep{ok:Nat→Prop}{w w':World}{l:List Fld}{c:Value}(h:IsF ok w l c)(hk:∀b,ok b→w'.heap[b]?=w.heap[b]?):IsF ok w' l c:=
 h.keepBy fun a _ ho hv=>(World.cell?_of_block (w:=w) (hk a.block ho)).trans hv
theorem IsF.weaken{ok ok':Nat→Prop}{w:World}{l:List Fld}{c:Value}(h:IsF ok w l c)(hk:∀b,ok b→ok' b):IsF ok' w l c:=by
 obtain⟨b,off,cap,p,h1,h2,h3,h4,h5⟩:=h;exact⟨b,off,cap,p,h1,h2,h3,fun hl=>⟨(h4 hl).1,hk _ (h4 hl).2⟩,h5⟩
theorem IsF.none_{ok:Nat→Prop}{w:World}:IsF ok w [] (.slice none 0 0):=⟨0,0,0,none,rfl,by simp,Nat.zero_le _,by simp,by simp⟩
def pick(c n:Int):Int:=(if c<0 then -(c+1)else c)%n
theorem z05(c n:Int)(hn:0<n):0≤pick c n∧pick c n<n:=⟨Int.emod_nonneg _ (by omega),Int.emod_lt_of_pos _ hn⟩
structure RawF where
 n:Int
 k:Int
 o:Int
 ix:Bool
structure Raw where
 n:Int
 fs:List RawF
def nmF(i:Int):zB:=([[97],[98,50],[110,97,109,101],[110,101,120,116,95,111,110,101],[107,105,100,115],[120]]:List (zB)).getD i.toNat []
def nmC(i:Int):zB:=([[110,111,100,101],[105,116,101,109],[117,115,101,114],[112,97,103,101,95,49],[108,101,97,102],[113]]:List (zB)).getD i.toNat []
def z3h(r:RawF):Fld:=⟨nmF (pick r.n 6),⟨1+pick r.k 5,if pick r.k 5=4 then 1+pick r.o 4 else 0⟩,r.ix&&decide (1+pick r.k 5≤3)⟩
def z1J(acc:List Fld)(r:RawF):List Fld:=if fieldAt acc (z3h r).n<0 then acc++[z3h r] else acc
def z0n(x:Raw):Cls:=⟨nmC (pick x.n 6),(x.fs.take 6).foldl z1J []⟩
theorem z73{α:Type}(p:α→Bool)(l:List α)(k:Nat)(x:α)(hx:l[k]?=some x)(hp:p x=true)(h:∀(i:Nat) y,i<k→l[i]?=some y→p y=false):z0K p l=k:=by
 have:l.findIdx? p=some k:=by
  grind [List.findIdx?_eq_some_iff_getElem,List.getElem?_eq_some_iff,List.getElem?_eq_getElem]
 simp[z0K,this]
theorem z2F{α:Type}(p:α→Bool)(l:List α)(k:Nat)(h:z0K p l=k):∃x,l[k]?=some x∧p x=true:=by
 grind [z0K,List.findIdx?_eq_some_iff_getElem,List.getElem?_eq_getElem]
theorem z4M{α:Type}(p:α→Bool)(l:List α):z0K p l<0 ↔ ∀x∈l,p x=false:=by
 grind [z0K,List.findIdx?_eq_none_iff,List.findIdx?_eq_some_iff_getElem,List.getElem_mem]
def z6j(l:List Fld):Prop:=∀(i j:Nat) (f g:Fld),l[i]?=some f→l[j]?=some g→f.n=g.n→i=j
theorem zhJ(all:List Fld):∀(r:List Fld) (k:Nat),z2R all k r=true ↔ ∀(i:Nat) f,r[i]?=some f→zE f=true∧fieldAt all f.n=((k+i:Nat):Int):=by
 intro r
 induction r with
 |nil=>grind [z2R]
 |cons g r ih=>
  intro k;rw[z2R,Bool.and_eq_true,Bool.and_eq_true,ih (k+1)];constructor
  ·grind
  ·intro h;have h0:=h 0 g (by simp);refine⟨⟨h0.1,by simpa using h0.2⟩,fun i f hf=> ?_⟩;have:=h (i+1) f (by grind)
   grind
theorem zgc{l:List Fld}(h:z6j l){i:Nat}{f:Fld}(hf:l[i]?=some f):fieldAt l f.n=i:=by
 refine z73 _ l i f hf (by simp) fun j y hj hy=> ?_;rw[beq_eq_false_iff_ne];intro he;have:=h j i y f hy hf he;omega
theorem z16(c:Cls):zd c=true ↔ zb c.n=true∧c.fs.length≤8∧(∀f∈c.fs,zE f=true)∧z6j c.fs:=by
 rw[zd,Bool.and_eq_true,Bool.and_eq_true,zhJ,decide_eq_true_iff];constructor
 ·rintro⟨⟨h1,h2⟩,h3⟩;refine⟨h1,h2,fun f hf=> ?_,fun i j f g hi hj he=> ?_⟩
  ·grind [List.getElem?_of_mem]
  ·grind
 ·grind [List.mem_of_getElem?,zgc]
theorem zjS(j:Int)(h0:0≤j)(h1:j<6):zb (nmF j)=true∧(nmF j).length≤8:=by
 have:j=0∨j=1∨j=2∨j=3∨j=4∨j=5:=by omega
 rcases this with rfl|rfl|rfl|rfl|rfl|rfl<;>decide
theorem zjR(j:Int)(h0:0≤j)(h1:j<6):zb (nmC j)=true∧(nmC j).length≤8:=by
 have:j=0∨j=1∨j=2∨j=3∨j=4∨j=5:=by omega
 rcases this with rfl|rfl|rfl|rfl|rfl|rfl<;>decide
theorem zcM(r:RawF):zE (z3h r)=true∧(z3h r).n.length≤8:=by
 have h1:=z05 r.n 6 (by omega);have h2:=z05 r.k 5 (by omega);have h3:=z05 r.o 4 (by omega);have h4:=zjS _ h1.1 h1.2;refine⟨?_,h4.2⟩;simp only[zE,z3h,h4.1,Bool.true_and,Bool.and_eq_true]
 grind [zi]
theorem zc2{l:List Fld}{f:Fld}(h:z6j l)(hn:fieldAt l f.n<0):z6j (l++[f]):=by
 have hno:=(z4M _ _).1 hn;intro i j a b ha hb he;rw[List.getElem?_append]at ha hb;split at ha<;>split at hb
 ·exact h i j a b ha hb he
 ·grind
 ·grind
 ·grind
theorem zjm:∀(rs:List RawF) (acc:List Fld),(∀f∈acc,zE f=true∧f.n.length≤8)→z6j acc→
  (∀f∈rs.foldl z1J acc,zE f=true∧f.n.length≤8)∧z6j (rs.foldl z1J acc)∧(rs.foldl z1J acc).length≤acc.length+rs.length:=by
 intro rs
 induction rs with
 |nil=>intro acc h1 h2;exact⟨h1,h2,by simp⟩
 |cons r rs ih=>
  intro acc h1 h2;rw[List.foldl_cons];by_cases hn:fieldAt acc (z3h r).n<0
  ·have:z1J acc r=acc++[z3h r]:=by rw[z1J,if_pos hn]
   rw[this];have:=ih (acc++[z3h r]) (fun f hf=>by
    rcases List.mem_append.1 hf with hf|hf
    ·exact h1 f hf
    ·obtain rfl:=List.mem_singleton.1 hf;exact zcM r) (zc2 h2 hn)
   refine⟨this.1,this.2.1,?_⟩;simp at this ⊢;omega
  ·have:z1J acc r=acc:=by rw[z1J,if_neg hn]
   rw[this];have:=ih acc h1 h2;refine⟨this.1,this.2.1,?_⟩;simp at this ⊢;omega
structure GoodC(c:Cls):Prop where
 nm:zb c.n=true∧c.n.length≤8
 fs:∀f∈c.fs,zE f=true∧f.n.length≤8
 di:z6j c.fs
 len:c.fs.length≤6
theorem z7N(x:Raw):GoodC (z0n x):=by
 have h:=zjm (x.fs.take 6) [] (by simp) (by intro i j f g h;simp at h);have hb:=z05 x.n 6 (by omega);exact⟨zjR _ hb.1 hb.2,h.1,h.2.1,by have:=h.2.2;simp only[z0n];simp at this ⊢;omega⟩
theorem GoodC.right{c:Cls}(h:GoodC c):zd c=true:=(z16 c).2 ⟨h.nm.1,by have:=h.len;omega,fun f hf=>(h.fs f hf).1,h.di⟩
end
def zK(s:zB):Int:=
 if s=[42]∨s=[47]∨s=[37] then 4 else if s=[43]∨s=[45] then 3 else if s=[38] then 2
 else if s=[61]∨s=[60,62]∨s=[60]∨s=[60,61]∨s=[62]∨s=[62,61] then 1 else 0
def zt(s:zB):Int:=
 if s=[108,101,110]∨s=[116,101,120,116]∨s=[110,117,109] then 1
 else if s=[108,101,102,116]∨s=[114,105,103,104,116]∨s=[102,114,111,109]∨s=[102,105,110,100]∨s=[109,105,110]∨s=[109,97,120] then 2
 else if s=[105,102] then 3 else 0
def z0E(e:V):Bool:=
 if e.k≠1∧e.n≠0 then false
 else if e.k=1 then decide (0≤e.n)&&decide (e.n≤1000000000000000)&&e.s==[]&&e.l.length==0
 else if e.k=2 then zl e.s&&e.l.length==0
 else if e.k=3 then zb e.s&&e.l.length==0
 else if e.k=4 then decide (0<zK e.s)&&e.l.length==2
 else if e.k=5 then e.s==[45]&&e.l.length==1
 else if e.k=6 then decide (0<zt e.s)&&decide ((e.l.length:Int)=zt e.s)
 else false
def okE:Nat→V→Bool
 |0,_=>false
 |d+1,e=>z0E e&&e.l.all (okE d)
def szE:Nat→V→Nat
 |0,_=>1
 |d+1,e=>1+(e.l.map (szE d)).sum
def z0X(e:V):Bool:=okE 8 e&&decide (szE 8 e≤40)
structure Pc where
 k:Int
 n:Int
 s:zB
 p:Nat
def z1B(b:UInt8):Bool:=decide (48≤b.toNat∧b.toNat≤57)
def z19:zB→Int→Nat→Int×Nat
 |[],n,z=>(n,z)
 |b::r,n,z=>if z1B b then z19 r (min (10*n+((b.toNat:Int) - 48)) 1000000000000001) (z+1)else(n,z)
def z0L:zB→Nat
 |[]=>0
 |b::r=>if zS b then z0L r+1 else 0
def quoG:zB→zB→Nat→Option (zB×Nat)
 |[],_,_=>none
 |b::r,acc,k=>if b=34 then(if zl acc then some (acc,k+1)else none)
  else if b=92 then(match r with
   |[]=>none
   |c::r'=>if c=34∨c=92 then quoG r' (acc++[c]) (k+2)else none)
  else quoG r (acc++[b]) (k+1)
def z11:zB→zB
 |[]=>[]
 |b::r=>if b=60 then(if r.head?=some 62 then [60,62] else if r.head?=some 61 then [60,61] else [60])
  else if b=62 then(if r.head?=some 61 then [62,61] else [62])
  else if b=61∨b=38∨b=43∨b=45∨b=42∨b=47∨b=37∨b=40∨b=41∨b=44 then [b] else []
def z0e(l:zB)(at_:Nat):Option (Pc×Nat):=
 match l with
 |[]=>none
 |b::r=>
  if z1B b then(if 1000000000000000<(z19 l 0 0).1 then none else some (⟨1,(z19 l 0 0).1,[],at_⟩,(z19 l 0 0).2))
  else if small b then(if zb (l.take (z0L l))then some (⟨3,0,l.take (z0L l),at_⟩,z0L l)else none)
  else if b=34 then(match quoG r [] 1 with
   |some (t,k)=>some (⟨2,0,t,at_⟩,k)
   |none=>none)
  else if z11 l=[] then none else some (⟨4,0,z11 l,at_⟩,(z11 l).length)
inductive Lx where
 |ok (L:List Pc)
 |bad (p:Nat)
def z0U:Nat→zB→Nat→List Pc→Option Lx
 |0,_,_,_=>none
 |f+1,l,at_,acc=>match l with
  |[]=>some (.ok acc)
  |b::r=>if b=32 then z0U f r (at_+1) acc else match z0e l at_ with
   |none=>some (.bad at_)
   |some (q,z)=>z0U f (l.drop z) (at_+z) (acc++[q])
inductive Rs(α:Type) where
 |ok (e:α) (p:Nat)
 |bad (a p:Nat)
def pkP(L:List Pc)(sz p:Nat):Pc:=(L[p]?).getD ⟨0,0,[],sz⟩
def z00(q:Pc)(t:zB):Bool:=q.k==4&&q.s==t
mutual
def pE(L:List Pc)(sz:Nat):Nat→Int→Nat→Option (Rs V)
 |0,_,_=>none
 |f+1,zu,p=>match pT L sz f p with
  |some (.ok e p')=>pL L sz f zu e p'
  |some (.bad a p')=>some (.bad a p')
  |none=>none
def pL(L:List Pc)(sz:Nat):Nat→Int→V→Nat→Option (Rs V)
 |0,_,_,_=>none
 |f+1,zu,e,p=>
  if(pkP L sz p).k≠4∨zK (pkP L sz p).s<zu then some (.ok e p)
  else match pE L sz f (zK (pkP L sz p).s+1) (p+1)with
   |some (.ok e2 p2)=>pL L sz f zu (.mk 4 0 (pkP L sz p).s [e,e2]) p2
   |some (.bad a p')=>some (.bad a p')
   |none=>none
def pT(L:List Pc)(sz:Nat):Nat→Nat→Option (Rs V)
 |0,_=>none
 |f+1,p=>
  if z00 (pkP L sz p) [40] then(match pE L sz f 1 (p+1)with
   |some (.ok e p')=>if z00 (pkP L sz p') [41] then some (.ok e (p'+1))else some (.bad (pkP L sz p').p p')
   |some (.bad a p')=>some (.bad a p')
   |none=>none)
  else if z00 (pkP L sz p) [45] then(match pT L sz f (p+1)with
   |some (.ok e p')=>some (.ok (.mk 5 0 [45] [e]) p')
   |some (.bad a p')=>some (.bad a p')
   |none=>none)
  else if(pkP L sz p).k=1 then some (.ok (.mk 1 (pkP L sz p).n [] []) (p+1))
  else if(pkP L sz p).k=2 then some (.ok (.mk 2 0 (pkP L sz p).s []) (p+1))
  else if(pkP L sz p).k=3 then(if 0<zt (pkP L sz p).s∧z00 (pkP L sz (p+1)) [40]=true then(match pH L sz f (zt (pkP L sz p).s).toNat 0 (p+2) []with
    |some (.ok l p')=>some (.ok (.mk 6 0 (pkP L sz p).s l) p')
    |some (.bad a p')=>some (.bad a p')
    |none=>none)
   else some (.ok (.mk 3 0 (pkP L sz p).s []) (p+1)))
  else some (.bad (pkP L sz p).p (p+1))
def pH(L:List Pc)(sz:Nat):Nat→Nat→Nat→Nat→List V→Option (Rs (List V))
 |0,_,_,_,_=>none
 |f+1,n,k,p,acc=>
  if k<n then(if 0<k∧z00 (pkP L sz p) [44]=false then some (.bad (pkP L sz p).p p)
   else match pE L sz f 1 (if 0<k then p+1 else p)with
    |some (.ok e p')=>pH L sz f n (k+1) p' (acc++[e])
    |some (.bad a p')=>some (.bad a p')
    |none=>none)
  else if z00 (pkP L sz p) [41] then some (.ok acc (p+1))else some (.bad (pkP L sz p).p p)
end
def z2x(f:Nat)(l:zB):Option (V×Int×Int):=
 if 200<l.length then some (V.nil,200,50)
 else match z0U (l.length+1) l 0 []with
  |none=>none
  |some (.bad a)=>some (V.nil,a,50)
  |some (.ok L)=>match pE L l.length f 1 0 with
   |some (.ok e p)=>if p<L.length then some (V.nil,(pkP L l.length p).p,50)else if z0X e then some (e,0,0)else some (V.nil,0,51)
   |some (.bad a _)=>some (V.nil,a,50)
   |none=>none
abbrev T3:=Int×Int×zB
def er(q:Pc):T3:=(q.k,q.n,q.s)
def sg(s:zB):T3:=(4,0,s)
def ze3(e:V)(zu:Int)(t:List T3):List T3:=if e.k=4∧zK e.s<zu then sg [40]::(t++[sg [41]])else t
def zqV:List (List T3)→List T3
 |[]=>[]
 |x::r=>x++(r.map fun y=>sg [44]::y).flatten
def zbL:Nat→V→List T3
 |0,_=>[]
 |d+1,e=>
  if e.k=1 then [(1,e.n,[])]
  else if e.k=2 then [(2,0,e.s)]
  else if e.k=5 then sg [45]::ze3 (e.l.getD 0 V.nil) 5 (zbL d (e.l.getD 0 V.nil))
  else if e.k=4 then ze3 (e.l.getD 0 V.nil) (zK e.s) (zbL d (e.l.getD 0 V.nil))++sg e.s::ze3 (e.l.getD 1 V.nil) (zK e.s+1) (zbL d (e.l.getD 1 V.nil))
  else if e.k=6 then(3,0,e.s)::sg [40]::(zqV (e.l.map (zbL d))++[sg [41]])
  else [(3,0,e.s)]
def LexP(t:zB)(ts:List T3)(post:zB):Prop:=
 ∀(f a:Nat) (acc:List Pc),t.length+post.length<f→∃f' L,post.length<f'∧L.map er=ts∧z0U f (t++post) a acc=z0U f' post (a+t.length) (acc++L)
theorem LexP.nil(post:zB):LexP [] [] post:=fun f a acc h=>⟨f,[],by simpa using h,rfl,by simp⟩
theorem LexP.app{t1 t2:zB}{ts1 ts2:List T3}{post:zB}(h1:LexP t1 ts1 (t2++post))(h2:LexP t2 ts2 post):LexP (t1++t2) (ts1++ts2) post:=by
 intro f a acc hf;obtain⟨f1,L1,a1,a2,a3⟩:=h1 f a acc (by grind);obtain⟨f2,L2,b1,b2,b3⟩:=h2 f1 (a+t1.length) (acc++L1) (by grind);refine⟨f2,L1++L2,b1,by rw[List.map_append,a2,b2],?_⟩
 grind
theorem LexP.one{t:zB}{q:T3}{post:zB}{b:UInt8}{r:zB}(ht:t=b::r)(hb:b≠32)(h:∀a,∃p,z0e (t++post) a=some (p,t.length)∧er p=q):LexP t [q] post:=by
 intro f a acc hf;obtain⟨f,rfl⟩:∃g,f=g+1:=⟨f-1,by omega⟩
 obtain⟨p,h1,h2⟩:=h a;refine⟨f,[p],by subst ht;simp at hf;omega,by simp[h2],?_⟩
 grind [z0U]
theorem zoV(d:Nat)(hd:d<10):(UInt8.ofNat (48+d)).toNat=48+d:=by rw[UInt8.toNat_ofNat'];omega
theorem zoc(post acc:zB)(k:Nat):quoG (34::post) acc k=if zl acc then some (acc,k+1)else none:=by
 rw[quoG.eq_def];rfl
theorem zod(c:UInt8)(r acc:zB)(k:Nat):quoG (92::c::r) acc k=if c=34∨c=92 then quoG r (acc++[c]) (k+2)else none:=by
 grind [quoG]
theorem zpx{b:UInt8}(h1:b≠34)(h2:b≠92)(r acc:zB)(k:Nat):quoG (b::r) acc k=quoG r (acc++[b]) (k+1):=by
 rw[quoG.eq_def];simp only[if_neg h1,if_neg h2]
theorem zfg{s:zB}(h:0<zK s):s=[42]∨s=[47]∨s=[37]∨s=[43]∨s=[45]∨s=[38]∨s=[61]∨s=[60,62]∨s=[60]∨s=[60,61]∨s=[62]∨s=[62,61]:=by
 grind [zK]
theorem z98{d:Nat}{e:V}(h:okE (d+1) e=true):z0E e=true∧∀x∈e.l,okE d x=true:=by
 rw[okE,Bool.and_eq_true]at h
 grind
theorem zhG{e:V}(h:z0E e=true)(hk:e.k=1):0≤e.n∧e.n≤1000000000000000∧e.s=[]∧e.l=[]:=by
 grind [z0E]
theorem zaP{e:V}(h:z0E e=true)(hk:e.k≠1):e.n=0:=by
 grind [z0E]
theorem zaQ{e:V}(h:z0E e=true)(hk:e.k=2):e.n=0∧zl e.s=true∧e.l=[]:=by
 grind [zaP,z0E]
theorem zhH{e:V}(h:z0E e=true)(hk:e.k=3):e.n=0∧zb e.s=true∧e.l=[]:=by
 grind [zaP,z0E]
theorem z95{e:V}(h:z0E e=true)(hk:e.k=4):e.n=0∧0<zK e.s∧∃a b,e.l=[a,b]:=by
 have h0:=zaP h (by omega);unfold z0E at h;rw[if_neg (by simp[h0]),if_neg (by omega),if_neg (by omega),if_neg (by omega),if_pos hk]at h;simp at h;refine⟨h0,h.1,?_⟩
 match hl:e.l,h.2 with
 |[a,b],_=>simp
theorem zaR{e:V}(h:z0E e=true)(hk:e.k=5):e.n=0∧e.s=[45]∧∃a,e.l=[a]:=by
 have h0:=zaP h (by omega);unfold z0E at h;rw[if_neg (by simp[h0]),if_neg (by omega),if_neg (by omega),if_neg (by omega),if_neg (by omega),if_pos hk]at h;simp at h;refine⟨h0,h.1,?_⟩
 match hl:e.l,h.2 with
 |[a],_=>simp
theorem z96{e:V}(h:z0E e=true)(hk:e.k=6):e.n=0∧0<zt e.s∧(e.l.length:Int)=zt e.s:=by
 grind [zaP,z0E]
theorem z3X{e:V}(h:z0E e=true):e.k=1∨e.k=2∨e.k=3∨e.k=4∨e.k=5∨e.k=6:=by
 grind [z0E]
section
section
variable{L:List Pc}{sz p:Nat}{t:T3}{ts r post:List T3}
end
def NP(post:List T3):Prop:=∀t r,post=t::r→t.1=4∧t.2.2≠[40]
def zqk(zu:Int)(post:List T3):Prop:=∀t r,post=t::r→t.1=4→zK t.2.2<zu
def PK(d:Nat):Prop:=∀e,okE d e=true→∀(m zu:Int),zu≤m→∀(L:List Pc) (sz p:Nat) (post:List T3),(L.drop p).map er=ze3 e m (zbL d e)++post→NP post→(e.k=4→m≤zK e.s→zqk (zK e.s+1) post)→
 ∃F j,∀f,F≤f→pE L sz (f+j) zu p=pL L sz f zu e (p+(ze3 e m (zbL d e)).length)
end
end Go.Mor
end
