/- Merged texts: S4 S5. No statement of the program is proved here. -/
import Derived.Test.YtpmlapgbmgbilaaGreatDoorR2
import Derived.Great.BuildSlice
set_option linter.unusedSimpArgs false
set_option linter.unusedVariables false
set_option maxRecDepth 100000
set_option maxHeartbeats 8000000
section
namespace Go.Sh
open Go Go.RowKit
def zq{α:Type}(P:Program):Sem α→Option α
 | .pure a=>some a
 | .program k=>zq P (k P)
 | .mark _ k=>zq P k
 |_=>none
theorem zh2{α:Type}{P:Program}{m:Sem α}{x:α}(h:zq P m=some x)(w:World):m.run P w=.ok x w:=by
 induction m with
 |pure a=>simp[zq]at h;subst h;rfl
 |program k ih=>simp only[zq]at h;simp only[Sem.run];exact ih _ h
 |mark m k ih=>simp only[zq]at h;simp only[Sem.run];exact ih h
 |_=>simp[zq]at h
theorem z02{α β:Type}(P:Program)(m:Sem α)(f:α→Sem β):zq P (m>>=f)=(zq P m).bind fun x=>zq P (f x):=by
 show zq P (m.bind f)=_
 induction m with
 |pure a=>rfl
 |program k ih=>simp only[Sem.bind,zq];exact ih P
 |mark m k ih=>simp only[Sem.bind,zq];exact ih
 |_=>simp[Sem.bind,zq]
theorem z2a{α:Type}(P:Program)(x:α):zq P (pure x:Sem α)=some x:=rfl
def seqO{α β:Type}(f:α→Option β):List α→Option (List β)
 |[]=>some []
 |x::l=>match f x,seqO f l with
  |some y,some ys=>some (y::ys)
  |_,_=>none
theorem z6E{α β:Type}{f:α→Option β}{x:α}{l:List α}{ys:List β}(h:seqO f (x::l)=some ys):∃y zs,f x=some y∧seqO f l=some zs∧ys=y::zs:=by
 simp only[seqO]at h
 grind
theorem z00{α β:Type}{f:α→Option β}:∀{l:List α} {ys:List β},seqO f l=some ys→l.length=ys.length∧∀(i:Nat) x,l[i]?=some x→∃y,ys[i]?=some y∧f x=some y
 |[],ys,h=>by simp[seqO]at h;subst h;simp
 |x::l,ys,h=>by
  obtain⟨y,zs,h1,h2,rfl⟩:=z6E h;obtain⟨h3,h4⟩:=z00 h2
  grind
theorem z3I{α β:Type}{f g:α→Option β}:∀{l:List α},(∀x∈l,f x=g x)→seqO f l=seqO g l
 |[],_=>rfl
 |x::l,h=>by
  have:=z3I (l:=l) (fun y hy=>h y (List.mem_cons_of_mem _ hy));simp only[seqO,h x (List.mem_cons_self ..),this]
inductive Arg where
 |tmp (t:Nat)
 |val (v:Value)
def Arg.of:Operand→Arg
 | .tmp t=> .tmp t
 | .const v=> .val v
 | .global g=> .val (.pointer (some ⟨g,0,none⟩))
 | .func f=> .val (.func (.func f) #[] #[])
def Arg.get(s:FS):Arg→Option TV
 | .tmp t=>s.t t
 | .val v=>some (.pv (.v v))
def Arg.reads:Arg→List Nat
 | .tmp t=>[t]
 | .val _=>[]
inductive SOp where
 |mov (x:Arg)
 |pick (c a b:Arg)
 |bin (op:BinOp) (t:TypeId) (x y:Arg)
 |un (op:UnOp) (x:Arg)
 |cvi (k:IntKind) (x:Arg)
 |cvs (x:Arg)
 |b2s (x:Arg)
 |imm (mx:Bool) (x y:Arg)
 |sidx (x i:Arg)
 |ssub (x:Arg) (lo hi:Option Arg)
 |slen (x:Arg)
 |new (zero:List Value)
 |box (x:Arg)
 |build (zero:List Value) (parts:List (Nat×Nat×Arg))
 |bsl (W:Nat) (xs:List Arg)
 |fld (agg:Bool) (off size:Nat) (x:Arg)
 |fldA (off:Nat) (x:Arg)
 |ld (agg:Bool) (size:Nat) (x:Arg)
 |st (size:Nat) (x y:Arg)
 |len (x:Arg)
 |idxA (W:Nat) (x i:Arg)
 |sub (W:Nat) (x:Arg) (lo hi:Option Arg)
 |app (e W bytes:Nat) (x y:Arg)
 |appS (e bytes:Nat) (x y:Arg)
 |appN (e W bytes:Nat) (x y:Arg)
 |appNS (e bytes:Nat) (x y:Arg)
 |appB (e W bytes:Nat) (x y:Arg)
 |call (f:Nat) (mode:Nat) (xs:List Arg)
 |callv (x:Arg) (mode:Nat) (xs:List Arg)
 |ext (x:Arg) (i:Nat)
 |nchk (x:Arg)
 |mkf (f:Fn) (first captured:List Arg)
 |rng (x:Arg)
 |nxt (x:Arg)
 |mks (t:Bool) (bytes:Nat) (zero:List Value) (n:Arg)
 |bslO (e W:Nat) (xs:List Arg)
 |bslB (W:Nat) (xs:List Arg)
 |bsl0 (W:Nat)
 |lkp (text:Bool) (zero:Value) (x i:Arg)
 |mkI (t:TypeId) (x:Arg)
 |pan (x:Arg)
 |fnil (ne:Bool) (x:Arg)
 |bad
 |mkm
def TV.val1:TV→Option Value
 | .pv (.v x)=>some x
 |_=>none
def TV.val:TV→Option Value
 | .agg cs=>(seqO TV.val1 cs).map fun l=> .agg l.toArray
 |t=>t.val1
def TV.cells:TV→Option (List TV)
 | .agg cs=>some cs
 | .tuple _=>none
 | .unk=>none
 | .pv (.v x)=>if x.oneCell' then some [.pv (.v x)] else none
 |t=>some [t]
def TV.toPV:TV→Option PV
 | .pv p=>some p
 | .own _ W es=>some (.sl W es)
 |_=>none
def TV.pvs(t:TV):Option (List PV):=t.cells.bind fun cs=>seqO TV.toPV cs
def TV.elems(W:Nat):TV→Option (List (List PV))
 | .pv (.sl W' es)=>if Nat.beq W' W then some es else none
 | .own _ W' es=>if Nat.beq W' W then some es else none
 | .pv (.v (.slice none 0 0))=>some []
 |_=>none
def TV.isNil:TV→Bool
 | .pv (.v (.slice none 0 0))=>true
 |_=>false
def TV.slen:TV→Option Nat
 | .pv (.sl _ es)=>some es.length
 | .own _ _ es=>some es.length
 | .pv (.v (.slice _ n _))=>some n
 | .bs _ _ n _=>some n
 |_=>none
def TV.str:TV→Option ByteArray
 | .pv (.v (.string b))=>some b
 |_=>none
def z0C(b:ByteArray):List (List PV):=b.data.toList.map fun u=>[.v (.int .u8 u.toNat)]
def byteOf:List PV→Option UInt8
 |[.v (.int .u8 n)]=>some (UInt8.ofNat n.toNat)
 |_=>none
def TV.int:TV→Option Int
 | .pv (.v (.int _ i))=>some i
 |_=>none
def TV.callee:TV→Option (Nat×List TV×List TV)
 | .fn (.func f) a b=>some (f,a,b)
 | .pv (.fn (.func f) a b)=>some (f,a.map .pv,b.map .pv)
 | .pv (.v (.func (.func f) ⟨[]⟩ ⟨[]⟩))=>some (f,[],[])
 |_=>none
def TV.fnil:TV→Option Bool
 | .fn _ _ _=>some false
 | .pv (.fn _ _ _)=>some false
 | .pv (.v .nilFunc)=>some true
 | .pv (.v (.func _ _ _))=>some false
 |_=>none
inductive MO where
 |box (cs:List TV)
 |row (e W n:Nat)
inductive Upd where
 |no
 |box (cs:List TV)
 |wr (d:Nat) (cs:List TV)
 |row (d:Nat) (q:Nat×Nat×Nat)
 |mem (us:List (Nat×MO))
 |it (d:Nat) (q:ByteArray×Nat)
def TV.ren0(ρ:Nat→Option Nat):TV→Option TV
 | .pv p=>some (.pv p)
 | .unk=>some .unk
 | .ptr d o=>(ρ d).map fun d'=> .ptr d' o
 | .own d W es=>some (match ρ d with|some d'=> .own d' W es|none=> .pv (.sl W es))
 | .bs d o n c=>(ρ d).map fun d'=> .bs d' o n c
 | .tsl W es=>some (.tsl W es)
 |_=>none
def TV.renF(ρ:Nat→Option Nat):TV→Option TV
 | .fn f a b=>match seqO (TV.ren0 ρ) a,seqO (TV.ren0 ρ) b with
  |some a',some b'=>some (.fn f a' b')
  |_,_=>none
 |t=>t.ren0 ρ
def TV.renE(ρ:Nat→Option Nat):TV→Option TV
 | .agg cs=>(seqO (TV.renF ρ) cs).map .agg
 |t=>t.renF ρ
def TV.ren1(ρ:Nat→Option Nat):TV→Option TV
 | .mp ks xs=>(seqO (TV.renE ρ) xs).map (.mp ks)
 |t=>t.renF ρ
def TV.ren2(ρ:Nat→Option Nat):TV→Option TV
 | .agg cs=>(seqO (TV.ren1 ρ) cs).map .agg
 |t=>t.ren1 ρ
def TV.ren3(ρ:Nat→Option Nat):TV→Option TV
 | .tuple ts=>(seqO (TV.ren2 ρ) ts).map .tuple
 |t=>t.ren2 ρ
def MO.ren(ρ:Nat→Option Nat):MO→Option MO
 | .box cs=>(seqO (TV.ren1 ρ) cs).map .box
 | .row e W n=>some (.row e W n)
def TV.ids0:TV→List Nat
 | .ptr d _=>[d]
 | .bs d _ _ _=>[d]
 | .own d _ _=>[d]
 |_=>[]
def TV.idsF:TV→List Nat
 | .fn _ a b=>a.flatMap TV.ids0++b.flatMap TV.ids0
 |t=>t.ids0
def TV.idsE:TV→List Nat
 | .agg cs=>cs.flatMap TV.idsF
 |t=>t.idsF
def TV.ids1:TV→List Nat
 | .mp _ xs=>xs.flatMap TV.idsE
 |t=>t.idsF
def TV.ids2:TV→List Nat
 | .agg cs=>cs.flatMap TV.ids1
 |t=>t.ids1
def pos:List Nat→Nat→Option Nat
 |[],_=>none
 |x::l,d=>if Nat.beq x d then some 0 else(pos l d).map (·+1)
def zx(s:FS)(rows:Bool):Nat→List Nat→List Nat→List Nat
 |0,_,seen=>seen
 |_,[],seen=>seen
 |f+1,d::l,seen=>match pos seen d with
  |some _=>zx s rows f l seen
  |none=>match s.b d with
   |some cs=>zx s rows f (cs.flatMap TV.ids1++l) (seen++[d])
   |none=>match s.r d,rows with
    |some _,true=>zx s rows f l (seen++[d])
    |_,_=>zx s rows f l seen
def rhoIn(I:List Nat)(d:Nat):Option Nat:=(pos I d).map (1000+·)
def newId(k q:Nat):Nat:=2000+4*k+q
def rhoOut(I:List Nat)(k:Nat)(d:Nat):Option Nat:=
 if Nat.ble 1000 d then match I[d-1000]? with
  |some i=>some i
  |none=>if Nat.blt (d-1000-I.length) 4 then some (newId k (d-1000-I.length))else none
 else none
def FS.mo(s:FS)(d:Nat):Option MO:=match s.b d,s.r d with
 |some cs,none=>some (.box cs)
 |none,some (e,W,n)=>some (.row e W n)
 |_,_=>none
def moOk:List MO→List MO→Bool
 |[],l=>Nat.ble l.length 4
 | .box _::l,.box _::l'=>moOk l l'
 | .row e W n::l,.row e' W' n'::l'=>Nat.beq e e'&&Nat.beq W W'&&Nat.ble n n'&&moOk l l'
 |_,_=>false
def outs(ρ:Nat→Option Nat):Nat→List MO→Option (List (Nat×MO))
 |_,[]=>some []
 |j,m::l=>match ρ (1000+j),m.ren ρ,outs ρ (j+1) l with
  |some i,some m',some r=>some ((i,m')::r)
  |_,_,_=>none
abbrev z0m:=Nat→List TV→List MO→Option (TV×List MO)
def z2K(C:z0m)(s:FS)(k f mode:Nat)(xs:List TV):Option (TV×Upd):=
 let I:=if Nat.beq mode 0 then [] else zx s (Nat.beq mode 2) 64 (xs.flatMap TV.ids2) []
 match seqO (TV.ren2 (rhoIn I)) xs,seqO (fun d=>(s.mo d).bind (MO.ren (rhoIn I))) I with
 |some xs',some os=>match C f xs' os with
  |some (y,os')=>if moOk os os' then match y.ren3 (rhoOut I k),outs (rhoOut I k) 0 os' with
    |some y',some us=>some (y',.mem us)
    |_,_=>none
   else none
  |none=>none
 |_,_=>none
def fillT(cs:List TV):List (Nat×Nat×List TV)→Option (List TV)
 |[]=>some cs
 |(off,size,xs)::zy=>if xs.length=size∧off+size≤cs.length then fillT (splice cs off xs) zy else none
def partsT(s:FS)(parts:List (Nat×Nat×Arg)):Option (List (Nat×Nat×List TV)):=
 seqO (fun p:Nat×Nat×Arg=>((p.2.2.get s).bind TV.cells).map fun xs=>(p.1,p.2.1,xs)) parts
def bound(s:FS)(dflt:Nat):Option Arg→Option Nat
 |none=>some dflt
 |some x=>((x.get s).bind TV.int).bind fun i=>if 0≤i then some i.toNat else none
def dstId(dst:Option Nat):Nat:=match dst with|some d=>d|none=>900
def kdOf(text:Bool):TypeDesc:=if text then .string else .int .i64
def findKs(kd:TypeDesc)(k:Value):List Value→Nat→Option (Option Nat)
 |[],_=>some none
 |e::l,i=>match Instr.sameNow kd k e with
  |some true=>some (some i)
  |some false=>findKs kd k l (i+1)
  |none=>none
def zeroT(z:Value):TV:=match z with| .agg cs=> .agg (cs.toList.map fun v=> .pv (.v v))|v=> .pv (.v v)
def z05(P:Program)(m:Sem Value):Option (TV×Upd):=(zq P m).map fun v=>(.pv (.v v),.no)
def eff(P:Program)(C:z0m)(dst:Option Nat)(o:SOp)(s:FS):Option (TV×Upd):=
 match o with
 | .mov x=>(x.get s).map fun v=>(v,.no)
 | .pick c a b=>match c.get s with
  |some (.pv (.v (.bool t)))=>((if t then a else b).get s).map fun v=>(v,.no)
  |_=>none
 | .bin op t x y=>match(x.get s).bind TV.val,(y.get s).bind TV.val with
  |some .nilIface,some .nilIface=>none
  |some vx,some vy=>z05 P (do eqGuard op t (.const vx) (.const vy) vx vy;binOp op t vx vy)
  |_,_=>none
 | .un op x=>match(x.get s).bind TV.val with
  |some v=>z05 P (Op.unary op v)
  |none=>none
 | .cvi k x=>((x.get s).bind TV.int).map fun n=>(.pv (.v (.int k (k.wrap n))),.no)
 | .cvs x=>((x.get s).bind TV.str).map fun n=>(.pv (.v (.string n)),.no)
 | .b2s x=>(((x.get s).bind (TV.elems 1)).bind (seqO byteOf)).map fun l=>(.pv (.v (.string ⟨l.toArray⟩)),.no)
 | .imm mx x y=>match x.get s,y.get s with
  |some (.pv (.v (.int .i64 a))),some (.pv (.v (.int .i64 b)))=>some (.pv (.v (.int .i64 (if mx then max a b else min a b))),.no)
  |_,_=>none
 | .sidx x i=>match(x.get s).bind TV.str,(i.get s).bind TV.int with
  |some z,some k=>if 0≤k then(z.data.toList[k.toNat]?).map fun(b:UInt8)=>(.pv (.v (.int .u8 b.toNat)),.no)else none
  |_,_=>none
 | .ssub x lo hi=>match(x.get s).bind TV.str with
  |some z=>match bound s 0 lo,bound s z.size hi with
   |some l,some h=>if l≤h∧h≤z.size then some (.pv (.v (.string (z.extract l h))),.no)else none
   |_,_=>none
  |none=>none
 | .slen x=>((x.get s).bind TV.str).map fun z=>(.pv (.v (.int .i64 (z.size:Int))),.no)
 | .new zero=>match dst with
  |some d=>some (.ptr d 0,.box (zero.map fun v=> .pv (.v v)))
  |none=>none
 | .box x=>match dst with
  |some d=>((x.get s).bind TV.cells).map fun cs=>(.ptr d 0,.box cs)
  |none=>none
 | .build zero parts=>(partsT s parts).bind fun ps=>(fillT (zero.map fun v=> .pv (.v v)) ps).map fun cs=>(.agg cs,.no)
 | .bsl W xs=>(seqO (fun x:Arg=>(x.get s).bind TV.pvs) xs).bind fun es=>if es.all (fun e=>e.length==W)then some (.pv (.sl W es),.no)else none
 | .fld agg off size x=>match x.get s with
  |some (.agg cs)=>if agg then(if off+size≤cs.length then some (.agg ((cs.drop off).take size),.no)else none)else(cs[off]?).map fun c=>(c,.no)
  |_=>none
 | .fldA off x=>match x.get s with
  |some (.ptr d o)=>some (.ptr d (o+off),.no)
  |some (.pv (.el cs))=>some (.pv (.el (cs.drop off)),.no)
  |_=>none
 | .ld agg size x=>match x.get s with
  |some (.ptr d o)=>(s.b d).bind fun cs=>if agg then(if o+size≤cs.length then some (.agg ((cs.drop o).take size),.no)else none)else(cs[o]?).map fun c=>(c,.no)
  |some (.pv (.el cs))=>if agg then(if size≤cs.length then some (.agg ((cs.take size).map .pv),.no)else none)else(cs[0]?).map fun c=>(.pv c,.no)
  |_=>none
 | .st size x y=>match x.get s with
  |some (.ptr d o)=>(s.b d).bind fun cs=>((y.get s).bind TV.cells).bind fun xs=>if xs.length=size∧o+size≤cs.length then some (.pv (.v undef),.wr d (splice cs o xs))else none
  |_=>none
 | .len x=>((x.get s).bind TV.slen).map fun(n:Nat)=>(.pv (.v (.int .i64 (n:Int))),.no)
 | .idxA W x i=>match x.get s,(i.get s).bind TV.int with
  |some (.bs d off n _),some k=>if 0≤k∧k<n then some (.ptr d (off+k.toNat*W),.no)else none
  |some t,some k=>if 0≤k then((t.elems W).bind fun es=>es[k.toNat]?).map fun cs=>(.pv (.el cs),.no)else none
  |_,_=>none
 | .sub W x lo hi=>match x.get s with
  |some (.bs d off n c)=>match bound s 0 lo,bound s n hi with
   |some l,some h=>if l≤h∧h≤n∧n≤c then some (if c=l then .pv (.sl W [])else .bs d (off+l*W) (h-l) (c-l),.no)else none
   |_,_=>none
  |some t=>match t.elems W with
   |some es=>match bound s 0 lo,bound s es.length hi with
    |some l,some h=>if l≤h∧h≤es.length then some (.pv (.sl W ((es.take h).drop l)),.no)else none
    |_,_=>none
   |none=>none
  |none=>none
 | .app e W bytes x y=>match x.get s,(y.get s).bind (TV.elems W)with
  |some (.own d W' es),some es2=>if W'=W∧s.r d=some (e,W,es.length)∧(es.length+es2.length)*bytes≤140737488355328∧es.length+es2.length≤maxLen then some (.own d W (es++es2),.row d (e,W,es.length+es2.length))else none
  |_,_=>none
 | .appN e W bytes x y=>match dst,x.get s,(y.get s).bind (TV.elems W)with
  |some d,some (.pv (.v (.slice none 0 0))),some es2=>if es2.length*bytes≤140737488355328∧es2.length≤maxLen then some (.own d W es2,.row d (e,W,es2.length))else none
  |some d,some (.tsl W' es),some es2=>if W'=W∧0<es2.length∧(es.length+es2.length)*bytes≤140737488355328∧es.length+es2.length≤maxLen then some (.own d W (es++es2),.row d (e,W,es.length+es2.length))else none
  |_,_,_=>none
 | .appS e bytes x y=>match x.get s,(y.get s).bind TV.str with
  |some (.own d W' es),some b=>if W'=1∧s.r d=some (e,1,es.length)∧(es.length+b.size)*bytes≤140737488355328∧es.length+b.size≤maxLen then
    some (.own d 1 (es++z0C b),.row d (e,1,es.length+b.size))else none
  |_,_=>none
 | .appNS e bytes x y=>match dst,(x.get s).map TV.isNil,(y.get s).bind TV.str with
  |some d,some true,some b=>if b.size*bytes≤140737488355328∧b.size≤maxLen then some (.own d 1 (z0C b),.row d (e,1,b.size))else none
  |_,_,_=>none
 | .call f mode xs=>(seqO (fun x:Arg=>x.get s) xs).bind fun vs=>z2K C s (dstId dst) f mode vs
 | .callv x mode xs=>match(x.get s).bind TV.callee,seqO (fun x:Arg=>x.get s) xs with
  |some (f,a,b),some vs=>z2K C s (dstId dst) f mode (a++vs++b)
  |_,_=>none
 | .ext x i=>match x.get s with
  |some (.tuple ts)=>(ts[i]?).map fun c=>(c,.no)
  |_=>none
 | .nchk x=>match x.get s with
  |some (.ptr d o)=>some (.ptr d o,.no)
  |some (.pv (.el cs))=>some (.pv (.el cs),.no)
  |_=>none
 | .mkf f a b=>match seqO (fun x:Arg=>x.get s) a,seqO (fun x:Arg=>x.get s) b with
  |some a',some b'=>some (.fn f a' b',.no)
  |_,_=>none
 | .rng x=>match dst,(x.get s).bind TV.str with
  |some d,some z=>some (.it d,.it d (z,0))
  |_,_=>none
 | .nxt x=>match x.get s with
  |some (.it d)=>match s.i d with
   |some (z,p)=>if p<z.size then some (.tuple [.pv (.v (.bool true)),.pv (.v (.int .i64 (p:Int))),.pv (.v (.int .i32 (Utf8.decode z p).1))],.it d (z,p+(Utf8.decode z p).2))else some (.tuple [.pv (.v (.bool false))],.no)
   |none=>none
  |_=>none
 | .mks t bytes zero n=>match dst,n.get s with
  |some d,some (.pv (.v (.int .i64 k)))=>if 0≤k∧bytes*k≤140737488355328∧k≤maxLen then some (.bs d 0 k.toNat (if t then 0 else k.toNat),.box ((List.replicate k.toNat (zero.map fun v=>TV.pv (.v v))).flatten))else none
  |_,_=>none
 | .bslB W xs=>match dst,(seqO (fun x:Arg=>(x.get s).bind TV.cells) xs)with
  |some d,some es=>if es.all (fun e=>e.length==W)then some (.bs d 0 es.length es.length,.box es.flatten)else none
  |_,_=>none
 | .bslO e W xs=>match dst,(seqO (fun x:Arg=>(x.get s).bind TV.pvs) xs)with
  |some d,some es=>if es.all (fun e=>e.length==W)then some (.own d W es,.row d (e,W,es.length))else none
  |_,_=>none
 | .lkp text zero x i=>match x.get s,(i.get s).bind TV.val1 with
  |some (.mp ks xs),some k=>match findKs (kdOf text) k ks 0 with
   |some (some j)=>(xs[j]?).map fun t=>(t,.no)
   |some none=>some (zeroT zero,.no)
   |none=>none
  |_,_=>none
 | .mkI t x=>((x.get s).bind TV.val).map fun v=>(.pv (.v (.iface t v)),.no)
 | .pan _=>none
 | .fnil ne x=>((x.get s).bind TV.fnil).map fun b=>(.pv (.v (.bool (b !=ne))),.no)
 | .bad=>none
 | .mkm=>some (.mp [] [],.no)
 | .bsl0 W=>some (.tsl W [],.no)
 | .appB _ W bytes x y=>match dst,(x.get s).map TV.isNil,(y.get s).bind (TV.elems W)with
  |some d,some true,some es2=>if es2.length*bytes≤140737488355328∧es2.length≤maxLen then(if es2.isEmpty then some (.pv (.v (.slice none 0 0)),.no)else some (.bs d 0 es2.length es2.length,.box (es2.flatten.map .pv)))else none
  |_,_,_=>none
def z8N(us:List (Nat×MO))(f:Nat→Option (List TV)):Nat→Option (List TV):=fun j=>match us.lookup j with|some (.box cs)=>some cs|_=>f j
def z6U(us:List (Nat×MO))(f:Rows):Rows:=fun j=>match us.lookup j with|some (.row e W n)=>some (e,W,n)|_=>f j
def FS.upd(s:FS)(dst:Option Nat):Upd→FS
 | .no=>s
 | .box cs=>match dst with|some d=>s.setB d cs|none=>s
 | .wr d cs=>s.setB d cs
 | .row d q=>s.setR d q
 | .mem us=>{ s with b:=z8N us s.b,r:=z6U us s.r }
 | .it d q=>s.setI d q
def SOp.news(dst:Option Nat):SOp→List Nat
 | .new _| .box _| .appN .. | .appNS .. | .rng _| .mks .. | .bslO .. | .bslB .. | .appB .. =>match dst with|some d=>[d]|none=>[]
 | .call .. | .callv .. =>[newId (dstId dst) 0,newId (dstId dst) 1,newId (dstId dst) 2,newId (dstId dst) 3]
 |_=>[]
def zo(P:Program)(o:Oper)(h:Nat):Option SOp:=
 match o.op with
 | .move x| .assign x=>some (.mov (.of x))
 | .pick c a b=>some (.pick (.of c) (.of a) (.of b))
 | .alloc e=>match P.info? e with
  |some i=>match i.zero with
   |some z=>if z.cells.toList.all (·.oneCell')then some (.new z.cells.toList)else none
   |none=>none
  |none=>none
 | .box _ x=>some (.box (.of x))
 | .build t parts=>match P.info? t,P.underlying t with
  |some i,some (.struct fs)=>match i.zero with
   |some z=>if z.cells.toList.all (·.oneCell')&&fs.all (fun f=>(P.info? f.type).isSome)then((seqO (fun p:Nat×Operand=>match fs[p.1]? with
     |some f=>(P.info? f.type).map fun j=>(f.offset,j.size,Arg.of p.2)
     |none=>none) parts.toList).map fun ps=> .build z.cells.toList ps)else none
   |none=>none
  |some i,some (.array _ e)=>match i.zero,P.info? e with
   |some z,some j=>if z.cells.toList.all (·.oneCell')then some (.build z.cells.toList (parts.toList.map fun p=>(p.1*j.size,j.size,Arg.of p.2)))else none
   |_,_=>none
  |_,_=>none
 | .buildSlice t len parts=>match P.underlying t with
  |some (.slice e)=>match P.info? e with
   |some i=>match i.zero with
    |some z=>if parts.toList.map (·.1)=List.range len∧len*i.size≤16777216∧z.cells.size=i.size∧0<len*i.size then some (if Nat.beq h 2 then .bslB i.size (parts.toList.map fun p=>Arg.of p.2)else if Nat.beq h 1 then .bslO e i.size (parts.toList.map fun p=>Arg.of p.2)else .bsl i.size (parts.toList.map fun p=>Arg.of p.2))else if Nat.beq len 0&&parts.toList.isEmpty then some (.bsl0 i.size)else none
    |none=>none
   |none=>none
  |_=>none
 | .load t x=>match P.underlying t,P.info? t with
  |some d,some i=>some (if d.isRow then .ld true i.size (.of x)else .ld false 1 (.of x))
  |_,_=>none
 | .store t x y=>match P.info? t with
  |some i=>some (.st i.size (.of x) (.of y))
  |none=>none
 | .nilCheck x=>some (.nchk (.of x))
 | .binOp op t x y _=>match y,op,P.underlying t with
  | .const .nilFunc,.eql,some (.func _ _ _)=>some (.fnil false (.of x))
  | .const .nilFunc,.neq,some (.func _ _ _)=>some (.fnil true (.of x))
  |_,_,_=>some (.bin op t (.of x) (.of y))
 | .unOp op _ x=>some (.un op (.of x))
 | .convert src dst x=>match P.underlying src,P.underlying dst with
  |some (.int _),some (.int k)=>some (.cvi k (.of x))
  |some .string,some .string=>some (.cvs (.of x))
  |some (.slice e),some .string=>match P.underlying e with
   |some (.int .u8)=>some (.b2s (.of x))
   |_=>none
  |_,_=>none
 | .slice t x lo hi none=>match P.underlying t with
  |some .string=>some (.ssub (.of x) (lo.map .of) (hi.map .of))
  |some (.slice e)=>match P.info? e with
   |some i=>some (.sub i.size (.of x) (lo.map .of) (hi.map .of))
   |none=>none
  |_=>none
 | .fieldAddr t x f=>match P.underlying t with
  |some (.struct fs)=>match fs[f]? with
   |some fd=>match P.info? fd.type with
    |some i=>if i.size=0 then none else some (.fldA fd.offset (.of x))
    |none=>none
   |none=>none
  |_=>none
 | .field t x f=>match P.underlying t with
  |some (.struct fs)=>match fs[f]? with
   |some fd=>match P.info? fd.type,P.underlying fd.type with
    |some i,some d=>some (.fld d.isRow fd.offset i.size (.of x))
    |_,_=>none
   |none=>none
  |_=>none
 | .indexAddr t x i=>match P.underlying t with
  |some (.slice e)=>match P.info? e with
   |some j=>some (.idxA j.size (.of x) (.of i))
   |none=>none
  |some (.array n e)=>match i,P.info? e with
   | .const (.int _ k),some j=>if 0≤k∧k<n then some (.fldA (k.toNat*j.size) (.of x))else none
   |_,_=>none
  |_=>none
 | .index t x i=>match P.underlying t with
  |some .string=>some (.sidx (.of x) (.of i))
  |_=>none
 | .lookup t x i false=>match P.underlying t with
  |some (.map k e)=>match P.info? e with
   |some j=>match j.zero with
    |some z=>if z.cells.toList.all (·.oneCell')=true then(match P.underlying k with
      |some .string=>some (.lkp true z (.of x) (.of i))
      |some (.int .i64)=>some (.lkp false z (.of x) (.of i))
      |_=>none)else none
    |none=>none
   |none=>none
  |_=>none
 | .makeInterface t x=>match P.underlying t with
  |some (.interface _)=>none
  |some _=>some (.mkI t (.of x))
  |none=>none
 | .panic x=>some (.pan (.of x))
 | .makeMap _ none=>some .mkm
 | .extract x i=>some (.ext (.of x) i)
 | .makeFunc f a b=>some (.mkf f (a.toList.map .of) (b.toList.map .of))
 | .range t x=>match P.underlying t with
  |some .string=>some (.rng (.of x))
  |_=>none
 | .next x true=>some (.nxt (.of x))
 | .makeSlice t l c=>match P.underlying t,l,c with
  |some (.slice e),.tmp a,.tmp b=>if Nat.beq a b then match P.info? e with
   |some i=>match i.zero with
    |some z=>if z.cells.size=i.size∧0<i.size∧z.cells.toList.all (·.oneCell')=true then some (.mks (Nat.beq h 1) i.bytes z.cells.toList (.tmp a))else none
    |none=>none
   |none=>none else none
  |_,_,_=>none
 | .call { callee:=.builtin .len,args,argTypes }=>match argTypes.toList,args.toList with
  |[t],[x]=>match P.underlying t with
   |some (.slice _)=>some (.len (.of x))
   |some .string=>some (.slen (.of x))
   |_=>none
  |_,_=>none
 | .call { callee:=.builtin .min,args,argTypes }=>match args.toList,argTypes.toList with
  |[x,y],[t,_]=>match P.underlying t with
   |some (.int .i64)=>some (.imm false (.of x) (.of y))
   |_=>none
  |_,_=>none
 | .call { callee:=.builtin .max,args,argTypes }=>match args.toList,argTypes.toList with
  |[x,y],[t,_]=>match P.underlying t with
   |some (.int .i64)=>some (.imm true (.of x) (.of y))
   |_=>none
  |_,_=>none
 | .call { callee:=.builtin .append,args,argTypes }=>match args.toList,argTypes.toList with
  |[x,y],[t,tx]=>match P.underlying t with
   |some (.slice e)=>match P.info? e with
    |some i=>match i.zero with
     |some z=>if z.cells.size=i.size∧0<i.size then
       match P.underlying tx with
       |some (.slice _)=>some (if Nat.beq h 2 then .appB e i.size i.bytes (.of x) (.of y)else if Nat.beq h 1 then .appN e i.size i.bytes (.of x) (.of y)else .app e i.size i.bytes (.of x) (.of y))
       |some .string=>if i.size=1 then some (if Nat.beq h 1 then .appNS e i.bytes (.of x) (.of y)else .appS e i.bytes (.of x) (.of y))else none
       |_=>none
      else none
     |none=>none
    |none=>none
   |_=>none
  |_,_=>none
 | .call { callee:=.value (.func f),args,argTypes:=_ }=>match P.funcs[f]? with
  |some fn=>if fn.body.isSome&&fn.name != "runtime.NumGoroutine" then some (.call f h (args.toList.map .of))else none
  |none=>none
 | .call { callee:=.value (.tmp t),args,argTypes:=_ }=>some (.callv (.tmp t) h (args.toList.map .of))
 |_=>none
def ziy:Op→Bool
 | .makeMap .. | .mapUpdate .. | .mapEntry .. | .entryStore .. | .entry .. | .typeAssert .. | .sliceToArrayPointer .. | .convert .. | .lookup .. | .slice .. | .indexAddr .. | .index .. | .makeInterface .. | .makeSlice .. | .range .. | .next .. | .call .. =>true
 |_=>false
def zbf(P:Program)(o:Oper)(h:Nat):Option SOp:=match zo P o h with
 |some x=>some x
 |none=>if ziy o.op then some .bad else none
theorem z1w{P:Program}{o:Oper}{h:Nat}{x:SOp}(ht:zbf P o h=some x):zo P o h=some x∨(x=.bad∧ziy o.op=true):=by
 unfold zbf at ht;split at ht
 ·rename_i y hy;cases ht;exact .inl hy
 ·split at ht
  ·rename_i hb;cases ht;exact .inr ⟨rfl,hb⟩
  ·cases ht
section
section
variable{B:Base}{s:FS}{a:Act}{w w':World}{E E':Env}{r:Rows}{P:Program}
theorem zh(h:Sim B s a w E){x:Operand}{y:TV}(hx:(Arg.of x).get s=some y):RelT w E s.r y (a.eval x):=by
 cases x with
 |tmp t=>exact(h.tmp t y hx).2
 |const v=>simp[Arg.of,Arg.get]at hx;subst hx;exact .pv (.v _)
 |global g=>simp[Arg.of,Arg.get]at hx;subst hx;exact .pv (.v _)
 |func f=>simp[Arg.of,Arg.get]at hx;subst hx;exact .pv (.v _)
theorem zbi{t:TV}{v y:Value}(h:RelT w E r t v)(hy:t.val1=some y):v=y:=by
 cases h with
 |pv h=>cases h<;>grind [TV.val1]
 |_=>simp[TV.val1]at hy
theorem val_rel{t:TV}{v y:Value}(h:RelT w E r t v)(hy:t.val=some y):v=y:=by
 cases t with
 |agg cs=>
  cases h with
  |agg cs vs hl h ho=>
   simp only[TV.val]at hy;obtain⟨l,h1,rfl⟩:=gO hy;obtain⟨h2,h3⟩:=z00 h1;congr 2;apply List.ext_getElem?;intro i;rcases Nat.lt_or_ge i cs.length with hi|hi
   ·obtain⟨y,hy1,hy2⟩:=h3 i cs[i] (gE hi);rw[hy1,gE (by omega)];rw[zbi (h i cs[i] (vs[i]'(by omega)) (gE hi) (gE (by omega))) hy2]
   ·grind
 |_=>exact zbi h hy
theorem z9D(h:Sim B s a w E){x:Operand}{y:Value}(hx:((Arg.of x).get s).bind TV.val=some y):a.eval x=y:=by
 obtain⟨t,h1,h2⟩:=gB hx;exact val_rel (zh h h1) h2
structure RelL(w:World)(E:Env)(r:Rows)(cs:List TV)(vs:List Value):Prop where
 len:cs.length=vs.length
 at_:∀(j:Nat) c v,cs[j]?=some c→vs[j]?=some v→RelT w E r c v
 ones:∀v∈vs,one v
theorem z4i{t:TV}{v:Value}{cs:List TV}(h:RelT w E r t v)(hc:t.cells=some cs):∃vs:List Value,v.cells=vs.toArray∧RelL w E r cs vs:=by
 have one1:∀(t:TV) (v:Value),RelT w E r t v→v.oneCell'=true→∃vs:List Value,v.cells=vs.toArray∧RelL w E r [t] vs:=by
  intro t v h ho;refine⟨[v],?_,⟨rfl,fun j c u h1 h2=> ?_,fun u hu=> ?_⟩⟩
  ·cases v<;>first|rfl|cases ho
  ·grind
  ·grind
 cases h with
 |pv h=>
  cases h with
  |v x=>
   simp only[TV.cells]at hc;split at hc
   ·rename_i ho;cases hc;exact one1 _ _ (.pv (.v _)) ho
   ·cases hc
  |sl W es b off cap p f hp hcap hmax hW hc' hs=>
   simp only[TV.cells]at hc;cases hc;exact one1 _ _ (.pv (.sl W es b off cap p f hp hcap hmax hW hc' hs)) rfl
  |el cs b off f h1 h2=>simp only[TV.cells]at hc;cases hc;exact one1 _ _ (.pv (.el cs b off f h1 h2)) rfl
  |fn g xs ys us vs h1 h2 r1 r2=>simp only[TV.cells]at hc;cases hc;exact one1 _ _ (.pv (.fn g xs ys us vs h1 h2 r1 r2)) rfl
 |unk v=>simp[TV.cells]at hc
 |bs d off n c C h1 h2 h3=>simp only[TV.cells]at hc;cases hc;exact one1 _ _ (.bs d off n c C h1 h2 h3) rfl
 |it d=>simp only[TV.cells]at hc;cases hc;exact one1 _ _ (.it d) rfl
 |tsl W es p h=>simp only[TV.cells]at hc;cases hc;exact one1 _ _ (.tsl W es p h) rfl
 |mp ks xs b es clock g h1 h2 h3 h4 h=>simp only[TV.cells]at hc;cases hc;exact one1 _ _ (.mp ks xs b es clock g h1 h2 h3 h4 h) rfl
 |fn g xs ys us vs h1 h2 r1 r2=>simp only[TV.cells]at hc;cases hc;exact one1 _ _ (.fn g xs ys us vs h1 h2 r1 r2) rfl
 |ptr d off=>simp only[TV.cells]at hc;cases hc;exact one1 _ _ (.ptr d off) rfl
 |own d W es v h1 h2=>
  simp only[TV.cells]at hc;cases hc;obtain⟨_,_,_,_,_,rfl,_⟩:=z1g h1;exact one1 _ _ (.own d W es _ h1 h2) rfl
 |agg cs vs hl h ho=>simp only[TV.cells]at hc;cases hc;exact⟨vs,rfl,hl,h,ho⟩
 |tuple cs vs hl h=>simp[TV.cells]at hc
theorem zoI{t:TV}{v:Value}{p:PV}(h:RelT w E r t v)(hp:t.toPV=some p):RelV w E.K p v:=by
 cases h with
 |pv h=>grind [TV.toPV]
 |own d W es v h1 h2=>grind [TV.toPV]
 |_=>simp[TV.toPV]at hp
theorem zi1{t:TV}{v:Value}{ps:List PV}(h:RelT w E r t v)(hp:t.pvs=some ps):∃vs:List Value,v.cells=vs.toArray∧ps.length=vs.length∧(∀(j:Nat) c u,ps[j]?=some c→vs[j]?=some u→RelV w E.K c u∧one u):=by
 obtain⟨cs,h1,h2⟩:=gB hp;obtain⟨vs,h3,h4⟩:=z4i h h1;obtain⟨h5,h6⟩:=z00 h2;refine⟨vs,h3,by rw[←h5,h4.len],fun j c u hc hu=> ?_⟩;have hj:j<cs.length:=by grind
 obtain⟨y,hy1,hy2⟩:=h6 j cs[j] (gE hj);rw[hc]at hy1;cases hy1;exact⟨zoI (h4.at_ j _ u (gE hj) hu) hy2,h4.ones u (gM hu)⟩
theorem zlJ{W:Nat}{es:List (List PV)}{v:Value}(he:TV.elems W (.pv (.v v))=some es):v=.slice none 0 0∧es=[]:=by
 grind [TV.elems]
theorem z3j{t:TV}{v:Value}{W:Nat}{es:List (List PV)}(h:RelT w E r t v)(he:t.elems W=some es):RelV w E.K (.sl W es) v:=by
 cases t with
 |pv p=>
  cases p with
  |v x=>
   cases h with
   |pv h=>
   cases h;obtain⟨rfl,rfl⟩:=zlJ he;exact .sl W [] 0 0 0 none (fun _ _=>undef) (by simp) (by simp) (Nat.zero_le _) (by simp) (by simp) (by simp)
  |sl W' es'=>
   simp only[TV.elems]at he;split at he
   ·rename_i hw;obtain rfl:=Nat.eq_of_beq_eq_true hw;cases he;cases h<;>grind
   ·cases he
  |el=>simp[TV.elems]at he
  |fn=>simp[TV.elems]at he
 |own d W' es'=>
  simp only[TV.elems]at he;split at he
  ·rename_i hw;obtain rfl:=Nat.eq_of_beq_eq_true hw;cases he;cases h<;>grind
  ·cases he
 |_=>simp[TV.elems]at he
theorem zoE{t:TV}{v:Value}{n:Nat}(h:RelT w E r t v)(he:t.slen=some n):∃p c,v=.slice p n c:=by
 cases h with
 |pv h=>
  cases h with
  |v=>
   cases v<;>simp[TV.slen]at he
   simp_all
  |sl W' es' b off cap p f hp hcap hmax hW hc' hs=>simp[TV.slen]at he;subst he;exact⟨p,cap,rfl⟩
  |_=>simp[TV.slen]at he
 |bs d off n' c C=>simp[TV.slen]at he;subst he;exact⟨_,C,rfl⟩
 |own d W' es' v h1 h2=>
  grind [TV.slen,z1g]
 |_=>simp[TV.slen]at he
theorem z7c{t:TV}{v:Value}{i:Int}(h:RelT w E r t v)(he:t.int=some i):∃k,v=.int k i:=by
 cases h with
 |pv h=>
  cases h with
  |v=>cases v<;>simp[TV.int]at he;subst he;exact⟨_,rfl⟩
  |_=>simp[TV.int]at he
 |_=>simp[TV.int]at he
theorem z59{t:TV}{v:Value}{b:ByteArray}(h:RelT w E r t v)(he:t.str=some b):v=.string b:=by
 cases h with
 |pv h=>
  cases h with
  |v=>cases v<;>simp[TV.str]at he;subst he;rfl
  |_=>simp[TV.str]at he
 |_=>grind [TV.str]
theorem RelL.splice{cs xs:List TV}{vs us:List Value}(h1:RelL w E r cs vs)(h2:RelL w E r xs us){off:Nat}(hle:off+xs.length≤cs.length):RelL w E r (splice cs off xs) (splice vs off us):=by
 have l1:=h1.len;have l2:=h2.len;refine⟨by rw[z5F hle,z5F (by omega),l1],fun j c v hc hv=> ?_,fun v hv=> ?_⟩
 ·by_cases hj:off≤j∧j<off+xs.length
  ·rw[z6F hle hj.1 hj.2]at hc;rw[z6F (by omega) hj.1 (by omega)]at hv;exact h2.at_ _ _ _ hc hv
  ·rw[z5Q hle (by omega)]at hc;rw[z5Q (by omega) (by omega)]at hv;exact h1.at_ _ _ _ hc hv
 ·rcases z7N hv with h|h
  ·exact h1.ones v h
  ·exact h2.ones v h
theorem RelL.drop{cs:List TV}{vs:List Value}(h:RelL w E r cs vs)(k:Nat):RelL w E r (cs.drop k) (vs.drop k):=
 ⟨by simp[h.len],fun j c v hc hv=>h.at_ (k+j) c v (by grind) (by grind),fun v hv=>h.ones v (List.mem_of_mem_drop hv)⟩
theorem RelL.take{cs:List TV}{vs:List Value}(h:RelL w E r cs vs)(k:Nat):RelL w E r (cs.take k) (vs.take k):=
 ⟨by simp[h.len],fun j c v hc hv=>by
  have hj:j<k:=by grind
  exact h.at_ j c v (by grind) (by grind),fun v hv=>h.ones v (List.mem_of_mem_take hv)⟩
theorem RelL.agg{cs:List TV}{vs:List Value}(h:RelL w E r cs vs):RelT w E r (.agg cs) (.agg vs.toArray):=.agg cs vs h.len h.at_ h.ones
theorem RelL.ofVals{vs:List Value}(h:∀v∈vs,one v):RelL w E r (vs.map fun v=> .pv (.v v)) vs:=
 ⟨by simp,fun j c v hc hv=>by simp[hv]at hc;subst hc;exact .pv (.v v),h⟩
theorem zhv{b:Nat}{cs:List TV}(h:BoxAt w E r b cs):∃vs:List Value,RelL w E r cs vs∧∀(j:Nat) v,vs[j]?=some v→w.cell? ⟨b,j,none⟩=some v:=by
 refine⟨(List.range cs.length).map fun j=>(w.cell? ⟨b,j,none⟩).getD undef,⟨by simp,fun j c v hc hv=> ?_,fun v hv=> ?_⟩,fun j v hv=> ?_⟩
 ·obtain⟨u,h1,h2,h3⟩:=h.cell j c hc;have hj:=(gJ hc).1;simp[hj,h1]at hv;subst hv;exact h3
 ·obtain⟨j,hj,rfl⟩:=List.mem_map.1 hv;have hj':j<cs.length:=by simpa using hj
  obtain⟨u,h1,h2,h3⟩:=h.cell j cs[j] (gE hj');simpa [h1]using h2
 ·have hj:j<cs.length:=by have:=(gJ hv).1;simpa using this
  obtain⟨u,h1,h2,h3⟩:=h.cell j cs[j] (gE hj);simp[hj,h1]at hv;subst hv;exact h1
theorem zcI:∀(vs:List Value) (off k:Nat) (cs:Array Value),off+k+vs.length≤cs.size→((vs.zipIdx k).foldl (fun(cs:Array Value) (cj:Value×Nat)=>cs.setIfInBounds (off+cj.2) cj.1) cs).toList=splice cs.toList (off+k) vs
 |[],off,k,cs,_=>by simp[splice]
 |v::r,off,k,cs,h=>by
  simp only[List.zipIdx_cons,List.foldl_cons];rw[zcI r off (k+1) _ (by grind)];apply List.ext_getElem?;intro j;simp only[List.length_cons]at h
  grind [z5Q,z6F,Array.toList_setIfInBounds,List.getElem?_set_ne]
theorem zaL{place:Nat→Option (Nat×Nat)}:∀{parts:List (Nat×Value)} {ps:List (Nat×Nat×List TV)} {cs cs':List TV} {vs:List Value},RelL w E r cs vs→parts.length=ps.length→
  (∀(j:Nat) p q,parts[j]?=some p→ps[j]?=some q→place p.1=some (q.1,q.2.1)∧∃us:List Value,p.2.cells=us.toArray∧RelL w E r q.2.2 us)→fillT cs ps=some cs'→
  ∃vs':List Value,Instr.fill place vs.toArray parts=some vs'.toArray∧RelL w E r cs' vs'
 |[],ps,cs,cs',vs,h,hl,hp,hf=>by
  cases ps with
  |nil=>simp[fillT]at hf;subst hf;exact⟨vs,rfl,h⟩
  |cons q qs=>simp at hl
 |(i,v)::parts,ps,cs,cs',vs,h,hl,hp,hf=>by
  cases ps with
  |nil=>simp at hl
  |cons q qs=>
   obtain⟨off,size,xs⟩:=q;simp only[fillT]at hf;split at hf
   ·rename_i hc;obtain⟨h1,us,h2,h3⟩:=hp 0 (i,v) (off,size,xs) rfl rfl
    dsimp only at h1 h2 h3
    have l1:=h.len;have l2:=h3.len;obtain⟨vs',h4,h5⟩:=zaL (parts:=parts) (place:=place) (h.splice h3 (off:=off) (by omega)) (by grind) (fun j p q hj1 hj2=>hp (j+1) p q (by grind) (by grind)) hf;refine⟨vs',?_,h5⟩;simp only[Instr.fill,h1,h2];have hcond:(us.toArray.size≠size||off+us.toArray.size>vs.toArray.size)=false:=by grind
    rw[hcond];simp only[Bool.false_eq_true,if_false];have hfold:=zcI us off 0 vs.toArray (by grind);simp only[Nat.add_zero]at hfold;have:us.toArray.zipIdx.foldl (fun(cs:Array Value) (cj:Value×Nat)=>cs.setIfInBounds (off+cj.2) cj.1) vs.toArray=(splice vs off us).toArray:=by
     grind
    grind
   ·cases hf
end
end
end Go.Sh
end
