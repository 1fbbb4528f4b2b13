/- Merged texts: S15 S16 Base Glb Shelf Pr0 WrapB. No statement of the program is proved here. -/
import Derived.Test.YtcpaleaajdilgaaDoorM9
import Derived.WalkSpells
import Derived.WalkLawsBesides
import Derived.Lib.Hide
import Derived.Deep.Draws
import Derived.Lib.LaidU8
import Derived.Test.YtcpaleaajdilgaaDoorProg
import Derived.Shelf.Unicode.DecodeAny
import Derived.Shelf.Unicode.ValidAny
import Derived.Shelf.Small.Wraps
import Derived.Test.YtcpaleaajdilgaaDoorCards
import Derived.Test.YtcpaleaajdilgaaDoorTie
import Derived.Lib.LaidIn
import Derived.Lib.LaidU8T
import Derived.Deep.DeepHandedRow
import Derived.Deep.DeepWitnessRowRef
import Derived.ProofKit
import Derived.SizedLaws
import Derived.OpenShut
import Derived.Lib.SmallJoins
import Derived.Stop.LaidTwo
import Derived.Deep.Slices
import Derived.Deep.Fields
import Derived.ChangeSame
import Derived.SevenTiedAt
import Derived.PinnedBridge
import Derived.Shelf.Vars
import Derived.Lib.ItoaNum
set_option linter.unusedSimpArgs false
set_option linter.unusedVariables false
set_option maxRecDepth 100000
set_option maxHeartbeats 8000000
section
namespace Go.Sh
open Go Go.RowKit
section
inductive SRes where
 |tmp (t:Nat)
 |cell (agg:Bool) (size:Nat) (t:Nat)
structure SFunc where
 N:Nat
 code:SCode
 res:List SRes
 keep:Bool
def SRes.get(s:FS):SRes→Option TV
 | .tmp t=>s.t t
 | .cell agg size t=>match s.t t with
  |some (.ptr d o)=>(s.b d).bind fun cs=>if agg then(if o+size≤cs.length then some (.agg ((cs.drop o).take size))else none)else cs[o]?
  |_=>none
def resT(s:FS):List SRes→Option TV
 |[r]=>r.get s
 |rs=>(seqO (SRes.get s) rs).map .tuple
def z1A(P:Program):ResultVar→Option SRes
 | .tmp t=>some (.tmp t)
 | .cell a t=>match P.underlying t,P.info? t with
  |some d,some i=>some (if d.isRow then .cell true i.size a else .cell false 1 a)
  |_,_=>none
def z7(P:Program)(f:Nat)(H:Nat→Option Nat→Nat)(Fp:Nat→List (Nat→Option Nat))(K:Nat→List Nat)(keep:Bool):Option SFunc:=
 match P.funcs[f]? with
 |some fn=>match fn.body with
  |some c=>if fn.name != "runtime.NumGoroutine" &&Nat.ble fn.ntmps 1000 then match zh P fn.ntmps H Fp K c,seqO (z1A P) fn.results.toList with
    |some sc,some rs=>some ⟨fn.ntmps,sc,rs,keep⟩
    |_,_=>none
   else none
  |none=>none
 |none=>none
def TV.ids3:TV→List Nat
 | .tuple cs=>cs.flatMap TV.ids2
 |t=>t.ids2
def idsFrom:Nat→Nat→List Nat
 |_,0=>[]
 |k,n+1=>k::idsFrom (k+1) n
def exitF(F:SFunc)(n:Nat)(s:ES):Option (TV×List MO):=
 match resT s.fs F.res with
 |some y0=>
  let I0:=idsFrom 1000 n
  let al:=zd s.fs F.keep 64 (y0.ids3++I0.flatMap fun d=>match s.fs.b d with|some cs=>cs.flatMap TV.ids1|none=>[]) I0
  match y0.ren3 (rhoIn al),seqO (fun d=>(s.fs.mo d).bind (MO.ren (rhoIn al))) al with
  |some y,some os'=>some (y,os')
  |_,_=>none
 |none=>none
def numT:Nat→List TV→List (Nat×TV)
 |_,[]=>[]
 |k,x::l=>(k,x)::numT (k+1) l
def numB:Nat→List MO→List (Nat×List TV)
 |_,[]=>[]
 |k,.box cs::l=>(k,cs)::numB (k+1) l
 |k,.row _ _ _::l=>numB (k+1) l
def numR:Nat→List MO→List (Nat×(Nat×Nat×Nat))
 |_,[]=>[]
 |k,.box _::l=>numR (k+1) l
 |k,.row e W n::l=>(k,(e,W,n))::numR (k+1) l
def startE(xs:List TV)(os:List MO):ES:=⟨numT 0 xs,numB 1000 os,numR 1000 os,[]⟩
theorem z1j{a b:Nat}(h:a≠b):Nat.beq a b=false:=by grind [Nat.beq,Nat.eq_of_beq_eq_true]
theorem z7d:∀(xs:List TV) (k d:Nat),lk (numT k xs) d=if k≤d then xs[d-k]? else none
 |[],k,d=>by simp[numT,lk]
 |x::l,k,d=>by
  simp only[numT,lk];by_cases h:k=d
  ·simp_all
  ·rw[z1j h];simp only[z7d l]
   grind
theorem z7b:∀(os:List MO) (k d:Nat),lk (numB k os) d=if k≤d then(match os[d-k]? with|some (.box cs)=>some cs|_=>none)else none
 |[],k,d=>by simp[numB,lk]
 |m::l,k,d=>by
  have ih:=z7b l (k+1) d;by_cases h:k=d
  ·subst h;cases m<;>grind [numB,lk,Nat.beq_refl,only]
  ·have:lk (numB k (m::l)) d=lk (numB (k+1) l) d:=by cases m with|box cs=>simp only[numB,lk,z1j h]|row e W n=>simp only[numB]
   grind
theorem z7c:∀(os:List MO) (k d:Nat),lk (numR k os) d=if k≤d then(match os[d-k]? with|some (.row e W n)=>some (e,W,n)|_=>none)else none
 |[],k,d=>by simp[numR,lk]
 |m::l,k,d=>by
  have ih:=z7c l (k+1) d;by_cases h:k=d
  ·subst h;cases m<;>grind [only,numR,lk,Nat.beq_refl]
  ·have:lk (numR k (m::l)) d=lk (numR (k+1) l) d:=by cases m with|box cs=>simp only[numR]|row e W n=>simp only[numR,lk,z1j h]
   grind
theorem z45:∀(n k j:Nat),(idsFrom k n)[j]?=if j<n then some (k+j)else none
 |0,k,j=>by simp[idsFrom]
 |n+1,k,j=>by
  simp only[idsFrom];cases j with
  |zero=>simp
  |succ j=>
   simp only[List.getElem?_cons_succ,z45 n (k+1) j]
   grind
theorem z5J(n k:Nat):(idsFrom k n).Nodup∧(idsFrom k n).length=n∧∀d∈idsFrom k n,k≤d:=by
 induction n generalizing k with
 |zero=>simp[idsFrom]
 |succ n ih=>
  grind [only,idsFrom]
theorem z0S{s:FS}{rows:Bool}:∀(n:Nat) (l seen:List Nat),seen.Nodup→(zd s rows n l seen).Nodup∧∃t,zd s rows n l seen=seen++t
 |0,l,seen,h=>by simp only[zd];exact⟨h,[],by simp⟩
 |n+1,[],seen,h=>by simp only[zd];exact⟨h,[],by simp⟩
 |n+1,d::l,seen,h=>by
  simp only[zd];cases hp:pos seen d with
  |some j=>exact z0S n l seen h
  |none=>
   have hnd:(seen++[d]).Nodup:=List.nodup_append.2 ⟨h,by simp,by
    intro x hx y hy;simp at hy;subst hy;rintro rfl;exact z2V hp hx⟩
   have key:∀l',(zd s rows n l' (seen++[d])).Nodup∧∃t,zd s rows n l' (seen++[d])=seen++t:=fun l'=>by
    obtain⟨h1,t,h2⟩:=z0S (s:=s) (rows:=rows) n l' (seen++[d]) hnd;exact⟨h1,[d]++t,by rw[h2];simp⟩
   cases s.b d with
   |some cs=>exact key _
   |none=>
    cases s.r d with
    |none=>exact z0S n l seen h
    |some q=>
     cases rows with
     |true=>exact key _
     |false=>exact z0S n l seen h
section
variable{P:Program}{g:Glob}{s:FS}{a:Act}{w:World}{E:Env}{B:Base}
theorem zav{rv:ResultVar}{sr:SRes}(htr:z1A P rv=some sr)(h:Sim B s a w E){y:TV}(hy:sr.get s=some y):
  ∃v,(match rv with| .tmp t=>(pure (a.tmps.getD t undef):Sem Value)| .cell q t=>do loadVar t (←asAddr (a.tmps.getD q undef))).run P w=.ok v w∧RelT w E s.r y v:=by
 cases rv with
 |tmp t=>
  simp only[z1A]at htr;cases htr;exact⟨_,rfl,(h.tmp t y hy).2⟩
 |cell q t=>
  simp only[z1A]at htr;split at htr<;>try(cases htr;done)
  rename_i d i hu hi;cases htr;have fin:∀(dd off:Nat) (cs:List TV),s.t q=some (.ptr dd off)→s.b dd=some cs→(if d.isRow then(off+i.size≤cs.length∧y=.agg ((cs.drop off).take i.size))else cs[off]?=some y)→
    ∃v,(do loadVar t (←asAddr (a.tmps.getD q undef)):Sem Value).run P w=.ok v w∧RelT w E s.r y v:=by
   intro dd off cs hq hb hy;have hx:=(h.tmp q _ hq).2;generalize hv:a.tmps.getD q undef=v at hx;cases hx;obtain⟨hbox,_⟩:=h.mem.box dd cs hb;cases hd:d.isRow with
   |true=>
    simp only[hd,if_true]at hy;obtain⟨vs,hrel,hcell⟩:=z73 hbox;have hl:((vs.drop off).take i.size).length=i.size:=by have:=hrel.len;simp;omega
    have hrun:=z1x (P:=P) (w:=w) (E.β dd) off t d i ((vs.drop off).take i.size) hu hi (fun j v hv'=>by
     have hj:j<i.size:=by have:=(gJ hv').1;omega
     simp[hj]at hv';exact hcell _ _ hv') (by simp only[hd,if_true];exact hl)
    simp only[hd,if_true]at hrun;exact⟨.agg ((vs.drop off).take i.size).toArray,by simp[asAddr,hrun,Result.andThen],by rw[hy.2];exact((hrel.drop off).take _).agg⟩
   |false=>
    simp only[hd,Bool.false_eq_true,if_false]at hy;obtain⟨v,c1,c2,c3⟩:=hbox.cell off y hy;have hrun:=z1x (P:=P) (w:=w) (E.β dd) off t d i [v] hu hi (fun j u hu'=>by
     cases j with
     |zero=>simp at hu';subst hu';exact c1
     |succ j=>simp at hu') (by simp[hd])
    simp only[hd,Bool.false_eq_true,if_false]at hrun;exact⟨v,by simp[asAddr,hrun,Result.andThen],c3⟩
  cases hd:d.isRow with
  |true=>
   simp only[hd,if_true,SRes.get]at hy;split at hy
   ·rename_i dd off hq;obtain⟨cs,hb,hy⟩:=gB hy;split at hy
    ·rename_i hle;cases hy;exact fin dd off cs hq hb (by rw[if_pos hd];exact⟨hle,rfl⟩)
    ·cases hy
   ·cases hy
  |false=>
   simp only[hd,Bool.false_eq_true,if_false,SRes.get]at hy;split at hy
   ·rename_i dd off hq;obtain⟨cs,hb,hy⟩:=gB hy;exact fin dd off cs hq hb (by simp only[hd,Bool.false_eq_true,if_false];exact hy)
   ·cases hy
def z3u(a:Act):ResultVar→Sem Value
 | .tmp t=>pure (a.tmps.getD t undef)
 | .cell q t=>do loadVar t (←asAddr (a.tmps.getD q undef))
theorem z6k{α:Type}(F:α→Sem Value):∀(l:List α) (vs:List Value),l.length=vs.length→(∀(j:Nat) x v,l[j]?=some x→vs[j]?=some v→(F x).run P w=.ok v w)→(l.mapM F).run P w=.ok vs w
 |[],[],_,_=>rfl
 |x::l,v::vs,hl,h=>by
  have h1:=h 0 x v rfl rfl;have h2:=z6k F l vs (by simpa using hl) (fun j x v hx hv=>h (j+1) x v (by simpa using hx) (by simpa using hv));simp_all
 |[],_::_,hl,_=>by simp at hl
 |_::_,[],hl,_=>by simp at hl
theorem z6X{fn:Func}{rs:List SRes}(htr:seqO (z1A P) fn.results.toList=some rs)(h:Sim B s a w E){y:TV}(hy:resT s rs=some y):∃v,(results fn a.tmps).run P w=.ok v w∧RelT w E s.r y v:=by
 have key:∀(l:List ResultVar) (rs:List SRes),seqO (z1A P) l=some rs→∀(ys:List TV),seqO (SRes.get s) rs=some ys→∃vs:List Value,l.length=vs.length∧(∀(j:Nat) x v,l[j]?=some x→vs[j]?=some v→(z3u a x).run P w=.ok v w)∧ys.length=vs.length∧∀(j:Nat) c v,ys[j]?=some c→vs[j]?=some v→RelT w E s.r c v:=by
  intro l
  induction l with
  |nil=>intro rs h1 ys h2;simp[seqO]at h1;subst h1;simp[seqO]at h2;subst h2;exact⟨[],rfl,by simp,rfl,by simp⟩
  |cons rv l ih=>
   intro rs h1 ys h2;obtain⟨sr,rs',h3,h4,rfl⟩:=z2g h1;obtain⟨y,ys',h5,h6,rfl⟩:=z2g h2;obtain⟨vs,a0,a1,a2,a3⟩:=ih rs' h4 ys' h6;obtain⟨v,b1,b2⟩:=zav h3 h h5;have b1':(z3u a rv).run P w=.ok v w:=by cases rv<;>exact b1
   refine⟨v::vs,by simp[a0],fun j x u hx hu=> ?_,by simp[a2],fun j c u hc hu=> ?_⟩
   ·grind
   ·grind
 have hres:∀vs:List Value,(fn.results.toList.mapM (z3u a)).run P w=.ok vs w→(results fn a.tmps).run P w=.ok (if h:vs.length=1 then vs[0] else .tuple vs.toArray) w:=by
  intro vs hvs;have harr:(fn.results.mapM (z3u a)).run P w=.ok vs.toArray w:=by
   rw[←Array.toArray_toList (xs:=fn.results),List.mapM_toArray];simp_all
  have e:results fn a.tmps=(fn.results.mapM (z3u a))>>=fun vs=>pure (if h:vs.size=1 then vs[0] else .tuple vs):=by
   unfold results;congr 1
  simp_all
 have hmany:∀ys,seqO (SRes.get s) rs=some ys→(rs.length=1→ys=[y])→(rs.length≠1→y=.tuple ys)→∃v,(results fn a.tmps).run P w=.ok v w∧RelT w E s.r y v:=by
  intro ys hys h1 h2;obtain⟨vs,a0,a1,a2,a3⟩:=key _ rs htr ys hys;have hl1:=(zw htr).1;refine⟨_,hres vs (z6k _ _ _ a0 a1),?_⟩;by_cases hone:vs.length=1
  ·rw[dif_pos hone];have hr1:rs.length=1:=by omega
   rw[h1 hr1]at a3;exact a3 0 y _ rfl (gE (by omega))
  ·rw[dif_neg hone];have hr1:rs.length≠1:=by omega
   rw[h2 hr1];exact .tuple ys vs a2 a3
 match rs,hy,hmany with
 |[],hy,hmany=>grind [resT,seqO]
 |[r],hy,hmany=>grind [only,resT,seqO]
 |r::r2::rr,hy,hmany=>
  simp only[resT]at hy;obtain⟨ys,h1,h2⟩:=gO hy;simp_all
theorem z3Z{f:Nat}{H:Nat→Option Nat→Nat}{Fp:Nat→List (Nat→Option Nat)}{K:Nat→List Nat}{keep:Bool}{F:SFunc}(ze:P.follows .mixedOrders=true)(hF:z7 P f H Fp K keep=some F){xs:List TV}{os os':List MO}{y:TV}(hn:xs.length≤F.N)(hos:os.length≤1000)(hmo:moOk os os'=true)
  (h:z0A P g F.N F.code (fun e s=>(e=.ret∨e=.normal)∧exitF F os.length s=some (y,os')) (startE xs os)):SCalls P g f xs os y os':=by
 unfold z7 at hF;split at hF<;>try(cases hF;done)
 rename_i fn hfn;split at hF<;>try(cases hF;done)
 rename_i c hc;split at hF<;>try(cases hF;done)
 rename_i hname;split at hF<;>try(cases hF;done)
 rename_i sc rs hsc hrs;cases hF;rw[Bool.and_eq_true]at hname;have hnm:¬fn.name= "runtime.NumGoroutine" :=by grind
 have hN:fn.ntmps≤1000:=Nat.le_of_ble_eq_true hname.2;refine⟨⟨fn,c,hfn,hc,hnm⟩,fun w E vs hG hm hX hl hxs=> ?_⟩;let B:Base:=start w E os fn.ntmps
 have hmB:MSim B (z0f os) (zx os) w E:=⟨hm.box,hm.row,hm.bb,hm.br,hm.rr,hm.lt,hm.low,hm.keep,hm.knew,⟨hm.pas.β,hm.pas.γ,hm.pas.row⟩⟩
 have hfs:(startE xs os).fs=⟨fun k=>xs[k]?,z0f os,zx os,fun _=>none⟩:=by
  refine FS.ext' (fun k=> ?_) (fun k=> ?_) (fun k=> ?_) (fun k=>rfl)
  ·show lk (numT 0 xs) k=_;rw[z7d];simp
  ·show lk (numB 1000 os) k=_;rw[z7b];rfl
  ·show lk (numR 1000 os) k=_;rw[z7c];rfl
 have hsize:(vs.toArray++Array.replicate (fn.ntmps-vs.toArray.size) undef).size=fn.ntmps:=by
  grind
 have hS:Sim B (startE xs os).fs { tmps:=vs.toArray++Array.replicate (fn.ntmps-vs.toArray.size) undef,defers:=[] } w E:=by
  rw[hfs];refine⟨rfl,hsize,fun k x hx=> ?_,hmB,fun d z p hd=>(by cases hd),fun d d' q q' hd=>(by cases hd)⟩;have hk:k<xs.length:=(gJ hx).1;refine⟨Nat.lt_of_lt_of_le hk hn,?_⟩;have hkv:k<vs.length:=by omega
  have hv:(vs.toArray++Array.replicate (fn.ntmps-vs.toArray.size) undef).getD k undef=vs[k]:=by
   rw[Array.getD_eq_getD_getElem?,Array.getElem?_append_left (by simpa using hkv)];simp[hkv]
  show RelT w E (zx os) x ((vs.toArray++Array.replicate (fn.ntmps-vs.toArray.size) undef).getD k undef);rw[hv];exact hxs k x _ hx (gE hkv)
 refine calls_of_wp hfn hc (wp_mono (h _ _ _ c hsc B _ _ _ rfl hos hN hG hX hS) ?_);rintro x a' w' ⟨e,s',E',rfl,⟨he,hex⟩,hS'⟩;have fin:a'.defers=[]∧∃v,(results fn a'.tmps).run P w'=.ok v w'∧(∃v_1 E'_1,Ending.returned v=Ending.returned v_1∧MSim (start w E os 0) (z0f os') (zx os') w' E'_1∧RelT w' E'_1 (zx os') y v_1∧Left E os E'_1 os'):=by
  refine⟨hS'.defers,?_⟩;unfold exitF at hex;split at hex<;>try(cases hex;done)
  rename_i y0 hy0;obtain⟨v,hrun,hrel⟩:=z6X (fn:=fn) hrs hS' hy0;refine⟨v,hrun,v,?_⟩;simp only[]at hex;obtain⟨i1,i2,i3⟩:=z5J os.length 1000;generalize hal:zd s'.fs keep 64 (y0.ids3++(idsFrom 1000 os.length).flatMap fun d=>match s'.fs.b d with|some cs=>cs.flatMap TV.ids1|none=>[]) (idsFrom 1000 os.length)=al at hex;obtain⟨hnd,t,hpre⟩:=z0S (s:=s'.fs) (rows:=keep) 64 (y0.ids3++(idsFrom 1000 os.length).flatMap fun d=>match s'.fs.b d with|some cs=>cs.flatMap TV.ids1|none=>[]) _ i1;rw[hal]at hnd hpre;split at hex<;>try(cases hex;done)
  rename_i y1 os1 hren hmos;cases hex;have hpas:∀j,j<os.length→al[j]?=some (1000+j):=fun j hj=>by
   grind [List.getElem?_append_left,z45]
  have hM:=z4i hS' hnd hmos;obtain⟨hlen,hBx,hRx⟩:=z23 hmos;have hβ:∀{i j},al[j]?=some i→(zt E' al).β (1000+j)=E'.β i:=fun hj=>by simp only[zt];rw[z0b hj]
  have hγ:∀{i j},al[j]?=some i→(zt E' al).γ (1000+j)=E'.γ i:=fun hj=>by simp only[zt];rw[z0b hj]
  have hXs:∀{i j b},al[j]?=some i→z16 E os i b→z16 E os (1000+j) b:=by
   intro i j b hj hx;have hi:∃q,i=1000+q∧q<os.length:=by
    rcases hx with⟨cs,h1,_⟩|⟨⟨e,W,n⟩,cap,h1,_⟩<;>grind [z0R,List.getElem?_eq_some_iff,zZ]
   obtain⟨q,rfl,hq⟩:=hi;have a1:=z1n hnd hj;have a2:=z1n hnd (hpas q hq)
   grind
  have hM':MSim (start w E os 0) (z0f os') (zx os') w' (zt E' al):=by
   refine⟨fun d cs' hd=> ?_,fun d e W n hd=> ?_,hM.bb,hM.br,hM.rr,hM.lt,hS'.mem.low,hS'.mem.keep,hS'.mem.knew,⟨fun d ho=> ?_,fun d ho h0=> ?_,fun d e W n ho hd=> ?_⟩⟩
   ·refine⟨(hM.box d cs' hd).1,?_⟩;obtain⟨j,rfl,hj⟩:=z0R hd;obtain⟨i,cs,q1,q2,_⟩:=hBx j cs' hj;rw[hβ q1];rcases(hS'.mem.box i cs q2).2 with h1|h1
    ·exact .inl h1
    ·exact .inr (hXs q1 h1)
   ·obtain⟨j,rfl,hj⟩:=zZ hd;obtain⟨i,q1,q2,q3⟩:=hRx j e W n hj;rw[hγ q1];rcases hS'.mem.row i e W n q3 with h1|⟨k,cap,h1,h2,h3⟩
    ·grind
    ·exact .inr ⟨k,cap,h1,h2.imp id (hXs q1),h3.cells,h3.le,h3.max,h3.out⟩
   ·obtain⟨q,rfl⟩:∃q,d=1000+q:=⟨d-1000,by have:=ho.1;omega⟩
    have hq:q<os.length:=by have:=ho.2;have h2:1000+q<1000+os.length:=this;omega
    rw[hβ (hpas q hq)];exact hS'.mem.pas.β _ ho
   ·obtain⟨q,rfl⟩:∃q,d=1000+q:=⟨d-1000,by have:=ho.1;omega⟩
    have hq:q<os.length:=by have:=ho.2;have h2:1000+q<1000+os.length:=this;omega
    rw[hγ (hpas q hq)];exact hS'.mem.pas.γ _ ho h0
   ·obtain⟨q,rfl⟩:∃q,d=1000+q:=⟨d-1000,by have:=ho.1;omega⟩
    have hq:q<os.length:=by have:=ho.2;have h2:1000+q<1000+os.length:=this;omega
    obtain⟨j,hj0,hj⟩:=zZ hd;obtain rfl:q=j:=by omega
    obtain⟨i,q1,q2,q3⟩:=hRx q e W n hj;rw[hpas q hq]at q1;cases q1;rw[hγ (hpas q hq)];exact hS'.mem.pas.row _ e W n ho q3
  refine⟨zt E' al,rfl,hM',z6u (z60 hmos) (fun _ _ _ h _=>h) hrel hren,⟨fun d h1 h2=>hM'.pas.β d ⟨h1,h2⟩,fun d h1 h2 h0=>hM'.pas.γ d ⟨h1,h2⟩ h0,fun d e W n hd=> ?_⟩⟩;obtain⟨q,rfl,hq⟩:=zZ hd;have hql:q<os.length:=(gJ hq).1;obtain⟨n',h1,h2⟩:=(z1J hmo).2.2.2 q e W n hq;obtain⟨n0,h3,h4,h5⟩:=hM'.pas.row (1000+q) e W n' ⟨by omega,by show 1000+q<1000+os.length;omega⟩ (z0k h1);have h3:zx os (1000+q)=some (e,W,n0):=h3;rw[hd]at h3;cases h3;exact⟨n',z0k h1,h4,h5⟩
 rcases he with rfl|rfl
 ·exact fin
 ·exact fin
theorem z2o{f:Nat}{H:Nat→Option Nat→Nat}{Fp:Nat→List (Nat→Option Nat)}{K:Nat→List Nat}{keep:Bool}{F:SFunc}(ze:P.follows .mixedOrders=true)(hF:z7 P f H Fp K keep=some F){xs:List TV}{os os':List MO}{y:TV}(hn:xs.length≤F.N)(hos:os.length≤1000)(hmo:moOk os os'=true)
  (h:swp P g F.code (fun e s=>(e=.ret∨e=.normal)∧exitF F os.length s=some (y,os')) (startE xs os)):SCalls P g f xs os y os':=z3Z ze hF hn hos hmo (z1r ze h)
end
end
section
def zj(T:List (Nat×Nat))(j:Nat)(d:Option Nat):Nat:=match lk T (dstId d)with|some m=>m|none=>j
def zk(T:List (Nat×List Nat))(id:Nat):List Nat:=match lk T id with|some l=>l|none=>[]
def fpT(T:List (Nat×List (List (Nat×Nat))))(id:Nat):List (Nat→Option Nat):=match lk T id with|some ls=>ls.map lk|none=>[fun _=>none]
def z3E(P:Program)(C:zp)(kill:List Nat):List (List Nat×List SOper)→ES→Option ES
 |[],_=>none
 |(n,l)::r,s=>match z6w P C l (s.fgt n)with
  |some s'=>some (s'.kill kill)
  |none=>z3E P C kill r s
def z6h(f:ES→Option (SExit×ES)):Nat→ES→Option (SExit×ES)
 |0,_=>none
 |n+1,s=>match f s with
  |some (.normal,s')=>z6h f n s'
  |r=>r
def z0C(P:Program)(C:zp)(L:Nat):SCode→ES→Option (SExit×ES)
 | .skip,s=>some (.normal,s)
 | .reg alts kill,s=>match z3E P C kill alts s with
  |some s'=>some (.normal,s')
  |none=>none
 | .regq alts kill,s=>match z3E P C kill alts s with
  |some s'=>some (.normal,s')
  |none=>none
 | .raw _ _,_=>none
 | .seq a b,s=>match z0C P C L a s with
  |some (.normal,s')=>z0C P C L b s'
  |r=>r
 | .cond c a b,s=>match c.get s.fs with
  |some (.pv (.v (.bool true)))=>z0C P C L a s
  |some (.pv (.v (.bool false)))=>z0C P C L b s
  |_=>none
 | .block id a,s=>match z0C P C L a s with
  |some (.exit j,s')=>match Nat.beq j id with
   |true=>some (.normal,s')
   |false=>some (.exit j,s')
  |r=>r
 | .loop a,s=>z6h (fun s=>z0C P C L a s) L s
 | .exit id,s=>some (.exit id,s)
 | .ret,s=>some (.ret,s)
def z4x(P:Program)(F:Nat→Option SFunc)(prim:zp)(L:Nat):Nat→zp
 |0=>fun _ _ _=>none
 |n+1=>fun f xs os=>match prim f xs os with
  |some r=>some r
  |none=>match F f with
   |some G=>match Nat.ble xs.length G.N,Nat.ble os.length 1000 with
    |true,true=>match z0C P (z4x P F prim L n) L G.code (startE xs os)with
     |some (.ret,s)=>match exitF G os.length s with
      |some (y,os')=>match moOk os os' with|true=>some (y,os')|false=>none
      |none=>none
     |some (.normal,s)=>match exitF G os.length s with
      |some (y,os')=>match moOk os os' with|true=>some (y,os')|false=>none
      |none=>none
     |_=>none
    |_,_=>none
   |none=>none
section
variable{P:Program}{g:Glob}{C:zp}{L:Nat}
theorem z2n(hC:z0c P g C){kill:List Nat}{s s':ES}{K:ES→Prop}:∀{al:List (List Nat×List SOper)},z3E P C kill al s=some s'→K s'→z2s P g al kill K s
 |[],h,hQ=>by simp[z3E]at h
 |(n,l)::r,h,hQ=>by
  simp only[z3E]at h;split at h
  ·rename_i s2 h2;cases h;exact⟨(n,l),List.mem_cons_self ..,z3m hC h2 hQ⟩
  ·obtain⟨a,ha,h3⟩:=z2n hC h hQ;exact⟨a,List.mem_cons_of_mem _ ha,h3⟩
theorem z04(hC:z0c P g C):∀{c:SCode} {s s':ES} {e:SExit} {Q:SExit→ES→Prop},z0C P C L c s=some (e,s')→Q e s'→swp P g c Q s
 | .skip,s,s',e,Q,h,hQ=>by simp only[z0C]at h;cases h;exact hQ
 | .exit id,s,s',e,Q,h,hQ=>by simp only[z0C]at h;cases h;exact hQ
 | .ret,s,s',e,Q,h,hQ=>by simp only[z0C]at h;cases h;exact hQ
 | .reg alts kill,s,s',e,Q,h,hQ=>by
  simp only[z0C]at h;split at h<;>try(cases h;done)
  rename_i s1 hs1;cases h;exact z2n hC hs1 hQ
 | .raw N c,s,s',e,Q,h,hQ=>by simp[z0C]at h
 | .regq alts kill,s,s',e,Q,h,hQ=>by
  simp only[z0C]at h;split at h<;>try(cases h;done)
  rename_i s1 hs1;cases h;exact .inl (z2n hC hs1 hQ)
 | .seq a b,s,s',e,Q,h,hQ=>by
  simp only[z0C]at h;split at h
  ·rename_i s1 h1;exact z04 hC (c:=a) h1 (show swp P g b Q s1 from z04 hC (c:=b) h hQ)
  ·rename_i hne;refine z04 hC (c:=a) h ?_;cases e with
   |normal=>grind
   |exit id=>exact hQ
   |ret=>exact hQ
   |pan z=>exact hQ
 | .cond c a b,s,s',e,Q,h,hQ=>by
  simp only[z0C]at h;split at h
  ·rename_i hc;exact⟨true,hc,z04 hC (c:=a) h hQ⟩
  ·rename_i hc;exact⟨false,hc,z04 hC (c:=b) h hQ⟩
  ·cases h
 | .block id a,s,s',e,Q,h,hQ=>by
  simp only[z0C]at h;split at h
  ·rename_i j s1 h1;split at h
   ·rename_i hj;cases h;exact z04 hC (c:=a) h1 (by grind [only,z0u,Nat.eq_of_beq_eq_true])
   ·rename_i hj;cases h;exact z04 hC (c:=a) h1 (by grind [only,z0u,Nat.beq_refl])
  ·rename_i hne;refine z04 hC (c:=a) h ?_;cases e with
   |normal=>exact hQ
   |exit id=>grind
   |ret=>exact hQ
   |pan z=>exact hQ
 | .loop a,s,s',e,Q,h,hQ=>by
  simp only[z0C]at h;refine⟨fun n s=>z6h (fun s=>z0C P C L a s) n s=some (e,s'),L,⟨s,.refl s,h⟩,fun n s1 h1=> ?_⟩;cases n with
  |zero=>simp[z6h]at h1
  |succ n=>
   simp only[z6h]at h1;split at h1
   ·rename_i s2 h2;exact z04 hC (c:=a) h2 (show ∃m,_ from⟨n,Nat.lt_succ_self n,s2,.refl s2,h1⟩)
   ·rename_i hne;refine z04 hC (c:=a) h1 ?_;cases e with
    |normal=>grind
    |exit id=>exact hQ
    |ret=>exact hQ
    |pan z=>exact hQ
def z70(P:Program)(F:Nat→Option SFunc):Prop:=∀f G,F f=some G→∃H Fp K keep,z7 P f H Fp K keep=some G
theorem z3Y{F:Nat→Option SFunc}{prim:zp}(ze:P.follows .mixedOrders=true)(hF:z70 P F)(hprim:z0c P g prim):∀n,z0c P g (z4x P F prim L n)
 |0=>fun f xs os y os' h=>by simp[z4x]at h
 |n+1=>fun f xs os y os' h=>by
  have ih:=z3Y ze hF hprim n;simp only[z4x]at h;split at h
  ·rename_i r hr;cases h;exact hprim f xs os y os' hr
  ·split at h
   ·rename_i G hG;obtain⟨H,Fp,K,keep,htr⟩:=hF f G hG;split at h<;>try(cases h;done)
    rename_i hn ho;have hn:=Nat.le_of_ble_eq_true hn;have ho:=Nat.le_of_ble_eq_true ho;split at h
    ·rename_i s1 hs1;split at h<;>try(cases h;done)
     rename_i y1 os1 hex;split at h<;>try(cases h;done)
     rename_i hmo;cases h;exact z2o ze htr hn ho hmo (z04 ih hs1 ⟨.inl rfl,hex⟩)
    ·rename_i s1 hs1;split at h<;>try(cases h;done)
     rename_i y1 os1 hex;split at h<;>try(cases h;done)
     rename_i hmo;cases h;exact z2o ze htr hn ho hmo (z04 ih hs1 ⟨.inr rfl,hex⟩)
    ·cases h
   ·cases h
end
end
end Go.Sh
end

section
namespace Go.Mor
open Go Go.RowKit
def str(l:zB):ByteArray:=⟨l.toArray⟩
theorem str_toList(l:zB):(str l).data.toList=l:=by simp[str]
theorem z9S(l:zB):(str l).size=l.length:=by simp[str,ByteArray.size]
@[go_sem,simp] theorem str_list (l:zB):(str l).toList=l:=ByteArray.toList_mk l
@[go_sem,simp] theorem str_size' (l:zB):(str l).size=l.length:=z9S l
@[go_sem,simp] theorem str_extract (l:zB) (a b:Nat):(str l).extract a b=str ((l.drop a).take (b-a)):=ByteArray.extract_mk l a b
@[go_sem,simp] theorem str_append (a b:zB):str a++str b=str (a++b):=ByteArray.mk_append_mk a b
@[go_sem,simp] theorem str_get (l:zB) (i:Nat) (h:i<(str l).size):(str l)[i]=l[i]'(by simpa using h):=by
 simp[str,ByteArray.getElem_eq_getElem_data]
theorem z6C(s:ByteArray):str s.data.toList=s:=by cases s;simp[str]
inductive V where
 |mk (k n:Int) (s:zB) (l:List V)
def V.k:V→Int| .mk k _ _ _=>k
def V.n:V→Int| .mk _ n _ _=>n
def V.s:V→zB| .mk _ _ s _=>s
def V.l:V→List V| .mk _ _ _ l=>l
def V.nil:V:=.mk 0 0 [] []
theorem V.size_lt{x:V}{l:List V}(h:x∈l)(k n:Int)(s:zB):SizeOf.sizeOf x<SizeOf.sizeOf (V.mk k n s l):=by
 have:=List.sizeOf_lt_of_mem h;simp;omega
def V.val(x:V)(c:Value):Value:=.agg #[.int .i64 x.k,.int .i64 x.n,.string (str x.s),c]
inductive IsL(ok:Nat→Prop)(w:World):List V→Value→Prop where
 |mk (l:List V) (b off cap:Nat) (p:Option Addr) (sub:Nat→Value) (hcap:l.length≤cap) (hmax:cap≤maxLen)
   (hp:l≠[]→p=some ⟨b,off,none⟩∧ok b)
   (hc:∀(i:Nat) (x:V),l[i]?=some x→w.cell? ⟨b,off+i*4,none⟩=some (.int .i64 x.k)∧w.cell? ⟨b,off+i*4+1,none⟩=some (.int .i64 x.n)
    ∧w.cell? ⟨b,off+i*4+2,none⟩=some (.string (str x.s))∧w.cell? ⟨b,off+i*4+3,none⟩=some (sub i))
   (hs:∀(i:Nat) (x:V),l[i]?=some x→IsL ok w x.l (sub i)):IsL ok w l (.slice p l.length cap)
theorem zS{w:World}{a:Addr}{v:Value}(h:w.cell? a=some v):a.block<w.heap.size:=by
 rcases Nat.lt_or_ge a.block w.heap.size with hlt|hge
 ·exact hlt
 ·simp[World.cell?,Array.getElem?_eq_none hge]at h
theorem IsL.keepBy{ok:Nat→Prop}{w w':World}{l:List V}{c:Value}(h:IsL ok w l c)
  (hk:∀a v,ok a.block→w.cell? a=some v→w'.cell? a=some v):IsL ok w' l c:=by
 induction h with
 |mk l b off cap p sub hcap hmax hp hc hs ih=>
  refine .mk l b off cap p sub hcap hmax hp (fun i x hx=> ?_) ih;have hb:ok b:=(hp (by rintro rfl;simp at hx)).2;obtain⟨h0,h1,h2,h3⟩:=hc i x hx;exact⟨hk _ _ hb h0,hk _ _ hb h1,hk _ _ hb h2,hk _ _ hb h3⟩
theorem IsL.keep{ok:Nat→Prop}{w w':World}{l:List V}{c:Value}(h:IsL ok w l c)(hk:∀b,ok b→w'.heap[b]?=w.heap[b]?):IsL ok w' l c:=
 h.keepBy fun a _ ho hv=>(World.cell?_of_block (w:=w) (hk a.block ho)).trans hv
theorem IsL.ext{ok:Nat→Prop}{w w':World}{l:List V}{c:Value}(h:IsL ok w l c)(hb:Below w.heap.size w w'):IsL ok w' l c:=
 h.keepBy fun _ _ _ hv=>(hb.cell (zS hv)).trans hv
theorem IsL.nil{ok:Nat→Prop}{w:World}(p:Option Addr)(cap:Nat)(h:cap≤maxLen):IsL ok w [] (.slice p 0 cap):=
 .mk [] 0 0 cap p (fun _=> .slice none 0 0) (by simp) h (by simp) (by simp) (by simp)
theorem IsL.drew{ok:Nat→Prop}{w:World}{l:List V}{c:Value}(h:IsL ok w l c):IsL ok w.drew l c:=h.keepBy fun _ _ _ hv=>hv
def zU{α:Type}(p:α→Bool)(l:List α):Int:=match l.findIdx? p with|some i=>i|none=> -1
end Go.Mor
end

section
namespace Go.Proofs.YtcpaleaajdilgaaDoor
open Go Go.RowKit Go.Mor
structure GlobU(w:World):Prop where
 tabs:Lib.Utf8Tabs 2 3 w
theorem GlobU.ext{w w':World}(h:GlobU w)(hb:Below w.heap.size w w'):GlobU w' where
 tabs:=Utf8Tabs_below h.tabs hb
end Go.Proofs.YtcpaleaajdilgaaDoor
end

section
namespace Go.Proofs
open Go.Shelf
def Tryd.laysValid_ren:Go.Shelf.Ren:=⟨fun|196=>61|259=>66|n=>n,fun|9=>9|4=>4|3=>3|5=>5|12=>12|119=>109|0=>0|46=>113|139=>112|138=>111|53=>90|n=>n,fun|3=>2|4=>3|n=>n⟩
theorem Tryd.laysValid:Go.Proofs.Lays.n196 Tryd.prog Tryd.laysValid_ren:={
 mixed:=by kernel_rfl
 f196:=Tryd.func61.trans (congrArg some (by kernel_rfl))
 f259:=Tryd.func66.trans (congrArg some (by kernel_rfl))
 t0:=Tryd.underlying0
 a0:=Tryd.isAgg0
 z0:=Tryd.sizeOf0
 v0:=Tryd.zeroValue0
 t3:=Tryd.underlying3
 a3:=Tryd.isAgg3
 z3:=Tryd.sizeOf3
 v3:=Tryd.zeroValue3
 t4:=Tryd.underlying4
 a4:=Tryd.isAgg4
 z4:=Tryd.sizeOf4
 v4:=Tryd.zeroValue4
 t5:=Tryd.underlying5
 a5:=Tryd.isAgg5
 z5:=Tryd.sizeOf5
 v5:=Tryd.zeroValue5
 t9:=Tryd.underlying9
 a9:=Tryd.isAgg9
 z9:=Tryd.sizeOf9
 v9:=Tryd.zeroValue9
 t12:=Tryd.underlying12
 a12:=Tryd.isAgg12
 z12:=Tryd.sizeOf12
 v12:=Tryd.zeroValue12
 t46:=Tryd.underlying113
 a46:=Tryd.isAgg113
 z46:=Tryd.sizeOf113
 v46:=Tryd.zeroValue113
 t53:=Tryd.underlying90
 a53:=Tryd.isAgg90
 z53:=Tryd.sizeOf90
 v53:=Tryd.zeroValue90
 t119:=Tryd.underlying109
 a119:=Tryd.isAgg109
 z119:=Tryd.sizeOf109
 t138:=Tryd.underlying111
 a138:=Tryd.isAgg111
 z138:=Tryd.sizeOf111
 v138:=Tryd.zeroValue111
 t139:=Tryd.underlying112
 a139:=Tryd.isAgg112
 z139:=Tryd.sizeOf112
 v139:=Tryd.zeroValue112
 g3:=by kernel_rfl
 g4:=by kernel_rfl }
open Go.RowKit Go.Lib in
theorem Tryd.utf8_ValidString(s:ByteArray)(w:World)(hs:s.size≤9223372036854775807)(hT:Lib.Utf8Tabs 2 3 w):
  Calls Tryd.prog 61 #[.string s] w fun e w'=>e=.returned (.bool (Lib.validD s.data.toList))∧Below w.heap.size w w':=Any.utf8_ValidString Tryd.laysValid s w hs hT
end Go.Proofs
end

section
namespace Go.Proofs.YtcpaleaajdilgaaDoor
open Go Go.RowKit Go.Mor Go.Sh
theorem ze:Tryd.prog.follows .mixedOrders=true:=by kernel_rfl
structure GlobN0(n:Nat)(w:World):Prop where
 u:GlobU w
 sz:n≤w.heap.size
 hv:4≤n
theorem zaC{w w':World}{n:Nat}(hn:4≤n)(h:Lib.Utf8Tabs 2 3 w)(hk:∀k,k<n→w'.heap[k]?=w.heap[k]?):Lib.Utf8Tabs 2 3 w':=by
 have hc:∀b o,b<n→w'.cell? ⟨b,o,none⟩=w.cell? ⟨b,o,none⟩:=fun b o hb=>World.cell?_of_block (w:=w) (a:=⟨b,o,none⟩) (hk b hb);refine⟨fun c hcc=> ?_,fun i hi=> ?_⟩
 ·rw[hc _ _ (by omega)];exact h.1 c hcc
 ·obtain⟨h1,h2⟩:=h.2 i hi;exact⟨by rw[hc _ _ (by omega)];exact h1,by rw[hc _ _ (by omega)];exact h2⟩
theorem z6b{w w':World}{n:Nat}(hv:4≤n)(h:GlobU w)(hk:∀k,k<n→w'.heap[k]?=w.heap[k]?):GlobU w':=by
 exact⟨zaC hv h.tabs hk⟩
theorem z7r{w w':World}{n:Nat}(hsz:n≤w.heap.size)(hk:∀k,k<n→w'.heap[k]?=w.heap[k]?):n≤w'.heap.size:=by
 rcases Nat.eq_zero_or_pos n with h0|h0
 ·omega
 ·have:=hk (n-1) (by omega);rw[Array.getElem?_eq_getElem (show n-1<w.heap.size by omega)]at this;have:=(gA this).1;omega
def gl0(n:Nat):Sh.Glob where
 G:=GlobN0 n
 n:=n
 st:=fun w w' h hk=>⟨z6b h.hv h.u hk,z7r h.sz hk,h.hv⟩
 le:=fun w h=>h.sz
theorem zbF{P:Program}{g g':Sh.Glob}{f:Nat}{xs:List TV}{os:List MO}{y:TV}{os':List MO}(hn:g'.n=g.n)(hG:∀w,g'.G w→g.G w)(h:SCalls P g f xs os y os'):SCalls P g' f xs os y os':=
 ⟨h.1,fun w E vs h1 h2 h3 h4 h5=>h.2 w E vs (hG w h1) h2 (fun d b hb=>hn▸h3 d b hb) h4 h5⟩
theorem z1K{w:World}{E:Env}{r:Sh.Rows}(vs:List Value):RelT w E r (.tuple (vs.map fun v=> .pv (.v v))) (.tuple vs.toArray):=
 .tuple _ vs (by simp) (fun j c v hc hv=>by simp[hv]at hc;subst hc;exact .pv (.v v))
theorem z1L{P:Program}{g:Sh.Glob}{f:Nat}{vs:List Value}{y:TV}{v:Value}(hb:z1Y P f)(hy:∀w E r,RelT w E r y v)(h:∀w,g.G w→Calls P f vs.toArray w fun e w'=>e=.returned v∧Below w.heap.size w w'):SCalls P g f (vs.map fun v=> .pv (.v v)) [] y []:=by
 refine⟨hb,fun w E us hG hm hX hl hr=> ?_⟩;have hus:us=vs:=by
  apply List.ext_getElem?;intro j;rcases Nat.lt_or_ge j us.length with hj|hj
  ·have hj':j<vs.length:=by simpa [←hl]using hj
   have:=hr j (.pv (.v vs[j])) us[j] (by simp[hj']) (gE hj);rw[gE hj,gE hj'];exact congrArg some (val_rel (y:=vs[j]) this rfl)
  ·rw[List.getElem?_eq_none hj,List.getElem?_eq_none (by simpa [←hl]using hj)]
 subst hus;refine(h w hG).mono ?_;rintro e w' ⟨rfl,hb⟩;refine⟨v,E,rfl,?_,hy _ _ _,⟨fun _ _ _=>rfl,fun _ _ _ _=>rfl,fun d e W n hd=>by obtain⟨j,_,hj⟩:=zZ hd;simp at hj⟩⟩;exact MSim.ext (s:=⟨fun _=>none,z0f [],zx [],fun _=>none⟩) hm hb E (fun _ _ h=>h) (fun _ _ h=> .inl h) (fun _ _=>⟨rfl,rfl⟩) (fun _ _ _=>rfl) (fun _ _=>⟨rfl,rfl⟩)
def z6d(x:Int):Bool:=decide (-9223372036854775808≤x)&&decide (x≤9223372036854775807)
def I(x:Int):TV:=.pv (.v (.int .i64 x))
def S(s:ByteArray):TV:=.pv (.v (.string s))
def bl(s:ByteArray):zB:=s.data.toList
theorem z6B(s:ByteArray):str (bl s)=s:=by cases s;simp[str,bl]
theorem z2u{f:Nat}(h:(match Tryd.prog.funcs[f]? with|some fn=>fn.body.isSome&&fn.name != "runtime.NumGoroutine" |none=>false)=true):z1Y Tryd.prog f:=by
 split at h
 ·rename_i fn hfn;rw[Bool.and_eq_true]at h;obtain⟨b,hb⟩:=Option.isSome_iff_exists.1 h.1;exact⟨fn,b,hfn,hb,by simpa using h.2⟩
 ·cases h
theorem z3e{x:Int}(h:z6d x=true): -9223372036854775808≤x∧x≤9223372036854775807:=by
 unfold z6d at h;simpa using h
def z5W:zp:=fun f xs os=>
 if Nat.beq f 61 then match xs,os with
  |[.pv (.v (.string s))],[]=>if decide (s.size≤9223372036854775807)then some (.pv (.v (.bool (Lib.validD s.data.toList))),[])else none
  |_,_=>none
 else none
theorem z4b(n:Nat):z0c Tryd.prog (gl0 n) z5W:=by
 intro f xs os y os' h;unfold z5W at h;split at h
 ·rename_i hf;obtain rfl:=Nat.eq_of_beq_eq_true hf;split at h<;>try(cases h;done)
  rename_i s;split at h<;>try(cases h;done)
  rename_i hx;cases h;exact z1L (vs:=[.string s]) (z2u (by kernel_rfl)) (fun w E r=> .pv (.v _)) (fun w hG=>Tryd.utf8_ValidString s w (by simpa using hx) hG.u.tabs)
 ·cases h
end Go.Proofs.YtcpaleaajdilgaaDoor
end

section
namespace Go.Proofs.YtcpaleaajdilgaaDoor
open Go.ChangeShapes Go.WideShapes Go.ChangeAt Go.RowKit Go.Lib Go.Mor Go.Deep
open Go.ChangeMaps (open_string shut_string)
theorem own:ownKnob Tryd.prog.godebug=none:=by kernel_rfl
theorem zaJ:Rows.laid_unicode_utf8_acceptRanges=Lib.acceptData:=by kernel_rfl
theorem zby{W:World}(h:W.ShapedOpen Tryd.prog):4≤W.heap.size:=by
 obtain⟨o,o0,h1,_⟩:=h.2 4 (of_decide_eq_true (by kernel_rfl)) (of_decide_eq_true (by kernel_rfl));exact Nat.le_of_lt (gA h1).1
theorem z9s{W:World}{L:List (String×DataW Unit)}(hL:laidMet Tryd.prog L W)(h1:("unicode/utf8.first",Rows.laid_unicode_utf8_first)∈L)(h2:("unicode/utf8.acceptRanges",Rows.laid_unicode_utf8_acceptRanges)∈L):GlobU W:=
 ⟨utf8Tabs_of_readsT (U8Types.of196 Tryd.laysValid) ⟨by kernel_rfl,by kernel_rfl,by kernel_rfl,by kernel_rfl,by kernel_rfl,by kernel_rfl,by kernel_rfl⟩ (by rw[←Pinned.utf8First_eq];exact Lib.laidMet.reads hL h1) (by rw[←zaJ];exact Lib.laidMet.reads hL h2)⟩
def z90:DataW Unit→zB
 | .iface _ (.ptr (.agg [.lit (.string l)]))=>l
 |_=>[]
noncomputable def z2d(os:Os):World:=
 let N:=(World.settled Tryd.prog os).heap.size
 let w0:=World.holding Tryd.prog os ⟨#[.cells #[.string ⟨(z90 Rows.laid_moraine_wire_errEnd).toArray⟩] 153,.cells #[.string ⟨(z90 Rows.laid_moraine_wire_errForm).toArray⟩] 153],#[],[]⟩
 let put (h:Array Obj) (g:Nat) (cs:Array Value):Array Obj:=h.modify g fun
  | .cells _ t frozen=> .cells cs t frozen
  |o=>o
 let h:=w0.heap
 let h:=put h 3 ((List.range 16).flatMap fun i=>[Value.int .u8 (Lib.accLo i),Value.int .u8 (Lib.accHi i)]).toArray
 let h:=put h 1 #[.iface 129 (.pointer (some ⟨N,0,none⟩))]
 let h:=put h 0 #[.iface 129 (.pointer (some ⟨N+1,0,none⟩))]
 let h:=put h 2 (Lib.firstTab.map fun z=>Value.int .u8 z).toArray
 { w0 with heap:=h }
noncomputable abbrev N0:Nat:=(World.settled Tryd.prog default).heap.size
theorem zaj:laidOutB Tryd.prog=true:=by kernel_rfl
section
variable{H:Type}{enc:TypeId×Value→H}
theorem z5Q{W W':World}(hb:Below W.heap.size W W'){sp:Nat→Bool}:∀{ts:List TypeId} {vs:List Value} {ds:List (DataW H)} {ps:List MemPlace},
  (ts.all fun t=>Tryd.prog.readableRec t&&decide (t<Tryd.prog.types.size))=true→DataW.TrodAll enc Tryd.prog W 0 (fun _=>true) true ts vs ds ps→(∀x∈ps,x.block<W.heap.size)→(∀x∈ps,sp x.block=true)→
  DataW.TrodAll enc Tryd.prog W' 0 sp true ts vs ds ps:=by
 intro ts
 induction ts with
 |nil=>
  intro vs ds ps _ h _ _;obtain⟨rfl,rfl,rfl⟩:=trodAll_nil h;exact trodAll_mk0
 |cons t ts ih=>
  intro vs ds ps hr h hlt hsp;obtain⟨v,vs',d,ds',p,q,rfl,rfl,rfl,h1,h2⟩:=trodAll_cons h;simp only[List.all_cons,Bool.and_eq_true,decide_eq_true_iff]at hr;refine trodAll_cons_mk (WideElems.Trod_stays zaj hr.1.1 hr.1.2 h1 (fun x hx=>hb.same (hlt x (by simp[hx]))) (fun x hx=>hsp x (by simp[hx]))) (ih hr.2 h2 (fun x hx=>hlt x (by simp[hx])) (fun x hx=>hsp x (by simp[hx])))
theorem z5L{P:Program}{f:Func}{s:ChangeSpec}{z0p fresh handsOn again:Bool}{W W':World}{args:Array Value}{v:Value}{ds gs:List (DataW H)}{before pa pv:List MemPlace}
  (hW:DataW.Whole enc P f.params.toList s.vars z0p W args.toList ds gs before)
  (hres:∀(b:Nat) (sp:Nat→Bool) (hd:Bool),DataW.TrodAll enc P W' b sp hd f.resultTypes.toList (v.resultList f.resultTypes.size) (s.fn H (ds++gs)).results [])
  (hargs:∀sp:Nat→Bool,(∀p∈before,sp p.block=true)→DataW.TrodAll enc P W' 0 sp true f.params.toList args.toList (s.fn H (ds++gs)).args pa)
  (hvars:∀sp:Nat→Bool,(∀p∈before,sp p.block=true)→DataW.TrodVars enc P W' sp s.vars (s.fn H (ds++gs)).vars pv)
  (hps:before=pa++pv) (hb:Below W.heap.size W W')
  (hok:∀(j:Nat) (t:TypeId) (r:Value),f.resultTypes[j]?=some t→(v.resultList f.resultTypes.size)[j]?=some r→Value.okWide P W' .any 0 t r):
  s.post enc P f z0p fresh handsOn again W args v W':=by
 have hlt:∀p∈before,p.block<W.heap.size:=fun p hp=>hW.lt p hp;have hold:∀p∈before,(fun b=>decide (b<W.heap.size)) p.block=true:=fun p hp=>by simpa using hlt p hp
 refine⟨ds,gs,before,[],pa,pv,hW,hres _ _ _,hargs _ hold,hvars _ hold,World.keptBut_mono (fun p hp=>⟨hp,?_⟩) (hb.frame (·∈before)),fun _=> ?_⟩
 ·rw[hps,List.mem_append]at hp;exact Or.inr hp
 ·obtain⟨_,_,_,_,_,hz,hn⟩:=hW;refine⟨hok,_,_,([]++pa)++pv,⟨[]++pa,pv,trodAll_append (hargs _ (fun _ _=>rfl)) (hres _ _ _),hvars _ (fun _ _=>rfl),rfl,?_,?_⟩,?_⟩
  ·intro b off hp;have hin:MemPlace.cell b off∈before:=by rw[hps];simpa using hp
   rw[hb.frozen (hlt _ hin)];exact hz b off hin
  ·intro ha;have:=hn ha;rw[hps]at this;simpa using this
  ·intro p hp _;rw[hps];simpa using hp
theorem zbB(f:FuncId)(fn:Func)(sp:ChangeSpec){W W':World}{args:Array Value}{ds gs:List (DataW H)}{before:List MemPlace}{fresh handsOn again:Bool}
  (hv:sp.vars=[]) (hr:(fn.params.toList.all fun t=>Tryd.prog.readableRec t&&decide (t<Tryd.prog.types.size))=true) (hres:fn.resultTypes= #[4])
  (hfn:sp.fn H (ds++[])={ results:=[.lit (.bool true)],args:=ds })
  (hW:DataW.Whole enc Tryd.prog fn.params.toList sp.vars false W args.toList ds gs before) (hb:Below W.heap.size W W'):
  sp.post enc Tryd.prog fn false fresh handsOn again W args (.bool true) W':=by
 have hW':=hW;obtain⟨p,q,hA,hV,rfl,_,_⟩:=hW;rw[hv]at hV;obtain⟨rfl,rfl⟩:=trodVars_none hV;have hlt:∀x∈p,x.block<W.heap.size:=fun x hx=>hW'.lt x (by simp[hx]);refine z5L (pa:=p) (pv:=[]) hW' (fun b sp' hd=> ?_) (fun sp' hsp=> ?_) (fun sp' hsp=> ?_) rfl hb ?_
 ·rw[hfn,hres];exact trodAll_mk1 (shut_bool Tryd.underlying4 _)
 ·rw[hfn];exact z5Q hb hr hA hlt (fun x hx=>hsp x (by simp[hx]))
 ·rw[hfn,hv];rfl
 ·exact ok_one hres rfl (okWide_bool_mk Tryd.underlying4 _)
end
end Go.Proofs.YtcpaleaajdilgaaDoor
end
