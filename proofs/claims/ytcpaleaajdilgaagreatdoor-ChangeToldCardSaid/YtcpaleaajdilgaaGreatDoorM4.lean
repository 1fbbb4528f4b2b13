/- Merged texts: S15 S16 Base Glb Shelf Pr0 S17 S18 Plain Pcm Dt By PWire PWire2 PWire3 PClass Px1 Px2 Px3. No statement of the program is proved here. -/
import Derived.Test.YtcpaleaajdilgaaGreatDoorM1
import Derived.Test.YtcpaleaajdilgaaGreatDoorM2
import Derived.Test.YtcpaleaajdilgaaGreatDoorM3
import Derived.WalkSpells
import Derived.WalkLawsBesides
import Derived.Lib.Hide
import Derived.Deep.Draws
import Derived.Lib.LaidU8
import Derived.Test.YtcpaleaajdilgaaGreatDoorProg
import Derived.Shelf.LaysM
import Derived.Shelf.Strconv.Itoa3
import Derived.Shelf.Strings.Replace
import Derived.Shelf.Strings.OnBuilder
import Derived.Shelf.Strings.Search3
import Derived.Shelf.Small.Utf8
import Derived.Shelf.LaysC
import Derived.Shelf.Unicode.DecodeAny
import Derived.Shelf.Unicode.ValidAny
import Derived.Shelf.Small.Wraps
import Derived.Laws.StructEq
import Derived.Lib.ValidU
import Derived.Lib.TrimUEq
import Derived.Lib.ValidLaws
import Derived.Lib.ItoaNum
import Derived.Lib.Join
set_option linter.unusedSimpArgs false
set_option linter.unusedVariables false
set_option maxRecDepth 100000
set_option maxHeartbeats 8000000
section
namespace Go.Sh
open Go Go.RowKit
section
def rawsOf:Code→List Code
 | .seq a b=>rawsOf a++rawsOf b
 | .cond _ a b=>rawsOf a++rawsOf b
 | .block _ a=>rawsOf a
 | .loop a=>rawsOf a
 | .rangeFunc a b c d=>[.rangeFunc a b c d]
 |_=>[]
def rawOf(P:Program)(f k:Nat):Code:=match P.funcs[f]? with
 |some fn=>match fn.body with
  |some c=>(rawsOf c).getD k .skip
  |none=> .skip
 |none=> .skip
inductive SRes where
 |tmp (t:Nat)
 |cell (agg:Bool) (size:Nat) (t:Nat)
structure SFunc where
 N:Nat
 code:SCode
 res:List SRes
 keep:Bool
def SRes.get(s:FS):SRes→Option TV
 | .tmp t=>s.t t
 | .cell agg size t=>match s.t t with
  |some (.ptr d o)=>(s.b d).bind fun cs=>if agg then(if o+size≤cs.length then some (.agg ((cs.drop o).take size))else none)else cs[o]?
  |_=>none
def resT(s:FS):List SRes→Option TV
 |[r]=>r.get s
 |rs=>(seqO (SRes.get s) rs).map .tuple
def z70(P:Program):ResultVar→Option SRes
 | .tmp t=>some (.tmp t)
 | .cell a t=>match P.underlying t,P.info? t with
  |some d,some i=>some (if d.isRow then .cell true i.size a else .cell false 1 a)
  |_,_=>none
def z36(P:Program)(f:Nat)(H:Nat→Option Nat→Nat)(Fp:Nat→List (Nat→Option Nat))(K:Nat→List Nat)(keep:Bool):Option SFunc:=
 match P.funcs[f]? with
 |some fn=>match fn.body with
  |some c=>if fn.name != "runtime.NumGoroutine" &&Nat.ble fn.ntmps 1000 then match z15 P fn.ntmps H Fp K c,seqO (z70 P) fn.results.toList with
    |some sc,some rs=>some ⟨fn.ntmps,sc,rs,keep⟩
    |_,_=>none
   else none
  |none=>none
 |none=>none
def TV.ids3:TV→List Nat
 | .tuple cs=>cs.flatMap TV.ids2
 |t=>t.ids2
def idsFrom:Nat→Nat→List Nat
 |_,0=>[]
 |k,n+1=>k::idsFrom (k+1) n
def exitF(F:SFunc)(n:Nat)(s:ES):Option (TV×List MO):=
 match resT s.fs F.res with
 |some y0=>
  let I0:=idsFrom 1000 n
  let al:=reach s.fs F.keep 64 (y0.ids3++I0.flatMap fun d=>match s.fs.b d with|some cs=>cs.flatMap TV.ids1|none=>[]) I0
  match y0.ren3 (rhoIn al),seqO (fun d=>(s.fs.mo d).bind (MO.ren (rhoIn al))) al with
  |some y,some os'=>some (y,os')
  |_,_=>none
 |none=>none
def numT:Nat→List TV→List (Nat×TV)
 |_,[]=>[]
 |k,x::l=>(k,x)::numT (k+1) l
def numB:Nat→List MO→List (Nat×List TV)
 |_,[]=>[]
 |k,.box cs::l=>(k,cs)::numB (k+1) l
 |k,.row _ _ _::l=>numB (k+1) l
def numR:Nat→List MO→List (Nat×(Nat×Nat×Nat))
 |_,[]=>[]
 |k,.box _::l=>numR (k+1) l
 |k,.row e W n::l=>(k,(e,W,n))::numR (k+1) l
def startE(xs:List TV)(os:List MO):ES:=⟨numT 0 xs,numB 1000 os,numR 1000 os,[]⟩
theorem z155{a b:Nat}(h:a≠b):Nat.beq a b=false:=by grind [Nat.beq,Nat.eq_of_beq_eq_true]
theorem lk_numT:∀(xs:List TV) (k d:Nat),lk (numT k xs) d=if k≤d then xs[d-k]? else none
 |[],k,d=>by simp[numT,lk]
 |x::l,k,d=>by
  simp only[numT,lk];by_cases h:k=d
  ·simp_all
  ·rw[z155 h];simp only[lk_numT l]
   grind
theorem lk_numB:∀(os:List MO) (k d:Nat),lk (numB k os) d=if k≤d then(match os[d-k]? with|some (.box cs)=>some cs|_=>none)else none
 |[],k,d=>by simp[numB,lk]
 |m::l,k,d=>by
  have ih:=lk_numB l (k+1) d;by_cases h:k=d
  ·subst h;cases m<;>grind [numB,lk,Nat.beq_refl,only]
  ·have:lk (numB k (m::l)) d=lk (numB (k+1) l) d:=by cases m with|box cs=>simp only[numB,lk,z155 h]|row e W n=>simp only[numB]
   grind
theorem lk_numR:∀(os:List MO) (k d:Nat),lk (numR k os) d=if k≤d then(match os[d-k]? with|some (.row e W n)=>some (e,W,n)|_=>none)else none
 |[],k,d=>by simp[numR,lk]
 |m::l,k,d=>by
  have ih:=lk_numR l (k+1) d;by_cases h:k=d
  ·subst h;cases m<;>grind [only,numR,lk,Nat.beq_refl]
  ·have:lk (numR k (m::l)) d=lk (numR (k+1) l) d:=by cases m with|box cs=>simp only[numR]|row e W n=>simp only[numR,lk,z155 h]
   grind
theorem z147:∀(n k j:Nat),(idsFrom k n)[j]?=if j<n then some (k+j)else none
 |0,k,j=>by simp[idsFrom]
 |n+1,k,j=>by
  simp only[idsFrom];cases j with
  |zero=>simp
  |succ j=>
   simp only[List.getElem?_cons_succ,z147 n (k+1) j]
   grind
theorem z149(n k:Nat):(idsFrom k n).Nodup∧(idsFrom k n).length=n∧∀d∈idsFrom k n,k≤d:=by
 induction n generalizing k with
 |zero=>simp[idsFrom]
 |succ n ih=>
  grind [only,idsFrom]
theorem z77{s:FS}{rows:Bool}:∀(n:Nat) (l seen:List Nat),seen.Nodup→(reach s rows n l seen).Nodup∧∃t,reach s rows n l seen=seen++t
 |0,l,seen,h=>by simp only[reach];exact⟨h,[],by simp⟩
 |n+1,[],seen,h=>by simp only[reach];exact⟨h,[],by simp⟩
 |n+1,d::l,seen,h=>by
  simp only[reach];cases hp:pos seen d with
  |some j=>exact z77 n l seen h
  |none=>
   have hnd:(seen++[d]).Nodup:=List.nodup_append.2 ⟨h,by simp,by
    intro x hx y hy;simp at hy;subst hy;rintro rfl;exact pos_none hp hx⟩
   have key:∀l',(reach s rows n l' (seen++[d])).Nodup∧∃t,reach s rows n l' (seen++[d])=seen++t:=fun l'=>by
    obtain⟨h1,t,h2⟩:=z77 (s:=s) (rows:=rows) n l' (seen++[d]) hnd;exact⟨h1,[d]++t,by rw[h2];simp⟩
   cases s.b d with
   |some cs=>exact key _
   |none=>
    cases s.r d with
    |none=>exact z77 n l seen h
    |some q=>
     cases rows with
     |true=>exact key _
     |false=>exact z77 n l seen h
section
variable{P:Program}{g:Glob}{s:FS}{a:Act}{w:World}{E:Env}{B:Base}
theorem res_run{rv:ResultVar}{sr:SRes}(htr:z70 P rv=some sr)(h:Sim B s a w E){y:TV}(hy:sr.get s=some y):
  ∃v,(match rv with| .tmp t=>(pure (a.tmps.getD t undef):Sem Value)| .cell q t=>do loadVar t (←asAddr (a.tmps.getD q undef))).run P w=.ok v w∧RelT w E s.r y v:=by
 cases rv with
 |tmp t=>
  simp only[z70]at htr;cases htr;exact⟨_,rfl,(h.tmp t y hy).2⟩
 |cell q t=>
  simp only[z70]at htr;split at htr<;>try(cases htr;done)
  rename_i d i hu hi;cases htr;have fin:∀(dd off:Nat) (cs:List TV),s.t q=some (.ptr dd off)→s.b dd=some cs→(if d.isRow then(off+i.size≤cs.length∧y=.agg ((cs.drop off).take i.size))else cs[off]?=some y)→
    ∃v,(do loadVar t (←asAddr (a.tmps.getD q undef)):Sem Value).run P w=.ok v w∧RelT w E s.r y v:=by
   intro dd off cs hq hb hy;have hx:=(h.tmp q _ hq).2;generalize hv:a.tmps.getD q undef=v at hx;cases hx;obtain⟨hbox,_⟩:=h.mem.box dd cs hb;cases hd:d.isRow with
   |true=>
    simp only[hd,if_true]at hy;obtain⟨vs,hrel,hcell⟩:=box_rel hbox;have hl:((vs.drop off).take i.size).length=i.size:=by have:=hrel.len;simp;omega
    have hrun:=z163 (P:=P) (w:=w) (E.β dd) off t d i ((vs.drop off).take i.size) hu hi (fun j v hv'=>by
     have hj:j<i.size:=by have:=(gJ hv').1;omega
     simp[hj]at hv';exact hcell _ _ hv') (by simp only[hd,if_true];exact hl)
    simp only[hd,if_true]at hrun;exact⟨.agg ((vs.drop off).take i.size).toArray,by simp[asAddr,hrun,Result.andThen],by rw[hy.2];exact((hrel.drop off).take _).agg⟩
   |false=>
    simp only[hd,Bool.false_eq_true,if_false]at hy;obtain⟨v,c1,c2,c3⟩:=hbox.cell off y hy;have hrun:=z163 (P:=P) (w:=w) (E.β dd) off t d i [v] hu hi (fun j u hu'=>by
     cases j with
     |zero=>simp at hu';subst hu';exact c1
     |succ j=>simp at hu') (by simp[hd])
    simp only[hd,Bool.false_eq_true,if_false]at hrun;exact⟨v,by simp[asAddr,hrun,Result.andThen],c3⟩
  cases hd:d.isRow with
  |true=>
   simp only[hd,if_true,SRes.get]at hy;split at hy
   ·rename_i dd off hq;obtain⟨cs,hb,hy⟩:=gB hy;split at hy
    ·rename_i hle;cases hy;exact fin dd off cs hq hb (by rw[if_pos hd];exact⟨hle,rfl⟩)
    ·cases hy
   ·cases hy
  |false=>
   simp only[hd,Bool.false_eq_true,if_false,SRes.get]at hy;split at hy
   ·rename_i dd off hq;obtain⟨cs,hb,hy⟩:=gB hy;exact fin dd off cs hq hb (by simp only[hd,Bool.false_eq_true,if_false];exact hy)
   ·cases hy
def resSem(a:Act):ResultVar→Sem Value
 | .tmp t=>pure (a.tmps.getD t undef)
 | .cell q t=>do loadVar t (←asAddr (a.tmps.getD q undef))
theorem mapM_run{α:Type}(F:α→Sem Value):∀(l:List α) (vs:List Value),l.length=vs.length→(∀(j:Nat) x v,l[j]?=some x→vs[j]?=some v→(F x).run P w=.ok v w)→(l.mapM F).run P w=.ok vs w
 |[],[],_,_=>rfl
 |x::l,v::vs,hl,h=>by
  have h1:=h 0 x v rfl rfl;have h2:=mapM_run F l vs (by simpa using hl) (fun j x v hx hv=>h (j+1) x v (by simpa using hx) (by simpa using hv));simp_all
 |[],_::_,hl,_=>by simp at hl
 |_::_,[],hl,_=>by simp at hl
theorem results_run{fn:Func}{rs:List SRes}(htr:seqO (z70 P) fn.results.toList=some rs)(h:Sim B s a w E){y:TV}(hy:resT s rs=some y):∃v,(results fn a.tmps).run P w=.ok v w∧RelT w E s.r y v:=by
 have key:∀(l:List ResultVar) (rs:List SRes),seqO (z70 P) l=some rs→∀(ys:List TV),seqO (SRes.get s) rs=some ys→∃vs:List Value,l.length=vs.length∧(∀(j:Nat) x v,l[j]?=some x→vs[j]?=some v→(resSem a x).run P w=.ok v w)∧ys.length=vs.length∧∀(j:Nat) c v,ys[j]?=some c→vs[j]?=some v→RelT w E s.r c v:=by
  intro l
  induction l with
  |nil=>intro rs h1 ys h2;simp[seqO]at h1;subst h1;simp[seqO]at h2;subst h2;exact⟨[],rfl,by simp,rfl,by simp⟩
  |cons rv l ih=>
   intro rs h1 ys h2;obtain⟨sr,rs',h3,h4,rfl⟩:=seqO_cons h1;obtain⟨y,ys',h5,h6,rfl⟩:=seqO_cons h2;obtain⟨vs,a0,a1,a2,a3⟩:=ih rs' h4 ys' h6;obtain⟨v,b1,b2⟩:=res_run h3 h h5;have b1':(resSem a rv).run P w=.ok v w:=by cases rv<;>exact b1
   refine⟨v::vs,by simp[a0],fun j x u hx hu=> ?_,by simp[a2],fun j c u hc hu=> ?_⟩
   ·grind
   ·grind
 have hres:∀vs:List Value,(fn.results.toList.mapM (resSem a)).run P w=.ok vs w→(results fn a.tmps).run P w=.ok (if h:vs.length=1 then vs[0] else .tuple vs.toArray) w:=by
  intro vs hvs;have harr:(fn.results.mapM (resSem a)).run P w=.ok vs.toArray w:=by
   rw[←Array.toArray_toList (xs:=fn.results),List.mapM_toArray];simp_all
  have e:results fn a.tmps=(fn.results.mapM (resSem a))>>=fun vs=>pure (if h:vs.size=1 then vs[0] else .tuple vs):=by
   unfold results;congr 1
  simp_all
 have hmany:∀ys,seqO (SRes.get s) rs=some ys→(rs.length=1→ys=[y])→(rs.length≠1→y=.tuple ys)→∃v,(results fn a.tmps).run P w=.ok v w∧RelT w E s.r y v:=by
  intro ys hys h1 h2;obtain⟨vs,a0,a1,a2,a3⟩:=key _ rs htr ys hys;have hl1:=(z42 htr).1;refine⟨_,hres vs (mapM_run _ _ _ a0 a1),?_⟩;by_cases hone:vs.length=1
  ·rw[dif_pos hone];have hr1:rs.length=1:=by omega
   rw[h1 hr1]at a3;exact a3 0 y _ rfl (gE (by omega))
  ·rw[dif_neg hone];have hr1:rs.length≠1:=by omega
   rw[h2 hr1];exact .tuple ys vs a2 a3
 match rs,hy,hmany with
 |[],hy,hmany=>grind [resT,seqO]
 |[r],hy,hmany=>grind [only,resT,seqO]
 |r::r2::rr,hy,hmany=>
  simp only[resT]at hy;obtain⟨ys,h1,h2⟩:=gO hy;simp_all
theorem call_of_sem{f:Nat}{H:Nat→Option Nat→Nat}{Fp:Nat→List (Nat→Option Nat)}{K:Nat→List Nat}{keep:Bool}{F:SFunc}(hmix:P.follows .mixedOrders=true)(hF:z36 P f H Fp K keep=some F){xs:List TV}{os os':List MO}{y:TV}(hn:xs.length≤F.N)(hos:os.length≤1000)(hmo:moOk os os'=true)
  (h:SemW P g F.N F.code (fun e s=>(e=.ret∨e=.normal)∧exitF F os.length s=some (y,os')) (startE xs os)):SCalls P g f xs os y os':=by
 unfold z36 at hF;split at hF<;>try(cases hF;done)
 rename_i fn hfn;split at hF<;>try(cases hF;done)
 rename_i c hc;split at hF<;>try(cases hF;done)
 rename_i hname;split at hF<;>try(cases hF;done)
 rename_i sc rs hsc hrs;cases hF;rw[Bool.and_eq_true]at hname;have hnm:¬fn.name= "runtime.NumGoroutine" :=by grind
 have hN:fn.ntmps≤1000:=Nat.le_of_ble_eq_true hname.2;refine⟨⟨fn,c,hfn,hc,hnm⟩,fun w E vs hG hm hX hl hxs=> ?_⟩;let B:Base:=start w E os fn.ntmps
 have hmB:MSim B (objB os) (objR os) w E:=⟨hm.box,hm.row,hm.bb,hm.br,hm.rr,hm.lt,hm.low,hm.keep,hm.knew,⟨hm.pas.β,hm.pas.γ,hm.pas.row⟩⟩
 have hfs:(startE xs os).fs=⟨fun k=>xs[k]?,objB os,objR os,fun _=>none⟩:=by
  refine FS.ext' (fun k=> ?_) (fun k=> ?_) (fun k=> ?_) (fun k=>rfl)
  ·show lk (numT 0 xs) k=_;rw[lk_numT];simp
  ·show lk (numB 1000 os) k=_;rw[lk_numB];rfl
  ·show lk (numR 1000 os) k=_;rw[lk_numR];rfl
 have hsize:(vs.toArray++Array.replicate (fn.ntmps-vs.toArray.size) undef).size=fn.ntmps:=by
  grind
 have hS:Sim B (startE xs os).fs { tmps:=vs.toArray++Array.replicate (fn.ntmps-vs.toArray.size) undef,defers:=[] } w E:=by
  rw[hfs];refine⟨rfl,hsize,fun k x hx=> ?_,hmB,fun d z p hd=>(by cases hd),fun d d' q q' hd=>(by cases hd)⟩;have hk:k<xs.length:=(gJ hx).1;refine⟨Nat.lt_of_lt_of_le hk hn,?_⟩;have hkv:k<vs.length:=by omega
  have hv:(vs.toArray++Array.replicate (fn.ntmps-vs.toArray.size) undef).getD k undef=vs[k]:=by
   rw[Array.getD_eq_getD_getElem?,Array.getElem?_append_left (by simpa using hkv)];simp[hkv]
  show RelT w E (objR os) x ((vs.toArray++Array.replicate (fn.ntmps-vs.toArray.size) undef).getD k undef);rw[hv];exact hxs k x _ hx (gE hkv)
 refine calls_of_wp hfn hc (wp_mono (h _ _ _ c hsc B _ _ _ rfl hos hN hG hX hS) ?_);rintro x a' w' ⟨e,s',E',rfl,⟨he,hex⟩,hS'⟩;have fin:a'.defers=[]∧∃v,(results fn a'.tmps).run P w'=.ok v w'∧(∃v_1 E'_1,Ending.returned v=Ending.returned v_1∧MSim (start w E os 0) (objB os') (objR os') w' E'_1∧RelT w' E'_1 (objR os') y v_1∧Left E os E'_1 os'):=by
  refine⟨hS'.defers,?_⟩;unfold exitF at hex;split at hex<;>try(cases hex;done)
  rename_i y0 hy0;obtain⟨v,hrun,hrel⟩:=results_run (fn:=fn) hrs hS' hy0;refine⟨v,hrun,v,?_⟩;simp only[]at hex;obtain⟨i1,i2,i3⟩:=z149 os.length 1000;generalize hal:reach s'.fs keep 64 (y0.ids3++(idsFrom 1000 os.length).flatMap fun d=>match s'.fs.b d with|some cs=>cs.flatMap TV.ids1|none=>[]) (idsFrom 1000 os.length)=al at hex;obtain⟨hnd,t,hpre⟩:=z77 (s:=s'.fs) (rows:=keep) 64 (y0.ids3++(idsFrom 1000 os.length).flatMap fun d=>match s'.fs.b d with|some cs=>cs.flatMap TV.ids1|none=>[]) _ i1;rw[hal]at hnd hpre;split at hex<;>try(cases hex;done)
  rename_i y1 os1 hren hmos;cases hex;have hpas:∀j,j<os.length→al[j]?=some (1000+j):=fun j hj=>by
   grind [List.getElem?_append_left,z147]
  have hM:=z114 hS' hnd hmos;obtain⟨hlen,hBx,hRx⟩:=handed hmos;have hβ:∀{i j},al[j]?=some i→(envIn E' al).β (1000+j)=E'.β i:=fun hj=>by simp only[envIn];rw[getD_of hj]
  have hγ:∀{i j},al[j]?=some i→(envIn E' al).γ (1000+j)=E'.γ i:=fun hj=>by simp only[envIn];rw[getD_of hj]
  have hXs:∀{i j b},al[j]?=some i→objX E os i b→objX E os (1000+j) b:=by
   intro i j b hj hx;have hi:∃q,i=1000+q∧q<os.length:=by
    rcases hx with⟨cs,h1,_⟩|⟨⟨e,W,n⟩,cap,h1,_⟩<;>grind [z49,List.getElem?_eq_some_iff,z30]
   obtain⟨q,rfl,hq⟩:=hi;have a1:=z78 hnd hj;have a2:=z78 hnd (hpas q hq)
   grind
  have hM':MSim (start w E os 0) (objB os') (objR os') w' (envIn E' al):=by
   refine⟨fun d cs' hd=> ?_,fun d e W n hd=> ?_,hM.bb,hM.br,hM.rr,hM.lt,hS'.mem.low,hS'.mem.keep,hS'.mem.knew,⟨fun d ho=> ?_,fun d ho h0=> ?_,fun d e W n ho hd=> ?_⟩⟩
   ·refine⟨(hM.box d cs' hd).1,?_⟩;obtain⟨j,rfl,hj⟩:=z49 hd;obtain⟨i,cs,q1,q2,_⟩:=hBx j cs' hj;rw[hβ q1];rcases(hS'.mem.box i cs q2).2 with h1|h1
    ·exact .inl h1
    ·exact .inr (hXs q1 h1)
   ·obtain⟨j,rfl,hj⟩:=z30 hd;obtain⟨i,q1,q2,q3⟩:=hRx j e W n hj;rw[hγ q1];rcases hS'.mem.row i e W n q3 with h1|⟨k,cap,h1,h2,h3⟩
    ·grind
    ·exact .inr ⟨k,cap,h1,h2.imp id (hXs q1),h3.cells,h3.le,h3.max,h3.out⟩
   ·obtain⟨q,rfl⟩:∃q,d=1000+q:=⟨d-1000,by have:=ho.1;omega⟩
    have hq:q<os.length:=by have:=ho.2;have h2:1000+q<1000+os.length:=this;omega
    rw[hβ (hpas q hq)];exact hS'.mem.pas.β _ ho
   ·obtain⟨q,rfl⟩:∃q,d=1000+q:=⟨d-1000,by have:=ho.1;omega⟩
    have hq:q<os.length:=by have:=ho.2;have h2:1000+q<1000+os.length:=this;omega
    rw[hγ (hpas q hq)];exact hS'.mem.pas.γ _ ho h0
   ·obtain⟨q,rfl⟩:∃q,d=1000+q:=⟨d-1000,by have:=ho.1;omega⟩
    have hq:q<os.length:=by have:=ho.2;have h2:1000+q<1000+os.length:=this;omega
    obtain⟨j,hj0,hj⟩:=z30 hd;obtain rfl:q=j:=by omega
    obtain⟨i,q1,q2,q3⟩:=hRx q e W n hj;rw[hpas q hq]at q1;cases q1;rw[hγ (hpas q hq)];exact hS'.mem.pas.row _ e W n ho q3
  refine⟨envIn E' al,rfl,hM',z153 (renIn hmos) (fun _ _ _ h _=>h) hrel hren,⟨fun d h1 h2=>hM'.pas.β d ⟨h1,h2⟩,fun d h1 h2 h0=>hM'.pas.γ d ⟨h1,h2⟩ h0,fun d e W n hd=> ?_⟩⟩;obtain⟨q,rfl,hq⟩:=z30 hd;have hql:q<os.length:=(gJ hq).1;obtain⟨n',h1,h2⟩:=(z113 hmo).2.2.2 q e W n hq;obtain⟨n0,h3,h4,h5⟩:=hM'.pas.row (1000+q) e W n' ⟨by omega,by show 1000+q<1000+os.length;omega⟩ (z58 h1);have h3:objR os (1000+q)=some (e,W,n0):=h3;rw[hd]at h3;cases h3;exact⟨n',z58 h1,h4,h5⟩
 rcases he with rfl|rfl
 ·exact fin
 ·exact fin
theorem pan_of_swp{f:Nat}{H:Nat→Option Nat→Nat}{Fp:Nat→List (Nat→Option Nat)}{K:Nat→List Nat}{keep:Bool}{F:SFunc}(hmix:P.follows .mixedOrders=true)(hF:z36 P f H Fp K keep=some F){xs:List TV}{os os':List MO}{z:Value}(hn:xs.length≤F.N)(hos:os.length≤1000)(hmo:moOk os os'=true)
  (h:swp P g F.code (fun e s=>e=.pan z∧exitF ⟨0,.skip,[],keep⟩ os.length s=some (.tuple [],os')) (startE xs os)):SPan P g f xs os z os':=by
 unfold z36 at hF;split at hF<;>try(cases hF;done)
 rename_i fn hfn;split at hF<;>try(cases hF;done)
 rename_i c hc;split at hF<;>try(cases hF;done)
 rename_i hname;split at hF<;>try(cases hF;done)
 rename_i sc rs hsc hrs;cases hF;rw[Bool.and_eq_true]at hname;have hnm:¬fn.name= "runtime.NumGoroutine" :=by grind
 have hN:fn.ntmps≤1000:=Nat.le_of_ble_eq_true hname.2;refine⟨⟨fn,c,hfn,hc,hnm⟩,fun w E vs hG hm hX hl hxs=> ?_⟩;let B:Base:=start w E os fn.ntmps
 have hmB:MSim B (objB os) (objR os) w E:=⟨hm.box,hm.row,hm.bb,hm.br,hm.rr,hm.lt,hm.low,hm.keep,hm.knew,⟨hm.pas.β,hm.pas.γ,hm.pas.row⟩⟩
 have hfs:(startE xs os).fs=⟨fun k=>xs[k]?,objB os,objR os,fun _=>none⟩:=by
  refine FS.ext' (fun k=> ?_) (fun k=> ?_) (fun k=> ?_) (fun k=>rfl)
  ·show lk (numT 0 xs) k=_;rw[lk_numT];simp
  ·show lk (numB 1000 os) k=_;rw[lk_numB];rfl
  ·show lk (numR 1000 os) k=_;rw[lk_numR];rfl
 have hsize:(vs.toArray++Array.replicate (fn.ntmps-vs.toArray.size) undef).size=fn.ntmps:=by
  grind
 have hS:Sim B (startE xs os).fs { tmps:=vs.toArray++Array.replicate (fn.ntmps-vs.toArray.size) undef,defers:=[] } w E:=by
  rw[hfs];refine⟨rfl,hsize,fun k x hx=> ?_,hmB,fun d z p hd=>(by cases hd),fun d d' q q' hd=>(by cases hd)⟩;have hk:k<xs.length:=(gJ hx).1;refine⟨Nat.lt_of_lt_of_le hk hn,?_⟩;have hkv:k<vs.length:=by omega
  have hv:(vs.toArray++Array.replicate (fn.ntmps-vs.toArray.size) undef).getD k undef=vs[k]:=by
   rw[Array.getD_eq_getD_getElem?,Array.getElem?_append_left (by simpa using hkv)];simp[hkv]
  show RelT w E (objR os) x ((vs.toArray++Array.replicate (fn.ntmps-vs.toArray.size) undef).getD k undef);rw[hv];exact hxs k x _ hx (gE hkv)
 refine calls_of_wp hfn hc (wp_mono (z48 (B:=B) hmix hos hN hG hX hsc h hS) ?_);rintro x a' w' ⟨e,s',E',rfl,⟨rfl,hex⟩,hS'⟩;have fin:a'.defers=[]∧(∃E'_1,Ending.panicked [{ v:=z,recovered:=false }]=Ending.panicked [{ v:=z,recovered:=false }]∧MSim (start w E os 0) (objB os') (objR os') w' E'_1∧Left E os E'_1 os'):=by
  refine⟨hS'.defers,?_⟩;unfold exitF at hex;split at hex<;>try(cases hex;done)
  rename_i y0 hy0;simp only[]at hex;obtain⟨i1,i2,i3⟩:=z149 os.length 1000;generalize hal:reach s'.fs keep 64 (y0.ids3++(idsFrom 1000 os.length).flatMap fun d=>match s'.fs.b d with|some cs=>cs.flatMap TV.ids1|none=>[]) (idsFrom 1000 os.length)=al at hex;obtain⟨hnd,t,hpre⟩:=z77 (s:=s'.fs) (rows:=keep) 64 (y0.ids3++(idsFrom 1000 os.length).flatMap fun d=>match s'.fs.b d with|some cs=>cs.flatMap TV.ids1|none=>[]) _ i1;rw[hal]at hnd hpre;split at hex<;>try(cases hex;done)
  rename_i y1 os1 hren hmos;cases hex;have hpas:∀j,j<os.length→al[j]?=some (1000+j):=fun j hj=>by
   grind [List.getElem?_append_left,z147]
  have hM:=z114 hS' hnd hmos;obtain⟨hlen,hBx,hRx⟩:=handed hmos;have hβ:∀{i j},al[j]?=some i→(envIn E' al).β (1000+j)=E'.β i:=fun hj=>by simp only[envIn];rw[getD_of hj]
  have hγ:∀{i j},al[j]?=some i→(envIn E' al).γ (1000+j)=E'.γ i:=fun hj=>by simp only[envIn];rw[getD_of hj]
  have hXs:∀{i j b},al[j]?=some i→objX E os i b→objX E os (1000+j) b:=by
   intro i j b hj hx;have hi:∃q,i=1000+q∧q<os.length:=by
    rcases hx with⟨cs,h1,_⟩|⟨⟨e,W,n⟩,cap,h1,_⟩<;>grind [z49,List.getElem?_eq_some_iff,z30]
   obtain⟨q,rfl,hq⟩:=hi;have a1:=z78 hnd hj;have a2:=z78 hnd (hpas q hq)
   grind
  have hM':MSim (start w E os 0) (objB os') (objR os') w' (envIn E' al):=by
   refine⟨fun d cs' hd=> ?_,fun d e W n hd=> ?_,hM.bb,hM.br,hM.rr,hM.lt,hS'.mem.low,hS'.mem.keep,hS'.mem.knew,⟨fun d ho=> ?_,fun d ho h0=> ?_,fun d e W n ho hd=> ?_⟩⟩
   ·refine⟨(hM.box d cs' hd).1,?_⟩;obtain⟨j,rfl,hj⟩:=z49 hd;obtain⟨i,cs,q1,q2,_⟩:=hBx j cs' hj;rw[hβ q1];rcases(hS'.mem.box i cs q2).2 with h1|h1
    ·exact .inl h1
    ·exact .inr (hXs q1 h1)
   ·obtain⟨j,rfl,hj⟩:=z30 hd;obtain⟨i,q1,q2,q3⟩:=hRx j e W n hj;rw[hγ q1];rcases hS'.mem.row i e W n q3 with h1|⟨k,cap,h1,h2,h3⟩
    ·grind
    ·exact .inr ⟨k,cap,h1,h2.imp id (hXs q1),h3.cells,h3.le,h3.max,h3.out⟩
   ·obtain⟨q,rfl⟩:∃q,d=1000+q:=⟨d-1000,by have:=ho.1;omega⟩
    have hq:q<os.length:=by have:=ho.2;have h2:1000+q<1000+os.length:=this;omega
    rw[hβ (hpas q hq)];exact hS'.mem.pas.β _ ho
   ·obtain⟨q,rfl⟩:∃q,d=1000+q:=⟨d-1000,by have:=ho.1;omega⟩
    have hq:q<os.length:=by have:=ho.2;have h2:1000+q<1000+os.length:=this;omega
    rw[hγ (hpas q hq)];exact hS'.mem.pas.γ _ ho h0
   ·obtain⟨q,rfl⟩:∃q,d=1000+q:=⟨d-1000,by have:=ho.1;omega⟩
    have hq:q<os.length:=by have:=ho.2;have h2:1000+q<1000+os.length:=this;omega
    obtain⟨j,hj0,hj⟩:=z30 hd;obtain rfl:q=j:=by omega
    obtain⟨i,q1,q2,q3⟩:=hRx q e W n hj;rw[hpas q hq]at q1;cases q1;rw[hγ (hpas q hq)];exact hS'.mem.pas.row _ e W n ho q3
  refine⟨envIn E' al,rfl,hM',⟨fun d h1 h2=>hM'.pas.β d ⟨h1,h2⟩,fun d h1 h2 h0=>hM'.pas.γ d ⟨h1,h2⟩ h0,fun d e W n hd=> ?_⟩⟩;obtain⟨q,rfl,hq⟩:=z30 hd;have hql:q<os.length:=(gJ hq).1;obtain⟨n',h1,h2⟩:=(z113 hmo).2.2.2 q e W n hq;obtain⟨n0,h3,h4,h5⟩:=hM'.pas.row (1000+q) e W n' ⟨by omega,by show 1000+q<1000+os.length;omega⟩ (z58 h1);have h3:objR os (1000+q)=some (e,W,n0):=h3;rw[hd]at h3;cases h3;exact⟨n',z58 h1,h4,h5⟩
 exact fin
theorem call_of_swp{f:Nat}{H:Nat→Option Nat→Nat}{Fp:Nat→List (Nat→Option Nat)}{K:Nat→List Nat}{keep:Bool}{F:SFunc}(hmix:P.follows .mixedOrders=true)(hF:z36 P f H Fp K keep=some F){xs:List TV}{os os':List MO}{y:TV}(hn:xs.length≤F.N)(hos:os.length≤1000)(hmo:moOk os os'=true)
  (h:swp P g F.code (fun e s=>(e=.ret∨e=.normal)∧exitF F os.length s=some (y,os')) (startE xs os)):SCalls P g f xs os y os':=call_of_sem hmix hF hn hos hmo (sem_swp hmix h)
end
end
section
def hintT(T:List (Nat×Nat))(j:Nat)(d:Option Nat):Nat:=match lk T (dstId d)with|some m=>m|none=>j
def killT(T:List (Nat×List Nat))(id:Nat):List Nat:=match lk T id with|some l=>l|none=>[]
def fpT(T:List (Nat×List (List (Nat×Nat))))(id:Nat):List (Nat→Option Nat):=match lk T id with|some ls=>ls.map lk|none=>[fun _=>none]
def altsE(P:Program)(C:Oracle)(kill:List Nat):List (List Nat×List SOper)→ES→Option ES
 |[],_=>none
 |(n,l)::r,s=>match runE P C l (s.fgt n)with
  |some s'=>some (s'.kill kill)
  |none=>altsE P C kill r s
def iter(f:ES→Option (SExit×ES)):Nat→ES→Option (SExit×ES)
 |0,_=>none
 |n+1,s=>match f s with
  |some (.normal,s')=>iter f n s'
  |r=>r
def exec(P:Program)(C:Oracle)(L:Nat):SCode→ES→Option (SExit×ES)
 | .skip,s=>some (.normal,s)
 | .reg alts kill,s=>match altsE P C kill alts s with
  |some s'=>some (.normal,s')
  |none=>none
 | .regq alts kill,s=>match altsE P C kill alts s with
  |some s'=>some (.normal,s')
  |none=>none
 | .raw _ _,_=>none
 | .seq a b,s=>match exec P C L a s with
  |some (.normal,s')=>exec P C L b s'
  |r=>r
 | .cond c a b,s=>match c.get s.fs with
  |some (.pv (.v (.bool true)))=>exec P C L a s
  |some (.pv (.v (.bool false)))=>exec P C L b s
  |_=>none
 | .block id a,s=>match exec P C L a s with
  |some (.exit j,s')=>match Nat.beq j id with
   |true=>some (.normal,s')
   |false=>some (.exit j,s')
  |r=>r
 | .loop a,s=>iter (fun s=>exec P C L a s) L s
 | .exit id,s=>some (.exit id,s)
 | .ret,s=>some (.ret,s)
def callF(P:Program)(F:Nat→Option SFunc)(prim:Oracle)(L:Nat):Nat→Oracle
 |0=>fun _ _ _=>none
 |n+1=>fun f xs os=>match prim f xs os with
  |some r=>some r
  |none=>match F f with
   |some G=>match Nat.ble xs.length G.N,Nat.ble os.length 1000 with
    |true,true=>match exec P (callF P F prim L n) L G.code (startE xs os)with
     |some (.ret,s)=>match exitF G os.length s with
      |some (y,os')=>match moOk os os' with|true=>some (y,os')|false=>none
      |none=>none
     |some (.normal,s)=>match exitF G os.length s with
      |some (y,os')=>match moOk os os' with|true=>some (y,os')|false=>none
      |none=>none
     |_=>none
    |_,_=>none
   |none=>none
section
variable{P:Program}{g:Glob}{C:Oracle}{L:Nat}
end
end
end Go.Sh
end

section
namespace Go.Mor
open Go Go.RowKit
def str(l:zB):ByteArray:=⟨l.toArray⟩
theorem str_toList(l:zB):(str l).data.toList=l:=by simp[str]
theorem str_size(l:zB):(str l).size=l.length:=by simp[str,ByteArray.size]
@[go_sem,simp] theorem str_list (l:zB):(str l).toList=l:=ByteArray.toList_mk l
@[go_sem,simp] theorem str_size' (l:zB):(str l).size=l.length:=str_size l
@[go_sem,simp] theorem str_extract (l:zB) (a b:Nat):(str l).extract a b=str ((l.drop a).take (b-a)):=ByteArray.extract_mk l a b
@[go_sem,simp] theorem str_append (a b:zB):str a++str b=str (a++b):=ByteArray.mk_append_mk a b
@[go_sem,simp] theorem str_get (l:zB) (i:Nat) (h:i<(str l).size):(str l)[i]=l[i]'(by simpa using h):=by
 simp[str,ByteArray.getElem_eq_getElem_data]
inductive V where
 |mk (k n:Int) (s:zB) (l:List V)
def V.k:V→Int| .mk k _ _ _=>k
def V.n:V→Int| .mk _ n _ _=>n
def V.s:V→zB| .mk _ _ s _=>s
def V.l:V→List V| .mk _ _ _ l=>l
theorem V.eta(x:V):V.mk x.k x.n x.s x.l=x:=by cases x;rfl
def V.nil:V:=.mk 0 0 [] []
theorem V.size_lt{x:V}{l:List V}(h:x∈l)(k n:Int)(s:zB):SizeOf.sizeOf x<SizeOf.sizeOf (V.mk k n s l):=by
 have:=List.sizeOf_lt_of_mem h;simp;omega
def V.val(x:V)(c:Value):Value:=.agg #[.int .i64 x.k,.int .i64 x.n,.string (str x.s),c]
inductive IsL(ok:Nat→Prop)(w:World):List V→Value→Prop where
 |mk (l:List V) (b off cap:Nat) (p:Option Addr) (sub:Nat→Value) (hcap:l.length≤cap) (hmax:cap≤maxLen)
   (hp:l≠[]→p=some ⟨b,off,none⟩∧ok b)
   (hc:∀(i:Nat) (x:V),l[i]?=some x→w.cell? ⟨b,off+i*4,none⟩=some (.int .i64 x.k)∧w.cell? ⟨b,off+i*4+1,none⟩=some (.int .i64 x.n)
    ∧w.cell? ⟨b,off+i*4+2,none⟩=some (.string (str x.s))∧w.cell? ⟨b,off+i*4+3,none⟩=some (sub i))
   (hs:∀(i:Nat) (x:V),l[i]?=some x→IsL ok w x.l (sub i)):IsL ok w l (.slice p l.length cap)
theorem z38{w:World}{a:Addr}{v:Value}(h:w.cell? a=some v):a.block<w.heap.size:=by
 rcases Nat.lt_or_ge a.block w.heap.size with hlt|hge
 ·exact hlt
 ·simp[World.cell?,Array.getElem?_eq_none hge]at h
theorem IsL.keepBy{ok:Nat→Prop}{w w':World}{l:List V}{c:Value}(h:IsL ok w l c)
  (hk:∀a v,ok a.block→w.cell? a=some v→w'.cell? a=some v):IsL ok w' l c:=by
 induction h with
 |mk l b off cap p sub hcap hmax hp hc hs ih=>
  refine .mk l b off cap p sub hcap hmax hp (fun i x hx=> ?_) ih;have hb:ok b:=(hp (by rintro rfl;simp at hx)).2;obtain⟨h0,h1,h2,h3⟩:=hc i x hx;exact⟨hk _ _ hb h0,hk _ _ hb h1,hk _ _ hb h2,hk _ _ hb h3⟩
theorem IsL.keep{ok:Nat→Prop}{w w':World}{l:List V}{c:Value}(h:IsL ok w l c)(hk:∀b,ok b→w'.heap[b]?=w.heap[b]?):IsL ok w' l c:=
 h.keepBy fun a _ ho hv=>(World.cell?_of_block (w:=w) (hk a.block ho)).trans hv
theorem IsL.ext{ok:Nat→Prop}{w w':World}{l:List V}{c:Value}(h:IsL ok w l c)(hb:Below w.heap.size w w'):IsL ok w' l c:=
 h.keepBy fun _ _ _ hv=>(hb.cell (z38 hv)).trans hv
theorem IsL.weaken{ok ok':Nat→Prop}{w:World}{l:List V}{c:Value}(h:IsL ok w l c)(hk:∀b,ok b→ok' b):IsL ok' w l c:=by
 induction h with
 |mk l b off cap p sub hcap hmax hp hc hs ih=>exact .mk l b off cap p sub hcap hmax (fun hl=>⟨(hp hl).1,hk _ (hp hl).2⟩) hc ih
theorem IsL.nil{ok:Nat→Prop}{w:World}(p:Option Addr)(cap:Nat)(h:cap≤maxLen):IsL ok w [] (.slice p 0 cap):=
 .mk [] 0 0 cap p (fun _=> .slice none 0 0) (by simp) h (by simp) (by simp) (by simp)
theorem IsL.none_{ok:Nat→Prop}{w:World}:IsL ok w [] (.slice none 0 0):=.nil none 0 (Nat.zero_le _)
theorem IsL.drew{ok:Nat→Prop}{w:World}{l:List V}{c:Value}(h:IsL ok w l c):IsL ok w.drew l c:=h.keepBy fun _ _ _ hv=>hv
def Enters(P:Program)(f:FuncId):Prop:=∀(args:Array Value) (w:World),(callFunc f args).run P w=.ok (.enter f args) w
theorem enters_mk{P:Program}{f:FuncId}{fn:Func}{c:Code}(hf:P.funcs[f]?=some fn)(hname:(fn.name== "runtime.NumGoroutine")=false)(hb:fn.body=some c):Enters P f:=by
 intro args w;have hn:¬fn.name= "runtime.NumGoroutine" :=by simpa using hname
 simp[callFunc,hf,hn,hb]
def z54{α:Type}(p:α→Bool)(l:List α):Int:=match l.findIdx? p with|some i=>i|none=> -1
end Go.Mor
end

section
namespace Go.Proofs.YtcpaleaajdilgaaGreatDoor
open Go Go.RowKit Go.Mor
structure GlobU(w:World):Prop where
 tabs:Lib.Utf8Tabs 0 1 w
theorem GlobU.ext{w w':World}(h:GlobU w)(hb:Below w.heap.size w w'):GlobU w' where
 tabs:=Utf8Tabs_below h.tabs hb
end Go.Proofs.YtcpaleaajdilgaaGreatDoor
end

section
namespace Go.Proofs
open Go.Shelf
def Tryz.laysValid_ren:Go.Shelf.Ren:=⟨fun|196=>158|259=>220|n=>n,fun|9=>9|4=>4|3=>3|5=>5|12=>12|119=>266|0=>0|46=>270|139=>269|138=>268|53=>247|n=>n,fun|3=>0|4=>1|n=>n⟩
theorem Tryz.laysValid:Go.Proofs.Lays.n196 Tryz.prog Tryz.laysValid_ren:={
 mixed:=by kernel_rfl
 f196:=Tryz.func158.trans (congrArg some (by kernel_rfl))
 f259:=Tryz.func220.trans (congrArg some (by kernel_rfl))
 t0:=Tryz.underlying0
 a0:=Tryz.isAgg0
 z0:=Tryz.sizeOf0
 v0:=Tryz.zeroValue0
 t3:=Tryz.underlying3
 a3:=Tryz.isAgg3
 z3:=Tryz.sizeOf3
 v3:=Tryz.zeroValue3
 t4:=Tryz.underlying4
 a4:=Tryz.isAgg4
 z4:=Tryz.sizeOf4
 v4:=Tryz.zeroValue4
 t5:=Tryz.underlying5
 a5:=Tryz.isAgg5
 z5:=Tryz.sizeOf5
 v5:=Tryz.zeroValue5
 t9:=Tryz.underlying9
 a9:=Tryz.isAgg9
 z9:=Tryz.sizeOf9
 v9:=Tryz.zeroValue9
 t12:=Tryz.underlying12
 a12:=Tryz.isAgg12
 z12:=Tryz.sizeOf12
 v12:=Tryz.zeroValue12
 t46:=Tryz.underlying270
 a46:=Tryz.isAgg270
 z46:=Tryz.sizeOf270
 v46:=Tryz.zeroValue270
 t53:=Tryz.underlying247
 a53:=Tryz.isAgg247
 z53:=Tryz.sizeOf247
 v53:=Tryz.zeroValue247
 t119:=Tryz.underlying266
 a119:=Tryz.isAgg266
 z119:=Tryz.sizeOf266
 t138:=Tryz.underlying268
 a138:=Tryz.isAgg268
 z138:=Tryz.sizeOf268
 v138:=Tryz.zeroValue268
 t139:=Tryz.underlying269
 a139:=Tryz.isAgg269
 z139:=Tryz.sizeOf269
 v139:=Tryz.zeroValue269
 g3:=by kernel_rfl
 g4:=by kernel_rfl }
open Go.RowKit Go.Lib in
theorem Tryz.utf8_ValidString(s:ByteArray)(w:World)(hs:s.size≤9223372036854775807)(hT:Lib.Utf8Tabs 0 1 w):
  Calls Tryz.prog 158 #[.string s] w fun e w'=>e=.returned (.bool (Lib.validD s.data.toList))∧Below w.heap.size w w':=Any.utf8_ValidString Tryz.laysValid s w hs hT
def Tryz.laysDecode_ren:Go.Shelf.Ren:=⟨fun|197=>166|260=>225|n=>n,fun|9=>9|21=>21|3=>3|4=>4|5=>5|105=>245|119=>266|0=>0|46=>270|139=>269|138=>268|n=>n,fun|3=>0|4=>1|n=>n⟩
theorem Tryz.laysDecode:Go.Proofs.Lays.n197 Tryz.prog Tryz.laysDecode_ren:={
 mixed:=by kernel_rfl
 f197:=Tryz.func166.trans (congrArg some (by kernel_rfl))
 f260:=Tryz.func225.trans (congrArg some (by kernel_rfl))
 t0:=Tryz.underlying0
 a0:=Tryz.isAgg0
 z0:=Tryz.sizeOf0
 v0:=Tryz.zeroValue0
 t3:=Tryz.underlying3
 a3:=Tryz.isAgg3
 z3:=Tryz.sizeOf3
 v3:=Tryz.zeroValue3
 t4:=Tryz.underlying4
 a4:=Tryz.isAgg4
 z4:=Tryz.sizeOf4
 v4:=Tryz.zeroValue4
 t5:=Tryz.underlying5
 a5:=Tryz.isAgg5
 z5:=Tryz.sizeOf5
 v5:=Tryz.zeroValue5
 t9:=Tryz.underlying9
 a9:=Tryz.isAgg9
 z9:=Tryz.sizeOf9
 v9:=Tryz.zeroValue9
 t21:=Tryz.underlying21
 a21:=Tryz.isAgg21
 z21:=Tryz.sizeOf21
 v21:=Tryz.zeroValue21
 t46:=Tryz.underlying270
 a46:=Tryz.isAgg270
 z46:=Tryz.sizeOf270
 v46:=Tryz.zeroValue270
 t105:=Tryz.underlying245
 a105:=Tryz.isAgg245
 z105:=Tryz.sizeOf245
 v105:=Tryz.zeroValue245
 t119:=Tryz.underlying266
 a119:=Tryz.isAgg266
 z119:=Tryz.sizeOf266
 t138:=Tryz.underlying268
 a138:=Tryz.isAgg268
 z138:=Tryz.sizeOf268
 v138:=Tryz.zeroValue268
 t139:=Tryz.underlying269
 a139:=Tryz.isAgg269
 z139:=Tryz.sizeOf269
 v139:=Tryz.zeroValue269
 g3:=by kernel_rfl
 g4:=by kernel_rfl }
open Go.RowKit Go.Lib in
theorem Tryz.utf8_DecodeRuneInString(s:ByteArray)(w:World)(hT:Lib.Utf8Tabs 0 1 w):
  Calls Tryz.prog 166 #[.string s] w fun e w'=>e=.returned (.tuple #[.int .i32 (Lib.decodeGo s).1,.int .i64 (Lib.decodeGo s).2])∧Below w.heap.size w w':=Any.utf8_DecodeRuneInString Tryz.laysDecode s w hT
def Tryz.laysM171_ren:Go.Shelf.Ren:=⟨fun|171=>97|243=>161|246=>221|283=>255|284=>256|285=>257|286=>258|129=>293|317=>292|318=>294|319=>295|320=>296|337=>315|338=>316|n=>n,fun|3=>3|9=>9|2=>2|4=>4|171=>296|0=>0|53=>247|37=>98|5=>5|173=>299|212=>326|51=>327|20=>20|213=>328|46=>270|232=>355|233=>356|n=>n,fun|17=>5|18=>8|19=>9|n=>n⟩
theorem Tryz.laysM171:Go.Proofs.LaysM.n171 Tryz.prog Tryz.laysM171_ren:={
 mixed:=by kernel_rfl
 f129:=Tryz.func293.trans (congrArg some (by kernel_rfl))
 f171:=Tryz.func97.trans (congrArg some (by kernel_rfl))
 f243:=Tryz.func161.trans (congrArg some (by kernel_rfl))
 f246:=Tryz.func221.trans (congrArg some (by kernel_rfl))
 f283:=Tryz.func255.trans (congrArg some (by kernel_rfl))
 f284:=Tryz.func256.trans (congrArg some (by kernel_rfl))
 f285:=Tryz.func257.trans (congrArg some (by kernel_rfl))
 f286:=Tryz.func258.trans (congrArg some (by kernel_rfl))
 f317:=Tryz.func292.trans (congrArg some (by kernel_rfl))
 f318:=Tryz.func294.trans (congrArg some (by kernel_rfl))
 f319:=Tryz.func295.trans (congrArg some (by kernel_rfl))
 f320:=Tryz.func296.trans (congrArg some (by kernel_rfl))
 f337:=Tryz.func315.trans (congrArg some (by kernel_rfl))
 f338:=Tryz.func316.trans (congrArg some (by kernel_rfl))
 t0:=Tryz.underlying0
 a0:=Tryz.isAgg0
 z0:=Tryz.sizeOf0
 v0:=Tryz.zeroValue0
 t2:=Tryz.underlying2
 a2:=Tryz.isAgg2
 z2:=Tryz.sizeOf2
 v2:=Tryz.zeroValue2
 t3:=Tryz.underlying3
 a3:=Tryz.isAgg3
 z3:=Tryz.sizeOf3
 v3:=Tryz.zeroValue3
 t4:=Tryz.underlying4
 a4:=Tryz.isAgg4
 z4:=Tryz.sizeOf4
 v4:=Tryz.zeroValue4
 t5:=Tryz.underlying5
 a5:=Tryz.isAgg5
 z5:=Tryz.sizeOf5
 v5:=Tryz.zeroValue5
 t9:=Tryz.underlying9
 a9:=Tryz.isAgg9
 z9:=Tryz.sizeOf9
 v9:=Tryz.zeroValue9
 t20:=Tryz.underlying20
 a20:=Tryz.isAgg20
 z20:=Tryz.sizeOf20
 v20:=Tryz.zeroValue20
 t37:=Tryz.underlying98
 a37:=Tryz.isAgg98
 z37:=Tryz.sizeOf98
 v37:=Tryz.zeroValue98
 t46:=Tryz.underlying270
 a46:=Tryz.isAgg270
 z46:=Tryz.sizeOf270
 v46:=Tryz.zeroValue270
 t51:=Tryz.underlying327
 a51:=Tryz.isAgg327
 z51:=Tryz.sizeOf327
 v51:=Tryz.zeroValue327
 t53:=Tryz.underlying247
 a53:=Tryz.isAgg247
 z53:=Tryz.sizeOf247
 v53:=Tryz.zeroValue247
 t171:=Tryz.underlying296
 a171:=Tryz.isAgg296
 z171:=Tryz.sizeOf296
 v171:=Tryz.zeroValue296
 t173:=Tryz.underlying299
 a173:=Tryz.isAgg299
 z173:=Tryz.sizeOf299
 v173:=Tryz.zeroValue299
 t212:=Tryz.underlying326
 a212:=Tryz.isAgg326
 z212:=Tryz.sizeOf326
 v212:=Tryz.zeroValue326
 t213:=Tryz.underlying328
 a213:=Tryz.isAgg328
 z213:=Tryz.sizeOf328
 t232:=Tryz.underlying355
 a232:=Tryz.isAgg355
 z232:=Tryz.sizeOf355
 v232:=Tryz.zeroValue355
 t233:=Tryz.underlying356
 a233:=Tryz.isAgg356
 z233:=Tryz.sizeOf356
 v233:=Tryz.zeroValue356
 g17:=by kernel_rfl
 g18:=by kernel_rfl
 g19:=by kernel_rfl
 i0:=by kernel_rfl
 i2:=by kernel_rfl
 i3:=by kernel_rfl
 i4:=by kernel_rfl
 i5:=by kernel_rfl
 i9:=by kernel_rfl
 i20:=by kernel_rfl
 i37:=by kernel_rfl
 i46:=by kernel_rfl
 i51:=by kernel_rfl
 i53:=by kernel_rfl
 i171:=by kernel_rfl
 i173:=by kernel_rfl
 i212:=by kernel_rfl
 i232:=by kernel_rfl
 i233:=by kernel_rfl
 m17:=by kernel_rfl
 m18:=by kernel_rfl
 m19:=by kernel_rfl }
open Go.RowKit Go.Lib in
theorem Tryz.strconv_Itoa(n:Int)(h0: -9223372036854775808≤n)(h1:n≤9223372036854775807)(w:World)(htab:Lib.TabIs Tryz.prog w "internal/strconv.uint64pow10" .u64 Lib.pow10Tab):
  Calls Tryz.prog 97 #[.int .i64 n] w fun e w'=>e=.returned (.string ⟨(Lib.itoa n).toArray⟩)∧∃k os,w'=Go.Sort.grow (w.drewN k) os:=Any.strconv_Itoa Tryz.laysM171 n h0 h1 w htab
def Tryz.lays143_ren:Go.Shelf.Ren:=⟨fun|143=>213|219=>252|217=>283|225=>284|224=>285|267=>286|266=>310|314=>311|n=>n,fun|9=>9|3=>3|4=>4|5=>5|46=>270|146=>343|51=>327|n=>n,fun|1=>4|n=>n⟩
theorem Tryz.lays143:Go.Proofs.Lays.n143 Tryz.prog Tryz.lays143_ren:={
 mixed:=by kernel_rfl
 f143:=Tryz.func213.trans (congrArg some (by kernel_rfl))
 f217:=Tryz.func283.trans (congrArg some (by kernel_rfl))
 f219:=Tryz.func252.trans (congrArg some (by kernel_rfl))
 f224:=Tryz.func285.trans (congrArg some (by kernel_rfl))
 f225:=Tryz.func284.trans (congrArg some (by kernel_rfl))
 f266:=Tryz.func310.trans (congrArg some (by kernel_rfl))
 f267:=Tryz.func286.trans (congrArg some (by kernel_rfl))
 f314:=Tryz.func311.trans (congrArg some (by kernel_rfl))
 t3:=Tryz.underlying3
 a3:=Tryz.isAgg3
 z3:=Tryz.sizeOf3
 v3:=Tryz.zeroValue3
 t4:=Tryz.underlying4
 a4:=Tryz.isAgg4
 z4:=Tryz.sizeOf4
 v4:=Tryz.zeroValue4
 t5:=Tryz.underlying5
 a5:=Tryz.isAgg5
 z5:=Tryz.sizeOf5
 v5:=Tryz.zeroValue5
 t9:=Tryz.underlying9
 a9:=Tryz.isAgg9
 z9:=Tryz.sizeOf9
 v9:=Tryz.zeroValue9
 t46:=Tryz.underlying270
 a46:=Tryz.isAgg270
 z46:=Tryz.sizeOf270
 v46:=Tryz.zeroValue270
 t51:=Tryz.underlying327
 a51:=Tryz.isAgg327
 z51:=Tryz.sizeOf327
 v51:=Tryz.zeroValue327
 t146:=Tryz.underlying343
 a146:=Tryz.isAgg343
 z146:=Tryz.sizeOf343
 v146:=Tryz.zeroValue343
 g1:=by kernel_rfl }
open Go.RowKit Go.Lib in
theorem Tryz.strings_Index(s substr:ByteArray)(m:Int)(w:World)(hs:s.size<4294967281)(hm:w.cell? ⟨4,0,none⟩=some (.int .i64 m)):
  Calls Tryz.prog 213 #[.string s,.string substr] w fun e w'=>e=.returned (.int .i64 (Lib.index s.data.toList substr.data.toList))∧w'=w:=Any.strings_Index Tryz.lays143 s substr m w hs hm
def Tryz.lays118_ren:Go.Shelf.Ren:=⟨fun|118=>212|n=>n,fun|21=>21|3=>3|4=>4|n=>n,fun|n=>n⟩
theorem Tryz.lays118:Go.Proofs.Lays.n118 Tryz.prog Tryz.lays118_ren:={
 mixed:=by kernel_rfl
 f118:=Tryz.func212.trans (congrArg some (by kernel_rfl))
 t3:=Tryz.underlying3
 a3:=Tryz.isAgg3
 z3:=Tryz.sizeOf3
 v3:=Tryz.zeroValue3
 t4:=Tryz.underlying4
 a4:=Tryz.isAgg4
 z4:=Tryz.sizeOf4
 v4:=Tryz.zeroValue4
 t21:=Tryz.underlying21
 a21:=Tryz.isAgg21
 z21:=Tryz.sizeOf21
 v21:=Tryz.zeroValue21 }
open Go.RowKit Go.Lib in
theorem Tryz.utf8_RuneLen(r:Int)(w:World):
  Calls Tryz.prog 212 #[.int .i32 r] w fun e w'=>e=.returned (.int .i64 (Lib.runeLen r))∧w'=w:=Any.utf8_RuneLen Tryz.lays118 r w
def Tryz.laysC172_ren:Go.Shelf.Ren:=⟨fun|172=>214|244=>253|245=>254|247=>287|279=>288|280=>289|281=>290|282=>291|287=>312|316=>313|171=>97|205=>314|321=>318|322=>319|243=>161|246=>221|283=>255|284=>256|285=>257|286=>258|129=>293|317=>292|318=>294|319=>295|320=>296|337=>315|338=>316|n=>n,fun|9=>9|3=>3|75=>242|76=>243|4=>4|5=>5|167=>319|37=>98|0=>0|85=>320|2=>2|168=>322|53=>247|175=>345|46=>270|210=>348|127=>272|145=>354|143=>352|21=>21|171=>296|173=>299|212=>326|51=>327|20=>20|213=>328|232=>355|233=>356|80=>120|n=>n,fun|15=>6|16=>7|17=>5|18=>8|19=>9|n=>n⟩
theorem Tryz.laysC172:Go.Proofs.LaysC.n172 Tryz.prog Tryz.laysC172_ren:={
 mixed:=by kernel_rfl
 f129:=Tryz.func293.trans (congrArg some (by kernel_rfl))
 f171:=Tryz.func97.trans (congrArg some (by kernel_rfl))
 f172:=Tryz.func214.trans (congrArg some (by kernel_rfl))
 f205:=Tryz.func314.trans (congrArg some (by kernel_rfl))
 f243:=Tryz.func161.trans (congrArg some (by kernel_rfl))
 f244:=Tryz.func253.trans (congrArg some (by kernel_rfl))
 f245:=Tryz.func254.trans (congrArg some (by kernel_rfl))
 f246:=Tryz.func221.trans (congrArg some (by kernel_rfl))
 f247:=Tryz.func287.trans (congrArg some (by kernel_rfl))
 f279:=Tryz.func288.trans (congrArg some (by kernel_rfl))
 f280:=Tryz.func289.trans (congrArg some (by kernel_rfl))
 f281:=Tryz.func290.trans (congrArg some (by kernel_rfl))
 f282:=Tryz.func291.trans (congrArg some (by kernel_rfl))
 f283:=Tryz.func255.trans (congrArg some (by kernel_rfl))
 f284:=Tryz.func256.trans (congrArg some (by kernel_rfl))
 f285:=Tryz.func257.trans (congrArg some (by kernel_rfl))
 f286:=Tryz.func258.trans (congrArg some (by kernel_rfl))
 f287:=Tryz.func312.trans (congrArg some (by kernel_rfl))
 f316:=Tryz.func313.trans (congrArg some (by kernel_rfl))
 f317:=Tryz.func292.trans (congrArg some (by kernel_rfl))
 f318:=Tryz.func294.trans (congrArg some (by kernel_rfl))
 f319:=Tryz.func295.trans (congrArg some (by kernel_rfl))
 f320:=Tryz.func296.trans (congrArg some (by kernel_rfl))
 f321:=Tryz.func318.trans (congrArg some (by kernel_rfl))
 f322:=Tryz.func319.trans (congrArg some (by kernel_rfl))
 f337:=Tryz.func315.trans (congrArg some (by kernel_rfl))
 f338:=Tryz.func316.trans (congrArg some (by kernel_rfl))
 t0:=Tryz.underlying0
 a0:=Tryz.isAgg0
 z0:=Tryz.sizeOf0
 v0:=Tryz.zeroValue0
 t2:=Tryz.underlying2
 a2:=Tryz.isAgg2
 z2:=Tryz.sizeOf2
 v2:=Tryz.zeroValue2
 t3:=Tryz.underlying3
 a3:=Tryz.isAgg3
 z3:=Tryz.sizeOf3
 v3:=Tryz.zeroValue3
 t4:=Tryz.underlying4
 a4:=Tryz.isAgg4
 z4:=Tryz.sizeOf4
 v4:=Tryz.zeroValue4
 t5:=Tryz.underlying5
 a5:=Tryz.isAgg5
 z5:=Tryz.sizeOf5
 v5:=Tryz.zeroValue5
 t9:=Tryz.underlying9
 a9:=Tryz.isAgg9
 z9:=Tryz.sizeOf9
 v9:=Tryz.zeroValue9
 t20:=Tryz.underlying20
 a20:=Tryz.isAgg20
 z20:=Tryz.sizeOf20
 v20:=Tryz.zeroValue20
 t21:=Tryz.underlying21
 a21:=Tryz.isAgg21
 z21:=Tryz.sizeOf21
 v21:=Tryz.zeroValue21
 t37:=Tryz.underlying98
 a37:=Tryz.isAgg98
 z37:=Tryz.sizeOf98
 v37:=Tryz.zeroValue98
 t46:=Tryz.underlying270
 a46:=Tryz.isAgg270
 z46:=Tryz.sizeOf270
 v46:=Tryz.zeroValue270
 t51:=Tryz.underlying327
 a51:=Tryz.isAgg327
 z51:=Tryz.sizeOf327
 v51:=Tryz.zeroValue327
 t53:=Tryz.underlying247
 a53:=Tryz.isAgg247
 z53:=Tryz.sizeOf247
 v53:=Tryz.zeroValue247
 t75:=Tryz.underlying242
 a75:=Tryz.isAgg242
 z75:=Tryz.sizeOf242
 v75:=Tryz.zeroValue242
 t76:=Tryz.underlying243
 a76:=Tryz.isAgg243
 z76:=Tryz.sizeOf243
 v76:=Tryz.zeroValue243
 t85:=Tryz.underlying320
 a85:=Tryz.isAgg320
 z85:=Tryz.sizeOf320
 v85:=Tryz.zeroValue320
 t127:=Tryz.underlying272
 a127:=Tryz.isAgg272
 z127:=Tryz.sizeOf272
 v127:=Tryz.zeroValue272
 t143:=Tryz.underlying352
 a143:=Tryz.isAgg352
 z143:=Tryz.sizeOf352
 v143:=Tryz.zeroValue352
 t145:=Tryz.underlying354
 a145:=Tryz.isAgg354
 z145:=Tryz.sizeOf354
 v145:=Tryz.zeroValue354
 t167:=Tryz.underlying319
 a167:=Tryz.isAgg319
 z167:=Tryz.sizeOf319
 v167:=Tryz.zeroValue319
 t168:=Tryz.underlying322
 a168:=Tryz.isAgg322
 z168:=Tryz.sizeOf322
 v168:=Tryz.zeroValue322
 t171:=Tryz.underlying296
 a171:=Tryz.isAgg296
 z171:=Tryz.sizeOf296
 v171:=Tryz.zeroValue296
 t173:=Tryz.underlying299
 a173:=Tryz.isAgg299
 z173:=Tryz.sizeOf299
 v173:=Tryz.zeroValue299
 t175:=Tryz.underlying345
 a175:=Tryz.isAgg345
 z175:=Tryz.sizeOf345
 v175:=Tryz.zeroValue345
 t210:=Tryz.underlying348
 a210:=Tryz.isAgg348
 z210:=Tryz.sizeOf348
 v210:=Tryz.zeroValue348
 t212:=Tryz.underlying326
 a212:=Tryz.isAgg326
 z212:=Tryz.sizeOf326
 v212:=Tryz.zeroValue326
 t213:=Tryz.underlying328
 a213:=Tryz.isAgg328
 z213:=Tryz.sizeOf328
 t232:=Tryz.underlying355
 a232:=Tryz.isAgg355
 z232:=Tryz.sizeOf355
 v232:=Tryz.zeroValue355
 t233:=Tryz.underlying356
 a233:=Tryz.isAgg356
 z233:=Tryz.sizeOf356
 v233:=Tryz.zeroValue356
 g15:=by kernel_rfl
 g16:=by kernel_rfl
 g17:=by kernel_rfl
 g18:=by kernel_rfl
 g19:=by kernel_rfl
 t80:=Tryz.underlying120
 a80:=Tryz.isAgg120
 z80:=Tryz.sizeOf120
 v80:=Tryz.zeroValue120
 i0:=by kernel_rfl
 i2:=by kernel_rfl
 i3:=by kernel_rfl
 i4:=by kernel_rfl
 i5:=by kernel_rfl
 i9:=by kernel_rfl
 i20:=by kernel_rfl
 i21:=by kernel_rfl
 i37:=by kernel_rfl
 i46:=by kernel_rfl
 i51:=by kernel_rfl
 i53:=by kernel_rfl
 i75:=by kernel_rfl
 i76:=by kernel_rfl
 i80:=by kernel_rfl
 i85:=by kernel_rfl
 i127:=by kernel_rfl
 i143:=by kernel_rfl
 i145:=by kernel_rfl
 i167:=by kernel_rfl
 i168:=by kernel_rfl
 i171:=by kernel_rfl
 i173:=by kernel_rfl
 i175:=by kernel_rfl
 i210:=by kernel_rfl
 i212:=by kernel_rfl
 i232:=by kernel_rfl
 i233:=by kernel_rfl
 m15:=by kernel_rfl
 m16:=by kernel_rfl
 m17:=by kernel_rfl
 m18:=by kernel_rfl
 m19:=by kernel_rfl
 c0:=by kernel_rfl
 c2:=by kernel_rfl
 c3:=by kernel_rfl
 c4:=by kernel_rfl
 c5:=by kernel_rfl
 c9:=by kernel_rfl
 c20:=by kernel_rfl
 c21:=by kernel_rfl
 c37:=by kernel_rfl
 c46:=by kernel_rfl
 c51:=by kernel_rfl
 c53:=by kernel_rfl
 c75:=by kernel_rfl
 c76:=by kernel_rfl
 c80:=by kernel_rfl
 c85:=by kernel_rfl
 c127:=by kernel_rfl
 c143:=by kernel_rfl
 c145:=by kernel_rfl
 c167:=by kernel_rfl
 c168:=by kernel_rfl
 c171:=by kernel_rfl
 c173:=by kernel_rfl
 c175:=by kernel_rfl
 c210:=by kernel_rfl
 c212:=by kernel_rfl
 c213:=by kernel_rfl
 c232:=by kernel_rfl
 c233:=by kernel_rfl }
end Go.Proofs
end

section
namespace Go.Proofs.YtcpaleaajdilgaaGreatDoor
open Go Go.RowKit Go.Mor Go.Sh
theorem hmix:Tryz.prog.follows .mixedOrders=true:=by kernel_rfl
structure GlobN0(n:Nat)(w:World):Prop where
 u:GlobU w
 sz:n≤w.heap.size
 hv:10≤n
theorem tabs_st{w w':World}{n:Nat}(hn:10≤n)(h:Lib.Utf8Tabs 0 1 w)(hk:∀k,k<n→w'.heap[k]?=w.heap[k]?):Lib.Utf8Tabs 0 1 w':=by
 have hc:∀b o,b<n→w'.cell? ⟨b,o,none⟩=w.cell? ⟨b,o,none⟩:=fun b o hb=>World.cell?_of_block (w:=w) (a:=⟨b,o,none⟩) (hk b hb);refine⟨fun c hcc=> ?_,fun i hi=> ?_⟩
 ·rw[hc _ _ (by omega)];exact h.1 c hcc
 ·obtain⟨h1,h2⟩:=h.2 i hi;exact⟨by rw[hc _ _ (by omega)];exact h1,by rw[hc _ _ (by omega)];exact h2⟩
theorem globU_st{w w':World}{n:Nat}(hv:10≤n)(h:GlobU w)(hk:∀k,k<n→w'.heap[k]?=w.heap[k]?):GlobU w':=by
 exact⟨tabs_st hv h.tabs hk⟩
theorem size_st{w w':World}{n:Nat}(hsz:n≤w.heap.size)(hk:∀k,k<n→w'.heap[k]?=w.heap[k]?):n≤w'.heap.size:=by
 rcases Nat.eq_zero_or_pos n with h0|h0
 ·omega
 ·have:=hk (n-1) (by omega);rw[Array.getElem?_eq_getElem (show n-1<w.heap.size by omega)]at this;have:=(gA this).1;omega
def gl0(n:Nat):Sh.Glob where
 G:=GlobN0 n
 n:=n
 st:=fun w w' h hk=>⟨globU_st h.hv h.u hk,size_st h.sz hk,h.hv⟩
 le:=fun w h=>h.sz
theorem sc_of{P:Program}{g g':Sh.Glob}{f:Nat}{xs:List TV}{os:List MO}{y:TV}{os':List MO}(hn:g'.n=g.n)(hG:∀w,g'.G w→g.G w)(h:SCalls P g f xs os y os'):SCalls P g' f xs os y os':=
 ⟨h.1,fun w E vs h1 h2 h3 h4 h5=>h.2 w E vs (hG w h1) h2 (fun d b hb=>hn▸h3 d b hb) h4 h5⟩
theorem z160{w:World}{E:Env}{r:Sh.Rows}(vs:List Value):RelT w E r (.tuple (vs.map fun v=> .pv (.v v))) (.tuple vs.toArray):=
 .tuple _ vs (by simp) (fun j c v hc hv=>by simp[hv]at hc;subst hc;exact .pv (.v v))
theorem z86{P:Program}{g:Sh.Glob}{f:Nat}{vs:List Value}{y:TV}{v:Value}(hb:hasBody P f)(hy:∀w E r,RelT w E r y v)(h:∀w,g.G w→Calls P f vs.toArray w fun e w'=>e=.returned v∧Below w.heap.size w w'):SCalls P g f (vs.map fun v=> .pv (.v v)) [] y []:=by
 refine⟨hb,fun w E us hG hm hX hl hr=> ?_⟩;have hus:us=vs:=by
  apply List.ext_getElem?;intro j;rcases Nat.lt_or_ge j us.length with hj|hj
  ·have hj':j<vs.length:=by simpa [←hl]using hj
   have:=hr j (.pv (.v vs[j])) us[j] (by simp[hj']) (gE hj);rw[gE hj,gE hj'];exact congrArg some (val_rel (y:=vs[j]) this rfl)
  ·rw[List.getElem?_eq_none hj,List.getElem?_eq_none (by simpa [←hl]using hj)]
 subst hus;refine(h w hG).mono ?_;rintro e w' ⟨rfl,hb⟩;refine⟨v,E,rfl,?_,hy _ _ _,⟨fun _ _ _=>rfl,fun _ _ _ _=>rfl,fun d e W n hd=>by obtain⟨j,_,hj⟩:=z30 hd;simp at hj⟩⟩;exact MSim.ext (s:=⟨fun _=>none,objB [],objR [],fun _=>none⟩) hm hb E (fun _ _ h=>h) (fun _ _ h=> .inl h) (fun _ _=>⟨rfl,rfl⟩) (fun _ _ _=>rfl) (fun _ _=>⟨rfl,rfl⟩)
def in64(x:Int):Bool:=decide (-9223372036854775808≤x)&&decide (x≤9223372036854775807)
def I(x:Int):TV:=.pv (.v (.int .i64 x))
def S(s:ByteArray):TV:=.pv (.v (.string s))
def bl(s:ByteArray):zB:=s.data.toList
theorem str_bl(s:ByteArray):str (bl s)=s:=by cases s;simp[str,bl]
theorem z56{f:Nat}(h:(match Tryz.prog.funcs[f]? with|some fn=>fn.body.isSome&&fn.name != "runtime.NumGoroutine" |none=>false)=true):hasBody Tryz.prog f:=by
 split at h
 ·rename_i fn hfn;rw[Bool.and_eq_true]at h;obtain⟨b,hb⟩:=Option.isSome_iff_exists.1 h.1;exact⟨fn,b,hfn,hb,by simpa using h.2⟩
 ·cases h
theorem in64_spec{x:Int}(h:in64 x=true): -9223372036854775808≤x∧x≤9223372036854775807:=by
 unfold in64 at h;simpa using h
def prim0:Oracle:=fun f xs os=>
 if Nat.beq f 158 then match xs,os with
  |[.pv (.v (.string s))],[]=>if decide (s.size≤9223372036854775807)then some (.pv (.v (.bool (Lib.validD s.data.toList))),[])else none
  |_,_=>none
 else if Nat.beq f 166 then match xs,os with
  |[.pv (.v (.string s))],[]=>some (.tuple [.pv (.v (.int .i32 (Lib.decodeGo s).1)),I (Lib.decodeGo s).2],[])
  |_,_=>none
 else none
theorem prim0_sound(n:Nat):SoundC Tryz.prog (gl0 n) prim0:=by
 intro f xs os y os' h;unfold prim0 at h;split at h
 ·rename_i hf;obtain rfl:=Nat.eq_of_beq_eq_true hf;split at h<;>try(cases h;done)
  rename_i s;split at h<;>try(cases h;done)
  rename_i hx;cases h;exact z86 (vs:=[.string s]) (z56 (by kernel_rfl)) (fun w E r=> .pv (.v _)) (fun w hG=>Tryz.utf8_ValidString s w (by simpa using hx) hG.u.tabs)
 split at h
 ·rename_i hf;obtain rfl:=Nat.eq_of_beq_eq_true hf;split at h<;>try(cases h;done)
  rename_i s;cases h;exact z86 (vs:=[.string s]) (v:=.tuple #[.int .i32 (Lib.decodeGo s).1,.int .i64 (Lib.decodeGo s).2]) (z56 (by kernel_rfl)) (fun w E r=>z160 [_,_]) (fun w hG=>Tryz.utf8_DecodeRuneInString s w hG.u.tabs)
 ·cases h
end Go.Proofs.YtcpaleaajdilgaaGreatDoor
end

section
namespace Go.Sh
open Go Go.RowKit
section
def noC:Oracle:=fun _ _ _=>none
theorem noC_sound(P:Program)(g:Glob):SoundC P g noC:=fun f xs os y os' h=>by cases h
def SOp.isCall:SOp→Bool| .call .. | .callv .. =>true|_=>false
theorem eff_noC{P:Program}{C:Oracle}{dst:Option Nat}{o:SOp}(h:o.isCall=false)(s:FS):eff P C dst o s=eff P noC dst o s:=by
 cases o<;>first|rfl|cases h
theorem effG_noC{P:Program}{C:Oracle}{o:SOper}(h:o.op.isCall=false)(s:FS):effG P C o s=effG P noC o s:=by
 unfold effG effF;rw[eff_noC h]
def stepW(P:Program)(o:SOper)(K:ES→Prop)(s:ES):Option (TV×Upd)→Prop
 |some e=>K (s.after o e)
 |none=>False
section
variable{P:Program}{g:Glob}{o:SOper}{l:List SOper}{K:ES→Prop}{s:ES}
theorem opsW_nc(h:o.op.isCall=false):opsW P g (o::l) K s ↔ stepW P o (opsW P g l K) s (effG P noC o s.fs):=by
 constructor
 ·rintro⟨C,hC,e,he,hk⟩;rw[effG_noC h]at he;rw[he];exact hk
 ·intro hk;cases he:effG P noC o s.fs with
  |none=>rw[he]at hk;exact hk.elim
  |some e=>rw[he]at hk;exact⟨noC,noC_sound P g,e,he,hk⟩
def callK(P:Program)(g:Glob)(k f m:Nat)(s:FS)(K:TV→Upd→Prop):Option (List TV)→Prop
 |none=>False
 |some args=>∃I,I=handI s m args∧∃xs' os,seqO (TV.ren2 (rhoIn I)) args=some xs'∧seqO (fun d=>(s.mo d).bind (MO.ren (rhoIn I))) I=some os∧
   ∃y os',SCalls P g f xs' os y os'∧moOk os os'=true∧∃y' us,y.ren3 (rhoOut I k)=some y'∧outs (rhoOut I k) 0 os'=some us∧K y' (.mem us)
open Classical in
noncomputable def theC(f:Nat)(xs:List TV)(os:List MO)(r:TV×List MO):Oracle:=fun f' xs' os'=>if f'=f∧xs'=xs∧os'=os then some r else none
theorem theC_sound{f:Nat}{xs:List TV}{os os':List MO}{y:TV}(h:SCalls P g f xs os y os'):SoundC P g (theC f xs os (y,os')):=by
 intro f' xs' os2 y' os3 h'
 grind [theC]
theorem callEff_of{k f m:Nat}{s:FS}{K:TV→Upd→Prop}{args:List TV}(h:callK P g k f m s K (some args)):∃C,SoundC P g C∧∃y' u,z107 C s k f m args=some (y',u)∧K y' u:=by
 obtain⟨I,rfl,xs',os,h1,h2,y,os',hc,hmo,y',us,h3,h4,hk⟩:=h;refine⟨theC f xs' os (y,os'),theC_sound hc,y',.mem us,?_,hk⟩
 grind [z107,handI,only,theC]
theorem opsW_call{dst:Option Nat}{f m:Nat}{xs:List Arg}(h:callK P g (dstId dst) f m s.fs (fun y u=>opsW P g l K (s.after ⟨dst,none,none,.call f m xs⟩ (y,u))) (seqO (fun x:Arg=>x.get s.fs) xs)):opsW P g (⟨dst,none,none,.call f m xs⟩::l) K s:=by
 cases hx:seqO (fun x:Arg=>x.get s.fs) xs with
 |none=>rw[hx]at h;exact h.elim
 |some args=>
  rw[hx]at h;obtain⟨C,hC,y',u,he,hk⟩:=callEff_of h;exact⟨C,hC,(y',u),by simp only[effG,effF,footOk,eff,hx,Option.bind_some,he],hk⟩
def callvK(P:Program)(g:Glob)(k m:Nat)(s:FS)(K:TV→Upd→Prop):Option (Nat×List TV×List TV)→Option (List TV)→Prop
 |some (f,fa,fb),some vs=>callK P g k f m s K (some (fa++vs++fb))
 |_,_=>False
theorem opsW_callv{dst:Option Nat}{m:Nat}{x:Arg}{xs:List Arg}(h:callvK P g (dstId dst) m s.fs (fun y u=>opsW P g l K (s.after ⟨dst,none,none,.callv x m xs⟩ (y,u))) ((x.get s.fs).bind TV.callee) (seqO (fun x:Arg=>x.get s.fs) xs)):opsW P g (⟨dst,none,none,.callv x m xs⟩::l) K s:=by
 cases hc:(x.get s.fs).bind TV.callee with
 |none=>rw[hc]at h;exact h.elim
 |some c=>
  obtain⟨f,fa,fb⟩:=c;cases hx:seqO (fun x:Arg=>x.get s.fs) xs with
  |none=>rw[hc,hx]at h;exact h.elim
  |some vs=>
   rw[hc,hx]at h;have h':callK P g (dstId dst) f m s.fs (fun y u=>opsW P g l K (s.after ⟨dst,none,none,.callv x m xs⟩ (y,u))) (some (fa++vs++fb)):=h;obtain⟨C,hC,y',u,he,hk⟩:=callEff_of h';exact⟨C,hC,(y',u),by simp only[effG,effF,footOk,eff,hc,hx,he],hk⟩
end
def exitR(res:List SRes)(keep:Bool)(n:Nat)(s:ES):Option (TV×List MO):=exitF ⟨0,.skip,res,keep⟩ n s
theorem exitF_R(F:SFunc)(n:Nat)(s:ES):exitF F n s=exitR F.res F.keep n s:=rfl
def PostR(res:List SRes)(keep:Bool)(n:Nat)(y:TV)(os':List MO):SExit→ES→Prop
 | .ret,s| .normal,s=>exitR res keep n s=some (y,os')
 | .exit _,_| .pan _,_=>False
theorem call_of{P:Program}{g:Glob}{f:Nat}{H:Nat→Option Nat→Nat}{Fp:Nat→List (Nat→Option Nat)}{K:Nat→List Nat}{keep:Bool}{F:SFunc}(hmix:P.follows .mixedOrders=true)(hF:z36 P f H Fp K keep=some F){xs:List TV}{os os':List MO}{y:TV}(hn:Nat.ble xs.length F.N=true)(hos:Nat.ble os.length 1000=true)(hmo:moOk os os'=true)
  (h:swp P g F.code (PostR F.res F.keep os.length y os') (startE xs os)):SCalls P g f xs os y os':=
 call_of_swp hmix hF (Nat.le_of_ble_eq_true hn) (Nat.le_of_ble_eq_true hos) hmo (z63 h fun e s he=>by
  cases e with
  |normal=>exact⟨.inr rfl,by rw[exitF_R];exact he⟩
  |ret=>exact⟨.inl rfl,by rw[exitF_R];exact he⟩
  |exit id=>exact he.elim
  |pan z=>exact he.elim)
def ansW(y:TV):Option TV→Prop
 |some y0=>y0.ids3=[]∧y0.ren3 (rhoIn [])=some y
 |none=>False
def Post0(res:List SRes)(y:TV):SExit→ES→Prop
 | .ret,s| .normal,s=>ansW y (resT s.fs res)
 | .exit _,_| .pan _,_=>False
theorem call_of0{P:Program}{g:Glob}{f:Nat}{H:Nat→Option Nat→Nat}{Fp:Nat→List (Nat→Option Nat)}{K:Nat→List Nat}{keep:Bool}{F:SFunc}(hmix:P.follows .mixedOrders=true)(hF:z36 P f H Fp K keep=some F){xs:List TV}{y:TV}(hn:Nat.ble xs.length F.N=true)
  (h:swp P g F.code (Post0 F.res y) (startE xs [])):SCalls P g f xs [] y []:=by
 have key:∀s,ansW y (resT s.fs F.res)→exitR F.res F.keep 0 s=some (y,[]):=by
  intro s he;cases hr:resT s.fs F.res with
  |none=>rw[hr]at he;exact he.elim
  |some y0=>
   rw[hr]at he;obtain⟨h1,h2⟩:=he;simp[exitR,exitF,hr,idsFrom,h1,reach,h2,seqO]
 refine call_of hmix hF hn rfl rfl (z63 h fun e s he=> ?_);cases e with
 |normal=>exact key s he
 |ret=>exact key s he
 |exit id=>exact he.elim
 |pan z=>exact he.elim
section
variable(P:Program)(t:TypeId)(k:IntKind)(a b:Int)(x y:ByteArray)
theorem bin_lss:scal P (do eqGuard .lss t (.const (.int k a)) (.const (.int k b)) (.int k a) (.int k b);binOp .lss t (.int k a) (.int k b))=some (.pv (.v (.bool (decide (a<b)))),.no):=by simp[scal,eqGuard,binOp,Op.intCmp];rfl
theorem bin_gtr:scal P (do eqGuard .gtr t (.const (.int k a)) (.const (.int k b)) (.int k a) (.int k b);binOp .gtr t (.int k a) (.int k b))=some (.pv (.v (.bool (decide (b<a)))),.no):=by simp[scal,eqGuard,binOp,Op.intCmp];rfl
theorem bin_leq:scal P (do eqGuard .leq t (.const (.int k a)) (.const (.int k b)) (.int k a) (.int k b);binOp .leq t (.int k a) (.int k b))=some (.pv (.v (.bool (decide (a≤b)))),.no):=by simp[scal,eqGuard,binOp,Op.intCmp];rfl
theorem bin_geq:scal P (do eqGuard .geq t (.const (.int k a)) (.const (.int k b)) (.int k a) (.int k b);binOp .geq t (.int k a) (.int k b))=some (.pv (.v (.bool (decide (b≤a)))),.no):=by simp[scal,eqGuard,binOp,Op.intCmp];rfl
theorem bin_eql:scal P (do eqGuard .eql t (.const (.int k a)) (.const (.int k b)) (.int k a) (.int k b);binOp .eql t (.int k a) (.int k b))=some (.pv (.v (.bool (decide (a=b)))),.no):=by
 simp[scal,eqGuard,binOp,Op.intCmp];rfl
theorem bin_neq:scal P (do eqGuard .neq t (.const (.int k a)) (.const (.int k b)) (.int k a) (.int k b);binOp .neq t (.int k a) (.int k b))=some (.pv (.v (.bool (!decide (a=b)))),.no):=by simp[scal,eqGuard,binOp,Op.intCmp];rfl
theorem bin_add:scal P (do eqGuard .add t (.const (.int k a)) (.const (.int k b)) (.int k a) (.int k b);binOp .add t (.int k a) (.int k b))=some (.pv (.v (.int k (k.wrap (a+b)))),.no):=by simp[scal,eqGuard,binOp,Op.intArith];rfl
theorem bin_sub:scal P (do eqGuard .sub t (.const (.int k a)) (.const (.int k b)) (.int k a) (.int k b);binOp .sub t (.int k a) (.int k b))=some (.pv (.v (.int k (k.wrap (a-b)))),.no):=by simp[scal,eqGuard,binOp,Op.intArith];rfl
theorem bin_mul:scal P (do eqGuard .mul t (.const (.int k a)) (.const (.int k b)) (.int k a) (.int k b);binOp .mul t (.int k a) (.int k b))=some (.pv (.v (.int k (k.wrap (a*b)))),.no):=by simp[scal,eqGuard,binOp,Op.intArith];rfl
theorem bin_quo(hb:b≠0):scal P (do eqGuard .quo t (.const (.int k a)) (.const (.int k b)) (.int k a) (.int k b);binOp .quo t (.int k a) (.int k b))=some (.pv (.v (.int k (k.wrap (a.tdiv b)))),.no):=by simp[scal,eqGuard,binOp,Op.intDiv,hb];rfl
theorem bin_rem(hb:b≠0):scal P (do eqGuard .rem t (.const (.int k a)) (.const (.int k b)) (.int k a) (.int k b);binOp .rem t (.int k a) (.int k b))=some (.pv (.v (.int k (a.tmod b))),.no):=by simp[scal,eqGuard,binOp,Op.intDiv,hb];rfl
theorem sbin_eql:scal P (do eqGuard .eql t (.const (.string x)) (.const (.string y)) (.string x) (.string y);binOp .eql t (.string x) (.string y))=some (.pv (.v (.bool (x.toList==y.toList))),.no):=by simp[scal,eqGuard,binOp,Op.stringOp];rfl
theorem sbin_neq:scal P (do eqGuard .neq t (.const (.string x)) (.const (.string y)) (.string x) (.string y);binOp .neq t (.string x) (.string y))=some (.pv (.v (.bool (!(x.toList==y.toList)))),.no):=by simp[scal,eqGuard,binOp,Op.stringOp];rfl
theorem sbin_lss:scal P (do eqGuard .lss t (.const (.string x)) (.const (.string y)) (.string x) (.string y);binOp .lss t (.string x) (.string y))=some (.pv (.v (.bool (Op.bytesLess x.toList y.toList))),.no):=by simp[scal,eqGuard,binOp,Op.stringOp];rfl
theorem sbin_gtr:scal P (do eqGuard .gtr t (.const (.string x)) (.const (.string y)) (.string x) (.string y);binOp .gtr t (.string x) (.string y))=some (.pv (.v (.bool (!(Op.bytesLess x.toList y.toList||x.toList==y.toList)))),.no):=by simp[scal,eqGuard,binOp,Op.stringOp];rfl
theorem sbin_add(h:x.size+y.size≤9223372036854775807):scal P (do eqGuard .add t (.const (.string x)) (.const (.string y)) (.string x) (.string y);binOp .add t (.string x) (.string y))=some (.pv (.v (.string (x++y))),.no):=by
 have hm:IntKind.i64.max=9223372036854775807:=by rfl
 have h':¬(((x.size+y.size:Nat):Int)>IntKind.i64.max):=by omega
 simp only[scal,eqGuard,binOp,Op.stringOp,h',if_false];rfl
theorem un_neg:scal P (Op.unary .neg (.int k a))=some (.pv (.v (.int k (k.wrap (0-a)))),.no):=rfl
theorem un_not(q:Bool):scal P (Op.unary .not (.bool q))=some (.pv (.v (.bool (!q))),.no):=rfl
end
theorem nbeq(a b:Nat):Nat.beq a b=(a==b):=by
 grind [Nat.beq,Nat.eq_of_beq_eq_true,Nat.beq_refl]
theorem nble(a b:Nat):Nat.ble a b=decide (a≤b):=by
 grind [Nat.ble,Nat.le_of_ble_eq_true,Nat.ble_eq_true_of_le]
theorem nblt(a b:Nat):Nat.blt a b=decide (a<b):=by grind [Nat.blt,nble]
theorem bFT:(false==true)=false:=rfl
theorem bTF:(true==false)=false:=rfl
theorem wrap64{x:Int}(h0: -9223372036854775808≤x)(h1:x≤9223372036854775807):IntKind.i64.wrap x=x:=by rw[IntKind.wrap_i64];omega
section
variable{P:Program}{g:Glob}{a b c:SCode}{Q:SExit→ES→Prop}{s s':ES}{n kill:List Nat}{l:List SOper}{r:List (List Nat×List SOper)}
def unrollW(P:Program)(g:Glob)(a:SCode)(Q:SExit→ES→Prop):Nat→ES→Prop
 |0,_=>False
 |k+1,s=>swp P g a (thenW (unrollW P g a Q k) Q) s
theorem z131(k:Nat)(h:unrollW P g a Q k s):swp P g (.loop a) Q s:=by
 refine⟨fun n s=>unrollW P g a Q n s,k,⟨s,.refl s,h⟩,fun n s h=> ?_⟩;cases n with
 |zero=>exact h.elim
 |succ n=>
  refine z63 (c:=a) h (fun e s he=> ?_);cases e with
  |normal=>exact⟨n,Nat.lt_succ_self n,s,.refl s,he⟩
  |exit id=>exact he
  |ret=>exact he
  |pan z=>exact he
theorem w_call{K:ES→Prop}{dst:Option Nat}{f m:Nat}{xs:List Arg}{args xs':List TV}{I:List Nat}{os os':List MO}{y y':TV}{us:List (Nat×MO)}(hx:seqO (fun x:Arg=>x.get s.fs) xs=some args)(hI:handI s.fs m args=I)(h1:seqO (TV.ren2 (rhoIn I)) args=some xs')
  (h2:seqO (fun d=>(s.fs.mo d).bind (MO.ren (rhoIn I))) I=some os) (hc:SCalls P g f xs' os y os') (hmo:moOk os os'=true) (h3:y.ren3 (rhoOut I (dstId dst))=some y') (h4:outs (rhoOut I (dstId dst)) 0 os'=some us) (hs:s.after ⟨dst,none,none,.call f m xs⟩ (y',.mem us)=s') (hk:opsW P g l K s'):
  opsW P g (⟨dst,none,none,.call f m xs⟩::l) K s:=by
 refine opsW_call ?_;rw[hx];exact⟨I,hI.symm,xs',os,h1,h2,y,os',hc,hmo,y',us,h3,h4,by rw[←hs]at hk;exact hk⟩
end
end
end Go.Sh
end

section
namespace Go.Sh
open Go Go.RowKit
section
variable{P:Program}{g:Glob}{b:SCode}{Q:SExit→ES→Prop}{s s':ES}{n kill:List Nat}{l:List SOper}{r:List (List Nat×List SOper)}
end
def Wk(x y:TV):Prop:=∀w E r v,RelT w E r x v→RelT w E r y v
theorem Wk.refl(x:TV):Wk x x:=fun _ _ _ _ h=>h
theorem Wk.trans{x y z:TV}(h:Wk x y)(h':Wk y z):Wk x z:=fun w E r v hr=>h' w E r v (h w E r v hr)
theorem wk_nil(W:Nat):Wk (.pv (.v (.slice none 0 0))) (.pv (.sl W [])):=by
 intro w E r v h;cases h with
 |pv h=>
  cases h with
  |v x=>exact .pv (.sl W [] 0 0 0 none (fun _ _=>undef) (by simp) (by simp) (by simp) (by simp) (by simp) (by simp))
theorem wk_agg{cs ds:List TV}(hl:cs.length=ds.length)(h:∀(j:Nat) c d,cs[j]?=some c→ds[j]?=some d→Wk c d):Wk (.agg cs) (.agg ds):=by
 intro w E r v hr;cases hr with
 |agg cs vs hl' hv ho=>
  refine .agg ds vs (hl▸hl') (fun j d v hd hv'=> ?_) ho;have hj:j<cs.length:=by
   grind
  exact h j _ d (gE hj) hd w E r v (hv j _ v (gE hj) hv')
theorem SCalls.out{P:Program}{g:Glob}{f:Nat}{xs:List TV}{os os':List MO}{y y':TV}(h:SCalls P g f xs os y os')(hw:Wk y y'):SCalls P g f xs os y' os':=
 ⟨h.1,fun w E vs hG hm hX hl hr=>(h.2 w E vs hG hm hX hl hr).mono (by
  rintro e w' ⟨v,E',h1,h2,h3,h4⟩;exact⟨v,E',h1,h2,hw _ _ _ _ h3,h4⟩)⟩
theorem SCalls.inp{P:Program}{g:Glob}{f:Nat}{xs xs':List TV}{os os':List MO}{y:TV}(h:SCalls P g f xs' os y os')(hl:xs.length=xs'.length)(hw:∀(j:Nat) c d,xs[j]?=some c→xs'[j]?=some d→Wk c d):SCalls P g f xs os y os':=
 ⟨h.1,fun w E vs hG hm hX hl' hr=>h.2 w E vs hG hm hX (hl▸hl') (fun j d v hd hv=>by
  have hj:j<xs.length:=by
   grind
  exact hw j _ d (gE hj) hd w E _ v (hr j _ v (gE hj) hv))⟩
end Go.Sh
namespace Go.Sh
open Go Go.RowKit
theorem reach_none{s:FS}:∀(f:Nat) (l:List Nat),(∀d∈l,s.b d=none)→reach s false f l []=[]
 |0,_,_=>by simp[reach]
 |_+1,[],_=>by simp[reach]
 |f+1,d::l,h=>by
  have h1:=h d (by simp);simp only[reach,pos,h1];have ih:=reach_none f l (fun e he=>h e (by simp[he]))
  grind
def ansW1(s:ES)(y:TV):Option TV→Prop
 |some y0=>(y0.ids3.all fun d=>(s.fs.b d).isNone)=true∧y0.ren3 (rhoIn [])=some y
 |none=>False
def Post1(res:List SRes)(y:TV):SExit→ES→Prop
 | .ret,s| .normal,s=>ansW1 s y (resT s.fs res)
 | .exit _,_| .pan _,_=>False
theorem call_of1{P:Program}{g:Glob}{f:Nat}{H:Nat→Option Nat→Nat}{Fp:Nat→List (Nat→Option Nat)}{K:Nat→List Nat}{F:SFunc}(hmix:P.follows .mixedOrders=true)(hF:z36 P f H Fp K false=some F)(hk:F.keep=false){xs:List TV}{y:TV}(hn:Nat.ble xs.length F.N=true)
  (h:swp P g F.code (Post1 F.res y) (startE xs [])):SCalls P g f xs [] y []:=by
 have key:∀s,ansW1 s y (resT s.fs F.res)→exitR F.res F.keep 0 s=some (y,[]):=by
  intro s he;cases hr:resT s.fs F.res with
  |none=>rw[hr]at he;exact he.elim
  |some y0=>
   rw[hr]at he;obtain⟨h1,h2⟩:=he;have h3:reach s.fs false 64 y0.ids3 []=[]:=reach_none 64 _ (fun d hd=>by simpa using List.all_eq_true.1 h1 d hd)
   grind [exitR,exitF,idsFrom,seqO]
 refine call_of hmix hF hn rfl rfl (z63 h fun e s he=> ?_);cases e with
 |normal=>exact key s he
 |ret=>exact key s he
 |exit id=>exact he.elim
 |pan z=>exact he.elim
end Go.Sh
namespace Go.Sh
open Go Go.RowKit
theorem pr_ite{α:Type}(P:Program)(c:Prop)[Decidable c](a b:Sem α):z23 P (if c then a else b)=if c then z23 P a else z23 P b:=by grind
theorem pr_pure{α:Type}(P:Program)(a:α):z23 P (pure a)=some a:=rfl
theorem pr_program(P:Program):z23 P program=some P:=rfl
theorem z98{P:Program}(d:Nat)(t:TypeId)(xs ys:Array Value)(ht:z23 P (underlying t)=some (.struct (P.fieldsOf t)))(hp:P.stoodInHeld t=false):
  z23 P (Op.equalIn (d+1) t (.agg xs) (.agg ys))=z23 P (Op.eqFields d xs ys (P.fieldsOf t).toList):=by
 simp only[Op.equalIn,z31,ht,Option.bind_some,pr_program,hp,Bool.false_eq_true,if_false];rw[←Array.forIn_toList];generalize(P.fieldsOf t).toList=fs
 induction fs with
 |nil=>simp[Op.eqFields,pr_pure]
 |cons f fs ih=>
  simp only[List.forIn_cons,Op.eqFields,z31,pr_ite];split
  ·generalize z23 P (part f.type xs f.offset)=r1;cases r1 with
   |none=>rfl
   |some a=>
    generalize z23 P (part f.type ys f.offset)=r2;cases r2 with
    |none=>rfl
    |some b=>
     simp only[Option.bind_some];generalize z23 P (Op.equalIn d f.type a b)=r3;cases r3 with
     |none=>rfl
     |some r=>
      cases r
      ·simp only[Option.bind_some,Bool.not_false,if_true,pr_pure]
      ·simp only[Option.bind_some,Bool.not_true,Bool.false_eq_true,if_false,pr_pure];exact ih
  ·simp only[pr_pure,Option.bind_some];exact ih
end Go.Sh
end

section
namespace Go.Mor
def plainR(r:Nat):Bool:=decide (32≤r)&&r !=127
def plainGo:Nat→zB→Bool
 |0,_=>true
 |n+1,l=>if l=[] then true else plainR (Lib.decodeL l).1&&plainGo n (l.drop (Lib.decodeL l).2)
def plainD(l:zB):Bool:=plainGo l.length l
theorem plainGo_more:∀(n:Nat) (l:zB),l.length≤n→plainGo n l=plainD l:=by
 intro n
 induction n using Nat.strongRecOn with
 |_ n ih=>
  intro l hl;unfold plainD;cases l with
  |nil=>cases n<;>simp[plainGo]
  |cons b t=>
   obtain⟨m,rfl⟩:∃m,n=m+1:=⟨n-1,by simp at hl;omega⟩
   have hw:=Lib.decodeL_width (b::t);simp only[plainGo,List.length_cons,reduceCtorEq,if_false]
   grind
theorem z169(l:zB)(hne:l≠[]):plainD l=(plainR (Lib.decodeL l).1&&plainD (l.drop (Lib.decodeL l).2)):=by
 cases l with
 |nil=>grind
 |cons b t=>
  have hw:=Lib.decodeL_width (b::t)
  conv=>lhs;unfold plainD
  simp only[plainGo,List.length_cons,reduceCtorEq,if_false]
  grind [plainGo_more]
def z18(s:zB):Bool:=decide (s.length≤60)&&(Lib.validD s&&plainD s)
def z110(n:Int):Bool:=decide (1≤n∧n≤100000∨ -20≤n∧n≤ -1)
def bare(x:V):Bool:=x.s==[]&&x.l.length==0
def right1(x:V):Bool:=
 if x.k=0 then bare x&&x.n==0
 else if x.k=1 then bare x&&decide (-1000000000000000≤x.n)&&decide (x.n≤1000000000000000)
 else if x.k=2 then x.n==0&&x.l.length==0&&z18 x.s
 else if x.k=3∨x.k=4 then bare x&&z110 x.n
 else false
def noItem(x:V):Bool:=x.k==5|| !right1 x
def rightV(x:V):Bool:=
 if x.k=5 then x.n==0&&x.s==[]&&decide (x.l.length≤12)&& !x.l.any noItem else right1 x
structure Ty where
 k:Int
 o:Int
def z16(t:Ty):Bool:=if t.k=5 then decide (1≤t.o∧t.o≤4)else decide (1≤t.k∧t.k≤4∧t.o=0)
def ofKind(x:V)(k:Int):Bool:=x.k==k||(x.k==0&&(k==3||k==4))
def fitsV(x:V)(t:Ty):Bool:=rightV x&&z16 t&&ofKind x t.k&& !x.l.any (fun y=> !ofKind y t.o)
def zeroV(t:Ty):V:=if !z16 t||t.k==3||t.k==4 then V.nil else .mk t.k 0 [] []
end Go.Mor
end

section
namespace Go.Proofs.YtcpaleaajdilgaaGreatDoor
open Go Go.Mor
def I64(c:Int):Prop:= -9223372036854775808≤c∧c≤9223372036854775807
def ordI(a b:Int):Int:=if a<b then -1 else if b<a then 1 else 0
def thenI(c d:Int):Int:=if c=0 then d else c
def ordS(a b:zB):Int:=if Op.bytesLess a b then -1 else if a=b then 0 else 1
mutual
def cmpV:V→V→Int
 | .mk k n s l,y=>thenI (ordI k y.k) (thenI (ordI n y.n) (thenI (ordS s y.s) (cmpL l y.l)))
def cmpL:List V→List V→Int
 |[],[]=>0
 |[],_::_=> -1
 |_::_,[]=>1
 |x::l,y::l'=>thenI (cmpV x y) (cmpL l l')
end
theorem cmpV_eq(x y:V):cmpV x y=thenI (ordI x.k y.k) (thenI (ordI x.n y.n) (thenI (ordS x.s y.s) (cmpL x.l y.l))):=by
 cases x;simp only[cmpV,V.k,V.n,V.s,V.l]
theorem cmpL_drop{l l':List V}{i:Nat}{x y:V}(hx:l[i]?=some x)(hy:l'[i]?=some y):cmpL (l.drop i) (l'.drop i)=thenI (cmpV x y) (cmpL (l.drop (i+1)) (l'.drop (i+1))):=by
 grind [List.getElem?_eq_some_iff,List.drop_eq_getElem_cons,cmpL]
theorem cmpL_end{l l':List V}{i:Nat}(h:i=min l.length l'.length):cmpL (l.drop i) (l'.drop i)=ordI l.length l'.length:=by
 grind [ordI,Nat.lt_trichotomy,List.drop_eq_nil_of_le,List.drop_eq_getElem_cons,cmpL]
section
open Go.RowKit Go.Sh
theorem str0:str []=(⟨#[]⟩:ByteArray):=rfl
def tyT(t:Ty):TV:=.agg [I t.k,I t.o]
def nv(x:V):TV:=.agg [I x.k,I x.n,S (str x.s),.pv (.v (.slice none 0 0))]
def V.row:V→List PV
 | .mk k n s l=>[.v (.int .i64 k),.v (.int .i64 n),.v (.string (str s)),.sl 4 (l.attach.map fun x=>V.row x.1)]
termination_by x=>SizeOf.sizeOf x
decreasing_by exact V.size_lt x.2 k n s
def V.rows(l:List V):List (List PV):=l.map V.row
theorem V.row_mk(k n:Int)(s:zB)(l:List V):V.row (.mk k n s l)=[.v (.int .i64 k),.v (.int .i64 n),.v (.string (str s)),.sl 4 (V.rows l)]:=by
 rw[V.row];simp[V.rows]
theorem V.rows_nil:V.rows []=[]:=rfl
theorem z41(l:List V):V.rows l=l.map V.row:=rfl
def tv(x:V):TV:=.agg [I x.k,I x.n,S (str x.s),.pv (.sl 4 (V.rows x.l))]
theorem wk4{a b c x y:TV}(h:Wk x y):Wk (.agg [a,b,c,x]) (.agg [a,b,c,y]):=
 wk_agg rfl (fun j p q hp hq=>by
  match j with
  |0=>simp at hp hq;subst hp;subst hq;exact .refl _
  |1=>simp at hp hq;subst hp;subst hq;exact .refl _
  |2=>simp at hp hq;subst hp;subst hq;exact .refl _
  |3=>simp at hp hq;subst hp;subst hq;exact h
  |j+4=>simp at hp)
theorem nv_tv{x:V}(h:x.l=[]):Wk (nv x) (tv x):=by
 unfold nv tv;rw[h];exact wk4 (wk_nil 4)
structure R1 where
 k:Int
 n:Int
 s:zB
structure RawV where
 k:Int
 n:Int
 s:zB
 l:List R1
def R1.ok(x:R1):Prop:=I64 x.k∧I64 x.n∧x.s.length≤9223372036854775807
def RawV.ok(x:RawV):Prop:=I64 x.k∧I64 x.n∧x.s.length≤9223372036854775807∧(∀y∈x.l,y.ok)∧x.l.length≤9223372036854775807
def R1.row(x:R1):List PV:=[.v (.int .i64 x.k),.v (.int .i64 x.n),.v (.string (str x.s))]
def RawV.tv(x:RawV):TV:=.agg [I x.k,I x.n,S (str x.s),.pv (.sl 3 (x.l.map R1.row))]
theorem row_of_nil{x:V}(h:x.l=[]):V.row x=[.v (.int .i64 x.k),.v (.int .i64 x.n),.v (.string (str x.s)),.sl 4 []]:=by
 cases x with
 |mk k n s l=>simp only[V.l]at h;subst h;simp[V.row_mk,V.rows,V.k,V.n,V.s]
theorem Vk(k n:Int)(s:zB)(l:List V):(V.mk k n s l).k=k:=rfl
theorem Vn(k n:Int)(s:zB)(l:List V):(V.mk k n s l).n=n:=rfl
theorem Vs(k n:Int)(s:zB)(l:List V):(V.mk k n s l).s=s:=rfl
theorem Vl(k n:Int)(s:zB)(l:List V):(V.mk k n s l).l=l:=rfl
theorem rowsGet(l:List V)(k:Nat):(V.rows l)[k]?=(l[k]?).map V.row:=by rw[z41,List.getElem?_map]
theorem z65(l:List V):(V.rows l).length=l.length:=by rw[z41,List.length_map]
theorem row4(y:V):V.row y=[.v (.int .i64 y.k),.v (.int .i64 y.n),.v (.string (str y.s)),.sl 4 (V.rows y.l)]:=by cases y;exact V.row_mk _ _ _ _
inductive VSmall:V→Prop where
 |mk {k n:Int} {s:zB} {l:List V} (h:l.length≤maxLen) (hs:∀y∈l,VSmall y):VSmall (.mk k n s l)
theorem VSmall.len{x:V}(h:VSmall x):x.l.length≤maxLen:=by cases h;assumption
theorem VSmall.sub{x y:V}(h:VSmall x)(hy:y∈x.l):VSmall y:=by cases h with|mk h hs=>exact hs y hy
def z88(x:V):Prop:=x.s.length≤9223372036854775807
theorem rel_I{w:World}{E:Env}{r:Sh.Rows}{x:Int}{v:Value}(h:RelT w E r (I x) v):v=.int .i64 x:=val_rel h rfl
def VOk(x:V):Prop:=z88 x∧∀y∈x.l,z88 y
def pvC(xs:List PV):List TV:=xs.map TV.pv
theorem pvC_fgt(ids:List Nat)(xs:List PV):List.map (fgt3 ids) (pvC xs)=pvC xs:=by
 unfold pvC;rw[List.map_map];exact List.map_congr_left fun x _=>by cases ids<;>rfl
theorem pvC_ids(xs:List PV):List.flatMap TV.ids1 (pvC xs)=[]:=by
 unfold pvC;induction xs with
 |nil=>rfl
 |cons x xs ih=>rw[List.map_cons,List.flatMap_cons,ih];rfl
theorem pvC_ren(ρ:Nat→Option Nat)(xs:List PV):seqO (TV.ren1 ρ) (pvC xs)=some (pvC xs):=by
 unfold pvC;induction xs with
 |nil=>rfl
 |cons x xs ih=>simp only[List.map_cons,seqO,ih];rfl
theorem pvC_len(xs:List PV):(pvC xs).length=xs.length:=by simp[pvC]
theorem pvC_get(xs:List PV)(i:Nat):(pvC xs)[i]?=(xs[i]?).map TV.pv:=by simp[pvC]
theorem pvC_set{xs:List PV}{i:Nat}(h:i<xs.length)(y:PV):List.take i (pvC xs)++[TV.pv y]++List.drop (i+1) (pvC xs)=pvC (xs.set i y):=by
 unfold pvC;rw[List.set_eq_take_append_cons_drop,if_pos h,List.map_append,List.map_cons,List.map_take,List.map_drop,List.append_assoc];rfl
theorem vV:type_of%(wa3 (wa8 @pvC_fgt @pvC_ids @pvC_ren @pvC_len @I.eq_1 @S.eq_1 @tv.eq_1 @nv.eq_1) (wa8 @tyT.eq_1 @RawV.tv.eq_1 @R1.row.eq_1 @rowsGet @z65 @row4 @Vk @Vn) (wa2 @Vs @Vl)):=wa3 (wa8 @pvC_fgt @pvC_ids @pvC_ren @pvC_len @I.eq_1 @S.eq_1 @tv.eq_1 @nv.eq_1) (wa8 @tyT.eq_1 @RawV.tv.eq_1 @R1.row.eq_1 @rowsGet @z65 @row4 @Vk @Vn) (wa2 @Vs @Vl)
def byR(l:zB):List (List PV):=l.map fun u=>[.v (.int .u8 u.toNat)]
theorem byP(l:zB):bytesP (str l)=byR l:=by simp[bytesP,byR,str]
theorem byApp(a b:zB):byR a++byR b=byR (a++b):=by simp[byR]
theorem byLen(a:zB):(byR a).length=a.length:=by simp[byR]
theorem bySeq:∀(a:zB),seqO Sh.byteOf (byR a)=some a
 |[]=>rfl
 |u::a=>by
  have ih:=bySeq a;unfold byR at ih ⊢;simp only[List.map_cons,seqO,ih,Sh.byteOf];simp
theorem strMk(l:zB):(⟨l.toArray⟩:ByteArray)=str l:=rfl
end
end Go.Proofs.YtcpaleaajdilgaaGreatDoor
end

section
namespace Go.Mor
def mag(n:Int):Nat:=if n<0 then(-1-n).toNat else n.toNat
def sgn(n:Int):Nat:=if n<0 then 1 else 0
def tailN:Nat→Nat→zB
 |0,_=>[]
 |f+1,m=>if m=0 then [] else UInt8.ofNat (m%128)::tailN f (m / 128)
def groups(n:Int):zB:=UInt8.ofNat (mag n%64*2+sgn n)::tailN 9 (mag n / 64)
def bump(l:zB):zB:=l.dropLast++(l.getLast?.map (·+128)).toList
def pack(l:zB):zB:=l.foldl (fun acc g=>bump acc++[g]) []
def num(n:Int):zB:=pack (groups n)
theorem pack_snoc(l:zB)(g:UInt8):pack (l++[g])=bump (pack l)++[g]:=by simp[pack]
theorem bump_length(l:zB):(bump l).length=l.length:=by
 rcases List.eq_nil_or_concat l with rfl|⟨Q,b,rfl⟩
 ·rfl
 ·simp[bump]
theorem foldl_bump_length(l:zB):∀acc:zB,(l.foldl (fun acc g=>bump acc++[g]) acc).length=acc.length+l.length:=by
 induction l<;>grind [bump_length]
theorem z166(l:zB):(pack l).length=l.length:=by rw[pack,foldl_bump_length];simp
theorem tailN_zero(f:Nat):tailN f 0=[]:=by cases f<;>simp[tailN]
theorem tailN_length(f:Nat):∀m,(tailN f m).length≤f:=by
 induction f with
 |zero=>grind [tailN]
 |succ f ih=>intro m;simp only[tailN];split;simp;simp;exact ih _
theorem groups_length(n:Int):(groups n).length≤10:=by
 grind [tailN_length,mag,groups]
theorem z97(n:Int):(num n).length≤10:=by rw[num,z166];exact groups_length n
theorem num_pos(n:Int):0<(num n).length:=by rw[num,z166];simp[groups]
abbrev Ix:Type:=Fin 1125899906842624
def rdGo:Nat→Nat×Nat→zB→Except Bool (Nat×Nat×Nat)
 |_,_,[]=> .error false
 |k,st,b::r=>
  if k≠0∧(b.toNat=0∨k=9∧1<b.toNat)then .error true else
  let g:=b.toNat%128
  let st':=if k=0 then(g / 2,g%2)else(st.1+g*2 ^ (7*k-1),st.2)
  if b.toNat<128 then .ok (st'.1,st'.2,k+1)else rdGo (k+1) st' r
def stepM(st:Nat×Nat)(x:Ix×UInt8):Nat×Nat:=
 if x.1.val=0 then(x.2.toNat%128 / 2,x.2.toNat%128%2)else(st.1+x.2.toNat%128*2 ^ (7*x.1.val-1),st.2)
def stM(pre:List (Ix×UInt8)):Nat×Nat:=pre.foldl stepM (0,0)
theorem stM_snoc(pre:List (Ix×UInt8))(x:Ix×UInt8):stM (pre++[x])=stepM (stM pre) x:=by simp[stM]
def pairs(s:zB)(a:Nat):List (Ix×UInt8):=(s.drop a).zipIdx.map fun p=>(Fin.ofNat _ p.2,p.1)
theorem z162(s:zB)(a:Nat):(pairs s a).length=s.length-a:=by simp[pairs]
theorem pairs_get(s:zB)(a k:Nat)(h:a+k<s.length):(pairs s a)[k]?=some (Fin.ofNat _ k,s[a+k]):=by
 simp[pairs,List.getElem?_drop,gE h]
theorem pairs_take(s:zB)(a k:Nat)(h:a+k<s.length):(pairs s a).take (k+1)=(pairs s a).take k++[(Fin.ofNat _ k,s[a+k])]:=by
 grind [List.take_add_one,pairs_get]
def rd(s:zB)(a:Int):Except Bool (Int×Nat):=
 if 0≤a∧a<s.length then
  match rdGo 0 (0,0) (s.drop a.toNat)with
  | .error e=> .error e
  | .ok (m,sg,z)=> .ok (if sg=1 then -1-(m:Int)else m,z)
 else .error false
def Begs(s:zB)(a:Nat)(pre:List (Ix×UInt8)):Prop:=pre<+:pairs s a
theorem Begs.last{s:zB}{a:Nat}{pre:List (Ix×UInt8)}{x:Ix×UInt8}(h:Begs s a (pre++[x]))(hs:s.length<1125899906842624):
  Begs s a pre∧x.1.val=pre.length∧∃hl:a+pre.length<s.length,x.2=s[a+pre.length]:=by
 have hg:Begs s a pre:=(List.prefix_append pre [x]).trans h;have hlen:=h.length_le;rw[z162]at hlen;have h2:=List.prefix_iff_getElem?.1 h pre.length (by simp)
 grind [pairs_get]
structure Mid(s:zB)(a:Nat)(pre:List (Ix×UInt8))(m sg:Int):Prop where
 m:m=(stM pre).1
 sg:sg=(stM pre).2
 go:rdGo 0 (0,0) (s.drop a)=rdGo pre.length (stM pre) (s.drop (a+pre.length))
 lt:(stM pre).1<2 ^ (7*pre.length-1)
 le:pre.length≤9
theorem bump_nil:bump []=[]:=rfl
theorem add128(b:UInt8):((b+128).toNat:Int)=((b.toNat:Int)+128)%256:=by
 simp
theorem bump_snoc(Q:zB)(b:UInt8):bump (Q++[b])=Q++[b+128]:=by
 simp[bump]
theorem snoc_of{α:Type}(l:List α)(h:l≠[]):∃Q b,l=Q++[b]:=⟨l.dropLast,l.getLast h,(List.dropLast_concat_getLast h).symm⟩
theorem first_neg(x:Int)(h:x<0):((UInt8.ofNat (mag x%64*2+sgn x)).toNat:Int)=(-1-x)%64*2+1:=by
 simp only[mag,sgn,if_pos h,UInt8.toNat_ofNat'];omega
theorem first_pos(x:Int)(h:¬x<0):((UInt8.ofNat (mag x%64*2+sgn x)).toNat:Int)=x%64*2:=by
 simp only[mag,sgn,if_neg h,UInt8.toNat_ofNat'];omega
theorem next_byte(m:Nat):((UInt8.ofNat (m%128)).toNat:Int)=(m:Int)%128:=by
 simp;omega
theorem mag_eq(x:Int):(mag x:Int)=if x<0 then -1-x else x:=by simp only[mag];split<;>omega
theorem mag_lt(x:Int)(h0: -9223372036854775808≤x)(h1:x≤9223372036854775807):mag x<9223372036854775808:=by
 grind [mag_eq]
section
open Go
theorem z83{s:zB}{i:Nat}(h:i<s.length):s.drop i=s[i]::s.drop (i+1):=by simp
theorem Mid.at{s:zB}{a:Nat}{pre:List (Ix×UInt8)}{x:Ix×UInt8}{m sg:Int}(hs:s.length<1125899906842624)(hM:Begs s a pre→Mid s a pre m sg)(hg:Begs s a (pre++[x])):
  Mid s a pre m sg∧x.1.val=pre.length∧rdGo 0 (0,0) (s.drop a)=rdGo pre.length (stM pre) (x.2::s.drop (a+(pre++[x]).length)):=by
 obtain⟨hg',hx,hl,hb⟩:=hg.last hs;have hm:=hM hg';refine⟨hm,hx,?_⟩;rw[hm.go,z83 hl,hb]
 grind
theorem Mid.err{s:zB}{a:Nat}{pre:List (Ix×UInt8)}{x:Ix×UInt8}{m sg:Int}(hs:s.length<1125899906842624)(hM:Begs s a pre→Mid s a pre m sg)(hk:¬x.1.val=0)(hbad:x.2.toNat=0∨x.1.val=9∧1<x.2.toNat)
  (hg:Begs s a (pre++[x])):rdGo 0 (0,0) (s.drop a)=.error true:=by
 grind [Mid.at,rdGo]
theorem Mid.ok{s:zB}{a:Nat}{pre:List (Ix×UInt8)}{x:Ix×UInt8}{m sg:Int}(hs:s.length<1125899906842624)(hM:Begs s a pre→Mid s a pre m sg)(hbad:¬(x.1.val≠0∧(x.2.toNat=0∨x.1.val=9∧1<x.2.toNat)))
  (hlo:x.2.toNat<128) (hg:Begs s a (pre++[x])):rdGo 0 (0,0) (s.drop a)=.ok ((stepM (stM pre) x).1,(stepM (stM pre) x).2,x.1.val+1):=by
 obtain⟨hm,hx,hr⟩:=Mid.at hs hM hg;rw[hr,rdGo,if_neg (by omega),←hx];simp only[hlo,if_true,stepM]
theorem step_lt{st:Nat×Nat}{x:Ix×UInt8}(h:st.1<2 ^ (7*x.1.val-1)):(stepM st x).1<2 ^ (7*(x.1.val+1) - 1):=by
 unfold stepM;by_cases h0:x.1.val=0
 ·grind
 ·rw[if_neg h0];have e:7*(x.1.val+1) - 1=7*x.1.val-1+7:=by omega
  rw[e,Nat.pow_add];have h2:x.2.toNat%128*2 ^ (7*x.1.val-1)≤127*2 ^ (7*x.1.val-1):=Nat.mul_le_mul_right _ (by omega);omega
theorem Mid.cont{s:zB}{a:Nat}{pre:List (Ix×UInt8)}{x:Ix×UInt8}{m sg:Int}(hs:s.length<1125899906842624)(hM:Begs s a pre→Mid s a pre m sg)(hbad:¬(x.1.val≠0∧(x.2.toNat=0∨x.1.val=9∧1<x.2.toNat)))
  (hlo:128≤x.2.toNat) (hg:Begs s a (pre++[x])):Mid s a (pre++[x]) ((stepM (stM pre) x).1:Nat) ((stepM (stM pre) x).2:Nat):=by
 obtain⟨hm,hx,hr⟩:=Mid.at hs hM hg;have hlen:(pre++[x]).length=x.1.val+1:=by simp[hx]
 refine⟨by rw[stM_snoc],by rw[stM_snoc],?_,?_,?_⟩
 ·rw[hr,rdGo,if_neg (by omega),stM_snoc,←hx];have h1:¬x.2.toNat<128:=by omega
  simp only[h1,if_false,hlen];rfl
 ·rw[stM_snoc,hlen];exact step_lt (by rw[hx];exact hm.lt)
 ·have:=hm.le;omega
theorem or_add(A g i:Nat)(h:A<2 ^ i):A|||g*2 ^ i=A+g*2 ^ i:=by
 grind [Nat.two_pow_add_eq_or_of_lt,Nat.mul_comm,Nat.add_comm]
theorem or_step{s:zB}{a:Nat}{pre:List (Ix×UInt8)}{x:Ix×UInt8}{m sg G:Int}(hs:s.length<1125899906842624)(hM:Begs s a pre→Mid s a pre m sg)(hk:¬x.1.val=0)(hbad:¬(x.2.toNat=0∨x.1.val=9∧1<x.2.toNat))
  (hG:G=IntKind.u64.wrap ((x.2.toNat:Int)%128*2 ^ min (7*x.1.val-1) 64)) (hg:Begs s a (pre++[x])):
  bits .or .u64 m G=((stepM (stM pre) x).1:Nat)∧sg=((stepM (stM pre) x).2:Nat):=by
 obtain⟨hm,hx,_⟩:=Mid.at hs hM hg;have hle:=hm.le;have hlt:=hm.lt;rw[←hx]at hle hlt;have hmin:min (7*x.1.val-1) 64=7*x.1.val-1:=by omega
 have hpow:2 ^ (7*x.1.val-1)≤2 ^ 62:=Nat.pow_le_pow_right (by omega) (by omega);have hval:x.2.toNat%128*2 ^ (7*x.1.val-1)<18446744073709551616:=by
  by_cases h9:x.1.val=9
  ·grind
  ·have h8:2 ^ (7*x.1.val-1)≤2 ^ 55:=Nat.pow_le_pow_right (by omega) (by omega);have:x.2.toNat%128≤127:=by omega
   have:=Nat.mul_le_mul this h8;omega
 have hG':G=((x.2.toNat%128*2 ^ (7*x.1.val-1):Nat):Int):=by
  rw[hG,hmin];have e:(x.2.toNat:Int)%128*2 ^ (7*x.1.val-1)=((x.2.toNat%128*2 ^ (7*x.1.val-1):Nat):Int):=by simp
  rw[e,IntKind.wrap_u64];omega
 rw[hG',hm.m,u64_or_nat _ _ (by omega) hval,or_add _ _ _ hlt,hm.sg];simp only[stepM,if_neg hk,true_and]
theorem rdGo_bound:∀(l:zB) (k:Nat) (st:Nat×Nat) {m sg z:Nat},k≤9→st.1<2 ^ (7*k-1)→(k=0∨st.2≤1)→rdGo k st l=.ok (m,sg,z)→
  m<9223372036854775808∧sg≤1∧k<z∧z≤10∧z≤k+l.length
 |[],k,st,m,sg,z,_,_,_,h=>by simp[rdGo]at h
 |b::r,k,st,m,sg,z,hk,hlt,hsg,h=>by
  rw[rdGo]at h;by_cases hbad:k≠0∧(b.toNat=0∨k=9∧1<b.toNat)
  ·grind
  rw[if_neg hbad]at h;have hst:(if k=0 then(b.toNat%128 / 2,b.toNat%128%2)else(st.1+b.toNat%128*2 ^ (7*k-1),st.2)).1<2 ^ (7*(k+1) - 1)∧
    (if k=0 then(b.toNat%128 / 2,b.toNat%128%2)else(st.1+b.toNat%128*2 ^ (7*k-1),st.2)).2≤1∧
    (k=9→(if k=0 then(b.toNat%128 / 2,b.toNat%128%2)else(st.1+b.toNat%128*2 ^ (7*k-1),st.2)).1<9223372036854775808):=by
   by_cases h0:k=0
   ·grind
   ·simp;have e:7*(k+1) - 1=7*k-1+7:=by omega
    have h2:b.toNat%128*2 ^ (7*k-1)≤127*2 ^ (7*k-1):=Nat.mul_le_mul_right _ (by omega)
    grind
  obtain⟨h1,h2,h3⟩:=hst
  dsimp only at h
  generalize(if k=0 then(b.toNat%128 / 2,b.toNat%128%2)else(st.1+b.toNat%128*2 ^ (7*k-1),st.2))=q at*;by_cases hlo:b.toNat<128
  ·rw[if_pos hlo]at h;obtain⟨rfl,rfl,rfl⟩:=h;refine⟨?_,h2,by omega,by omega,by simp⟩;by_cases h9:k=9
   ·omega
   ·have:2 ^ (7*(k+1) - 1)≤2 ^ 62:=Nat.pow_le_pow_right (by omega) (by omega);omega
  ·rw[if_neg hlo]at h;have:=rdGo_bound r (k+1) q (by omega) h1 (.inr h2) h
   grind
end
def z40(s:zB)(a:Int):Option (Int×Int):=
 match rd s a with
 | .ok (n,z)=>some (n,a+z)
 | .error _=>none
def rdW(s:zB)(a:Int):Except Bool (zB×Int):=
 match rd s a with
 | .error e=> .error e
 | .ok (n,z)=>if n<0∨10000<n then .error true else if s.length-(a+z)<n then .error false else .ok ((s.drop (a+z).toNat).take n.toNat,a+z+n)
def z32(s:zB)(a:Int):Option (zB×Int):=
 match rdW s a with
 | .ok (t,b)=>some (t,b)
 | .error _=>none
def numRes(r:Option (Int×Int)):Value:=match r with|some (n,b)=> .tuple #[.int .i64 n,.int .i64 b,.int .i64 0]|none=> .tuple #[.int .i64 0,.int .i64 0,.int .i64 10]
def readRes(r:Option (zB×Int)):Value:=match r with|some (t,b)=> .tuple #[.string (str t),.int .i64 b,.int .i64 0]|none=> .tuple #[.string (str []),.int .i64 0,.int .i64 10]
def text(s:zB):zB:=num s.length++s
def textRes(s:zB):Value:=if s.length≤10000 then .tuple #[.string (str (text s)),.int .i64 0] else .tuple #[.string (str []),.int .i64 10]
theorem rd_bound{s:zB}{a:Int}{n:Int}{z:Nat}(h:rd s a=.ok (n,z)):0≤a∧a+z≤s.length∧ -9223372036854775808≤n∧n≤9223372036854775807∧0<z∧z≤10:=by
 unfold rd at h;split at h
 ·rename_i hin;split at h
  ·cases h
  ·rename_i m sg z' he;have:=rdGo_bound _ 0 (0,0) (by omega) (by decide) (.inl rfl) he
   grind
 ·cases h
theorem readNum_bound{s:zB}{a n b:Int}(h:z40 s a=some (n,b)):0≤a∧a<b∧b≤s.length∧ -9223372036854775808≤n∧n≤9223372036854775807:=by
 unfold z40 at h;split at h
 ·rename_i n' z he;obtain⟨rfl,rfl⟩:=h;have:=rd_bound he;omega
 ·cases h
theorem readText_bound{s t:zB}{a b:Int}(h:z32 s a=some (t,b)):0≤a∧a<b∧b≤s.length∧t.length≤10000:=by
 unfold z32 at h;split at h
 ·rename_i t' b' he;unfold rdW at he;split at he
  ·cases he
  ·rename_i n z hr;have:=rd_bound hr
   grind
 ·cases h
section
open Go Go.RowKit
structure Fld where
 n:zB
 t:Ty
 ix:Bool
structure Cls where
 n:zB
 fs:List Fld
def small(b:UInt8):Bool:=decide (97≤b.toNat∧b.toNat≤122)
def nameB(b:UInt8):Bool:=small b||decide (48≤b.toNat∧b.toNat≤57)||b.toNat==95
def z11(s:zB):Bool:=decide (1≤s.length∧s.length≤20)&&small (s.headD 0)&&s.all nameB
def z26(f:Fld):Bool:=z11 f.n&&z16 f.t&&(!f.ix||decide (f.t.k≤3))
def fieldAt(c:List Fld)(name:zB):Int:=z54 (fun f=>f.n==name) c
def onceGo(all:List Fld):Nat→List Fld→Bool
 |_,[]=>true
 |k,f::r=>z26 f&&fieldAt all f.n==k&&onceGo all (k+1) r
def z19(c:Cls):Bool:=z11 c.n&&decide (c.fs.length≤8)&&onceGo c.fs 0 c.fs
def eqFld(f g:Fld):Bool:=f.n==g.n&&f.t.k==g.t.k&&f.t.o==g.t.o&&f.ix==g.ix
def z108:Nat→List Fld→List V→Int×Int
 |_,[],_=>(0,0)
 |_,_,[]=>(0,0)
 |k,f::fs,v::vs=>if fitsV v f.t then z108 (k+1) fs vs else(k,42)
def check(c:Cls)(vs:List V):Int×Int:=
 if !z19 c then(0,40)else if vs.length≠c.fs.length then((min vs.length c.fs.length:Nat),42)else z108 0 c.fs vs
def IsF(ok:Nat→Prop)(w:World)(l:List Fld)(c:Value):Prop:=
 ∃(b off cap:Nat) (p:Option Addr),c=.slice p l.length cap∧l.length≤cap∧cap≤maxLen∧(l≠[]→p=some ⟨b,off,none⟩∧ok b)∧
  ∀(i:Nat) (f:Fld),l[i]?=some f→w.cell? ⟨b,off+i*4,none⟩=some (.string (str f.n))∧w.cell? ⟨b,off+i*4+1,none⟩=some (.int .i64 f.t.k)
   ∧w.cell? ⟨b,off+i*4+2,none⟩=some (.int .i64 f.t.o)∧w.cell? ⟨b,off+i*4+3,none⟩=some (.bool f.ix)
theorem IsF.keepBy{ok:Nat→Prop}{w w':World}{l:List Fld}{c:Value}(h:IsF ok w l c)(hk:∀a v,ok a.block→w.cell? a=some v→w'.cell? a=some v):IsF ok w' l c:=by
 obtain⟨b,off,cap,p,h1,h2,h3,h4,h5⟩:=h;refine⟨b,off,cap,p,h1,h2,h3,h4,fun i f hf=> ?_⟩
 grind
theorem IsF.ext{ok:Nat→Prop}{w w':World}{l:List Fld}{c:Value}(h:IsF ok w l c)(hb:Below w.heap.size w w'):IsF ok w' l c:=
 h.keepBy fun _ _ _ hv=>(hb.cell (z38 hv)).trans hv
theorem IsF.keep{ok:Nat→Prop}{w w':World}{l:List Fld}{c:Value}(h:IsF ok w l c)(hk:∀b,ok b→w'.heap[b]?=w.heap[b]?):IsF ok w' l c:=
 h.keepBy fun a _ ho hv=>(World.cell?_of_block (w:=w) (hk a.block ho)).trans hv
theorem IsF.weaken{ok ok':Nat→Prop}{w:World}{l:List Fld}{c:Value}(h:IsF ok w l c)(hk:∀b,ok b→ok' b):IsF ok' w l c:=by
 obtain⟨b,off,cap,p,h1,h2,h3,h4,h5⟩:=h;exact⟨b,off,cap,p,h1,h2,h3,fun hl=>⟨(h4 hl).1,hk _ (h4 hl).2⟩,h5⟩
theorem IsF.none_{ok:Nat→Prop}{w:World}:IsF ok w [] (.slice none 0 0):=⟨0,0,0,none,rfl,by simp,Nat.zero_le _,by simp,by simp⟩
end
section
open Go
def bindsV(s:zB):Int:=
 if s=[42]∨s=[47]∨s=[37] then 4 else if s=[43]∨s=[45] then 3 else if s=[38] then 2
 else if s=[61]∨s=[60,62]∨s=[60]∨s=[60,61]∨s=[62]∨s=[62,61] then 1 else 0
def takesV(s:zB):Int:=
 if s=[108,101,110]∨s=[116,101,120,116]∨s=[110,117,109] then 1
 else if s=[108,101,102,116]∨s=[114,105,103,104,116]∨s=[102,114,111,109]∨s=[102,105,110,100]∨s=[109,105,110]∨s=[109,97,120] then 2
 else if s=[105,102] then 3 else 0
def nodeE(e:V):Bool:=
 if e.k≠1∧e.n≠0 then false
 else if e.k=1 then decide (0≤e.n)&&decide (e.n≤1000000000000000)&&e.s==[]&&e.l.length==0
 else if e.k=2 then z18 e.s&&e.l.length==0
 else if e.k=3 then z11 e.s&&e.l.length==0
 else if e.k=4 then decide (0<bindsV e.s)&&e.l.length==2
 else if e.k=5 then e.s==[45]&&e.l.length==1
 else if e.k=6 then decide (0<takesV e.s)&&decide ((e.l.length:Int)=takesV e.s)
 else false
def okE:Nat→V→Bool
 |0,_=>false
 |d+1,e=>nodeE e&&e.l.all (okE d)
def szE:Nat→V→Nat
 |0,_=>1
 |d+1,e=>1+(e.l.map (szE d)).sum
def rightE(e:V):Bool:=okE 8 e&&decide (szE 8 e≤40)
structure Pc where
 k:Int
 n:Int
 s:zB
 p:Nat
def digB(b:UInt8):Bool:=decide (48≤b.toNat∧b.toNat≤57)
def numG:zB→Int→Nat→Int×Nat
 |[],n,z=>(n,z)
 |b::r,n,z=>if digB b then numG r (min (10*n+((b.toNat:Int) - 48)) 1000000000000001) (z+1)else(n,z)
def nameZ:zB→Nat
 |[]=>0
 |b::r=>if nameB b then nameZ r+1 else 0
def quoG:zB→zB→Nat→Option (zB×Nat)
 |[],_,_=>none
 |b::r,acc,k=>if b=34 then(if z18 acc then some (acc,k+1)else none)
  else if b=92 then(match r with
   |[]=>none
   |c::r'=>if c=34∨c=92 then quoG r' (acc++[c]) (k+2)else none)
  else quoG r (acc++[b]) (k+1)
def signP:zB→zB
 |[]=>[]
 |b::r=>if b=60 then(if r.head?=some 62 then [60,62] else if r.head?=some 61 then [60,61] else [60])
  else if b=62 then(if r.head?=some 61 then [62,61] else [62])
  else if b=61∨b=38∨b=43∨b=45∨b=42∨b=47∨b=37∨b=40∨b=41∨b=44 then [b] else []
def readP(l:zB)(at_:Nat):Option (Pc×Nat):=
 match l with
 |[]=>none
 |b::r=>
  if digB b then(if 1000000000000000<(numG l 0 0).1 then none else some (⟨1,(numG l 0 0).1,[],at_⟩,(numG l 0 0).2))
  else if small b then(if z11 (l.take (nameZ l))then some (⟨3,0,l.take (nameZ l),at_⟩,nameZ l)else none)
  else if b=34 then(match quoG r [] 1 with
   |some (t,k)=>some (⟨2,0,t,at_⟩,k)
   |none=>none)
  else if signP l=[] then none else some (⟨4,0,signP l,at_⟩,(signP l).length)
inductive Lx where
 |ok (L:List Pc)
 |bad (p:Nat)
def lexG:Nat→zB→Nat→List Pc→Option Lx
 |0,_,_,_=>none
 |f+1,l,at_,acc=>match l with
  |[]=>some (.ok acc)
  |b::r=>if b=32 then lexG f r (at_+1) acc else match readP l at_ with
   |none=>some (.bad at_)
   |some (q,z)=>lexG f (l.drop z) (at_+z) (acc++[q])
inductive Rs(α:Type) where
 |ok (e:α) (p:Nat)
 |bad (a p:Nat)
def pkP(L:List Pc)(sz p:Nat):Pc:=(L[p]?).getD ⟨0,0,[],sz⟩
def isSg(q:Pc)(t:zB):Bool:=q.k==4&&q.s==t
mutual
def pE(L:List Pc)(sz:Nat):Nat→Int→Nat→Option (Rs V)
 |0,_,_=>none
 |f+1,least,p=>match pT L sz f p with
  |some (.ok e p')=>pL L sz f least e p'
  |some (.bad a p')=>some (.bad a p')
  |none=>none
def pL(L:List Pc)(sz:Nat):Nat→Int→V→Nat→Option (Rs V)
 |0,_,_,_=>none
 |f+1,least,e,p=>
  if(pkP L sz p).k≠4∨bindsV (pkP L sz p).s<least then some (.ok e p)
  else match pE L sz f (bindsV (pkP L sz p).s+1) (p+1)with
   |some (.ok e2 p2)=>pL L sz f least (.mk 4 0 (pkP L sz p).s [e,e2]) p2
   |some (.bad a p')=>some (.bad a p')
   |none=>none
def pT(L:List Pc)(sz:Nat):Nat→Nat→Option (Rs V)
 |0,_=>none
 |f+1,p=>
  if isSg (pkP L sz p) [40] then(match pE L sz f 1 (p+1)with
   |some (.ok e p')=>if isSg (pkP L sz p') [41] then some (.ok e (p'+1))else some (.bad (pkP L sz p').p p')
   |some (.bad a p')=>some (.bad a p')
   |none=>none)
  else if isSg (pkP L sz p) [45] then(match pT L sz f (p+1)with
   |some (.ok e p')=>some (.ok (.mk 5 0 [45] [e]) p')
   |some (.bad a p')=>some (.bad a p')
   |none=>none)
  else if(pkP L sz p).k=1 then some (.ok (.mk 1 (pkP L sz p).n [] []) (p+1))
  else if(pkP L sz p).k=2 then some (.ok (.mk 2 0 (pkP L sz p).s []) (p+1))
  else if(pkP L sz p).k=3 then(if 0<takesV (pkP L sz p).s∧isSg (pkP L sz (p+1)) [40]=true then(match pH L sz f (takesV (pkP L sz p).s).toNat 0 (p+2) []with
    |some (.ok l p')=>some (.ok (.mk 6 0 (pkP L sz p).s l) p')
    |some (.bad a p')=>some (.bad a p')
    |none=>none)
   else some (.ok (.mk 3 0 (pkP L sz p).s []) (p+1)))
  else some (.bad (pkP L sz p).p (p+1))
def pH(L:List Pc)(sz:Nat):Nat→Nat→Nat→Nat→List V→Option (Rs (List V))
 |0,_,_,_,_=>none
 |f+1,n,k,p,acc=>
  if k<n then(if 0<k∧isSg (pkP L sz p) [44]=false then some (.bad (pkP L sz p).p p)
   else match pE L sz f 1 (if 0<k then p+1 else p)with
    |some (.ok e p')=>pH L sz f n (k+1) p' (acc++[e])
    |some (.bad a p')=>some (.bad a p')
    |none=>none)
  else if isSg (pkP L sz p) [41] then some (.ok acc (p+1))else some (.bad (pkP L sz p).p p)
end
def parseV(f:Nat)(l:zB):Option (V×Int×Int):=
 if 200<l.length then some (V.nil,200,50)
 else match lexG (l.length+1) l 0 []with
  |none=>none
  |some (.bad a)=>some (V.nil,a,50)
  |some (.ok L)=>match pE L l.length f 1 0 with
   |some (.ok e p)=>if p<L.length then some (V.nil,(pkP L l.length p).p,50)else if rightE e then some (e,0,0)else some (V.nil,0,51)
   |some (.bad a _)=>some (V.nil,a,50)
   |none=>none
abbrev T3:=Int×Int×zB
def er(q:Pc):T3:=(q.k,q.n,q.s)
def sg(s:zB):T3:=(4,0,s)
def kidK(e:V)(least:Int)(t:List T3):List T3:=if e.k=4∧bindsV e.s<least then sg [40]::(t++[sg [41]])else t
def sepK:List (List T3)→List T3
 |[]=>[]
 |x::r=>x++(r.map fun y=>sg [44]::y).flatten
def tokE:Nat→V→List T3
 |0,_=>[]
 |d+1,e=>
  if e.k=1 then [(1,e.n,[])]
  else if e.k=2 then [(2,0,e.s)]
  else if e.k=5 then sg [45]::kidK (e.l.getD 0 V.nil) 5 (tokE d (e.l.getD 0 V.nil))
  else if e.k=4 then kidK (e.l.getD 0 V.nil) (bindsV e.s) (tokE d (e.l.getD 0 V.nil))++sg e.s::kidK (e.l.getD 1 V.nil) (bindsV e.s+1) (tokE d (e.l.getD 1 V.nil))
  else if e.k=6 then(3,0,e.s)::sg [40]::(sepK (e.l.map (tokE d))++[sg [41]])
  else [(3,0,e.s)]
def LexP(t:zB)(ts:List T3)(post:zB):Prop:=
 ∀(f a:Nat) (acc:List Pc),t.length+post.length<f→∃f' L,post.length<f'∧L.map er=ts∧lexG f (t++post) a acc=lexG f' post (a+t.length) (acc++L)
theorem LexP.nil(post:zB):LexP [] [] post:=fun f a acc h=>⟨f,[],by simpa using h,rfl,by simp⟩
theorem LexP.app{t1 t2:zB}{ts1 ts2:List T3}{post:zB}(h1:LexP t1 ts1 (t2++post))(h2:LexP t2 ts2 post):LexP (t1++t2) (ts1++ts2) post:=by
 intro f a acc hf;obtain⟨f1,L1,a1,a2,a3⟩:=h1 f a acc (by grind);obtain⟨f2,L2,b1,b2,b3⟩:=h2 f1 (a+t1.length) (acc++L1) (by grind);refine⟨f2,L1++L2,b1,by rw[List.map_append,a2,b2],?_⟩
 grind
theorem LexP.one{t:zB}{q:T3}{post:zB}{b:UInt8}{r:zB}(ht:t=b::r)(hb:b≠32)(h:∀a,∃p,readP (t++post) a=some (p,t.length)∧er p=q):LexP t [q] post:=by
 intro f a acc hf;obtain⟨f,rfl⟩:∃g,f=g+1:=⟨f-1,by omega⟩
 obtain⟨p,h1,h2⟩:=h a;refine⟨f,[p],by subst ht;simp at hf;omega,by simp[h2],?_⟩
 grind [lexG]
theorem digC(d:Nat)(hd:d<10):(UInt8.ofNat (48+d)).toNat=48+d:=by rw[UInt8.toNat_ofNat'];omega
theorem quoG_34(post acc:zB)(k:Nat):quoG (34::post) acc k=if z18 acc then some (acc,k+1)else none:=by
 rw[quoG.eq_def];rfl
theorem quoG_92(c:UInt8)(r acc:zB)(k:Nat):quoG (92::c::r) acc k=if c=34∨c=92 then quoG r (acc++[c]) (k+2)else none:=by
 grind [quoG]
theorem quoG_c{b:UInt8}(h1:b≠34)(h2:b≠92)(r acc:zB)(k:Nat):quoG (b::r) acc k=quoG r (acc++[b]) (k+1):=by
 rw[quoG.eq_def];simp only[if_neg h1,if_neg h2]
theorem binds_cases{s:zB}(h:0<bindsV s):s=[42]∨s=[47]∨s=[37]∨s=[43]∨s=[45]∨s=[38]∨s=[61]∨s=[60,62]∨s=[60]∨s=[60,61]∨s=[62]∨s=[62,61]:=by
 grind [bindsV]
theorem ok_kids{d:Nat}{e:V}(h:okE (d+1) e=true):nodeE e=true∧∀x∈e.l,okE d x=true:=by
 rw[okE,Bool.and_eq_true]at h
 grind
theorem node1{e:V}(h:nodeE e=true)(hk:e.k=1):0≤e.n∧e.n≤1000000000000000∧e.s=[]∧e.l=[]:=by
 grind [nodeE]
theorem node0{e:V}(h:nodeE e=true)(hk:e.k≠1):e.n=0:=by
 grind [nodeE]
theorem node2{e:V}(h:nodeE e=true)(hk:e.k=2):e.n=0∧z18 e.s=true∧e.l=[]:=by
 grind [node0,nodeE]
theorem node3{e:V}(h:nodeE e=true)(hk:e.k=3):e.n=0∧z11 e.s=true∧e.l=[]:=by
 grind [node0,nodeE]
theorem node4{e:V}(h:nodeE e=true)(hk:e.k=4):e.n=0∧0<bindsV e.s∧∃a b,e.l=[a,b]:=by
 have h0:=node0 h (by omega);unfold nodeE at h;rw[if_neg (by simp[h0]),if_neg (by omega),if_neg (by omega),if_neg (by omega),if_pos hk]at h;simp at h;refine⟨h0,h.1,?_⟩
 match hl:e.l,h.2 with
 |[a,b],_=>simp
theorem node5{e:V}(h:nodeE e=true)(hk:e.k=5):e.n=0∧e.s=[45]∧∃a,e.l=[a]:=by
 have h0:=node0 h (by omega);unfold nodeE at h;rw[if_neg (by simp[h0]),if_neg (by omega),if_neg (by omega),if_neg (by omega),if_neg (by omega),if_pos hk]at h;simp at h;refine⟨h0,h.1,?_⟩
 match hl:e.l,h.2 with
 |[a],_=>simp
theorem node6{e:V}(h:nodeE e=true)(hk:e.k=6):e.n=0∧0<takesV e.s∧(e.l.length:Int)=takesV e.s:=by
 grind [node0,nodeE]
theorem z159{e:V}(h:nodeE e=true):e.k=1∨e.k=2∨e.k=3∨e.k=4∨e.k=5∨e.k=6:=by
 grind [nodeE]
end
section
open Go
section
variable{L:List Pc}{sz p:Nat}{t:T3}{ts r post:List T3}
end
def NP(post:List T3):Prop:=∀t r,post=t::r→t.1=4∧t.2.2≠[40]
def StopK(least:Int)(post:List T3):Prop:=∀t r,post=t::r→t.1=4→bindsV t.2.2<least
def PK(d:Nat):Prop:=∀e,okE d e=true→∀(m least:Int),least≤m→∀(L:List Pc) (sz p:Nat) (post:List T3),(L.drop p).map er=kidK e m (tokE d e)++post→NP post→(e.k=4→m≤bindsV e.s→StopK (bindsV e.s+1) post)→
 ∃F j,∀f,F≤f→pE L sz (f+j) least p=pL L sz f least e (p+(kidK e m (tokE d e)).length)
end
end Go.Mor
end
