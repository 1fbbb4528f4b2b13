/- Merged texts: S15 S16 Base Glb. No statement of the program is proved here. -/
import Derived.Test.YtpmlapgbmgbilaaGreatDoorR10
import Derived.RangeFuncRecord
import Derived.WalkSpells
import Derived.WalkLawsBesides
import Derived.Lib.Hide
import Derived.Deep.Draws
import Derived.Lib.LaidU8
import Derived.Test.YtpmlapgbmgbilaaGreatDoorProg
set_option linter.unusedSimpArgs false
set_option linter.unusedVariables false
set_option maxRecDepth 100000
set_option maxHeartbeats 8000000
section
namespace Go.Sh
open Go Go.RowKit
section
def z5p:Code→List Code
 | .seq a b=>z5p a++z5p b
 | .cond _ a b=>z5p a++z5p b
 | .block _ a=>z5p a
 | .loop a=>z5p a
 | .rangeFunc a b c d=>[.rangeFunc a b c d]
 |_=>[]
def z6C(P:Program)(f k:Nat):Code:=match P.funcs[f]? with
 |some fn=>match fn.body with
  |some c=>(z5p c).getD k .skip
  |none=> .skip
 |none=> .skip
inductive SRes where
 |tmp (t:Nat)
 |cell (agg:Bool) (size:Nat) (t:Nat)
structure SFunc where
 N:Nat
 code:SCode
 res:List SRes
 keep:Bool
def SRes.get(s:FS):SRes→Option TV
 | .tmp t=>s.t t
 | .cell agg size t=>match s.t t with
  |some (.ptr d o)=>(s.b d).bind fun cs=>if agg then(if o+size≤cs.length then some (.agg ((cs.drop o).take size))else none)else cs[o]?
  |_=>none
def resT(s:FS):List SRes→Option TV
 |[r]=>r.get s
 |rs=>(seqO (SRes.get s) rs).map .tuple
def z2c(P:Program):ResultVar→Option SRes
 | .tmp t=>some (.tmp t)
 | .cell a t=>match P.underlying t,P.info? t with
  |some d,some i=>some (if d.isRow then .cell true i.size a else .cell false 1 a)
  |_,_=>none
def zW(P:Program)(f:Nat)(H:Nat→Option Nat→Nat)(Fp:Nat→List (Nat→Option Nat))(K:Nat→List Nat)(keep:Bool):Option SFunc:=
 match P.funcs[f]? with
 |some fn=>match fn.body with
  |some c=>if fn.name != "runtime.NumGoroutine" &&Nat.ble fn.ntmps 1000 then match zg P fn.ntmps H Fp K c,seqO (z2c P) fn.results.toList with
    |some sc,some rs=>some ⟨fn.ntmps,sc,rs,keep⟩
    |_,_=>none
   else none
  |none=>none
 |none=>none
def TV.ids3:TV→List Nat
 | .tuple cs=>cs.flatMap TV.ids2
 |t=>t.ids2
def idsFrom:Nat→Nat→List Nat
 |_,0=>[]
 |k,n+1=>k::idsFrom (k+1) n
def exitF(F:SFunc)(n:Nat)(s:ES):Option (TV×List MO):=
 match resT s.fs F.res with
 |some y0=>
  let I0:=idsFrom 1000 n
  let al:=zx s.fs F.keep 64 (y0.ids3++I0.flatMap fun d=>match s.fs.b d with|some cs=>cs.flatMap TV.ids1|none=>[]) I0
  match y0.ren3 (rhoIn al),seqO (fun d=>(s.fs.mo d).bind (MO.ren (rhoIn al))) al with
  |some y,some os'=>some (y,os')
  |_,_=>none
 |none=>none
def numT:Nat→List TV→List (Nat×TV)
 |_,[]=>[]
 |k,x::l=>(k,x)::numT (k+1) l
def numB:Nat→List MO→List (Nat×List TV)
 |_,[]=>[]
 |k,.box cs::l=>(k,cs)::numB (k+1) l
 |k,.row _ _ _::l=>numB (k+1) l
def numR:Nat→List MO→List (Nat×(Nat×Nat×Nat))
 |_,[]=>[]
 |k,.box _::l=>numR (k+1) l
 |k,.row e W n::l=>(k,(e,W,n))::numR (k+1) l
def startE(xs:List TV)(os:List MO):ES:=⟨numT 0 xs,numB 1000 os,numR 1000 os,[]⟩
theorem z4g{a b:Nat}(h:a≠b):Nat.beq a b=false:=by grind [Nat.beq,Nat.eq_of_beq_eq_true]
theorem zhP:∀(xs:List TV) (k d:Nat),lk (numT k xs) d=if k≤d then xs[d-k]? else none
 |[],k,d=>by simp[numT,lk]
 |x::l,k,d=>by
  simp only[numT,lk];by_cases h:k=d
  ·simp_all
  ·rw[z4g h];simp only[zhP l]
   grind
theorem z9H:∀(os:List MO) (k d:Nat),lk (numB k os) d=if k≤d then(match os[d-k]? with|some (.box cs)=>some cs|_=>none)else none
 |[],k,d=>by simp[numB,lk]
 |m::l,k,d=>by
  have ih:=z9H l (k+1) d;by_cases h:k=d
  ·subst h;cases m<;>grind [numB,lk,Nat.beq_refl,only]
  ·have:lk (numB k (m::l)) d=lk (numB (k+1) l) d:=by cases m with|box cs=>simp only[numB,lk,z4g h]|row e W n=>simp only[numB]
   grind
theorem z9I:∀(os:List MO) (k d:Nat),lk (numR k os) d=if k≤d then(match os[d-k]? with|some (.row e W n)=>some (e,W,n)|_=>none)else none
 |[],k,d=>by simp[numR,lk]
 |m::l,k,d=>by
  have ih:=z9I l (k+1) d;by_cases h:k=d
  ·subst h;cases m<;>grind [only,numR,lk,Nat.beq_refl]
  ·have:lk (numR k (m::l)) d=lk (numR (k+1) l) d:=by cases m with|box cs=>simp only[numR]|row e W n=>simp only[numR,lk,z4g h]
   grind
theorem zaj:∀(n k j:Nat),(idsFrom k n)[j]?=if j<n then some (k+j)else none
 |0,k,j=>by simp[idsFrom]
 |n+1,k,j=>by
  simp only[idsFrom];cases j with
  |zero=>simp
  |succ j=>
   simp only[List.getElem?_cons_succ,zaj n (k+1) j]
   grind
theorem ze7(n k:Nat):(idsFrom k n).Nodup∧(idsFrom k n).length=n∧∀d∈idsFrom k n,k≤d:=by
 induction n generalizing k with
 |zero=>simp[idsFrom]
 |succ n ih=>
  grind [only,idsFrom]
theorem z2Q{s:FS}{rows:Bool}:∀(n:Nat) (l seen:List Nat),seen.Nodup→(zx s rows n l seen).Nodup∧∃t,zx s rows n l seen=seen++t
 |0,l,seen,h=>by simp only[zx];exact⟨h,[],by simp⟩
 |n+1,[],seen,h=>by simp only[zx];exact⟨h,[],by simp⟩
 |n+1,d::l,seen,h=>by
  simp only[zx];cases hp:pos seen d with
  |some j=>exact z2Q n l seen h
  |none=>
   have hnd:(seen++[d]).Nodup:=List.nodup_append.2 ⟨h,by simp,by
    intro x hx y hy;simp at hy;subst hy;rintro rfl;exact z7U hp hx⟩
   have key:∀l',(zx s rows n l' (seen++[d])).Nodup∧∃t,zx s rows n l' (seen++[d])=seen++t:=fun l'=>by
    obtain⟨h1,t,h2⟩:=z2Q (s:=s) (rows:=rows) n l' (seen++[d]) hnd;exact⟨h1,[d]++t,by rw[h2];simp⟩
   cases s.b d with
   |some cs=>exact key _
   |none=>
    cases s.r d with
    |none=>exact z2Q n l seen h
    |some q=>
     cases rows with
     |true=>exact key _
     |false=>exact z2Q n l seen h
section
variable{P:Program}{g:Glob}{s:FS}{a:Act}{w:World}{E:Env}{B:Base}
theorem zqy{rv:ResultVar}{sr:SRes}(htr:z2c P rv=some sr)(h:Sim B s a w E){y:TV}(hy:sr.get s=some y):
  ∃v,(match rv with| .tmp t=>(pure (a.tmps.getD t undef):Sem Value)| .cell q t=>do loadVar t (←asAddr (a.tmps.getD q undef))).run P w=.ok v w∧RelT w E s.r y v:=by
 cases rv with
 |tmp t=>
  simp only[z2c]at htr;cases htr;exact⟨_,rfl,(h.tmp t y hy).2⟩
 |cell q t=>
  simp only[z2c]at htr;split at htr<;>try(cases htr;done)
  rename_i d i hu hi;cases htr;have fin:∀(dd off:Nat) (cs:List TV),s.t q=some (.ptr dd off)→s.b dd=some cs→(if d.isRow then(off+i.size≤cs.length∧y=.agg ((cs.drop off).take i.size))else cs[off]?=some y)→
    ∃v,(do loadVar t (←asAddr (a.tmps.getD q undef)):Sem Value).run P w=.ok v w∧RelT w E s.r y v:=by
   intro dd off cs hq hb hy;have hx:=(h.tmp q _ hq).2;generalize hv:a.tmps.getD q undef=v at hx;cases hx;obtain⟨hbox,_⟩:=h.mem.box dd cs hb;cases hd:d.isRow with
   |true=>
    simp only[hd,if_true]at hy;obtain⟨vs,hrel,hcell⟩:=zhv hbox;have hl:((vs.drop off).take i.size).length=i.size:=by have:=hrel.len;simp;omega
    have hrun:=z4P (P:=P) (w:=w) (E.β dd) off t d i ((vs.drop off).take i.size) hu hi (fun j v hv'=>by
     have hj:j<i.size:=by have:=(gJ hv').1;omega
     simp[hj]at hv';exact hcell _ _ hv') (by simp only[hd,if_true];exact hl)
    simp only[hd,if_true]at hrun;exact⟨.agg ((vs.drop off).take i.size).toArray,by simp[asAddr,hrun,Result.andThen],by rw[hy.2];exact((hrel.drop off).take _).agg⟩
   |false=>
    simp only[hd,Bool.false_eq_true,if_false]at hy;obtain⟨v,c1,c2,c3⟩:=hbox.cell off y hy;have hrun:=z4P (P:=P) (w:=w) (E.β dd) off t d i [v] hu hi (fun j u hu'=>by
     cases j with
     |zero=>simp at hu';subst hu';exact c1
     |succ j=>simp at hu') (by simp[hd])
    simp only[hd,Bool.false_eq_true,if_false]at hrun;exact⟨v,by simp[asAddr,hrun,Result.andThen],c3⟩
  cases hd:d.isRow with
  |true=>
   simp only[hd,if_true,SRes.get]at hy;split at hy
   ·rename_i dd off hq;obtain⟨cs,hb,hy⟩:=gB hy;split at hy
    ·rename_i hle;cases hy;exact fin dd off cs hq hb (by rw[if_pos hd];exact⟨hle,rfl⟩)
    ·cases hy
   ·cases hy
  |false=>
   simp only[hd,Bool.false_eq_true,if_false,SRes.get]at hy;split at hy
   ·rename_i dd off hq;obtain⟨cs,hb,hy⟩:=gB hy;exact fin dd off cs hq hb (by simp only[hd,Bool.false_eq_true,if_false];exact hy)
   ·cases hy
def z9d(a:Act):ResultVar→Sem Value
 | .tmp t=>pure (a.tmps.getD t undef)
 | .cell q t=>do loadVar t (←asAddr (a.tmps.getD q undef))
theorem zfA{α:Type}(F:α→Sem Value):∀(l:List α) (vs:List Value),l.length=vs.length→(∀(j:Nat) x v,l[j]?=some x→vs[j]?=some v→(F x).run P w=.ok v w)→(l.mapM F).run P w=.ok vs w
 |[],[],_,_=>rfl
 |x::l,v::vs,hl,h=>by
  have h1:=h 0 x v rfl rfl;have h2:=zfA F l vs (by simpa using hl) (fun j x v hx hv=>h (j+1) x v (by simpa using hx) (by simpa using hv));simp_all
 |[],_::_,hl,_=>by simp at hl
 |_::_,[],hl,_=>by simp at hl
theorem zaw{fn:Func}{rs:List SRes}(htr:seqO (z2c P) fn.results.toList=some rs)(h:Sim B s a w E){y:TV}(hy:resT s rs=some y):∃v,(results fn a.tmps).run P w=.ok v w∧RelT w E s.r y v:=by
 have key:∀(l:List ResultVar) (rs:List SRes),seqO (z2c P) l=some rs→∀(ys:List TV),seqO (SRes.get s) rs=some ys→∃vs:List Value,l.length=vs.length∧(∀(j:Nat) x v,l[j]?=some x→vs[j]?=some v→(z9d a x).run P w=.ok v w)∧ys.length=vs.length∧∀(j:Nat) c v,ys[j]?=some c→vs[j]?=some v→RelT w E s.r c v:=by
  intro l
  induction l with
  |nil=>intro rs h1 ys h2;simp[seqO]at h1;subst h1;simp[seqO]at h2;subst h2;exact⟨[],rfl,by simp,rfl,by simp⟩
  |cons rv l ih=>
   intro rs h1 ys h2;obtain⟨sr,rs',h3,h4,rfl⟩:=z6E h1;obtain⟨y,ys',h5,h6,rfl⟩:=z6E h2;obtain⟨vs,a0,a1,a2,a3⟩:=ih rs' h4 ys' h6;obtain⟨v,b1,b2⟩:=zqy h3 h h5;have b1':(z9d a rv).run P w=.ok v w:=by cases rv<;>exact b1
   refine⟨v::vs,by simp[a0],fun j x u hx hu=> ?_,by simp[a2],fun j c u hc hu=> ?_⟩
   ·grind
   ·grind
 have hres:∀vs:List Value,(fn.results.toList.mapM (z9d a)).run P w=.ok vs w→(results fn a.tmps).run P w=.ok (if h:vs.length=1 then vs[0] else .tuple vs.toArray) w:=by
  intro vs hvs;have harr:(fn.results.mapM (z9d a)).run P w=.ok vs.toArray w:=by
   rw[←Array.toArray_toList (xs:=fn.results),List.mapM_toArray];simp_all
  have e:results fn a.tmps=(fn.results.mapM (z9d a))>>=fun vs=>pure (if h:vs.size=1 then vs[0] else .tuple vs):=by
   unfold results;congr 1
  simp_all
 have hmany:∀ys,seqO (SRes.get s) rs=some ys→(rs.length=1→ys=[y])→(rs.length≠1→y=.tuple ys)→∃v,(results fn a.tmps).run P w=.ok v w∧RelT w E s.r y v:=by
  intro ys hys h1 h2;obtain⟨vs,a0,a1,a2,a3⟩:=key _ rs htr ys hys;have hl1:=(z00 htr).1;refine⟨_,hres vs (zfA _ _ _ a0 a1),?_⟩;by_cases hone:vs.length=1
  ·rw[dif_pos hone];have hr1:rs.length=1:=by omega
   rw[h1 hr1]at a3;exact a3 0 y _ rfl (gE (by omega))
  ·rw[dif_neg hone];have hr1:rs.length≠1:=by omega
   rw[h2 hr1];exact .tuple ys vs a2 a3
 match rs,hy,hmany with
 |[],hy,hmany=>grind [resT,seqO]
 |[r],hy,hmany=>grind [only,resT,seqO]
 |r::r2::rr,hy,hmany=>
  simp only[resT]at hy;obtain⟨ys,h1,h2⟩:=gO hy;simp_all
theorem z6z{w:World}{l:Nat}{o:Obj}(ho:w.heap[l]?=some o)(hm:mark o=true)(i:Nat):w.cell? ⟨l,i,none⟩=none:=by
 cases o<;>first|(cases hm;done)|simp[World.cell?,ho]
theorem z5N{w:World}{l:Nat}{o:Obj}(h:w.heap.size≤l):w.putObj l o=w:=by
 have:w.heap.setIfInBounds l o=w.heap:=Array.setIfInBounds_eq_of_size_le h;simp[World.putObj,this]
theorem Sim.both(h:Sim B s a w E){l:Nat}{o o':Obj}(ho:w.heap[l]?=some o)(hm:mark o=true)(hm':mark o'=true)(h0:∀x,B.w0.heap[l]?=some x→mark x=true){pr:List (Nat×Obj)}{a':Act}(ht:a'.tmps=a.tmps)
  (hdp:Dp { B with w0:=B.w0.putObj l o',pr:=pr } a'.defers (w.putObj l o')):Sim { B with w0:=B.w0.putObj l o',pr:=pr } s a' (w.putObj l o') E:=by
 have hc:∀(b i:Nat),(w.putObj l o').cell? ⟨b,i,none⟩=w.cell? ⟨b,i,none⟩:=fun b i=>by
  by_cases hb:b=l
  ·subst hb;rw[z6z ho hm,z6z (World.putObj_heap_same (gA ho).1) hm']
  ·exact World.cell?_of_block (w:=w) (a:=⟨b,i,none⟩) (World.putObj_heap_other hb)
 have hc0:∀(b i:Nat),(B.w0.putObj l o').cell? ⟨b,i,none⟩=B.w0.cell? ⟨b,i,none⟩:=fun b i=>by
  by_cases hb:b=l
  ·subst hb;by_cases hl:b<B.w0.heap.size
   ·rw[z6z (World.putObj_heap_same hl) hm',z6z (Array.getElem?_eq_getElem hl) (h0 _ (Array.getElem?_eq_getElem hl))]
   ·rw[z5N (by omega)]
  ·exact World.cell?_of_block (w:=B.w0) (a:=⟨b,i,none⟩) (World.putObj_heap_other hb)
 have hne:∀{b:Nat} {x:Obj},w.heap[b]?=some x→mark x=false→b≠l:=fun hx hk e=>by subst e;rw[ho]at hx;cases hx;rw[hm]at hk;cases hk
 have hr:∀{x:TV} {v:Value},RelT w E s.r x v→RelT (w.putObj l o') E s.r x v:=fun hx=>hx.monoM (fun b i u h1 h2=>⟨h1,(hc b i).trans h2⟩) (fun _ _=>⟨rfl,rfl⟩) (fun _ _ _ _ _ hd=> .inl ⟨hd,rfl⟩)
  (fun b es c hb=>(World.putObj_heap_other (hne hb rfl)).trans hb)
 refine⟨hdp,by rw[ht];exact h.size,fun k x hx=>⟨(h.tmp k x hx).1,by rw[ht];exact hr (h.tmp k x hx).2⟩,⟨fun d cs hd=> ?_,fun d e W n hd=> ?_,h.mem.bb,h.mem.br,h.mem.rr,fun k i hk=>by simpa using h.mem.lt k i hk,⟨h.mem.low.os,h.mem.low.tape,h.mem.low.output,by simpa using h.mem.low.size,fun k hk hx=> ?_⟩,
  fun k i u h1 h2=>⟨(h.mem.keep k i u h1 ((hc0 k i).symm.trans h2)).1,(hc k i).trans (h.mem.keep k i u h1 ((hc0 k i).symm.trans h2)).2⟩,fun k i hk=>by simpa using h.mem.knew k i hk,⟨h.mem.pas.β,h.mem.pas.γ,h.mem.pas.row⟩⟩,fun d z p hd=> ?_,h.ii⟩
 ·obtain⟨h1,h2⟩:=h.mem.box d cs hd;obtain⟨c,e,z,hob⟩:=h1.obj;have hb:=hne hob rfl;refine⟨⟨by simpa using h1.lt,⟨c,e,z,(World.putObj_heap_other hb).trans hob⟩,fun i=> ?_,fun j c hj=> ?_,h1.out⟩,by simpa using h2⟩
  ·have:=h1.fz i;unfold World.frozen? at this ⊢;rw[World.putObj_heap_other hb];exact this
  ·obtain⟨v,c1,c2,c3⟩:=h1.cell j c hj;exact⟨v,(hc _ _).trans c1,c2,hr c3⟩
 ·rcases h.mem.row d e W n hd with h1|⟨k,cap,h1,h2,h3⟩
  ·exact .inl h1
  ·obtain⟨cur,q1,q2⟩:=h3.cells;exact .inr ⟨k,cap,h1,by simpa using h2,⟨cur,(World.putObj_heap_other (hne q1 rfl)).trans q1,q2⟩,h3.le,h3.max,h3.out⟩
 ·by_cases hkl:k=l
  ·subst hkl;exact(World.putObj_heap_same (gA ho).1).trans (World.putObj_heap_same (by simpa using hk)).symm
  ·rw[World.putObj_heap_other hkl,World.putObj_heap_other hkl];exact h.mem.low.block k (by simpa using hk) hx
 ·obtain⟨h1,h2⟩:=h.itr d z p hd;exact⟨(World.putObj_heap_other (hne h1 rfl)).trans h1,by simpa using h2⟩
theorem zaT{fn:Func}{R:Ending→World→Prop}{n:Nat}{u:FrameMode}{ds:List Deferred}(hu:u≠ .run)(hR:∀w',Sim { B with ds:=ds } s { a with defers:=ds } w' E→LeavesInM Fence.wide n P fn a.tmps R ds u w')(h:Sim { B with ds:=ds } s a w E):
  LeavesInM Fence.wide n P fn a.tmps R a.defers u w:=by
 obtain⟨l,h0,h1,h2,h3⟩:=h.defers.col;clear h0;rw[h2];have h4:Sim { B with ds:=ds } s { a with defers:=ds } w E:=⟨⟨⟨[],fun _=>rfl,.nil,rfl,fun _ h=>by cases h⟩,h.defers.pr⟩,h.size,h.tmp,h.mem,h.itr,h.ii⟩
 clear h2 h
 induction l generalizing w with
 |nil=>exact hR w h4
 |cons D l ih=>
  obtain⟨h5,h9,h6⟩:=h3 D (List.mem_cons_self ..);obtain⟨h7,h8⟩:=List.nodup_cons.1 h1;have h5:B.w0.heap.size≤D:=h5;refine⟨hu,.inl ⟨D,_,rfl,run_takeDeferred h6,ih h8 (fun D' hD'=> ?_) ?_⟩⟩
  ·obtain⟨q1,q2,q3⟩:=h3 D' (List.mem_cons_of_mem _ hD');exact⟨q1,q2,(World.putObj_heap_other (fun e=>h7 (by rw[←e];exact hD'))).trans q3⟩
  ·have:=h4.both (o':=.deferred none) (pr:=B.pr) (a':={ a with defers:=ds }) h6 rfl rfl (fun x hx=>by
    have:=(gA hx).1;exact absurd this (by show ¬D<B.w0.heap.size;omega)) rfl ⟨⟨[],fun _=>rfl,.nil,rfl,fun _ h=>by cases h⟩,fun p hp=>⟨(h4.defers.pr p hp).1,(World.putObj_heap_other (h9 p hp)).trans (h4.defers.pr p hp).2⟩⟩
   rw[z5N h5]at this;exact this
theorem z5u{lp:Bool}{w:World}{E:Env}{os:List MO}{N:Nat}{xs:List TV}{vs:List Value}(hn:xs.length≤N)(hm:MSim (start w E os 0) (z0q os) (zA os) w E)(hl:xs.length=vs.length)(hxs:∀(j:Nat) x v,xs[j]?=some x→vs[j]?=some v→RelT w E (zA os) x v):
  Sim { start w E os N with lp:=lp } (startE xs os).fs { tmps:=vs.toArray++Array.replicate (N-vs.toArray.size) undef,defers:=[] } w E:=by
 have hmB:MSim { start w E os N with lp:=lp } (z0q os) (zA os) w E:=⟨hm.box,hm.row,hm.bb,hm.br,hm.rr,hm.lt,hm.low,hm.keep,hm.knew,⟨hm.pas.β,hm.pas.γ,hm.pas.row⟩⟩
 have hfs:(startE xs os).fs=⟨fun k=>xs[k]?,z0q os,zA os,fun _=>none⟩:=by
  refine FS.ext' (fun k=> ?_) (fun k=> ?_) (fun k=> ?_) (fun k=>rfl)
  ·show lk (numT 0 xs) k=_;rw[zhP];simp
  ·show lk (numB 1000 os) k=_;rw[z9H];rfl
  ·show lk (numR 1000 os) k=_;rw[z9I];rfl
 have hsize:(vs.toArray++Array.replicate (N-vs.toArray.size) undef).size=N:=by
  grind
 rw[hfs];refine⟨.none rfl,hsize,fun k x hx=> ?_,hmB,fun d z p hd=>(by cases hd),fun d d' q q' hd=>(by cases hd)⟩;have hk:k<xs.length:=(gJ hx).1;refine⟨Nat.lt_of_lt_of_le hk hn,?_⟩;have hkv:k<vs.length:=by omega
 have hv:(vs.toArray++Array.replicate (N-vs.toArray.size) undef).getD k undef=vs[k]:=by
  rw[Array.getD_eq_getD_getElem?,Array.getElem?_append_left (by omega)];simp[hkv]
 rw[hv];exact hxs k x _ hx (gE hkv)
def z9w(y0:TV)(keep:Bool)(n:Nat)(s:ES):Option (TV×List MO):=
 let I0:=idsFrom 1000 n
 let al:=zx s.fs keep 64 (y0.ids3++I0.flatMap fun d=>match s.fs.b d with|some cs=>cs.flatMap TV.ids1|none=>[]) I0
 match y0.ren3 (rhoIn al),seqO (fun d=>(s.fs.mo d).bind (MO.ren (rhoIn al))) al with
 |some y,some os'=>some (y,os')
 |_,_=>none
theorem zeo{keep:Bool}{w w':World}{E E':Env}{os os':List MO}{N:Nat}{ds:List Deferred}{lp:Bool}{a':Act}{s':ES}{y0 y:TV}{v:Value}(hmo:moOk os os'=true)
  (hS':Sim { start w E os N with ds:=ds,lp:=lp } s'.fs a' w' E') (hrel:RelT w' E' s'.fs.r y0 v) (hex:z9w y0 keep os.length s'=some (y,os')):
  ∃E'_1,MSim (start w E os 0) (z0q os') (zA os') w' E'_1∧RelT w' E'_1 (zA os') y v∧Left E os E'_1 os':=by
 unfold z9w at hex;simp at hex;obtain⟨i1,i2,i3⟩:=ze7 os.length 1000;generalize hal:zx s'.fs keep 64 (y0.ids3++(idsFrom 1000 os.length).flatMap fun d=>match s'.fs.b d with|some cs=>cs.flatMap TV.ids1|none=>[]) (idsFrom 1000 os.length)=al at hex;obtain⟨hnd,t,hpre⟩:=z2Q (s:=s'.fs) (rows:=keep) 64 (y0.ids3++(idsFrom 1000 os.length).flatMap fun d=>match s'.fs.b d with|some cs=>cs.flatMap TV.ids1|none=>[]) _ i1;rw[hal]at hnd hpre;split at hex<;>try(cases hex;done)
 rename_i y1 os1 hren hmos;cases hex;have hpas:∀j,j<os.length→al[j]?=some (1000+j):=fun j hj=>by
  grind [List.getElem?_append_left,zaj]
 have hM:=z4T hS' hnd hmos;obtain⟨hlen,hBx,hRx⟩:=z4E hmos;have hβ:∀{i j},al[j]?=some i→(zw E' al).β (1000+j)=E'.β i:=fun hj=>by simp only[zw];rw[getD_of hj]
 have hγ:∀{i j},al[j]?=some i→(zw E' al).γ (1000+j)=E'.γ i:=fun hj=>by simp only[zw];rw[getD_of hj]
 have hXs:∀{i j b},al[j]?=some i→z2j E os i b→z2j E os (1000+j) b:=by
  intro i j b hj hx;have hi:∃q,i=1000+q∧q<os.length:=by
   rcases hx with⟨cs,h1,_⟩|⟨⟨e,W,n⟩,cap,h1,_⟩<;>grind [z2x,List.getElem?_eq_some_iff,z0V]
  obtain⟨q,rfl,hq⟩:=hi;have a1:=z4q hnd hj;have a2:=z4q hnd (hpas q hq)
  grind
 have hM':MSim (start w E os 0) (z0q os') (zA os') w' (zw E' al):=by
  refine⟨fun d cs' hd=> ?_,fun d e W n hd=> ?_,hM.bb,hM.br,hM.rr,hM.lt,hS'.mem.low,hS'.mem.keep,hS'.mem.knew,⟨fun d ho=> ?_,fun d ho h0=> ?_,fun d e W n ho hd=> ?_⟩⟩
  ·refine⟨(hM.box d cs' hd).1,?_⟩;obtain⟨j,rfl,hj⟩:=z2x hd;obtain⟨i,cs,q1,q2,_⟩:=hBx j cs' hj;rw[hβ q1];rcases(hS'.mem.box i cs q2).2 with h1|h1
   ·exact .inl h1
   ·exact .inr (hXs q1 h1)
  ·obtain⟨j,rfl,hj⟩:=z0V hd;obtain⟨i,q1,q2,q3⟩:=hRx j e W n hj;rw[hγ q1];rcases hS'.mem.row i e W n q3 with h1|⟨k,cap,h1,h2,h3⟩
   ·grind
   ·exact .inr ⟨k,cap,h1,h2.imp id (hXs q1),h3.cells,h3.le,h3.max,h3.out⟩
  ·obtain⟨q,rfl⟩:∃q,d=1000+q:=⟨d-1000,by have:=ho.1;omega⟩
   have hq:q<os.length:=by have:=ho.2;have h2:1000+q<1000+os.length:=this;omega
   rw[hβ (hpas q hq)];exact hS'.mem.pas.β _ ho
  ·obtain⟨q,rfl⟩:∃q,d=1000+q:=⟨d-1000,by have:=ho.1;omega⟩
   have hq:q<os.length:=by have:=ho.2;have h2:1000+q<1000+os.length:=this;omega
   rw[hγ (hpas q hq)];exact hS'.mem.pas.γ _ ho h0
  ·obtain⟨q,rfl⟩:∃q,d=1000+q:=⟨d-1000,by have:=ho.1;omega⟩
   have hq:q<os.length:=by have:=ho.2;have h2:1000+q<1000+os.length:=this;omega
   obtain⟨j,hj0,hj⟩:=z0V hd;obtain rfl:q=j:=by omega
   obtain⟨i,q1,q2,q3⟩:=hRx q e W n hj;rw[hpas q hq]at q1;cases q1;rw[hγ (hpas q hq)];exact hS'.mem.pas.row _ e W n ho q3
 refine⟨zw E' al,hM',zb5 (za1 hmos) (fun _ _ _ h _=>h) hrel hren,⟨fun d h1 h2=>hM'.pas.β d ⟨h1,h2⟩,fun d h1 h2 h0=>hM'.pas.γ d ⟨h1,h2⟩ h0,fun d e W n hd=> ?_⟩⟩;obtain⟨q,rfl,hq⟩:=z0V hd;have hql:q<os.length:=(gJ hq).1;obtain⟨n',h1,h2⟩:=(z5n hmo).2.2.2 q e W n hq;obtain⟨n0,h3,h4,h5⟩:=hM'.pas.row (1000+q) e W n' ⟨by omega,by show 1000+q<1000+os.length;omega⟩ (z2n h1);have h3:zA os (1000+q)=some (e,W,n0):=h3;rw[hd]at h3;cases h3;exact⟨n',z2n h1,h4,h5⟩
theorem zcG{F:SFunc}{n:Nat}{s:ES}{y0:TV}(h:resT s.fs F.res=some y0):exitF F n s=z9w y0 F.keep n s:=by
 unfold exitF z9w;rw[h]
theorem zl7{fn:Func}{rs:List SRes}{keep:Bool}{w w':World}{E E':Env}{os os':List MO}{N:Nat}{ds:List Deferred}{lp:Bool}{a':Act}{s':ES}{y:TV}{F:SFunc}(hF1:F.res=rs)(hF2:F.keep=keep)(hrs:seqO (z2c P) fn.results.toList=some rs)(hmo:moOk os os'=true)
  (hS':Sim { start w E os N with ds:=ds,lp:=lp } s'.fs a' w' E') (hex:exitF F os.length s'=some (y,os')):
  ∃v,(results fn a'.tmps).run P w'=.ok v w'∧(∃v_1 E'_1,Ending.returned v=Ending.returned v_1∧MSim (start w E os 0) (z0q os') (zA os') w' E'_1∧RelT w' E'_1 (zA os') y v_1∧Left E os E'_1 os'):=by
 subst hF1;obtain⟨y0,hy0⟩:∃y0,resT s'.fs F.res=some y0:=by
  cases h:resT s'.fs F.res with
  |some y0=>exact⟨y0,rfl⟩
  |none=>unfold exitF at hex;rw[h]at hex;cases hex
 obtain⟨v,hrun,hrel⟩:=zaw (fn:=fn) hrs hS' hy0;obtain⟨E1,h1,h2,h3⟩:=zeo hmo hS' hrel ((zcG hy0).symm.trans hex);exact⟨v,hrun,v,E1,rfl,h1,h2,h3⟩
theorem z5c{f:FuncId}{fn:Func}{c:Code}{args:Array Value}{R:Ending→World→Prop}(hf:P.funcs[f]?=some fn)(hb:fn.body=some c)(h:c.wp P (bodyPostM Fence.wide 0 P fn R) { tmps:=args++Array.replicate (fn.ntmps-args.size) undef,defers:=[] } w):Calls P f args w R:=
 callsIn_wide.1 (callsIn_of_wp_marks (n:=0) hf hb trivial (wpIn_wide.2 h) rfl)
theorem z8L{fn:Func}{rs:List SRes}{keep:Bool}{w w':World}{E E':Env}{os os':List MO}{N:Nat}{a':Act}{s':ES}{y:TV}{F:SFunc}(hF1:F.res=rs)(hF2:F.keep=keep)(hrs:seqO (z2c P) fn.results.toList=some rs)(hmo:moOk os os'=true)(hS':Sim (start w E os N) s'.fs a' w' E')(hex:exitF F os.length s'=some (y,os')):
  LeavesInM Fence.wide 0 P fn a'.tmps (fun e w'=>∃v E',e=.returned v∧MSim (start w E os 0) (z0q os') (zA os') w' E'∧RelT w' E' (zA os') y v∧Left E os E' os') a'.defers .returning w':=
 zaT (a:=a') (s:=s'.fs) (B:=start w E os N) (ds:=[]) (by simp) (fun w2 h2=>zl7 (w:=w) (N:=N) (ds:=[]) (a':={ a' with defers:=[] }) hF1 hF2 hrs hmo h2 hex) hS'
theorem zaf{f:Nat}{H:Nat→Option Nat→Nat}{Fp:Nat→List (Nat→Option Nat)}{K:Nat→List Nat}{keep:Bool}{F:SFunc}(ze:P.follows .mixedOrders=true)(hF:zW P f H Fp K keep=some F){xs:List TV}{os os':List MO}{y:TV}(hn:xs.length≤F.N)(hos:os.length≤1000)(hmo:moOk os os'=true)
  (h:z43 P g F.N F.code (fun e s=>(e=.ret∨e=.normal)∧exitF F os.length s=some (y,os')) (startE xs os)):SCalls P g f xs os y os':=by
 unfold zW at hF;split at hF<;>try(cases hF;done)
 rename_i fn hfn;split at hF<;>try(cases hF;done)
 rename_i c hc;split at hF<;>try(cases hF;done)
 rename_i hname;split at hF<;>try(cases hF;done)
 rename_i sc rs hsc hrs;cases hF;rw[Bool.and_eq_true]at hname;have hnm:¬fn.name= "runtime.NumGoroutine" :=by grind
 have hN:fn.ntmps≤1000:=Nat.le_of_ble_eq_true hname.2;refine⟨⟨fn,c,hfn,hc,hnm⟩,fun w E vs hG hm hX hl hxs=> ?_⟩;refine z5c hfn hc (wp_mono (h _ _ _ c hsc (start w E os fn.ntmps) _ _ _ rfl rfl hos hN hG hX (z5u hn hm hl hxs)) ?_);rintro x a' w' ⟨e,s',E',rfl,⟨he,hex⟩,hS'⟩;have fin:=z8L (F:=⟨fn.ntmps,sc,rs,keep⟩) rfl rfl hrs hmo hS' hex;rcases he with rfl|rfl<;>exact fin
theorem zjA{f:Nat}{H:Nat→Option Nat→Nat}{Fp:Nat→List (Nat→Option Nat)}{K:Nat→List Nat}{keep:Bool}{F:SFunc}(ze:P.follows .mixedOrders=true)(hF:zW P f H Fp K keep=some F){xs:List TV}{os os':List MO}{z:Value}(hn:xs.length≤F.N)(hos:os.length≤1000)(hmo:moOk os os'=true)
  (h:swp P g F.code (fun e s=>e=.pan z∧exitF ⟨0,.skip,[],keep⟩ os.length s=some (.tuple [],os')) (startE xs os)):z8o P g f xs os z os':=by
 unfold zW at hF;split at hF<;>try(cases hF;done)
 rename_i fn hfn;split at hF<;>try(cases hF;done)
 rename_i c hc;split at hF<;>try(cases hF;done)
 rename_i hname;split at hF<;>try(cases hF;done)
 rename_i sc rs hsc hrs;cases hF;rw[Bool.and_eq_true]at hname;have hnm:¬fn.name= "runtime.NumGoroutine" :=by grind
 have hN:fn.ntmps≤1000:=Nat.le_of_ble_eq_true hname.2;refine⟨⟨fn,c,hfn,hc,hnm⟩,fun w E vs hG hm hX hl hxs=> ?_⟩;refine z5c hfn hc (wp_mono (z5v (B:=start w E os fn.ntmps) ze hos hN hG hX hsc (.inl rfl) h (z5u hn hm hl hxs)) ?_);rintro x a' w' ⟨e,s',E',rfl,⟨rfl,hex⟩,hS'⟩;refine zaT (P:=P) (fn:=fn) (n:=0) (a:=a') (s:=s'.fs) (B:=start w E os fn.ntmps) (ds:=[]) (by simp) (fun w2 h2=> ?_) hS';obtain⟨E1,h3,_,h4⟩:=zeo (w:=w) (N:=fn.ntmps) (ds:=[]) (a':={ a' with defers:=[] }) hmo h2 (.tuple [] [] rfl (fun j c v h=>by simp at h)) ((zcG (F:=⟨0,.skip,[],keep⟩) rfl).symm.trans hex);exact⟨E1,rfl,h3,h4⟩
theorem zgJ{f:Nat}{H:Nat→Option Nat→Nat}{Fp:Nat→List (Nat→Option Nat)}{K:Nat→List Nat}{keep:Bool}{F:SFunc}(ze:P.follows .mixedOrders=true)(hF:zW P f H Fp K keep=some F){xs:List TV}{os os':List MO}{y:TV}(hn:xs.length≤F.N)(hos:os.length≤1000)(hmo:moOk os os'=true)
  (h:swp P g F.code (fun e s=>(e=.ret∨e=.normal)∧exitF F os.length s=some (y,os')) (startE xs os)):SCalls P g f xs os y os':=zaf ze hF hn hos hmo (z26 ze h)
end
end
section
def z3D(T:List (Nat×Nat))(j:Nat)(d:Option Nat):Nat:=match lk T (dstId d)with|some m=>m|none=>j
def z3E(T:List (Nat×List Nat))(id:Nat):List Nat:=match lk T id with|some l=>l|none=>[]
def fpT(T:List (Nat×List (List (Nat×Nat))))(id:Nat):List (Nat→Option Nat):=match lk T id with|some ls=>ls.map lk|none=>[fun _=>none]
def ziv(P:Program)(C:z0m)(kill:List Nat):List (List Nat×List SOper)→ES→Option ES
 |[],_=>none
 |(n,l)::r,s=>match zs6 P C l (s.fgt n)with
  |some s'=>some (s'.kill kill)
  |none=>ziv P C kill r s
def zrz(f:ES→Option (SExit×ES)):Nat→ES→Option (SExit×ES)
 |0,_=>none
 |n+1,s=>match f s with
  |some (.normal,s')=>zrz f n s'
  |r=>r
def zaH(P:Program)(C:z0m)(L:Nat):SCode→ES→Option (SExit×ES)
 | .skip,s=>some (.normal,s)
 | .reg alts kill,s=>match ziv P C kill alts s with
  |some s'=>some (.normal,s')
  |none=>none
 | .regq alts kill,s=>match ziv P C kill alts s with
  |some s'=>some (.normal,s')
  |none=>none
 | .raw _ _,_=>none
 | .seq a b,s=>match zaH P C L a s with
  |some (.normal,s')=>zaH P C L b s'
  |r=>r
 | .cond c a b,s=>match c.get s.fs with
  |some (.pv (.v (.bool true)))=>zaH P C L a s
  |some (.pv (.v (.bool false)))=>zaH P C L b s
  |_=>none
 | .block id a,s=>match zaH P C L a s with
  |some (.exit j,s')=>match Nat.beq j id with
   |true=>some (.normal,s')
   |false=>some (.exit j,s')
  |r=>r
 | .loop a,s=>zrz (fun s=>zaH P C L a s) L s
 | .exit id,s=>some (.exit id,s)
 | .ret,s=>some (.ret,s)
def zbv(P:Program)(F:Nat→Option SFunc)(prim:z0m)(L:Nat):Nat→z0m
 |0=>fun _ _ _=>none
 |n+1=>fun f xs os=>match prim f xs os with
  |some r=>some r
  |none=>match F f with
   |some G=>match Nat.ble xs.length G.N,Nat.ble os.length 1000 with
    |true,true=>match zaH P (zbv P F prim L n) L G.code (startE xs os)with
     |some (.ret,s)=>match exitF G os.length s with
      |some (y,os')=>match moOk os os' with|true=>some (y,os')|false=>none
      |none=>none
     |some (.normal,s)=>match exitF G os.length s with
      |some (y,os')=>match moOk os os' with|true=>some (y,os')|false=>none
      |none=>none
     |_=>none
    |_,_=>none
   |none=>none
section
variable{P:Program}{g:Glob}{C:z0m}{L:Nat}
end
end
end Go.Sh
end

section
namespace Go.Mor
open Go Go.RowKit
def str(l:zB):ByteArray:=⟨l.toArray⟩
theorem str_toList(l:zB):(str l).data.toList=l:=by simp[str]
theorem zbc(l:zB):(str l).size=l.length:=by simp[str,ByteArray.size]
@[go_sem,simp] theorem str_list (l:zB):(str l).toList=l:=ByteArray.toList_mk l
@[go_sem,simp] theorem str_size' (l:zB):(str l).size=l.length:=zbc l
@[go_sem,simp] theorem str_extract (l:zB) (a b:Nat):(str l).extract a b=str ((l.drop a).take (b-a)):=ByteArray.extract_mk l a b
@[go_sem,simp] theorem str_append (a b:zB):str a++str b=str (a++b):=ByteArray.mk_append_mk a b
@[go_sem,simp] theorem str_get (l:zB) (i:Nat) (h:i<(str l).size):(str l)[i]=l[i]'(by simpa using h):=by
 simp[str,ByteArray.getElem_eq_getElem_data]
inductive V where
 |mk (k n:Int) (s:zB) (l:List V)
def V.k:V→Int| .mk k _ _ _=>k
def V.n:V→Int| .mk _ n _ _=>n
def V.s:V→zB| .mk _ _ s _=>s
def V.l:V→List V| .mk _ _ _ l=>l
theorem V.eta(x:V):V.mk x.k x.n x.s x.l=x:=by cases x;rfl
def V.nil:V:=.mk 0 0 [] []
theorem V.size_lt{x:V}{l:List V}(h:x∈l)(k n:Int)(s:zB):SizeOf.sizeOf x<SizeOf.sizeOf (V.mk k n s l):=by
 have:=List.sizeOf_lt_of_mem h;simp;omega
def V.val(x:V)(c:Value):Value:=.agg #[.int .i64 x.k,.int .i64 x.n,.string (str x.s),c]
inductive IsL(ok:Nat→Prop)(w:World):List V→Value→Prop where
 |mk (l:List V) (b off cap:Nat) (p:Option Addr) (sub:Nat→Value) (hcap:l.length≤cap) (hmax:cap≤maxLen)
   (hp:l≠[]→p=some ⟨b,off,none⟩∧ok b)
   (hc:∀(i:Nat) (x:V),l[i]?=some x→w.cell? ⟨b,off+i*4,none⟩=some (.int .i64 x.k)∧w.cell? ⟨b,off+i*4+1,none⟩=some (.int .i64 x.n)
    ∧w.cell? ⟨b,off+i*4+2,none⟩=some (.string (str x.s))∧w.cell? ⟨b,off+i*4+3,none⟩=some (sub i))
   (hs:∀(i:Nat) (x:V),l[i]?=some x→IsL ok w x.l (sub i)):IsL ok w l (.slice p l.length cap)
theorem z1d{w:World}{a:Addr}{v:Value}(h:w.cell? a=some v):a.block<w.heap.size:=by
 rcases Nat.lt_or_ge a.block w.heap.size with hlt|hge
 ·exact hlt
 ·simp[World.cell?,Array.getElem?_eq_none hge]at h
theorem IsL.keepBy{ok:Nat→Prop}{w w':World}{l:List V}{c:Value}(h:IsL ok w l c)
  (hk:∀a v,ok a.block→w.cell? a=some v→w'.cell? a=some v):IsL ok w' l c:=by
 induction h with
 |mk l b off cap p sub hcap hmax hp hc hs ih=>
  refine .mk l b off cap p sub hcap hmax hp (fun i x hx=> ?_) ih;have hb:ok b:=(hp (by rintro rfl;simp at hx)).2;obtain⟨h0,h1,h2,h3⟩:=hc i x hx;exact⟨hk _ _ hb h0,hk _ _ hb h1,hk _ _ hb h2,hk _ _ hb h3⟩
theorem IsL.keep{ok:Nat→Prop}{w w':World}{l:List V}{c:Value}(h:IsL ok w l c)(hk:∀b,ok b→w'.heap[b]?=w.heap[b]?):IsL ok w' l c:=
 h.keepBy fun a _ ho hv=>(World.cell?_of_block (w:=w) (hk a.block ho)).trans hv
theorem IsL.ext{ok:Nat→Prop}{w w':World}{l:List V}{c:Value}(h:IsL ok w l c)(hb:Below w.heap.size w w'):IsL ok w' l c:=
 h.keepBy fun _ _ _ hv=>(hb.cell (z1d hv)).trans hv
theorem IsL.weaken{ok ok':Nat→Prop}{w:World}{l:List V}{c:Value}(h:IsL ok w l c)(hk:∀b,ok b→ok' b):IsL ok' w l c:=by
 induction h with
 |mk l b off cap p sub hcap hmax hp hc hs ih=>exact .mk l b off cap p sub hcap hmax (fun hl=>⟨(hp hl).1,hk _ (hp hl).2⟩) hc ih
theorem IsL.nil{ok:Nat→Prop}{w:World}(p:Option Addr)(cap:Nat)(h:cap≤maxLen):IsL ok w [] (.slice p 0 cap):=
 .mk [] 0 0 cap p (fun _=> .slice none 0 0) (by simp) h (by simp) (by simp) (by simp)
theorem IsL.none_{ok:Nat→Prop}{w:World}:IsL ok w [] (.slice none 0 0):=.nil none 0 (Nat.zero_le _)
theorem IsL.drew{ok:Nat→Prop}{w:World}{l:List V}{c:Value}(h:IsL ok w l c):IsL ok w.drew l c:=h.keepBy fun _ _ _ hv=>hv
def zqX(P:Program)(f:FuncId):Prop:=∀(args:Array Value) (w:World),(callFunc f args).run P w=.ok (.enter f args) w
theorem zkW{P:Program}{f:FuncId}{fn:Func}{c:Code}(hf:P.funcs[f]?=some fn)(hname:(fn.name== "runtime.NumGoroutine")=false)(hb:fn.body=some c):zqX P f:=by
 intro args w;have hn:¬fn.name= "runtime.NumGoroutine" :=by simpa using hname
 simp[callFunc,hf,hn,hb]
def z0N{α:Type}(p:α→Bool)(l:List α):Int:=match l.findIdx? p with|some i=>i|none=> -1
end Go.Mor
end

section
namespace Go.Proofs.YtpmlapgbmgbilaaGreatDoor
open Go Go.RowKit Go.Mor
structure GlobU(w:World):Prop where
 tabs:Lib.Utf8Tabs 2 3 w
theorem GlobU.ext{w w':World}(h:GlobU w)(hb:Below w.heap.size w w'):GlobU w' where
 tabs:=Utf8Tabs_below h.tabs hb
end Go.Proofs.YtpmlapgbmgbilaaGreatDoor
end
