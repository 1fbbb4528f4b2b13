/- Merged texts: S10 S10m. No statement of the program is proved here. -/
import Derived.Test.YtpmlapgbmgbilaaGreatDoorR5
import Derived.WideLaws
set_option linter.unusedSimpArgs false
set_option linter.unusedVariables false
set_option maxRecDepth 100000
set_option maxHeartbeats 8000000
section
namespace Go.Sh
open Go Go.RowKit
section
section
variable{B:Base}{s:FS}{a:Act}{w w':World}{E E':Env}{r:Rows}{P:Program}{C:z0m}
theorem z9x{W:Nat}:∀(vs:List Value) (k:Nat) (arr:Array Value),(∀v∈vs,v.cells.size=W)→arr.size=(k+vs.length)*W→
  ∃res:Array Value,Instr.fill (fun i=>some (i*W,W)) arr ((vs.zipIdx k).map fun p=>(p.2,p.1))=some res∧res.toList=arr.toList.take (k*W)++vs.flatMap (·.cells.toList)
 |[],k,arr,_,h=>⟨arr,rfl,by simp at h ⊢;rw[List.take_of_length_le (by simp[h])]⟩
 |v::vs,k,arr,hv,h=>by
  have hvl:=hv v (List.mem_cons_self ..);have hsz:k*W+W≤arr.size:=by rw[h];simp only[List.length_cons];rw[←Nat.succ_mul];exact Nat.mul_le_mul_right W (by omega)
  have hfold:=zcI v.cells.toList (k*W) 0 arr (by simp[hvl];omega);have hl:(splice arr.toList (k*W) v.cells.toList).length=arr.toList.length:=z5F (by simp[hvl];omega);simp only[Nat.add_zero]at hfold;obtain⟨res,h1,h2⟩:=z9x vs (k+1) (splice arr.toList (k*W) v.cells.toList).toArray (fun u hu=>hv u (List.mem_cons_of_mem _ hu)) (by
   simp only[List.size_toArray,hl];simp only[Array.length_toList,h,List.length_cons];congr 1;omega)
  refine⟨res,?_,?_⟩
  ·simp only[List.zipIdx_cons,List.map_cons,Instr.fill,hvl];have hcond:(W≠W||k*W+W>arr.size)=false:=by simp;omega
   rw[hcond];simp only[Bool.false_eq_true,if_false];have:v.cells.zipIdx.foldl (fun(cs:Array Value) (cj:Value×Nat)=>cs.setIfInBounds (k*W+cj.2) cj.1) arr=(splice arr.toList (k*W) v.cells.toList).toArray:=by
    have hus:∀us:List Value,us.toArray.zipIdx.foldl (fun(cs:Array Value) (cj:Value×Nat)=>cs.setIfInBounds (k*W+cj.2) cj.1) arr=us.zipIdx.foldl (fun(cs:Array Value) (cj:Value×Nat)=>cs.setIfInBounds (k*W+cj.2) cj.1) arr:=fun us=>by simp
    have:=hus v.cells.toList;rw[Array.toArray_toList]at this;rw[this,←hfold]
   rw[←h1,←this]
  ·rw[h2,List.flatMap_cons,←List.append_assoc];congr 1;simp only[splice];have e:(k+1)*W=k*W+W:=by rw[Nat.add_mul];omega
   rw[e,List.take_append_of_le_length (by simp[hvl];omega),List.take_of_length_le (by simp[hvl];omega)]
theorem z6X{α:Type}{l:List (Nat×α)}(h:l.map (·.1)=List.range l.length):l=((l.map (·.2)).zipIdx 0).map fun p=>(p.2,p.1):=by
 apply List.ext_getElem?;intro i;rcases Nat.lt_or_ge i l.length with hi|hi
 ·have:=congrArg (·[i]?) h
  grind
 ·grind
theorem znp(h:Sim B s a w E){o:Oper}{t e:TypeId}{len:Nat}{parts:Array (Nat×Operand)}(ho:o.op=.buildSlice t len parts){i:TypeInfo}{zv:Value}(hu:P.underlying t=some (.slice e))(hi:P.info? e=some i)(hz:i.zero=some zv)
  (h1:parts.toList.map (·.1)=List.range len∧len*i.size≤16777216∧zv.cells.size=i.size∧0<len*i.size) {z:TV} {u:Upd} (he:eff P C o.dst (.bsl i.size (parts.toList.map fun p=>Arg.of p.2)) s=some (z,u)):u=.no∧z2U P B s z a w o:=by
 obtain⟨hr,hsmall,hzl,hpos⟩:=h1;have hlen:parts.toList.length=len:=by have:=congrArg List.length hr;simpa using this
 simp only[eff]at he;obtain⟨es,hes,he⟩:=gB he;split at he
 ·rename_i hall;cases he;refine⟨rfl,?_⟩;obtain⟨l1,hs1⟩:=z00 hes;have l1':parts.toList.length=es.length:=by simpa using l1
  let vals:List Value:=parts.toList.map fun p=>a.eval p.2
  have hel:∀e'∈es,e'.length=i.size:=fun e' he'=>by simpa using List.all_eq_true.1 hall e' he'
  have hrel:∀(k:Nat) ps,es[k]?=some ps→∃(v:Value) (us:List Value),vals[k]?=some v∧v.cells=us.toArray∧ps.length=us.length∧(∀(j:Nat) c u,ps[j]?=some c→us[j]?=some u→RelV w E.K c u∧one u):=by
   intro k ps hk;have hkl:k<parts.toList.length:=by rw[l1'];exact(gJ hk).1
   obtain⟨y,hy1,hy2⟩:=hs1 k (Arg.of (parts.toList[k]).2) (by rw[List.getElem?_map,gE hkl];rfl);rw[hk]at hy1;cases hy1;obtain⟨t',ht1,ht2⟩:=gB hy2;obtain⟨us,hu1,hu2,hu3⟩:=zi1 (zh h ht1) ht2;exact⟨a.eval (parts.toList[k]).2,us,by simp only[vals];rw[List.getElem?_map,gE hkl];rfl,hu1,hu2,hu3⟩
  have hvl:∀v∈vals,v.cells.size=i.size:=by
   intro v hv;obtain⟨k,hk⟩:=List.getElem?_of_mem hv;have hkl:k<es.length:=by rw[←l1'];have:=(gJ hk).1;simpa [vals]using this
   obtain⟨v',us,hv1,hv2,hv3,_⟩:=hrel k es[k] (gE hkl);rw[hk]at hv1;cases hv1;rw[hv2];simp[←hv3,hel _ (List.getElem_mem hkl)]
  have hvlen:vals.length=len:=by simp[vals];simpa using hlen
  obtain⟨res,hf1,hf2⟩:=z9x (W:=i.size) vals 0 ((Array.range (len*i.size)).map (zv.cells[·%zv.cells.size]!)) hvl (by simp[hvlen]);simp only[Nat.zero_mul,List.take_zero,List.nil_append]at hf2;have hparts:(parts.map fun p=>(p.1,a.eval p.2)).toList=(vals.zipIdx 0).map fun p=>(p.2,p.1):=by
   have:=z6X (l:=(parts.map fun p=>(p.1,a.eval p.2)).toList) (by simp[←hr];rw[←Array.length_toList,hlen];simpa [Function.comp_def]using hr);rw[this];congr 2;simp[vals,Function.comp_def]
  have hrun:=run_buildSlice (P:=P) w t e len (parts.map fun p=>(p.1,a.eval p.2)) res i zv hu hi hz (by omega) (by omega) (by rw[hparts];exact hf1);have hb:Below w.heap.size w (w.alloc (.cells res e)):=(Below.refl _ _).alloc (Nat.le_refl _) _;let E':Env:={ E with K:=fun b o=>E.K b o∨b=w.heap.size }
  have hk:∀b o u,E.K b o→w.cell? ⟨b,o,none⟩=some u→E'.K b o∧(w.alloc (.cells res e)).cell? ⟨b,o,none⟩=some u:=fun b o u h1 h2=>⟨.inl h1,(hb.cell (p:=⟨b,o,none⟩) (z1y h2)).trans h2⟩
  refine⟨.value (.slice (some ⟨w.heap.size,0,none⟩) len len),_,w.alloc (.cells res e),E',?_,.inl rfl,h.ext hb E' (fun _ _ h=> .inl h) (fun b o hbo=> ?_) (fun _ _=>⟨rfl,rfl⟩) (fun _ _ _=>rfl) (fun _ _=>⟨rfl,rfl⟩),?_⟩
  ·simp[execOp,ho,hrun,Result.andThen]
  ·rcases hbo with h1|rfl
   ·exact .inl h1
   ·exact .inr ⟨Nat.le_refl _,by simp⟩
  ·have hesl:es.length=len:=by omega
   rw[←hesl];have hflat:∀(k j:Nat) ps c,es[k]?=some ps→ps[j]?=some c→∃u,res[k*i.size+j]?=some u∧RelV w E.K c u∧one u:=by
    intro k j ps c hk1 hk2;obtain⟨v,us,hv1,hv2,hv3,hv4⟩:=hrel k ps hk1;have hj:j<us.length:=by rw[←hv3];exact(gJ hk2).1
    obtain⟨a1,a2⟩:=hv4 j c us[j] hk2 (gE hj);refine⟨us[j],?_,a1,a2⟩;have hus:us.length=i.size:=by rw[←hv3];exact hel ps (gM hk1)
    rw[←Array.getElem?_toList,hf2];clear hf1 hf2 hrun hparts hb hk;have:∀(vals:List Value) (k:Nat) (v:Value),(∀v∈vals,v.cells.size=i.size)→vals[k]?=some v→∀j,j<i.size→(vals.flatMap (·.cells.toList))[k*i.size+j]?=v.cells.toList[j]?:=by
     intro vals
     induction vals with
     |nil=>intro k v _ hk;simp at hk
     |cons x r ih=>
      intro k v hv hk j hj;have hx:=hv x (List.mem_cons_self ..);rw[List.flatMap_cons];cases k with
      |zero=>simp at hk;subst hk;rw[List.getElem?_append_left (by simp[hx];omega)];simp
      |succ k=>
       have e:(k+1)*i.size+j=i.size+(k*i.size+j):=by rw[Nat.add_mul];omega
       rw[List.getElem?_append_right (by simp[hx];omega)];rw[show(k+1)*i.size+j-x.cells.toList.length=k*i.size+j by simp[hx];omega];exact ih k v (fun u hu=>hv u (List.mem_cons_of_mem _ hu)) (by simpa using hk) j hj
    rw[this vals k v hvl hv1 j (by omega),hv2];simp[hj]
   refine .pv (.sl i.size es w.heap.size 0 es.length _ (fun k j=>(res[k*i.size+j]?).getD undef) (fun _=>rfl) (Nat.le_refl _) ?_ hel (fun k j ps c hk1 hk2=> ?_) (fun k j ps c hk1 hk2=> ?_))
   ·have:es.length≤es.length*i.size:=Nat.le_mul_of_pos_right _ (Nat.pos_of_ne_zero (fun h0=>by rw[h0]at hpos;simp at hpos));unfold maxLen;rw[hesl]at this ⊢;omega
   ·obtain⟨u,hu1,hu2,hu3⟩:=hflat k j ps c hk1 hk2;refine⟨.inr rfl,?_,by simpa [hu1]using hu3⟩;rw[Nat.zero_add,World.cell?_alloc_new,hu1];rfl
   ·obtain⟨u,hu1,hu2,hu3⟩:=hflat k j ps c hk1 hk2;rw[hu1];exact hu2.mono hk
 ·cases he
theorem zfv{W:Nat}:∀(vs:List Value),(∀v∈vs,v.cells.size=W)→(vs.flatMap (·.cells.toList)).length=vs.length*W
 |[],_=>by simp
 |v::r,h=>by
  rw[List.flatMap_cons,List.length_append,zfv r (fun u hu=>h u (List.mem_cons_of_mem _ hu)),List.length_cons,Nat.add_mul,Array.length_toList,h v (List.mem_cons_self ..)];omega
theorem zn1(h:Sim B s a w E){o:Oper}{t e:TypeId}{len:Nat}{parts:Array (Nat×Operand)}(ho:o.op=.buildSlice t len parts){i:TypeInfo}{zv:Value}(hu:P.underlying t=some (.slice e))(hi:P.info? e=some i)(hz:i.zero=some zv)
  (h1:parts.toList.map (·.1)=List.range len∧len*i.size≤16777216∧zv.cells.size=i.size∧0<len*i.size) {es:List (List PV)} (hes:seqO (fun x:Arg=>(x.get s).bind TV.pvs) (parts.toList.map fun p=>Arg.of p.2)=some es) (hel:∀e'∈es,e'.length=i.size):
  ∃res:Array Value,(execOp a.eval o).run P w=.ok (.value (.slice (some ⟨w.heap.size,0,none⟩) len len)) (w.alloc (.cells res e))∧es.length=len∧res.size=len*i.size∧
   ∀(k j:Nat) ps c,es[k]?=some ps→ps[j]?=some c→∃u,res[k*i.size+j]?=some u∧RelV w E.K c u∧one u:=by
 obtain⟨hr,hsmall,hzl,hpos⟩:=h1;have hlen:parts.toList.length=len:=by have:=congrArg List.length hr;simpa using this
 obtain⟨l1,hs1⟩:=z00 hes;have l1':parts.toList.length=es.length:=by grind
 let vals:List Value:=parts.toList.map fun p=>a.eval p.2
 have hrel:∀(k:Nat) ps,es[k]?=some ps→∃(v:Value) (us:List Value),vals[k]?=some v∧v.cells=us.toArray∧ps.length=us.length∧(∀(j:Nat) c u,ps[j]?=some c→us[j]?=some u→RelV w E.K c u∧one u):=by
  intro k ps hk;have hkl:k<parts.toList.length:=by grind
  obtain⟨y,hy1,hy2⟩:=hs1 k (Arg.of (parts.toList[k]).2) (by rw[List.getElem?_map,gE hkl];rfl);rw[hk]at hy1;cases hy1;obtain⟨t',ht1,ht2⟩:=gB hy2;obtain⟨us,hu1,hu2,hu3⟩:=zi1 (zh h ht1) ht2
  grind
 have hvl:∀v∈vals,v.cells.size=i.size:=by
  intro v hv;obtain⟨k,hk⟩:=List.getElem?_of_mem hv;have hkl:k<es.length:=by grind
  obtain⟨v',us,hv1,hv2,hv3,_⟩:=hrel k es[k] (gE hkl)
  grind
 have hvlen:vals.length=len:=by grind
 obtain⟨res,hf1,hf2⟩:=z9x (W:=i.size) vals 0 ((Array.range (len*i.size)).map (zv.cells[·%zv.cells.size]!)) hvl (by simp[hvlen]);simp only[Nat.zero_mul,List.take_zero,List.nil_append]at hf2;have hparts:(parts.map fun p=>(p.1,a.eval p.2)).toList=(vals.zipIdx 0).map fun p=>(p.2,p.1):=by
  have:=z6X (l:=(parts.map fun p=>(p.1,a.eval p.2)).toList) (by simp[←hr];rw[←Array.length_toList,hlen];simpa [Function.comp_def]using hr);rw[this];congr 2;simp[vals,Function.comp_def]
 have hrun:=run_buildSlice (P:=P) w t e len (parts.map fun p=>(p.1,a.eval p.2)) res i zv hu hi hz (by omega) (by omega) (by rw[hparts];exact hf1);have hflat:∀(k j:Nat) ps c,es[k]?=some ps→ps[j]?=some c→∃u,res[k*i.size+j]?=some u∧RelV w E.K c u∧one u:=by
  intro k j ps c hk1 hk2;obtain⟨v,us,hv1,hv2,hv3,hv4⟩:=hrel k ps hk1;have hj:j<us.length:=by grind
  obtain⟨a1,a2⟩:=hv4 j c us[j] hk2 (gE hj);refine⟨us[j],?_,a1,a2⟩;have hus:us.length=i.size:=by grind
  rw[←Array.getElem?_toList,hf2];clear hf1 hf2 hrun hparts;have:∀(vals:List Value) (k:Nat) (v:Value),(∀v∈vals,v.cells.size=i.size)→vals[k]?=some v→∀j,j<i.size→(vals.flatMap (·.cells.toList))[k*i.size+j]?=v.cells.toList[j]?:=by
   intro vals
   induction vals with
   |nil=>simp
   |cons x r ih=>
    intro k v hv hk j hj;have hx:=hv x (List.mem_cons_self ..);rw[List.flatMap_cons];cases k with
    |zero=>grind
    |succ k=>
     have e:(k+1)*i.size+j=i.size+(k*i.size+j):=by grind
     rw[List.getElem?_append_right (by simp[hx];omega)];simp_all
  grind
 refine⟨res,by simp[execOp,ho,hrun,Result.andThen],by omega,?_,hflat⟩
 grind [Array.length_toList,zfv]
theorem zkQ(h:Sim B s a w E){o:Oper}{t e:TypeId}{len:Nat}{parts:Array (Nat×Operand)}(ho:o.op=.buildSlice t len parts){i:TypeInfo}{zv:Value}(hu:P.underlying t=some (.slice e))(hi:P.info? e=some i)(hz:i.zero=some zv)
  (h1:parts.toList.map (·.1)=List.range len∧len*i.size≤16777216∧zv.cells.size=i.size∧0<len*i.size) {d:Nat} (hno:¬B.old d) (hf:z0y s d) {es:List (List PV)} (hes:seqO (fun x:Arg=>(x.get s).bind TV.pvs) (parts.toList.map fun p=>Arg.of p.2)=some es) (hel:∀e'∈es,e'.length=i.size):
  z2U P B (s.setR d (e,i.size,es.length)) (.own d i.size es) a w o:=by
 obtain⟨res,hrun,hlen,hres,hflat⟩:=zn1 h ho hu hi hz h1 hes hel;obtain⟨_,hsmall,_,hpos⟩:=h1;have hW:0<i.size:=Nat.pos_of_ne_zero (fun h0=>by rw[h0]at hpos;simp at hpos);have hl0:0<es.length:=Nat.pos_of_ne_zero (fun h0=>by rw[hlen]at h0;rw[h0]at hpos;simp at hpos);have hmax:es.length≤maxLen:=by
  have:es.length≤es.length*i.size:=Nat.le_mul_of_pos_right _ hW;unfold maxLen;rw[hlen]at this ⊢;omega
 obtain⟨E1,hβ,hK,hg,hS,hm⟩:=h.adopt hno hf e i.size;let E':Env:={ K:=fun k o=>E1.K k o∨(k=w.heap.size∧o<es.length*i.size),β:=E1.β,ι:=E1.ι,γ:=fun j=>if j=d then some (w.heap.size,es.length)else E1.γ j }
 have hb:Below w.heap.size w (w.alloc (.cells res e)):=(Below.refl _ _).alloc (Nat.le_refl _) _;have hk:∀k o u,E1.K k o→w.cell? ⟨k,o,none⟩=some u→E'.K k o∧(w.alloc (.cells res e)).cell? ⟨k,o,none⟩=some u:=fun k o u hk1 hk2=>⟨.inl hk1,(hb.cell (p:=⟨k,o,none⟩) (z1y hk2)).trans hk2⟩
 have hnew:(w.alloc (.cells res e)).heap[w.heap.size]?=some (.cells res e (0,0)):=heap_alloc_new w _;have hS':=hS.rowUp (d:=d) (e:=e) (W:=i.size) (n:=0) (n':=es.length) (E':=E') (w':=w.alloc (.cells res e)) (b:=w.heap.size) (cap:=es.length) (by simp[FS.setR,z0I]) hl0 hk rfl rfl (fun d' hd'=>by simp[E',hd']) (fun k hk' _=>hb.block k hk') (by simp[E']) (.inl h.mem.low.size)
  ⟨⟨res,hnew,by rw[hlen];exact hres⟩,Nat.le_refl _,hmax,fun o ho=>by
   rcases ho with ho|⟨_,ho⟩
   ·have:=hS.mem.lt _ _ ho;omega
   ·exact ho⟩ (.inr (Nat.le_refl _)) (fun k o ho=>by
   rcases ho with ho|⟨ho,_⟩
   ·exact .inl ho
   ·exact .inr ho) hb.os hb.tape hb.output hb.size
 have hset:(s.setR d (e,i.size,0)).setR d (e,i.size,es.length)=s.setR d (e,i.size,es.length):=by
  unfold FS.setR;simp only[FS.mk.injEq,true_and,and_true];funext j;by_cases hj:j=d<;>simp[z0I,hj]
 rw[hset]at hS';refine⟨_,_,w.alloc (.cells res e),E',hrun,.inl rfl,hS',?_⟩;rw[←hlen];refine .own d i.size es _ (.sl i.size es w.heap.size 0 es.length _ (fun k j=>(res[k*i.size+j]?).getD undef) (fun _=>rfl) (Nat.le_refl _) hmax hel (fun k j ps c hk1 hk2=> ?_) (fun k j ps c hk1 hk2=> ?_)) (fun e' W' n hn=> ?_)
 ·obtain⟨u,hu1,hu2,hu3⟩:=hflat k j ps c hk1 hk2;have hkl:k<es.length:=(gJ hk1).1;have hjl:j<i.size:=by rw[←hel ps (gM hk1)];exact(gJ hk2).1
  refine⟨.inr ⟨rfl,by rw[Nat.zero_add];exact z4F hkl hjl⟩,?_,by simpa [hu1]using hu3⟩;rw[Nat.zero_add,World.cell?_alloc_new,hu1];rfl
 ·obtain⟨u,hu1,hu2,hu3⟩:=hflat k j ps c hk1 hk2;rw[hu1];exact hu2.mono (fun b o u q1 q2=>hk b o u (by rw[hK];exact q1) q2)
 ·simp only[FS.setR,z5t,Option.some.injEq,Prod.mk.injEq]at hn;obtain⟨rfl,rfl,rfl⟩:=hn;exact⟨Nat.le_refl _,fun _=>⟨rfl,by simp[E',hdr]⟩⟩
theorem RelL.app{cs ds:List TV}{us vs:List Value}(h1:RelL w E r cs us)(h2:RelL w E r ds vs):RelL w E r (cs++ds) (us++vs):=
 ⟨by rw[List.length_append,List.length_append,h1.len,h2.len],fun j c v hc hv=>by
  rcases Nat.lt_or_ge j cs.length with hj|hj
  ·rw[List.getElem?_append_left hj]at hc;rw[List.getElem?_append_left (by rw[←h1.len];exact hj)]at hv;exact h1.at_ j c v hc hv
  ·rw[List.getElem?_append_right hj]at hc;rw[List.getElem?_append_right (by rw[←h1.len];exact hj),←h1.len]at hv;exact h2.at_ _ c v hc hv,fun v hv=>(List.mem_append.1 hv).elim (h1.ones v) (h2.ones v)⟩
theorem RelL.flat:∀{es:List (List TV)} {vals:List Value},es.length=vals.length→(∀(k:Nat) ps v,es[k]?=some ps→vals[k]?=some v→∃us:List Value,v.cells=us.toArray∧RelL w E r ps us)→RelL w E r es.flatten (vals.flatMap (·.cells.toList))
 |[],[],_,_=>⟨rfl,fun j c v h=>(by cases h),fun v h=>(by cases h)⟩
 |[],v::vals,h,_=>by cases h
 |ps::es,[],h,_=>by cases h
 |ps::es,v::vals,h,H=>by
  obtain⟨us,h1,h2⟩:=H 0 ps v rfl rfl;rw[List.flatten_cons,List.flatMap_cons,h1];exact h2.app (RelL.flat (by simpa using h) fun k ps v hk hv=>H (k+1) ps v hk hv)
theorem zkP(h:Sim B s a w E){o:Oper}{t e:TypeId}{len:Nat}{parts:Array (Nat×Operand)}(ho:o.op=.buildSlice t len parts){i:TypeInfo}{zv:Value}(hu:P.underlying t=some (.slice e))(hi:P.info? e=some i)(hz:i.zero=some zv)
  (h1:parts.toList.map (·.1)=List.range len∧len*i.size≤16777216∧zv.cells.size=i.size∧0<len*i.size) {d:Nat} (hno:¬B.old d) (hf:z0y s d) {es:List (List TV)} (hes:seqO (fun x:Arg=>(x.get s).bind TV.cells) (parts.toList.map fun p=>Arg.of p.2)=some es) (hel:∀e'∈es,e'.length=i.size):
  z2U P B (s.setB d es.flatten) (.bs d 0 es.length es.length) a w o:=by
 obtain⟨hr,hsmall,hzl,hpos⟩:=h1;have hlen:parts.toList.length=len:=by have:=congrArg List.length hr;simpa using this
 obtain⟨l1,hs1⟩:=z00 hes;have l1':parts.toList.length=es.length:=by simpa using l1
 let vals:List Value:=parts.toList.map fun p=>a.eval p.2
 have harg:∀(k:Nat) ps,es[k]?=some ps→∃(hkl:k<parts.toList.length) (t':TV),(Arg.of (parts.toList[k]).2).get s=some t'∧t'.cells=some ps:=by
  intro k ps hk;have hkl:k<parts.toList.length:=by rw[l1'];exact(gJ hk).1
  obtain⟨y,hy1,hy2⟩:=hs1 k (Arg.of (parts.toList[k]).2) (by rw[List.getElem?_map,gE hkl];rfl);rw[hk]at hy1;cases hy1;obtain⟨t',ht1,ht2⟩:=gB hy2;exact⟨hkl,t',ht1,ht2⟩
 have hrel:∀(k:Nat) ps v,es[k]?=some ps→vals[k]?=some v→∃us:List Value,v.cells=us.toArray∧RelL w E s.r ps us:=by
  intro k ps v hk hv;obtain⟨hkl,t',ht1,ht2⟩:=harg k ps hk;simp only[vals,List.getElem?_map,gE hkl,Option.map_some,Option.some.injEq]at hv;subst hv;exact z4i (zh h ht1) ht2
 have hvl:∀v∈vals,v.cells.size=i.size:=by
  intro v hv;obtain⟨k,hk⟩:=List.getElem?_of_mem hv;have hkl:k<es.length:=by rw[←l1'];have:=(gJ hk).1;simpa [vals]using this
  obtain⟨us,hv2,hv3⟩:=hrel k es[k] v (gE hkl) hk;rw[hv2];simp[←hv3.len,hel _ (List.getElem_mem hkl)]
 have hvlen:vals.length=len:=by simp[vals];simpa using hlen
 obtain⟨res,hf1,hf2⟩:=z9x (W:=i.size) vals 0 ((Array.range (len*i.size)).map (zv.cells[·%zv.cells.size]!)) hvl (by simp[hvlen]);simp only[Nat.zero_mul,List.take_zero,List.nil_append]at hf2;have hparts:(parts.map fun p=>(p.1,a.eval p.2)).toList=(vals.zipIdx 0).map fun p=>(p.2,p.1):=by
  have:=z6X (l:=(parts.map fun p=>(p.1,a.eval p.2)).toList) (by simp[←hr];rw[←Array.length_toList,hlen];simpa [Function.comp_def]using hr);rw[this];congr 2;simp[vals,Function.comp_def]
 have hrun:=run_buildSlice (P:=P) w t e len (parts.map fun p=>(p.1,a.eval p.2)) res i zv hu hi hz (by omega) (by omega) (by rw[hparts];exact hf1);have hRL:RelL w E s.r es.flatten res.toList:=by rw[hf2];exact RelL.flat (by rw[hvlen];omega) hrel
 obtain⟨E',hE,hS⟩:=h.newB hno hf e _ _ hRL.len hRL.at_ hRL.ones (by
  intro c hc hmc;obtain⟨ps,hps,hcp⟩:=List.mem_flatten.1 hc;obtain⟨k,hk⟩:=List.getElem?_of_mem hps;obtain⟨_,t',ht1,ht2⟩:=harg k ps hk;exact hf.1 (zZ ht1 (z7z ht2 hcp hmc)))
 rw[Array.toArray_toList]at hS;have hesl:es.length=len:=by omega
 have hl0:0<es.length:=Nat.pos_of_ne_zero (fun h0=>by rw[hesl]at h0;rw[h0]at hpos;simp at hpos);refine⟨.value (.slice (some ⟨w.heap.size,0,none⟩) len len),_,_,E',by simp[execOp,ho,hrun,Result.andThen],.inl rfl,hS,?_⟩;rw[←hesl,←hE];have hW:0<i.size:=Nat.pos_of_ne_zero (fun h0=>by rw[h0]at hpos;simp at hpos);exact .bs d 0 _ _ _ (.inl ⟨Nat.le_refl _,hl0⟩) (Nat.le_refl _) (by
  have:es.length≤es.length*i.size:=Nat.le_mul_of_pos_right _ hW;unfold maxLen;rw[hesl]at this ⊢;omega)
theorem zaF(h:Sim B s a w E){o:Oper}{x y:Operand}{t tx e:TypeId}(ho:o.op=.call { callee:=.builtin .append,args:= #[x,y],argTypes:= #[t,tx] }){i:TypeInfo}{zv:Value}(hu:P.underlying t=some (.slice e))(hi:P.info? e=some i)(hz:i.zero=some zv)
  (hzl:zv.cells.size=i.size) (hpos:0<i.size) {d:Nat} {es es2:List (List PV)} {v:Value} (hv:a.eval x=v) (hr:s.r d=some (e,i.size,es.length)) (hrel:RelT w E s.r (.own d i.size es) v)
  (hsrc:∃(news:List Value) (f:Nat→Nat→Value),News w E.K i.size es2 news f∧Src P i.size tx (a.eval y) es2.length news w) (hfit:(es.length+es2.length)*i.bytes≤140737488355328) (h63:es.length+es2.length≤maxLen):
  z2U P B (s.setR d (e,i.size,es.length+es2.length)) (.own d i.size (es++es2)) a w o:=by
 obtain⟨news,f,hn,hsrc⟩:=hsrc;obtain⟨v',w',E',h1,_,_,h2,h3⟩:=h.app (P:=P) (ty:=o.type) hr hrel hpos hu hi hz hzl rfl hn hsrc hfit h63;refine⟨.value v',v',w',E',?_,.inl rfl,h2,h3⟩;simp[execOp,ho,resolve,invoke,builtin,hv,h1,Result.andThen]
theorem zkO(h:Sim B s a w E){o:Oper}{x y:Operand}{t tx e:TypeId}(ho:o.op=.call { callee:=.builtin .append,args:= #[x,y],argTypes:= #[t,tx] }){i:TypeInfo}{zv:Value}(hu:P.underlying t=some (.slice e))(hi:P.info? e=some i)(hz:i.zero=some zv)
  (hzl:zv.cells.size=i.size) (hpos:0<i.size) {d:Nat} (hno:¬B.old d) (hf:z0y s d) {es es2:List (List PV)} (hx:RelT w E s.r (.tsl i.size es) (a.eval x))
  (hsrc:∃(news:List Value) (f:Nat→Nat→Value),News w E.K i.size es2 news f∧Src P i.size tx (a.eval y) es2.length news w) (hne:0<es2.length) (hfit:(es.length+es2.length)*i.bytes≤140737488355328) (h63:es.length+es2.length≤maxLen):
  z2U P B (s.setR d (e,i.size,es.length+es2.length)) (.own d i.size (es++es2)) a w o:=by
 obtain⟨news,f2,hn,hsrc⟩:=hsrc;have hnl:=hsrc.newsLen;generalize hv:a.eval x=v at hx;cases hx with
 |tsl _ _ p hx=>
 obtain⟨b,off,cap,p',f,he,hp,_,_,hW,hc⟩:=z1g hx;obtain⟨rfl,_,rfl⟩:=Value.slice.inj he;let olds:List Value:=(List.range (es.length*i.size)).map fun k=>f (k / i.size) (k%i.size)
 have hol2:olds.length=es.length*i.size:=by simp[olds]
 have hat:∀k,k<es.length*i.size→∃cs c,es[k / i.size]?=some cs∧cs[k%i.size]?=some c:=fun k hk=>by
  have h1:k / i.size<es.length:=Nat.div_lt_of_lt_mul (by rw[Nat.mul_comm];exact hk);have h2:=hW _ (List.getElem_mem h1);have h3:k%i.size<(es[k / i.size]).length:=by rw[h2];exact Nat.mod_lt _ hpos
  exact⟨_,_,gE h1,gE h3⟩
 have hold:(Builtin.firstCells i.size es.length (.slice p es.length es.length)).run P w.drew=.ok olds.toArray w.drew:=by
  by_cases h0:es=[]
  ·subst h0;have ho0:olds=[]:=List.eq_nil_of_length_eq_zero (by rw[hol2];simp);rw[ho0];cases p with
   |none=>exact run_firstCells_none (P:=P) w.drew i.size 0 0 0
   |some a'=>exact run_firstCells_some (P:=P) w.drew i.size 0 a' 0 0 [] (by simp) (by intro _ _ h';simp at h')
  ·rw[hp h0];refine run_firstCells_some w.drew i.size es.length ⟨b,off,none⟩ es.length es.length olds hol2 (fun j u hu=> ?_);have hj:j<es.length*i.size:=by rw[←hol2];exact(gJ hu).1
   obtain⟨cs,c,e1,e2⟩:=hat j hj;have:=(hc _ _ cs c e1 e2).1.2.1;rw[show off+j / i.size*i.size+j%i.size=off+j by rw[Nat.add_assoc,Nat.mul_comm,Nat.div_add_mod]]at this;rw[Addr.add_mid];show w.cell? _=_;rw[this,←hu];simp[olds,hj]
 have hgt:es.length<es.length+es2.length:=by omega
 let cap':=grownCap w (es.length+es2.length) es.length e
 have hcap1:es.length+es2.length≤cap':=grownCap_ge w _ _ e;have hcap2:cap'≤maxLen:=grownCap_le_maxLen w _ _ e h63;let cells:Array Value:=(olds++news).toArray++Builtin.zeroCells zv.cells (cap'-(es.length+es2.length))
 have hcsz':cells.size=cap'*i.size:=by
  simp only[cells,Array.size_append,List.size_toArray,List.length_append,hol2,hnl,Builtin.zeroCells,Array.size_map,Array.size_range,hzl];rw[←Nat.add_mul,←Nat.add_mul];congr 1;omega
 have hrun:=run_append_grow_src (P:=P) w t tx o.type e i zv hu hi hz p es.length es.length olds hold (a.eval y) es2.length news hsrc hgt (by have:=h63;unfold maxLen at this;omega) (growslice_fits hgt hfit);obtain⟨E1,hβ,hK,hg,hS,hm⟩:=h.adopt hno hf e i.size;let w':=w.drew.alloc (.cells cells e)
 let E':Env:={ K:=fun k o=>E1.K k o∨(k=w.heap.size∧o<(es.length+es2.length)*i.size),β:=E1.β,ι:=E1.ι,γ:=fun j=>if j=d then some (w.heap.size,cap')else E1.γ j }
 have hb:Below w.heap.size w w':=((Below.refl _ _).drew).alloc (Nat.le_refl _) _;have hk:∀k o u,E1.K k o→w.cell? ⟨k,o,none⟩=some u→E'.K k o∧w'.cell? ⟨k,o,none⟩=some u:=fun k o u hk1 hk2=>⟨.inl hk1,(hb.cell (p:=⟨k,o,none⟩) (z1y hk2)).trans hk2⟩
 have hnew:w'.heap[w.heap.size]?=some (.cells cells e (0,0)):=heap_alloc_new w.drew _;have hcell:∀j u,cells[j]?=some u→w'.cell? ⟨w.heap.size,j,none⟩=some u:=fun j u hu=>by rw[cell_of_row w' _ _ _ _ _ hnew];exact hu
 have hS':=hS.rowUp (d:=d) (e:=e) (W:=i.size) (n:=0) (n':=es.length+es2.length) (E':=E') (w':=w') (b:=w.heap.size) (cap:=cap') (by simp[FS.setR,z0I]) (by omega) hk rfl rfl (fun d' hd'=>by simp[E',hd']) (fun k hk' _=>hb.block k hk') (by simp[E']) (.inl h.mem.low.size)
  ⟨⟨cells,hnew,hcsz'⟩,hcap1,hcap2,fun o ho=>by
   rcases ho with ho|⟨_,ho⟩
   ·have:=hS.mem.lt _ _ ho;omega
   ·exact ho⟩ (.inr (Nat.le_refl _)) (fun k o ho=>by
   rcases ho with ho|⟨ho,_⟩
   ·exact .inl ho
   ·exact .inr ho) hb.os hb.tape hb.output hb.size
 have hset:(s.setR d (e,i.size,0)).setR d (e,i.size,es.length+es2.length)=s.setR d (e,i.size,es.length+es2.length):=by
  unfold FS.setR;simp only[FS.mk.injEq,true_and,and_true];funext j;by_cases hj:j=d<;>simp[z0I,hj]
 rw[hset]at hS';refine⟨.value (.slice (some ⟨w.heap.size,0,none⟩) (es.length+es2.length) cap'),_,w',E',by simp[execOp,ho,resolve,invoke,builtin,hv,hrun,Result.andThen,cap',w',cells],.inl rfl,hS',?_⟩;have hel:∀cs∈es++es2,cs.length=i.size:=fun cs hcs=>(List.mem_append.1 hcs).elim (hW cs) (hn.len cs);have hflat:∀(k j:Nat) ps c,(es++es2)[k]?=some ps→ps[j]?=some c→∃u,cells[k*i.size+j]?=some u∧RelV w E.K c u∧one u:=fun k j ps c h1 h2=>by
  have hj:j<i.size:=by rw[←hel ps (gM h1)];exact(gJ h2).1
  have hkl:=(gJ h1).1;have hlt:=z4F hkl hj;rw[List.length_append]at hkl;simp only[List.length_append]at hlt;have hin:k*i.size+j<(olds++news).toArray.size:=by simp only[List.size_toArray,List.length_append,hol2,hnl];rw[←Nat.add_mul];exact hlt
  rcases Nat.lt_or_ge k es.length with hk1|hk1
  ·rw[List.getElem?_append_left hk1]at h1;obtain⟨⟨_,_,r3⟩,r4⟩:=hc k j ps c h1 h2;have hlt2:=z4F hk1 hj;refine⟨f k j,?_,r4,r3⟩;simp only[cells];rw[Array.getElem?_append_left hin,List.getElem?_toArray,List.getElem?_append_left (by omega)];have d1:(k*i.size+j) / i.size=k:=by rw[Nat.mul_comm,Nat.mul_add_div hpos,Nat.div_eq_of_lt hj,Nat.add_zero]
   have d2:(k*i.size+j)%i.size=j:=by rw[Nat.mul_comm,Nat.mul_add_mod,Nat.mod_eq_of_lt hj]
   simp[olds,hlt2,d1,d2]
  ·rw[List.getElem?_append_right hk1]at h1;obtain⟨n1,n2,n3⟩:=hn.at_ _ j ps c h1 h2;refine⟨_,?_,n3,n2⟩;simp only[cells];have hsub:k*i.size+j-olds.length=(k-es.length)*i.size+j:=by
    rw[hol2,Nat.sub_mul];have:=Nat.mul_le_mul_right i.size hk1;omega
   have hge:olds.length≤k*i.size+j:=by
    rw[hol2];have:=Nat.mul_le_mul_right i.size hk1;omega
   rw[Array.getElem?_append_left hin,List.getElem?_toArray,List.getElem?_append_right hge,hsub];exact n1
 rw[←List.length_append];refine .own d i.size (es++es2) _ (.sl i.size (es++es2) w.heap.size 0 cap' _ (fun k j=>(cells[k*i.size+j]?).getD undef) (fun _=>rfl) (by rw[List.length_append];exact hcap1) hcap2 hel (fun k j ps c hk1 hk2=> ?_) (fun k j ps c hk1 hk2=> ?_)) (fun e' W' n hn=> ?_)
 ·obtain⟨u,hu1,hu2,hu3⟩:=hflat k j ps c hk1 hk2;have hkl:k<es.length+es2.length:=by rw[←List.length_append];exact(gJ hk1).1
  have hjl:j<i.size:=by rw[←hel ps (gM hk1)];exact(gJ hk2).1
  refine⟨.inr ⟨rfl,by rw[Nat.zero_add];exact z4F hkl hjl⟩,?_,by simpa [hu1]using hu3⟩;rw[Nat.zero_add,hcell _ _ hu1,hu1];rfl
 ·obtain⟨u,hu1,hu2,hu3⟩:=hflat k j ps c hk1 hk2;rw[hu1];exact hu2.mono (fun b o u q1 q2=>hk b o u (by rw[hK];exact q1) q2)
 ·simp only[FS.setR,z5t,Option.some.injEq,Prod.mk.injEq]at hn;obtain⟨rfl,rfl,rfl⟩:=hn;exact⟨by simp,fun _=>⟨rfl,by simp[E',hdr]⟩⟩
theorem zdj(h:Sim B s a w E){o:Oper}{x y:Operand}{t tx e:TypeId}(ho:o.op=.call { callee:=.builtin .append,args:= #[x,y],argTypes:= #[t,tx] }){i:TypeInfo}{zv:Value}(hu:P.underlying t=some (.slice e))(hi:P.info? e=some i)(hz:i.zero=some zv)
  (hzl:zv.cells.size=i.size) (hpos:0<i.size) {d:Nat} (hno:¬B.old d) (hf:z0y s d) {es2:List (List PV)} (hv:a.eval x=.slice none 0 0)
  (hsrc:∃(news:List Value) (f:Nat→Nat→Value),News w E.K i.size es2 news f∧Src P i.size tx (a.eval y) es2.length news w) (hfit:es2.length*i.bytes≤140737488355328) (h63:es2.length≤maxLen):
  z2U P B (s.setR d (e,i.size,es2.length)) (.own d i.size es2) a w o:=by
 obtain⟨E',hβ,hK,hg,hS,hm⟩:=h.adopt hno hf e i.size;have hr:(s.setR d (e,i.size,0)).r d=some (e,i.size,([]:List (List PV)).length):=by simp[FS.setR,z0I]
 have hrel:RelT w E' (s.setR d (e,i.size,0)).r (.own d i.size []) (.slice none 0 0):=by
  refine .own d i.size [] _ (.sl i.size [] 0 0 0 none (fun _ _=>undef) (by simp) (by simp) (Nat.zero_le _) (by simp) (by simp) (by simp)) (fun e' W' n hn=> ?_);rw[hr]at hn;cases hn;exact⟨Nat.le_refl _,fun _=>⟨rfl,by rw[hg];rfl⟩⟩
 have:=zaF (P:=P) hS ho hu hi hz hzl hpos hv hr hrel (es2:=es2) (by rw[hK];exact hsrc) (by simpa using hfit) (by simpa using h63);have hset:(s.setR d (e,i.size,0)).setR d (e,i.size,([]:List (List PV)).length+es2.length)=s.setR d (e,i.size,es2.length):=by
  unfold FS.setR;simp only[List.length_nil,Nat.zero_add,FS.mk.injEq,true_and,and_true]
  grind [z0I]
 grind
theorem z2X{W:Nat}:∀{es:List (List PV)},(∀cs∈es,cs.length=W)→es.flatten.length=es.length*W
 |[],_=>by simp
 |cs::es,h=>by
  rw[List.flatten_cons,List.length_append,z2X (es:=es) (fun x hx=>h x (List.mem_cons_of_mem _ hx)),h cs (List.mem_cons_self ..),List.length_cons,Nat.add_mul];omega
theorem z79{W:Nat}:∀{es:List (List PV)},(∀cs∈es,cs.length=W)→∀{j:Nat} {p:PV},es.flatten[j]?=some p→∃k q cs,es[k]?=some cs∧cs[q]?=some p∧j=k*W+q
 |[],_,j,p,hp=>by simp at hp
 |cs::es,h,j,p,hp=>by
  have hW:=h cs (List.mem_cons_self ..);rw[List.flatten_cons]at hp;rcases Nat.lt_or_ge j cs.length with hj|hj
  ·rw[List.getElem?_append_left hj]at hp;exact⟨0,j,cs,rfl,hp,by omega⟩
  ·rw[List.getElem?_append_right hj]at hp;obtain⟨k,q,ds,h1,h2,h3⟩:=z79 (es:=es) (fun x hx=>h x (List.mem_cons_of_mem _ hx)) hp;exact⟨k+1,q,ds,by simpa using h1,h2,by rw[Nat.add_mul];omega⟩
theorem ziN(h:Sim B s a w E){o:Oper}{x y:Operand}{t tx e:TypeId}(ho:o.op=.call { callee:=.builtin .append,args:= #[x,y],argTypes:= #[t,tx] }){i:TypeInfo}(hu:P.underlying t=some (.slice e))(hi:P.info? e=some i)(hv:a.eval x=.slice none 0 0)
  (hsrc:∃(news:List Value) (f:Nat→Nat→Value),News w E.K i.size [] news f∧Src P i.size tx (a.eval y) ([]:List (List PV)).length news w):z2U P B s (.pv (.v (.slice none 0 0))) a w o:=by
 obtain⟨news,f,hn,hsrc⟩:=hsrc;have hnl:=hsrc.newsLen;have hnews0:news=[]:=List.eq_nil_of_length_eq_zero (by simpa using hnl);subst hnews0;have:=run_append_nothing (P:=P) w t tx o.type e i hu hi none 0 0 (Nat.le_refl _) (a.eval y) hsrc;refine⟨.value (.slice none 0 0),_,w,E,?_,.inl rfl,h,.pv (.v _)⟩;simp[execOp,ho,resolve,invoke,builtin,hv,this,Result.andThen]
theorem zkN(h:Sim B s a w E){o:Oper}{x y:Operand}{t tx e:TypeId}(ho:o.op=.call { callee:=.builtin .append,args:= #[x,y],argTypes:= #[t,tx] }){i:TypeInfo}{zv:Value}(hu:P.underlying t=some (.slice e))(hi:P.info? e=some i)(hz:i.zero=some zv)
  (hzl:zv.cells.size=i.size) (hpos:0<i.size) {d:Nat} (hno:¬B.old d) (hf:z0y s d) {es2:List (List PV)} (hv:a.eval x=.slice none 0 0)
  (hsrc:∃(news:List Value) (f:Nat→Nat→Value),News w E.K i.size es2 news f∧Src P i.size tx (a.eval y) es2.length news w) (hne:es2≠[]) (hfit:es2.length*i.bytes≤140737488355328) (h63:es2.length≤maxLen):
  z2U P B (s.setB d (es2.flatten.map .pv)) (.bs d 0 es2.length es2.length) a w o:=by
 obtain⟨news,f,hn,hsrc⟩:=hsrc;have hnl:=hsrc.newsLen;have hpos2:0<es2.length:=List.length_pos_iff.2 hne;let cap':=grownCap w (0+es2.length) 0 e
 have hcap1:es2.length≤cap':=by have:=grownCap_ge w (0+es2.length) 0 e;simpa [cap']using this
 have hcap2:cap'≤maxLen:=grownCap_le_maxLen w _ 0 e (by simpa using h63);have hrun:=run_append_grow_src (P:=P) w t tx o.type e i zv hu hi hz none 0 0 [] (run_firstCells_none _ _ _ _ _) (a.eval y) es2.length news hsrc (by omega) (by have:=h63;unfold maxLen at this;simp at this ⊢;omega) (growslice_fits (by omega) (by simpa using hfit));have hS:=h.same (w':=w.drew) ((Below.refl _ _).drew);have hrel:∀(j:Nat) c v,(es2.flatten.map TV.pv)[j]?=some c→(news++(Builtin.zeroCells zv.cells (cap'-(0+es2.length))).toList)[j]?=some v→one v∧RelT w.drew E s.r c v:=by
  intro j c v hc hv';rw[List.getElem?_map]at hc;obtain⟨p,hp,rfl⟩:=gO hc;obtain⟨k,q,cs,hk,hq,rfl⟩:=z79 hn.len hp;obtain⟨n1,n2,n3⟩:=hn.at_ k q cs p hk hq;rw[List.getElem?_append_left (gJ n1).1,n1]at hv';cases hv';exact⟨n2,.pv (n3.mono fun _ _ _ h1 h2=>⟨h1,h2⟩)⟩
 obtain⟨E',hE,hS'⟩:=hS.newBp hno hf e (es2.flatten.map TV.pv) (news++(Builtin.zeroCells zv.cells (cap'-(0+es2.length))).toList) (by rw[List.length_map,z2X hn.len,List.length_append,hnl];omega) (fun j c v h1 h2=>(hrel j c v h1 h2).2) (fun j c v h1 h2=>(hrel j c v h1 h2).1) (fun c hc hm=>by
  obtain⟨p,_,rfl⟩:=List.mem_map.1 hc;cases hm)
 have harr:(news++(Builtin.zeroCells zv.cells (cap'-(0+es2.length))).toList).toArray=(([]:List Value)++news).toArray++Builtin.zeroCells zv.cells (cap'-(0+es2.length)):=by simp
 rw[harr]at hS';refine⟨.value (.slice (some ⟨w.heap.size,0,none⟩) (0+es2.length) cap'),_,_,E',?_,.inl rfl,hS',?_⟩
 ·simp[execOp,ho,resolve,invoke,builtin,hv,hrun,Result.andThen,cap']
 ·rw[Nat.zero_add,show w.heap.size=E'.β d from hE.symm];exact .bs d 0 _ _ _ (.inl ⟨Nat.le_refl _,hpos2⟩) hcap1 hcap2
end
end
theorem z6T{kd:TypeDesc}{k:Value}:∀(es:List MapEntry) (i:Nat),findKs kd k (es.map MapEntry.key) i=some none→Instr.findNow kd k es i=some none
 |[],i,_=>rfl
 |e::es,i,h=>by
  simp only[List.map_cons,findKs]at h;simp only[Instr.findNow];cases hs:Instr.sameNow kd k e.key with
  |none=>grind
  |some b=>
   rw[hs]at h;cases b with
   |true=>cases h
   |false=>exact z6T es (i+1) h
theorem zah{kd:TypeDesc}{k:Value}:∀(es:List MapEntry) (i j:Nat),findKs kd k (es.map MapEntry.key) i=some (some j)→i≤j∧∃e,es[j-i]?=some e∧Instr.findNow kd k es i=some (some (j,e.val))
 |[],i,j,h=>by cases h
 |e::es,i,j,h=>by
  simp only[List.map_cons,findKs]at h;simp only[Instr.findNow];cases hs:Instr.sameNow kd k e.key with
  |none=>grind
  |some b=>
   rw[hs]at h;cases b with
   |true=>simp_all
   |false=>
    obtain⟨h1,e',h2,h3⟩:=zah es (i+1) j h
    grind
theorem checkKey_kd'{P:Program}{w:World}{t:TypeId}(text b:Bool)(n:Nat)(v:Value)(h:P.underlying t=some (kdOf text)):(Instr.checkKey b (n+1) t v).run P w=.ok () w:=by
 rw[Instr.checkKey,Sem.run_bind,run_underlying h];cases text<;>simp[kdOf,Result.andThen]
theorem z6Q{P:Program}{w:World}{t:TypeId}(text b:Bool)(v:Value)(h:P.underlying t=some (kdOf text)):(Instr.checkKey b 10000 t v).run P w=.ok () w:=checkKey_kd' text b 9999 v h
theorem zi5{P:Program}{w:World}{t kt et:TypeId}{text:Bool}{b clock:Nat}{es:Array MapEntry}{k z:Value}(ht:P.underlying t=some (.map kt et))(hk:P.underlying kt=some (kdOf text))(hz:(zeroValue et).run P w=.ok z w)(hb:w.heap[b]?=some (.map es clock))
  {r:Option Nat} (hr:findKs (kdOf text) k (es.toList.map MapEntry.key) 0=some r):
  (Instr.lookup t (.map (some b)) k false).run P w=.ok (match r with|some j=>((es.toList[j]?).map MapEntry.val).getD z|none=>z) w:=by
 have hget:=Go.MapKept.run_getObj_map (P:=P) hb;cases r with
 |none=>
  have h1:=z6T _ _ hr;simp[Instr.lookup,run_underlying ht,hget,z6Q text _ _ hk,Instr.findKey,run_underlying hk,h1,hz,Result.andThen]
 |some j=>
  obtain⟨_,e,h2,h3⟩:=zah _ _ _ hr;rw[Nat.sub_zero]at h2;simp[Instr.lookup,run_underlying ht,hget,z6Q text _ _ hk,Instr.findKey,run_underlying hk,h3,Result.andThen]
  grind
end Go.Sh
end
