/- Merged texts: S9. No statement of the program is proved here. -/
import Derived.Test.YtpmlapgbmgbilaaGreatDoorR4
set_option linter.unusedSimpArgs false
set_option linter.unusedVariables false
set_option maxRecDepth 100000
set_option maxHeartbeats 8000000
section
namespace Go.Sh
open Go Go.RowKit
section
section
variable{B:Base}{s:FS}{a:Act}{w w':World}{E E':Env}{r:Rows}{P:Program}{C:z0m}
variable{d:Nat}
theorem zZ{x:Arg}{t:TV}(h:x.get s=some t)(hm:Ment d t):s.ment d:=by
 cases x with
 |tmp k=>exact .inl ⟨k,t,h,hm⟩
 |val v=>simp[Arg.get]at h;subst h;cases hm
theorem z7z{t c:TV}{cs:List TV}(h:t.cells=some cs)(hc:c∈cs)(hm:Ment d c):Ment d t:=by
 cases t with
 |agg cs'=>simp[TV.cells]at h;subst h;exact .agg hc hm
 |tuple ts=>simp[TV.cells]at h
 |pv p=>
  cases p with
  |v x=>
   simp only[TV.cells]at h
   grind
  |_=>grind [TV.cells]
 |unk=>simp[TV.cells]at h
 |_=>grind [TV.cells]
theorem z2r{t:TypeId}{i:TypeInfo}(h:P.info? t=some i)(w:World):(sizeOf t).run P w=.ok i.size w:=by simp[sizeOf,typeInfo,h]
theorem z9g{t:TypeId}{d:TypeDesc}(h:P.underlying t=some d)(w:World):(isAgg t).run P w=.ok d.isRow w:=by
 unfold isAgg;rw[Sem.run_bind,run_underlying h w];cases d<;>simp_all [TypeDesc.isRow]
theorem z4P(b o:Nat)(ty:TypeId)(d:TypeDesc)(i:TypeInfo)(vs:List Value)(hu:P.underlying ty=some d)(hi:P.info? ty=some i)(hc:w.rangeAt b o vs)(hl:if d.isRow then vs.length=i.size else vs.length=1):
  (loadVar ty ⟨b,o,none⟩).run P w=.ok (if d.isRow then .agg vs.toArray else vs.getD 0 undef) w:=by
 cases hd:d.isRow with
 |true=>
  simp only[hd,if_true]at hl ⊢;exact run_loadVar_mid w b o ty vs d hc hu hd (by rw[hi,hl];rfl)
 |false=>
  simp only[hd,Bool.false_eq_true,if_false]at hl ⊢;obtain⟨v,rfl⟩:∃v,vs=[v]:=by cases vs with|nil=>simp at hl|cons v r=>cases r with|nil=>exact⟨v,rfl⟩|cons=>simp at hl
  have h0:=hc 0 v rfl;simp only[Nat.add_zero]at h0;unfold loadVar;rw[Sem.run_bind,z9g hu,hd];simp_all
theorem z6h(b o:Nat)(ty:TypeId)(i:TypeInfo)(v:Value)(us:List Value)(hv:v.cells=us.toArray)(hi:P.info? ty=some i)(hl:us.length=i.size)(ht:w.there b o us.length)(h1:∀u∈us,one u):
  (storeVar ty ⟨b,o,none⟩ v).run P w=.ok () (w.setCells b o us):=by
 have:=run_storeCells_cells (P:=P) b o us 0 w (fun j hj=>by simpa using(ht j hj).1) (fun j hj=>by simpa using(ht j hj).2) h1;simp only[Nat.add_zero]at this;simp[storeVar,sizeOf,typeInfo,hi,hv,hl,this]
theorem zpM(h:Sim B s a w E){o:Oper}{t:TypeId}{x:Operand}(ho:o.op=.load t x){d:TypeDesc}{i:TypeInfo}(hu:P.underlying t=some d)(hi:P.info? t=some i)
  {y:TV} {u:Upd} (he:eff P C o.dst (if d.isRow then .ld true i.size (.of x)else .ld false 1 (.of x)) s=some (y,u)):u=.no∧z2U P B s y a w o:=by
 have key:∀(b off:Nat) (cs:List TV) (vs:List Value),a.eval x=.pointer (some ⟨b,off,none⟩)→RelL w E s.r cs vs→w.rangeAt b off vs→
   (if d.isRow then(cs.length=i.size∧y=.agg cs)else(cs.length=1∧cs[0]?=some y))→z2U P B s y a w o:=by
  intro b off cs vs hx hrel hr hy;have hrun:=z4P (P:=P) (w:=w) b off t d i vs hu hi hr (by
   cases hd:d.isRow<;>simp only[hd,if_true,if_false,Bool.false_eq_true]at hy ⊢
   ·rw[←hrel.len];exact hy.1
   ·rw[←hrel.len];exact hy.1)
  refine z5H h (v:=if d.isRow then .agg vs.toArray else vs.getD 0 undef) ?_ ?_
  ·simp[execOp,ho,hx,Instr.loadAt,Instr.sureAddr,hrun,Result.andThen]
  ·cases hd:d.isRow<;>simp only[hd,if_true,if_false,Bool.false_eq_true]at hy ⊢
   ·have hl:0<vs.length:=by rw[←hrel.len];omega
    refine hrel.at_ 0 y _ hy.2 ?_;rw[List.getD_eq_getElem?_getD,gE hl];rfl
   ·rw[hy.2];exact hrel.agg
 have hget:∀z,(Arg.of x).get s=some z→RelT w E s.r z (a.eval x):=fun z hz=>zh h hz;generalize hR:d.isRow=R at he key;cases R with
 |true=>
  simp only[eff,if_true]at he;split at he
  ·rename_i dd off hg;obtain⟨cs,hb,he⟩:=gB he;split at he
   ·rename_i hle;cases he;refine⟨rfl,?_⟩;have hx:=hget _ hg;generalize hv:a.eval x=v at hx;cases hx;obtain⟨hbox,_⟩:=h.mem.box dd cs hb;obtain⟨vs,hrel,hcell⟩:=zhv hbox;refine key (E.β dd) off ((cs.drop off).take i.size) ((vs.drop off).take i.size) hv ((hrel.drop off).take _) (fun j v hv'=> ?_) ?_
    ·have hj:j<i.size:=by have:=(gJ hv').1;simp at this;omega
     simp[hj]at hv';exact hcell _ _ hv'
    ·simp;omega
   ·cases he
  ·rename_i cs hg;split at he
   ·rename_i hle;cases he;refine⟨rfl,?_⟩;have hx:=hget _ hg;generalize hv:a.eval x=v at hx;cases hx with
    |pv hx=>
    cases hx with
    |el _ b off f hc hs=>
    refine key b off ((cs.take i.size).map .pv) ((List.range i.size).map f) hv ⟨by simp;omega,fun j c v hc' hv'=> ?_,fun v hv'=> ?_⟩ (fun j v hv'=> ?_) ?_
    ·have hj:j<i.size:=by have:=(gJ hv').1;simpa using this
     simp[hj]at hc' hv';obtain⟨p,hp,rfl⟩:=hc';subst hv';exact .pv (hs j p hp)
    ·obtain⟨j,hj,rfl⟩:=List.mem_map.1 hv';have hj':j<i.size:=by simpa using hj
     exact(hc j cs[j] (gE (by omega))).2.2
    ·have hj:j<i.size:=by have:=(gJ hv').1;simpa using this
     simp[hj]at hv';subst hv';exact(hc j (cs[j]'(by omega)) (gE (by omega))).2.1
    ·simp;omega
   ·cases he
  ·cases he
 |false=>
  simp only[eff,Bool.false_eq_true,if_false]at he;split at he
  ·rename_i dd off hg;obtain⟨cs,hb,he⟩:=gB he;obtain⟨c,hc,he⟩:=gO he;cases he;refine⟨rfl,?_⟩;have hx:=hget _ hg;generalize hv:a.eval x=v at hx;cases hx;obtain⟨hbox,_⟩:=h.mem.box dd cs hb;obtain⟨v,h1,h2,h3⟩:=hbox.cell off y hc;refine key (E.β dd) off [y] [v] hv ⟨rfl,fun j c' v' hc' hv'=> ?_,fun u hu=>by simp at hu;subst hu;exact h2⟩ (fun j u hu=> ?_) ?_
   ·cases j with
    |zero=>simp at hc' hv';subst hc';subst hv';exact h3
    |succ j=>simp at hc'
   ·cases j with
    |zero=>simp at hu;subst hu;exact h1
    |succ j=>simp at hu
   ·simp
  ·rename_i cs hg;obtain⟨c,hc,he⟩:=gO he;cases he;refine⟨rfl,?_⟩;have hx:=hget _ hg;generalize hv:a.eval x=v at hx;cases hx with
   |pv hx=>
   cases hx with
   |el _ b off f hc1 hs1=>
   obtain⟨_,h1,h2⟩:=hc1 0 c hc;refine key b off [.pv c] [f 0] hv ⟨rfl,fun j c' v' hc' hv'=> ?_,fun u hu=>by simp at hu;subst hu;exact h2⟩ (fun j u hu=> ?_) ?_
   ·cases j with
    |zero=>simp at hc' hv';subst hc';subst hv';exact .pv (hs1 0 c hc)
    |succ j=>simp at hc'
   ·cases j with
    |zero=>simp at hu;subst hu;exact h1
    |succ j=>simp at hu
   ·simp
  ·cases he
theorem zpN(h:Sim B s a w E){o:Oper}{t:TypeId}{x y:Operand}(ho:o.op=.store t x y){i:TypeInfo}(hi:P.info? t=some i)
  {z:TV} {u:Upd} (he:eff P C o.dst (.st i.size (.of x) (.of y)) s=some (z,u)):z2U P B (s.upd o.dst u) z a w o:=by
 simp only[eff]at he;split at he
 ·rename_i dd off hg;obtain⟨cs,hb,he⟩:=gB he;obtain⟨xs,hxs,he⟩:=gB he;obtain⟨ty,hy1,hy2⟩:=gB hxs;split at he
  ·rename_i hle;cases he;have hx:=zh h hg;generalize hv:a.eval x=v at hx;cases hx;obtain⟨us,hu1,hu2⟩:=z4i (zh h hy1) hy2;obtain⟨hbox,_⟩:=h.mem.box dd cs hb;have hlen:=hu2.len;have hrun:=z6h (P:=P) (w:=w) (E.β dd) off t i (a.eval y) us hu1 hi (by omega) (fun j hj=>⟨by
    obtain⟨c,hc⟩:∃c,cs[off+j]?=some c:=⟨_,gE (by omega)⟩
    obtain⟨v,h1,_⟩:=hbox.cell _ c hc;rw[h1];rfl,hbox.fz _⟩) hu2.ones
   refine⟨.skip,undef,w.setCells (E.β dd) off us,E,?_,.inr ⟨rfl,rfl⟩,h.wr hb xs us hlen (by omega) hu2.at_ hu2.ones,.pv (.v _)⟩;simp[execOp,ho,hv,Instr.storeAt,Instr.sureAddr,hrun,Result.andThen]
  ·cases he
 ·cases he
theorem zno(h:Sim B s a w E){o:Oper}{t:TypeId}{x:Operand}(ho:o.op=.box t x)(hno:∀d,o.dst=some d→¬B.old d)(hf:∀d,o.dst=some d→z0y s d){z:TV}{u:Upd}(he:eff P C o.dst (.box (.of x)) s=some (z,u)):z2U P B (s.upd o.dst u) z a w o:=by
 simp only[eff]at he;cases hd:o.dst with
 |none=>grind
 |some d=>
  rw[hd]at he;obtain⟨cs,h1,he⟩:=gO he;obtain⟨ty,h2,h3⟩:=gB h1;cases he;obtain⟨us,hu1,hu2⟩:=z4i (zh h h2) h3;have hm:∀c∈cs,¬Ment d c:=by
   intro c hc hmc;exact(hf d hd).1 (zZ h2 (z7z h3 hc hmc))
  obtain⟨E',hE,hS⟩:=h.newB (hno d hd) (hf d hd) t cs us hu2.len hu2.at_ hu2.ones hm;refine⟨.value (.pointer (some ⟨w.heap.size,0,none⟩)),_,w.alloc (.cells us.toArray t),E',?_,.inl rfl,hS,?_⟩
  ·simp[execOp,ho,Instr.box,newVar,newRow,hu1,Result.andThen]
  ·rw[←hE];exact .ptr d 0
theorem znr(h:Sim B s a w E){o:Oper}{t:TypeId}(ho:o.op=.alloc t)(hno:∀d,o.dst=some d→¬B.old d)(hf:∀d,o.dst=some d→z0y s d){i:TypeInfo}{zv:Value}(hi:P.info? t=some i)(hz:i.zero=some zv)(h1:zv.cells.toList.all (·.oneCell')=true)
  {z:TV} {u:Upd} (he:eff P C o.dst (.new zv.cells.toList) s=some (z,u)):z2U P B (s.upd o.dst u) z a w o:=by
 simp only[eff]at he;cases hd:o.dst with
 |none=>grind
 |some d=>
  rw[hd]at he;cases he;have hones:∀v∈zv.cells.toList,one v:=fun v hv=>List.all_eq_true.1 h1 v hv;have hrel:=RelL.ofVals (w:=w) (E:=E) (r:=s.r) hones;obtain⟨E',hE,hS⟩:=h.newB (hno d hd) (hf d hd) t _ zv.cells.toList hrel.len hrel.at_ hones (by
   intro c hc hmc;obtain⟨v,_,rfl⟩:=List.mem_map.1 hc;cases hmc)
  refine⟨.value (.pointer (some ⟨w.heap.size,0,none⟩)),_,w.alloc (.cells zv.cells t),E',?_,.inl rfl,(by simp only[Array.toArray_toList]at hS;exact hS),?_⟩
  ·simp[execOp,ho,Instr.alloc,zeroValue,typeInfo,hi,hz,newVar,newRow,Result.andThen]
  ·rw[←hE];exact .ptr d 0
theorem ziO(h:Sim B s a w E){o:Oper}{t:TypeId}{parts:Array (Nat×Operand)}(ho:o.op=.build t parts){i:TypeInfo}{fs:Array Field}{zv:Value}(hi:P.info? t=some i)(hu:P.underlying t=some (.struct fs))(hz:i.zero=some zv)
    (h1 : zv.cells.toList.all (·.oneCell') = true) {ps : List (Nat × Nat × Arg)} (hps : seqO (fun p : Nat × Operand => match fs[p.1]? with
          |some f=>(P.info? f.type).map fun j=>(f.offset,j.size,Arg.of p.2)
          |none=>none) parts.toList=some ps)
    (hfs:∀(k:Nat) f,fs[k]?=some f→∃j,P.info? f.type=some j)
    {z:TV} {u:Upd} (he:eff P C o.dst (.build zv.cells.toList ps) s=some (z,u)):u=.no∧z2U P B s z a w o:=by
  simp only[eff]at he
  obtain⟨qs,hq,he⟩:=gB he
  obtain⟨cs',hf,he⟩:=gO he
  cases he
  refine⟨rfl,?_⟩
  have hones:∀v∈zv.cells.toList,one v:=fun v hv=>List.all_eq_true.1 h1 v hv
  have hrel:=RelL.ofVals (w:=w) (E:=E) (r:=s.r) hones
  obtain⟨l1,hs1⟩:=z00 hps
  obtain⟨l2,hs2⟩:=z00 hq
  have hsz:∃places:Array (Nat×Nat),(fs.mapM (m:=Sem) fun f=>Prod.mk f.offset<$>sizeOf f.type).run P w=.ok places w∧∀(k:Nat) f j,fs[k]?=some f→P.info? f.type=some j→places[k]?=some (f.offset,j.size):=by
    have:∀(l:List Field),(∀f∈l,∃j,P.info? f.type=some j)→∃pl:List (Nat×Nat),(l.mapM (m:=Sem) fun f=>Prod.mk f.offset<$>sizeOf f.type).run P w=.ok pl w∧∀(k:Nat) f j,l[k]?=some f→P.info? f.type=some j→pl[k]?=some (f.offset,j.size):=by
      intro l
      induction l with
      |nil=>exact fun _=>⟨[],rfl,by simp⟩
      |cons f l ih=>
        intro hl
        obtain⟨pl,hp1,hp2⟩:=ih fun g hg=>hl g (List.mem_cons_of_mem _ hg)
        obtain⟨j,hj⟩:=hl f (List.mem_cons_self ..)
        refine⟨(f.offset,j.size)::pl,?_,fun k g q hk hq'=> ?_⟩
        · simp[List.mapM_cons,z2r hj,Result.andThen,hp1]
        · cases k with
          |zero=>simp at hk;subst hk;rw[hj]at hq';cases hq';rfl
          |succ k=>simpa using hp2 k g q (by simpa using hk) hq'
    obtain⟨pl,hp1,hp2⟩:=this fs.toList (fun f hf=>by
      obtain⟨k,hk⟩:=List.getElem?_of_mem hf
      exact hfs k f (by simpa using hk))
    refine⟨pl.toArray,?_,fun k f j hk hj=>by simpa using hp2 k f j (by simpa using hk) hj⟩
    rw[←Array.toArray_toList (xs:=fs),List.mapM_toArray]
    simp[hp1,Result.andThen]
  obtain⟨places,hpl,hplaces⟩:=hsz
  obtain⟨vs',hfill,hrel'⟩:=zaL (place:=fun k=>places[k]?) (parts:=(parts.map fun p=>(p.1,a.eval p.2)).toList) (ps:=qs) (vs:=zv.cells.toList) hrel (by simp;rw[←Array.length_toList,l1,l2]) (fun j p q hp hq'=>by
    simp only[Array.toList_map,List.getElem?_map]at hp
    obtain⟨⟨k,x⟩,hx,rfl⟩:=gO hp
    obtain⟨y,hy1,hy2⟩:=hs1 j (k,x) hx
    obtain⟨y',hy1',hy2'⟩:=hs2 j y hy1
    rw[hq']at hy1';cases hy1'
    dsimp only at hy2
    split at hy2
    · rename_i f hf1
      obtain⟨jj,hj1,hj2⟩:=gO hy2
      subst hj2
      dsimp only at hy2'
      obtain⟨xs,hxs,he2⟩:=gO hy2'
      subst he2
      obtain⟨ty,ht1,ht2⟩:=gB hxs
      obtain⟨us,hu1,hu2⟩:=z4i (zh h ht1) ht2
      exact⟨hplaces k f jj hf1 hj1,us,hu1,hu2⟩
    · cases hy2) hf
  refine z5H h (v:=.agg vs'.toArray) ?_ hrel'.agg
  have hzv:zv.cells.toList.toArray=zv.cells:=by simp
  rw[hzv]at hfill
  simp only[Array.toList_map]at hfill
  simp[execOp,ho,Instr.build,zeroValue,typeInfo,hi,hz,run_underlying hu,Result.andThen,hpl,hfill]
theorem zgN(h:Sim B s a w E){o:Oper}{t e:TypeId}{n:Nat}{parts:Array (Nat×Operand)}(ho:o.op=.build t parts){i j:TypeInfo}{zv:Value}(hi:P.info? t=some i)(hu:P.underlying t=some (.array n e))(hz:i.zero=some zv)(hj:P.info? e=some j)
  (h1:zv.cells.toList.all (·.oneCell')=true) {z:TV} {u:Upd} (he:eff P C o.dst (.build zv.cells.toList (parts.toList.map fun p=>(p.1*j.size,j.size,Arg.of p.2))) s=some (z,u)):u=.no∧z2U P B s z a w o:=by
 simp only[eff]at he;obtain⟨qs,hq,he⟩:=gB he;obtain⟨cs',hf,he⟩:=gO he;cases he;refine⟨rfl,?_⟩;have hones:∀v∈zv.cells.toList,one v:=fun v hv=>List.all_eq_true.1 h1 v hv;have hrel:=RelL.ofVals (w:=w) (E:=E) (r:=s.r) hones;obtain⟨l2,hs2⟩:=z00 hq;obtain⟨vs',hfill,hrel'⟩:=zaL (place:=fun k=>some (k*j.size,j.size)) (parts:=(parts.map fun p=>(p.1,a.eval p.2)).toList) (ps:=qs) (vs:=zv.cells.toList) hrel (by simp at l2 ⊢;omega) (fun q p y hp hq'=>by
  simp only[Array.toList_map,List.getElem?_map]at hp;obtain⟨⟨k,x⟩,hx,rfl⟩:=gO hp;obtain⟨y',hy1',hy2'⟩:=hs2 q (k*j.size,j.size,Arg.of x) (by rw[List.getElem?_map,hx];rfl);rw[hq']at hy1';cases hy1'
  dsimp only at hy2'
  obtain⟨xs,hxs,he2⟩:=gO hy2';subst he2;obtain⟨ty,ht1,ht2⟩:=gB hxs;obtain⟨us,hu1,hu2⟩:=z4i (zh h ht1) ht2;exact⟨rfl,us,hu1,hu2⟩) hf
 refine z5H h (v:=.agg vs'.toArray) ?_ hrel'.agg;have hzv:zv.cells.toList.toArray=zv.cells:=by simp
 rw[hzv]at hfill;simp only[Array.toList_map]at hfill;simp[execOp,ho,Instr.build,zeroValue,typeInfo,hi,hz,run_underlying hu,z2r hj,Result.andThen,hfill]
end
end
end Go.Sh
end
