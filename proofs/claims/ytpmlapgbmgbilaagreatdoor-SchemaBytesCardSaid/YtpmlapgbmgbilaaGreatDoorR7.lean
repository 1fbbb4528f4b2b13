/- Merged texts: S11. No statement of the program is proved here. -/
import Derived.Test.YtpmlapgbmgbilaaGreatDoorR6
import Derived.BigCall
import Derived.Laws.BytesString
import Derived.Laws.MakeOwn
set_option linter.unusedSimpArgs false
set_option linter.unusedVariables false
set_option maxRecDepth 100000
set_option maxHeartbeats 8000000
section
namespace Go.Sh
open Go Go.RowKit
section
section
variable{B:Base}{s:FS}{a:Act}{w w':World}{E E':Env}{r:Rows}{P:Program}{C:z0m}{g:Glob}
theorem ze3(op:BinOp)(t:TypeId)(x y:Operand)(vx vy:Value)(h:¬(vx=.nilIface∧vy=.nilIface)):eqGuard op t x y vx vy=eqGuard op t (.const vx) (.const vy) vx vy:=by
 unfold eqGuard
 grind
theorem z0R{o:Oper}{s':FS}{x:TV}(hd:z2U P B s' x a w o)(hdst:∀k,o.dst=some k→k<B.N){next:Act→World→Prop}{Q:Exit→Act→World→Prop}
  (hn:∀v w' E',Sim B (s'.put o.dst x) (a.put o.dst v) w' E'→next (a.put o.dst v) w'):o.wp P a w next Q:=by
 obtain⟨nx,v,w',E',h1,h2,h3,h4⟩:=hd;unfold Oper.wp;rw[h1];rcases h2 with rfl|⟨rfl,rfl⟩
 ·exact hn v w' E' (h3.put hdst h4)
 ·exact hn undef w' E' (h3.put hdst h4)
theorem z4h(h:Sim B s a w E){x:Option Operand}{dflt n:Nat}(hx:bound s dflt (x.map Arg.of)=some n):(x=none∧n=dflt)∨∃y k,x=some y∧a.eval y=.int k n:=by
 cases x with
 |none=>grind [bound]
 |some x=>
  obtain⟨i,h1,h2⟩:=gB hx;obtain⟨t,h3,h4⟩:=gB h1;split at h2
  ·rename_i h0;obtain⟨k,hk⟩:=z7c (zh h h3) h4
   grind
  ·cases h2
theorem z8l{t e:TypeId}{i:TypeInfo}(hu:P.underlying t=some (.slice e))(hi:P.info? e=some i)(p:Option Addr)(len cap:Nat)(lo hi':Option Value)(l h:Nat)(hl:(lo=none∧l=0)∨∃k,lo=some (.int k l))(hh:(hi'=none∧h=len)∨∃k,hi'=some (.int k h))(h1:l≤h)(h2:h≤len)(h3:len≤cap):
  (Instr.sliceAt t (.slice p len cap) lo hi' none).run P w=.ok (.slice (if cap=l then p else p.map (·.add (l*i.size))) (h-l) (cap-l)) w:=by
 have hb:(Instr.sliceBounds true len cap lo hi' none).run P w=.ok (l,h,cap) w:=by
  rcases hl with⟨rfl,rfl⟩|⟨k,rfl⟩<;>rcases hh with⟨rfl,rfl⟩|⟨k',rfl⟩
  ·simp[Instr.sliceBounds]
  ·simp[Instr.sliceBounds,Instr.sliceBound,asIntOf,Result.andThen]
   grind
  ·simp[Instr.sliceBounds,Instr.sliceBound,asIntOf,Result.andThen]
   grind
  ·simp[Instr.sliceBounds,Instr.sliceBound,asIntOf,Result.andThen]
   grind
 simp[Instr.sliceAt,Instr.slice,run_underlying hu,hb,z2r hi,Result.andThen]
theorem z8E{t:TV}{d:Nat}(h:d∈t.ids0):Ment d t:=by
 cases t<;>simp only[TV.ids0,List.mem_singleton,List.not_mem_nil]at h
 ·subst h;exact .ptr _
 ·subst h;exact .own _ _
 ·subst h;exact .bs _ _ _
theorem z8G{t:TV}{d:Nat}(h:d∈t.idsF):Ment d t:=by
 cases t with
 |fn f x y=>
  simp only[TV.idsF,List.mem_append,List.mem_flatMap]at h;rcases h with⟨c,h1,h2⟩|⟨c,h1,h2⟩
  ·exact .fn1 h1 (z8E h2)
  ·exact .fn2 h1 (z8E h2)
 |_=>exact z8E h
theorem zll{t:TV}{d:Nat}(h:d∈t.idsE):Ment d t:=by
 cases t with
 |agg cs=>
  simp only[TV.idsE,List.mem_flatMap]at h;obtain⟨c,h1,h2⟩:=h;exact .agg h1 (z8G h2)
 |_=>exact z8G h
theorem z6u{t:TV}{d:Nat}(h:d∈t.ids1):Ment d t:=by
 cases t with
 |mp ks xs=>
  simp only[TV.ids1,List.mem_flatMap]at h;obtain⟨c,h1,h2⟩:=h;exact .mp h1 (zll h2)
 |_=>exact z8G h
theorem z8F{t:TV}{d:Nat}(h:d∈t.ids2):Ment d t:=by
 cases t with
 |agg cs=>
  simp only[TV.ids2,List.mem_flatMap]at h;obtain⟨c,h1,h2⟩:=h;exact .agg h1 (z6u h2)
 |_=>exact z6u h
theorem z32{rows:Bool}:∀(n:Nat) (l seen:List Nat),seen.Nodup→(∀d∈seen,s.ment d)→(∀d∈l,s.ment d)→(zx s rows n l seen).Nodup∧∀d∈zx s rows n l seen,s.ment d
 |0,l,seen,h1,h2,_=>by simp only[zx];exact⟨h1,h2⟩
 |n+1,[],seen,h1,h2,_=>by simp only[zx];exact⟨h1,h2⟩
 |n+1,d::l,seen,h1,h2,h3=>by
  have hl:∀d∈l,s.ment d:=fun x hx=>h3 x (List.mem_cons_of_mem _ hx);have hd:=h3 d (List.mem_cons_self ..);simp only[zx];cases hp:pos seen d with
  |some j=>exact z32 n l seen h1 h2 hl
  |none=>
   have hnot:=z7U hp;have hnd:(seen++[d]).Nodup:=List.nodup_append.2 ⟨h1,by simp,by
    intro x hx y hy;simp at hy;subst hy;rintro rfl;exact hnot hx⟩
   have hms:∀x∈seen++[d],s.ment x:=by
    intro x hx;rcases List.mem_append.1 hx with hx|hx
    ·exact h2 x hx
    ·simp at hx;subst hx;exact hd
   cases hb:s.b d with
   |some cs=>
    refine z32 n _ _ hnd hms (fun x hx=> ?_);rcases List.mem_append.1 hx with hx|hx
    ·obtain⟨c,hc,hx⟩:=List.mem_flatMap.1 hx;exact .inr ⟨d,cs,c,hb,hc,z6u hx⟩
    ·exact hl x hx
   |none=>
    cases hr:s.r d with
    |none=>exact z32 n l seen h1 h2 hl
    |some q=>
     cases rows with
     |true=>exact z32 n l _ hnd hms hl
     |false=>exact z32 n l seen h1 h2 hl
def handI(s:FS)(mode:Nat)(xs:List TV):List Nat:=if Nat.beq mode 0 then [] else zx s (Nat.beq mode 2) 64 (xs.flatMap TV.ids2) []
theorem z7K(mode:Nat){xs:List TV}(h:∀x∈xs,∀d,Ment d x→s.ment d):(handI s mode xs).Nodup∧∀d∈handI s mode xs,s.ment d:=by
 unfold handI;split
 ·simp
 ·refine z32 _ _ _ (by simp) (by simp) (fun d hd=> ?_);obtain⟨x,hx,hd⟩:=List.mem_flatMap.1 hd;exact h x hx d (z8F hd)
theorem zae{k f mode:Nat}{xs:List TV}{x:TV}{u:Upd}(h:z2K C s k f mode xs=some (x,u)):∃xs' os y os' us,seqO (TV.ren2 (rhoIn (handI s mode xs))) xs=some xs'∧seqO (fun d=>(s.mo d).bind (MO.ren (rhoIn (handI s mode xs)))) (handI s mode xs)=some os∧
  C f xs' os=some (y,os')∧moOk os os'=true∧y.ren3 (rhoOut (handI s mode xs) k)=some x∧outs (rhoOut (handI s mode xs) k) 0 os'=some us∧u=.mem us:=by
 unfold z2K at h;simp only[]at h;split at h
 ·rename_i xs' os h1 h2;split at h
  ·rename_i y os' h3;split at h
   ·rename_i h4;split at h
    ·rename_i y' us h5 h6;cases h;exact⟨xs',os,y,os',us,h1,h2,h3,h4,h5,h6,rfl⟩
    ·cases h
   ·cases h
  ·cases h
 ·cases h
theorem zdW(h:Sim B s a w E)(hG:g.G B.w0)(hX:∀d b,B.X d b→g.n≤b){o:Oper}{f mode:Nat}{xs:List TV}{vs:List Value}(hmx:∀x∈xs,∀d,Ment d x→s.ment d)(hl:xs.length=vs.length)(hxs:∀(j:Nat) x v,xs[j]?=some x→vs[j]?=some v→RelT w E s.r x v)
  (hop:z4Y P f→(execOp a.eval o).run P w=.ok (.enter f vs.toArray) w) (hdst:∀k,o.dst=some k→k<B.N) (hC:∀f xs os y os',C f xs os=some (y,os')→SCalls P g f xs os y os') (hm0:B.m≤1000) (hf:∀q<4,z0y s (newId (dstId o.dst) q))
  {x:TV} {u:Upd} (he:z2K C s (dstId o.dst) f mode xs=some (x,u)) {next:Act→World→Prop} {Q:Exit→Act→World→Prop}
  (hn:∀v w' E',Sim B ((s.upd o.dst u).put o.dst x) (a.put o.dst v) w' E'→next (a.put o.dst v) w'):o.wp P a w next Q:=by
 obtain⟨xs',os,y,os',us,h1,h2,h3,h4,h5,h6,rfl⟩:=zae he;obtain⟨hI,_⟩:=z7K mode hmx;obtain⟨hbody,hcall⟩:=hC f xs' os y os' h3;have hn0:=g.le _ hG;have hGw:g.G w:=g.st _ _ hG (fun k hk=>h.mem.low.block k (by omega) (fun d hd=>by have:=hX d k hd;omega));have hrho:RenOk E s.r (rhoIn (handI s mode xs)) (zw E (handI s mode xs)) (zA os):=za1 h2;obtain⟨l1,q1⟩:=zb9 (w:=w) (fun _ _ _=>z56 hrho (fun _ _ _ h _=>h)) hl hxs h1;have hblk:∀d b,z2j (zw E (handI s mode xs)) os d b→g.n≤b:=by
  intro d b hx;obtain⟨hlen,hB,hR⟩:=z4E h2;rcases hx with⟨cs,e1,e2⟩|⟨⟨e,W,n⟩,cap,e1,e2⟩
  ·obtain⟨j,rfl,hj⟩:=z2x e1;obtain⟨i,c,b1,b2,_⟩:=hB j cs hj;have e3:E.β i=b:=by rw[←e2];simp only[zw];rw[getD_of b1]
   rcases(h.mem.box i c b2).2 with e4|e4<;>grind
  ·obtain⟨j,rfl,hj⟩:=z0V e1;obtain⟨i,b1,b2,b3⟩:=hR j e W n hj;have e3:E.γ i=some (b,cap):=by rw[←e2];simp only[zw];rw[getD_of b1]
   rcases h.mem.row i e W n b3 with⟨e4,_⟩|⟨b',c',e4,e5,_⟩<;>grind
 have hcalls:=hcall w (zw E (handI s mode xs)) vs hGw (z4T h hI h2) hblk l1 q1;unfold Oper.wp;rw[hop hbody];refine hcalls.mono ?_;rintro e w' ⟨v,E',rfl,hm,hv,hleft⟩;obtain⟨hS,hren⟩:=z6q h hI hm0 hf h2 h4 h6 hm hleft o.dst;exact hn v w' _ (hS.put hdst (zb5 hren (fun _ _ _ h _=>h) hv h5))
theorem z4X(h:Sim B s a w E){xs:List Operand}{ts:List TV}(hx:seqO (fun x:Arg=>x.get s) (xs.map Arg.of)=some ts):ts.length=(xs.map a.eval).length∧(∀(j:Nat) x v,ts[j]?=some x→(xs.map a.eval)[j]?=some v→RelT w E s.r x v)∧∀x∈ts,∀d,Ment d x→s.ment d:=by
 obtain⟨l1,h1⟩:=z00 hx;have key:∀(j:Nat) x,ts[j]?=some x→∃y,xs[j]?=some y∧(Arg.of y).get s=some x:=by
  intro j x hj;have hjl:j<xs.length:=by grind
  obtain⟨y,hy1,hy2⟩:=h1 j (Arg.of xs[j]) (by rw[List.getElem?_map,gE hjl];rfl)
  grind
 grind [zh,List.getElem?_of_mem,zZ]
theorem zou{t:TypeId}(hu:P.underlying t=some .string)(z:ByteArray)(lo hi':Option Value)(l h:Nat)(hl:(lo=none∧l=0)∨∃k,lo=some (.int k l))(hh:(hi'=none∧h=z.size)∨∃k,hi'=some (.int k h))(h1:l≤h)(h2:h≤z.size):
  (Instr.sliceAt t (.string z) lo hi' none).run P w=.ok (.string (z.extract l h)) w:=by
 have hb:(Instr.sliceBounds false z.size z.size lo hi' none).run P w=.ok (l,h,z.size) w:=by
  rcases hl with⟨rfl,rfl⟩|⟨k,rfl⟩<;>rcases hh with⟨rfl,rfl⟩|⟨k',rfl⟩
  ·simp[Instr.sliceBounds]
  ·simp[Instr.sliceBounds,Instr.sliceBound,asIntOf,Result.andThen]
   grind
  ·simp[Instr.sliceBounds,Instr.sliceBound,asIntOf,Result.andThen]
   grind
  ·simp[Instr.sliceBounds,Instr.sliceBound,asIntOf,Result.andThen]
   grind
 simp[Instr.sliceAt,Instr.slice,run_underlying hu,hb,Result.andThen]
theorem zqB{es:List (List PV)}{v:Value}{l:zB}(h:RelV w E.K (.sl 1 es) v)(hl:seqO byteOf es=some l):(Conv.bytesToString v).run P w=.ok (.string ⟨l.toArray⟩) w:=by
 obtain⟨b,off,cap,p,f,rfl,hp,hcap,hmax,hW,hc⟩:=z1g h;let num:List PV→Int:=fun e=>match e with|[.v (.int .u8 n)]=>n|_=>0
 have hes:∀(e:List PV) u,byteOf e=some u→e=[.v (.int .u8 (num e))]∧u=UInt8.ofNat (num e).toNat:=by
  intro e u he;unfold byteOf at he;split at he
  ·cases he;exact⟨rfl,rfl⟩
  ·cases he
 have hfold:∀(es:List (List PV)) (l:zB) (acc:ByteArray),seqO byteOf es=some l→(es.map num).foldl (fun r n=>r.push (UInt8.ofNat n.toNat)) acc=⟨acc.data++l.toArray⟩:=by
  intro es
  induction es with
  |nil=>intro l acc hl;simp[seqO]at hl;subst hl;simp
  |cons e r ih=>
   intro l acc hl;obtain⟨y,zs,h1,h2,rfl⟩:=z6E hl;simp;rw[ih zs _ h2,←(hes e y h1).2];cases acc;simp[ByteArray.push]
 cases p with
 |none=>
  have:es=[]:=by
   apply Classical.byContradiction;intro hne;have:=hp hne;cases this
  subst this;simp[seqO]at hl;subst hl;simp[Conv.bytesToString];rfl
 |some ad=>
  have hload:(loadCells ad es.length).run P w=.ok ((es.map num).map (Value.int .u8)).toArray w:=by
   have:=run_loadCells_list (P:=P) (w:=w) ad ((es.map num).map (Value.int .u8)) (fun j v hv=>by
    simp only[List.getElem?_map,Option.map_map]at hv;obtain⟨e,he,rfl⟩:=gO hv;obtain⟨l1,h1⟩:=z00 hl;obtain⟨u,_,hu⟩:=h1 j e he;obtain⟨e1,_⟩:=hes e u hu;have hpe:=hp (by rintro rfl;simp at he);have had:ad=⟨b,off,none⟩:=Option.some.inj hpe;subst had;obtain⟨⟨_,h2,_⟩,h3⟩:=hc j 0 e (.v (.int .u8 (num e))) he (by rw[e1];rfl);rw[Addr.add_mid];have hv:f j 0=.int .u8 (num e):=by
     generalize f j 0=q at h3;cases h3;rfl
    rw[hv]at h2;simpa using h2)
   simpa using this
  rw[run_bytesToString w ad es.length cap _ hload,hfold es l _ hl];simp
theorem zm8{xs ys:List TV}{us vs:List Value}(h1:xs.length=us.length)(h2:ys.length=vs.length)(r1:∀(j:Nat) c v,xs[j]?=some c→us[j]?=some v→RelT w E r c v)(r2:∀(j:Nat) c v,ys[j]?=some c→vs[j]?=some v→RelT w E r c v):
  ∀(j:Nat) c v,(xs++ys)[j]?=some c→(us++vs)[j]?=some v→RelT w E r c v:=by
 grind
theorem ziD{t:TV}{v:Value}{f:Nat}{fa fb:List TV}(h:RelT w E r t v)(ht:t.callee=some (f,fa,fb)):∃us cs:List Value,v=.func (.func f) us.toArray cs.toArray∧fa.length=us.length∧fb.length=cs.length∧
  (∀(j:Nat) c v,fa[j]?=some c→us[j]?=some v→RelT w E r c v)∧(∀(j:Nat) c v,fb[j]?=some c→cs[j]?=some v→RelT w E r c v)∧∀x,(x∈fa∨x∈fb)→∀d,Ment d x→Ment d t:=by
 unfold TV.callee at ht;split at ht
 ·cases ht;cases h with
  |fn g xs ys us vs h1 h2 r1 r2=>
  exact⟨us,vs,rfl,h1,h2,r1,r2,fun x hx d hd=>hx.elim (fun hx=> .fn1 hx hd) (fun hx=> .fn2 hx hd)⟩
 ·cases ht;cases h with
  |pv h=>
  cases h with
  |fn g xs ys us vs h1 h2 r1 r2=>
  refine⟨us,vs,rfl,by simpa using h1,by simpa using h2,fun j c v hc hv=> ?_,fun j c v hc hv=> ?_,fun x hx d hd=> ?_⟩
  ·rw[List.getElem?_map]at hc;obtain⟨p,hp,rfl⟩:=gO hc;exact .pv (r1 j p v hp hv)
  ·rw[List.getElem?_map]at hc;obtain⟨p,hp,rfl⟩:=gO hc;exact .pv (r2 j p v hp hv)
  ·rcases hx with hx|hx
   ·obtain⟨p,_,rfl⟩:=List.mem_map.1 hx;cases hd
   ·obtain⟨p,_,rfl⟩:=List.mem_map.1 hx;cases hd
 ·cases ht;cases h with
  |pv h=>
  cases h<;>grind
 ·cases ht
theorem zdC(z:Array Value)(hz:0<z.size):∀n,(madeCells z (n*z.size)).toList=(List.replicate n z.toList).flatten
 |0=>by simp[madeCells]
 |n+1=>by
  have ih:=zdC z hz n;simp only[madeCells,Array.toList_map,Array.toList_range]at ih ⊢;rw[Nat.add_mul,Nat.one_mul,List.range_add,List.map_append,ih,List.replicate_succ',List.flatten_append];congr 1;apply List.ext_getElem?;intro j;rcases Nat.lt_or_ge j z.size with hj|hj
  ·have e:(n*z.size+j)%z.size=j:=by rw[Nat.mul_comm,Nat.mul_add_mod,Nat.mod_eq_of_lt hj]
   simp[hj,e]
  ·rw[List.getElem?_eq_none (by simpa using hj),List.getElem?_eq_none (by simpa using hj)]
theorem znq(h:Sim B s a w E)(tt:Bool){o:Oper}{t e:TypeId}{la:Nat}(hop:o.op=.makeSlice t (.tmp la) (.tmp la))(hu:P.underlying t=some (.slice e)){i:TypeInfo}{zv:Value}(hi:P.info? e=some i)(hz:i.zero=some zv)(hzl:zv.cells.size=i.size∧0<i.size∧zv.cells.toList.all (·.oneCell')=true)
  {d:Nat} (hd:o.dst=some d) (hno:¬B.old d) (hf:z0y s d) {k:Int} (hk:(Arg.tmp la).get s=some (.pv (.v (.int .i64 k)))) (hle:0≤k∧(i.bytes:Int)*k≤140737488355328∧k≤maxLen):
  z2U P B (s.upd o.dst (.box ((List.replicate k.toNat (zv.cells.toList.map fun v=>TV.pv (.v v))).flatten))) (.bs d 0 k.toNat (if tt then 0 else k.toNat)) a w o:=by
 have hv:=val_rel (y:=.int .i64 k) (zh h (x:=.tmp la) hk) rfl;have h63:k≤9223372036854775807:=by have:=hle.2.2;simp only[maxLen]at this;omega
 have hrun:=run_make (P:=P) w t e i zv hu hi hz .i64 .i64 k k hle.1 (Int.le_refl _) (by have:=hle.2.1;omega) h63;have hmade:(madeCells zv.cells (k.toNat*i.size)).toList=(List.replicate k.toNat zv.cells.toList).flatten:=by grind [zdC]
 have hmap:(List.replicate k.toNat (zv.cells.toList.map fun v=>TV.pv (.v v))).flatten=((List.replicate k.toNat zv.cells.toList).flatten).map fun v=>TV.pv (.v v):=by simp
 have ho:∀v∈(List.replicate k.toNat zv.cells.toList).flatten,one v:=by
  grind [List.mem_flatten]
 have hrel:=RelL.ofVals (w:=w) (E:=E) (r:=s.r) ho;obtain⟨E',hE,hS⟩:=h.newB hno hf e _ _ hrel.len hrel.at_ ho (by
  intro c hc hmc;obtain⟨v,_,rfl⟩:=List.mem_map.1 hc;cases hmc)
 have harr:(List.replicate k.toNat zv.cells.toList).flatten.toArray=madeCells zv.cells (k.toNat*i.size):=by grind
 rw[harr]at hS;refine⟨.value (.slice (some ⟨w.heap.size,0,none⟩) k.toNat k.toNat),_,w.alloc (.cells (madeCells zv.cells (k.toNat*i.size)) e),E',?_,.inl rfl,by rw[hd,hmap];exact hS,?_⟩
 ·simp[execOp,hop,hv,hrun,Result.andThen]
 ·rw[←hE];exact .bs d 0 _ _ _ (by cases tt<;>simp<;>omega) (by cases tt<;>simp) (by have:=hle.2.2;omega)
theorem zmg{t:TypeId}{p q:Array TypeId}{r:Bool}(hu:P.underlying t=some (.func p q r)):(Op.equal t .nilFunc .nilFunc).run P w=.ok true w:=by
 show(Op.equalIn (Op.maxDepth-1+1) t .nilFunc .nilFunc).run P w=_;rw[Op.equalIn];simp[run_underlying hu,Result.andThen]
theorem zmh{t:TypeId}{p q:Array TypeId}{r:Bool}(hu:P.underlying t=some (.func p q r)){f:Fn}{c d:Array Value}:(Op.equal t (.func f c d) .nilFunc).run P w=.ok false w:=by
 show(Op.equalIn (Op.maxDepth-1+1) t (.func f c d) .nilFunc).run P w=_;rw[Op.equalIn];simp[run_underlying hu,Result.andThen]
theorem zmm(h:Sim B s a w E){o:Oper}{sop:SOp}{hint:Nat}(hm0:B.m≤1000)(hN:B.N≤1000)(hG:g.G B.w0)(hX:∀d b,B.X d b→g.n≤b)(ht:zo P o hint=some sop)(hdst:∀k,o.dst=some k→k<B.N)(hf:∀d∈sop.news o.dst,z0y s d)(hC:∀f xs os y os',C f xs os=some (y,os')→SCalls P g f xs os y os')
  {x:TV} {u:Upd} (he:eff P C o.dst sop s=some (x,u)) {next:Act→World→Prop} {Q:Exit→Act→World→Prop}
  (hn:∀v w' E',Sim B ((s.upd o.dst u).put o.dst x) (a.put o.dst v) w' E'→next (a.put o.dst v) w'):o.wp P a w next Q:=by
 have hno:∀d,o.dst=some d→¬B.old d:=fun d hd ho=>Nat.not_lt.2 (Nat.le_trans hN ho.1) (hdst d hd);have vD:∀{v:Value},u=.no→(execOp a.eval o).run P w=.ok (.value v) w→RelT w E s.r x v→o.wp P a w next Q:=by
  rintro v rfl hr hx;exact z0R (z5H h hr hx) hdst hn
 have nD:u=.no∧z2U P B s x a w o→o.wp P a w next Q:=by
  rintro⟨rfl,hd⟩;exact z0R hd hdst hn
 cases hop:o.op with
 |move z=>
  simp only[zo,hop,Option.some.injEq]at ht;subst ht;obtain⟨v,h1,h2⟩:=gO he;cases h2;exact vD rfl (by simp[execOp,hop]) (zh h h1)
 |assign z=>
  simp only[zo,hop,Option.some.injEq]at ht;subst ht;obtain⟨v,h1,h2⟩:=gO he;cases h2;exact vD rfl (by simp[execOp,hop]) (zh h h1)
 |pick c y z=>
  simp only[zo,hop,Option.some.injEq]at ht;subst ht;simp only[eff]at he;split at he
  ·rename_i t hc;have hc':=val_rel (y:=.bool t) (zh h hc) rfl;obtain⟨v,h1,h2⟩:=gO he;cases h2;cases t
   ·exact vD rfl (by simp[execOp,hop,hc',asBool]) (zh h h1)
   ·exact vD rfl (by simp[execOp,hop,hc',asBool]) (zh h h1)
  ·cases he
 |alloc t=>
  simp only[zo,hop]at ht;split at ht<;>try(cases ht;done)
  rename_i i hi;split at ht<;>try(cases ht;done)
  rename_i zv hz;split at ht<;>try(cases ht;done)
  rename_i h1;cases ht;exact z0R (znr h hop hno (fun d hd=>hf d (by simp[SOp.news,hd])) hi hz h1 he) hdst hn
 |box t z=>
  simp only[zo,hop,Option.some.injEq]at ht;subst ht;exact z0R (zno h hop hno (fun d hd=>hf d (by simp[SOp.news,hd])) he) hdst hn
 |build t parts=>
  simp only[zo,hop]at ht;split at ht<;>try(cases ht;done)
  ·rename_i i fs hi hu;split at ht<;>try(cases ht;done)
   rename_i zv hz;split at ht<;>try(cases ht;done)
   rename_i h1;obtain⟨ps,h2,rfl⟩:=gO ht;rw[Bool.and_eq_true]at h1;exact nD (ziO h hop hi hu hz h1.1 h2 (fun k f hk=>by
    have:=Array.all_eq_true.1 h1.2 k (gA hk).1;rw[(gA hk).2]at this;exact Option.isSome_iff_exists.1 this) he)
  ·rename_i i n e hi hu;split at ht<;>try(cases ht;done)
   rename_i zv j hz hj;split at ht<;>try(cases ht;done)
   rename_i h1;cases ht;exact nD (zgN h hop hi hu hz hj h1 he)
 |buildSlice t len parts=>
  simp only[zo,hop]at ht;split at ht<;>try(cases ht;done)
  rename_i e hu;split at ht<;>try(cases ht;done)
  rename_i i hi;split at ht<;>try(cases ht;done)
  rename_i zv hz;split at ht
  rotate_left
  ·split at ht<;>try(cases ht;done)
   rename_i hl0;cases ht;simp only[eff,Option.some.injEq,Prod.mk.injEq]at he;obtain⟨rfl,rfl⟩:=he;rw[Bool.and_eq_true,List.isEmpty_iff]at hl0;obtain rfl:=Nat.eq_of_beq_eq_true hl0.1;have hp0:parts= #[]:=by rw[←Array.toArray_toList (xs:=parts),hl0.2]
   have hrun:(Instr.buildSlice t 0 #[]).run P w=.ok (.slice (some ⟨w.heap.size,0,none⟩) 0 0) (w.alloc (.cells #[] e)):=by
    simp[Instr.buildSlice,run_underlying hu,sizeOf,typeInfo,hi,Instr.fill,newRow];congr 2;apply Array.ext<;>simp
   have hb:Below w.heap.size w (w.alloc (.cells #[] e)):=(Below.refl _ _).alloc (Nat.le_refl _) _;refine z0R (s':=s) ⟨.value (.slice (some ⟨w.heap.size,0,none⟩) 0 0),_,w.alloc (.cells #[] e),E,?_,.inl rfl,h.ext hb E (fun _ _ h=>h) (fun _ _ h=> .inl h) (fun _ _=>⟨rfl,rfl⟩) (fun _ _ _=>rfl) (fun _ _=>⟨rfl,rfl⟩),?_⟩ hdst hn
   ·simp[execOp,hop,hp0,hrun,Result.andThen]
   ·exact .tsl i.size [] _ (.sl i.size [] w.heap.size 0 0 _ (fun _ _=>undef) (by simp) (by simp) (Nat.zero_le _) (by simp) (by simp) (by simp))
  rename_i h1;cases hin2:Nat.beq hint 2 with
  |true=>
   rw[hin2]at ht;simp only[if_true,Option.some.injEq]at ht;subst ht;simp only[eff]at he;split at he
   ·rename_i d es hd hes;split at he
    ·rename_i hall;cases he;have hel:∀e'∈es,e'.length=i.size:=fun e' he'=>by simpa using List.all_eq_true.1 hall e' he'
     have:=zkP (P:=P) h hop hu hi hz h1 (hno d hd) (hf d (by simp[SOp.news,hd])) hes hel;rw[hd]at hn hdst;refine z0R (s':=s.setB d es.flatten) this (by rw[hd];exact hdst) (by rw[hd];exact hn)
    ·cases he
   ·cases he
  |false=>
  rw[hin2]at ht;simp only[Bool.false_eq_true,if_false]at ht;cases hin:Nat.beq hint 1 with
  |false=>
   rw[hin]at ht;simp only[Bool.false_eq_true,if_false,Option.some.injEq]at ht;subst ht;exact nD (znp h hop hu hi hz h1 he)
  |true=>
   rw[hin]at ht;simp only[if_true,Option.some.injEq]at ht;subst ht;simp only[eff]at he;split at he
   ·rename_i d es hd hes;split at he
    ·rename_i hall;cases he;have hel:∀e'∈es,e'.length=i.size:=fun e' he'=>by simpa using List.all_eq_true.1 hall e' he'
     have:=zkQ (P:=P) h hop hu hi hz h1 (hno d hd) (hf d (by simp[SOp.news,hd])) hes hel;rw[hd]at hn hdst;refine z0R (s':=s.setR d (e,i.size,es.length)) this (by rw[hd];exact hdst) (by rw[hd];exact hn)
    ·cases he
   ·cases he
 |load t z=>
  simp only[zo,hop]at ht;split at ht<;>try(cases ht;done)
  rename_i d i hu hi;cases ht;exact nD (zpM h hop hu hi he)
 |store t y z=>
  simp only[zo,hop]at ht;split at ht<;>try(cases ht;done)
  rename_i i hi;cases ht;exact z0R (zpN h hop hi he) hdst hn
 |nilCheck z=>
  simp only[zo,hop,Option.some.injEq]at ht;subst ht;simp only[eff]at he;split at he
  ·rename_i d off hz;cases he;have hx:=zh h hz;generalize hv:a.eval z=v at hx;cases hx;exact vD rfl (by simp[execOp,hop,hv]) (.ptr d off)
  ·rename_i cs hz;cases he;have hx:=zh h hz;generalize hv:a.eval z=v at hx;cases hx with
   |pv hx=>
   cases hx with
   |el _ b off f h1 h2=>exact vD rfl (by simp[execOp,hop,hv]) (.pv (.el cs b off f h1 h2))
  ·cases he
 |binOp op t y z t'=>
  simp only[zo,hop]at ht;have nilK:∀ne:Bool,eff P C o.dst (.fnil ne (.of y)) s=some (x,u)→z=.const .nilFunc→op=(if ne then .neq else .eql)→(∃p q r,P.underlying t=some (.func p q r))→o.wp P a w next Q:=by
   intro ne he hz hq hu;simp only[eff]at he;obtain⟨b,h1,h2⟩:=gO he;cases h2;obtain⟨ty,hy1,hy2⟩:=gB h1;have hx:=zh h hy1;obtain⟨p,q,r,hu⟩:=hu;have hrun:(execOp a.eval o).run P w=.ok (.value (.bool (b !=ne))) w:=by
    generalize hv:a.eval y=v at hx;have hez:a.eval (.const .nilFunc)=.nilFunc:=rfl;have hv2:(b=true∧v=.nilFunc)∨(b=false∧∃f c d,v=.func f c d):=by
     cases hx with
     |fn g xs ys us vs _ _ _ _=>simp only[TV.fnil,Option.some.injEq]at hy2;exact .inr ⟨hy2.symm,_,_,_,rfl⟩
     |pv hx=>
      cases hx with
      |fn g xs ys us vs _ _ _ _=>simp only[TV.fnil,Option.some.injEq]at hy2;exact .inr ⟨hy2.symm,_,_,_,rfl⟩
      |v=>
       cases v<;>simp only[TV.fnil,Option.some.injEq,reduceCtorEq]at hy2
       ·exact .inr ⟨hy2.symm,_,_,_,rfl⟩
       ·exact .inl ⟨hy2.symm,rfl⟩
      |_=>simp[TV.fnil]at hy2
     |_=>simp[TV.fnil]at hy2
    rcases hv2 with⟨rfl,rfl⟩|⟨rfl,f,c,d,rfl⟩<;>cases ne<;>simp only[Bool.false_eq_true,if_false,if_true]at hq<;>subst hq<;>subst hz<;>
     simp only[execOp,hop,hv,hez,eqGuard,binOp,zmg hu,zmh hu,Sem.run_bind,Result.andThen]<;>rfl
   exact vD rfl hrun (.pv (.v _))
  split at ht
  ·rename_i hu;simp only[Option.some.injEq]at ht;subst ht;exact nilK false he rfl rfl ⟨_,_,_,hu⟩
  ·rename_i hu;simp only[Option.some.injEq]at ht;subst ht;exact nilK true he rfl rfl ⟨_,_,_,hu⟩
  rename_i z op _ _ _ _ _;simp only[Option.some.injEq]at ht;subst ht;simp only[eff]at he;split at he
  ·cases he
  ·rename_i vx vy hne hx hy;obtain⟨v,rfl,rfl,hrun⟩:=zb8 he;have e1:=z9D h hx;have e2:=z9D h hy;have hq:=ze3 op t y z vx vy (fun hh=>hne hh.1 hh.2);have hr:=hrun w;refine vD rfl (v:=v) ?_ (.pv (.v v));simp only[execOp,hop,e1,e2];rw[hq];simp only[Sem.run_bind]at hr ⊢;rw[hr];rfl
  ·cases he
 |unOp op t y=>
  simp only[zo,hop,Option.some.injEq]at ht;subst ht;simp only[eff]at he;split at he
  ·rename_i vx hx;obtain⟨v,rfl,rfl,hrun⟩:=zb8 he;exact vD rfl (by simp[execOp,hop,z9D h hx,hrun w,Result.andThen]) (.pv (.v v))
  ·cases he
 |convert src dst y=>
  simp only[zo,hop]at ht;split at ht<;>try(cases ht;done)
  ·rename_i k1 k2 hs hd;cases ht;simp only[eff]at he;obtain⟨n,h1,h2⟩:=gO he;cases h2;obtain⟨ty,hy1,hy2⟩:=gB h1;obtain⟨k,hk⟩:=z7c (zh h hy1) hy2;exact vD rfl (v:=.int k2 (k2.wrap n)) (by simp[execOp,hop,hk,convert,run_underlying hs,run_underlying hd,Conv.intToInt,Result.andThen]) (.pv (.v _))
  ·rename_i hs hd;cases ht;simp only[eff]at he;obtain⟨n,h1,h2⟩:=gO he;cases h2;obtain⟨ty,hy1,hy2⟩:=gB h1;have hk:=z59 (zh h hy1) hy2;exact vD rfl (v:=.string n) (by simp[execOp,hop,hk,convert,run_underlying hs,run_underlying hd,Result.andThen]) (.pv (.v _))
  ·rename_i e hs hd;split at ht<;>try(cases ht;done)
   rename_i he8;cases ht;simp only[eff]at he;obtain⟨l,h1,h2⟩:=gO he;cases h2;obtain⟨es,hes,hl⟩:=gB h1;obtain⟨ty,hy1,hy2⟩:=gB hes;have hrel:=z3j (zh h hy1) hy2;have hb:=zqB (P:=P) hrel hl;obtain⟨b,off,cap,p,f,hv,_⟩:=z1g hrel;rw[hv]at hb;exact vD rfl (v:=.string ⟨l.toArray⟩) (by simp[execOp,hop,hv,convert,run_underlying hs,run_underlying hd,run_underlying he8,hb,Result.andThen]) (.pv (.v _))
 |slice t y lo hi mx=>
  cases mx with
  |some m=>simp[zo,hop]at ht
  |none=>
   simp only[zo,hop]at ht;split at ht
   ·rename_i hu;cases ht;simp only[eff]at he;split at he
    ·rename_i z hz;obtain⟨ty,hy1,hy2⟩:=gB hz;have hv:=z59 (zh h hy1) hy2;split at he
     ·rename_i l hh hl1 hh1;split at he
      ·rename_i hle;cases he;have hl2:=z4h h hl1;have hh2:=z4h h hh1;have hrun:=zou (P:=P) (w:=w) hu z (lo.map a.eval) (hi.map a.eval) l hh
        (hl2.imp (fun⟨h1,h2⟩=>⟨by rw[h1];rfl,h2⟩) (fun⟨q,k,h1,h2⟩=>⟨k,by rw[h1,Option.map_some,h2]⟩))
        (hh2.imp (fun⟨h1,h2⟩=>⟨by rw[h1];rfl,h2⟩) (fun⟨q,k,h1,h2⟩=>⟨k,by rw[h1,Option.map_some,h2]⟩)) hle.1 hle.2
       exact vD rfl (v:=.string (z.extract l hh)) (by simp[execOp,hop,hv,hrun,Result.andThen]) (.pv (.v _))
      ·cases he
     ·cases he
    ·cases he
   ·rename_i e hu;split at ht<;>try(cases ht;done)
    rename_i i hi';cases ht;simp only[eff]at he;split at he
    ·rename_i d off n c hbs;have hx:=zh h hbs;generalize hv:a.eval y=v at hx;cases hx with
     |bs _ _ _ _ C hnc hcC hCm=>
     split at he
     ·rename_i l hh hl1 hh1;split at he
      ·rename_i hle;cases he;have hl2:=z4h h hl1;have hh2:=z4h h hh1;have hrun:=z8l (P:=P) (w:=w) hu hi' (some ⟨E.β d,off,none⟩) n C (lo.map a.eval) (hi.map a.eval) l hh
        (hl2.imp (fun⟨h1,h2⟩=>⟨by rw[h1];rfl,h2⟩) (fun⟨q,k,h1,h2⟩=>⟨k,by rw[h1,Option.map_some,h2]⟩))
        (hh2.imp (fun⟨h1,h2⟩=>⟨by rw[h1];rfl,h2⟩) (fun⟨q,k,h1,h2⟩=>⟨k,by rw[h1,Option.map_some,h2]⟩)) hle.1 hle.2.1 (by omega)
       refine vD rfl (v:=.slice (if C=l then some ⟨E.β d,off,none⟩ else(some (⟨E.β d,off,none⟩:Addr)).map (·.add (l*i.size))) (hh-l) (C-l)) (by simp only[execOp,hop,hv,Option.map_none];rw[Sem.run_bind,hrun];rfl) ?_;by_cases hcl:c=l
       ·have h0:hh-l=0:=by omega
        rw[if_pos hcl,h0];exact .pv (.sl i.size [] 0 0 (C-l) _ (fun _ _=>undef) (by simp) (Nat.zero_le _) (by omega) (by simp) (by simp) (by simp))
       ·have h0:¬C=l:=by omega
        simp only[if_neg h0,if_neg hcl,Option.map_some,Addr.add_mid];exact .bs d _ _ _ _ (.inl ⟨by omega,by omega⟩) (by omega) (by omega)
      ·cases he
     ·cases he
    ·rename_i ty hnb hy1;split at he<;>try(cases he;done)
     rename_i es hy2;have hrel:=z3j (zh h hy1) hy2;obtain⟨b,off,cap,p,f,hv,hp,hcap,hmax,hW,hc⟩:=z1g hrel;split at he
     ·rename_i l hh hl1 hh1;split at he
      ·rename_i hle;cases he;have hl2:=z4h h hl1;have hh2:=z4h h hh1;have hrun:=z8l (P:=P) (w:=w) hu hi' p es.length cap (lo.map a.eval) (hi.map a.eval) l hh
        (hl2.imp (fun⟨h1,h2⟩=>⟨by rw[h1];rfl,h2⟩) (fun⟨q,k,h1,h2⟩=>⟨k,by rw[h1,Option.map_some,h2]⟩))
        (hh2.imp (fun⟨h1,h2⟩=>⟨by rw[h1];rfl,h2⟩) (fun⟨q,k,h1,h2⟩=>⟨k,by rw[h1,Option.map_some,h2]⟩)) hle.1 hle.2 hcap
       refine vD rfl (v:=.slice (if cap=l then p else p.map (·.add (l*i.size))) (hh-l) (cap-l)) ?_ (.pv ?_)
       ·simp[execOp,hop,hv,hrun,Result.andThen]
       ·have hlen:((es.take hh).drop l).length=hh-l:=by simp;omega
        have hget:∀(k:Nat) ps,((es.take hh).drop l)[k]?=some ps→es[l+k]?=some ps∧k<hh-l:=by
         intro k ps hk;have hk':k<hh-l:=by rw[←hlen];exact(gJ hk).1
         rw[List.getElem?_drop,List.getElem?_take_of_lt (by omega)]at hk;exact⟨hk,hk'⟩
        rw[←hlen];refine .sl i.size _ b (off+l*i.size) (cap-l) _ (fun k j=>f (l+k) j) (fun hne=> ?_) (by rw[hlen];omega) (by omega) (fun cs hcs=>hW cs (List.mem_of_mem_take (List.mem_of_mem_drop hcs))) (fun k j ps c h1 h2=> ?_) (fun k j ps c h1 h2=> ?_)
        ·have h0:0<hh-l:=by rw[←hlen];exact List.length_pos_iff.2 hne
         have hpe:=hp (by rintro rfl;simp at hle;omega);rw[if_neg (by omega),hpe];simp[Addr.add_mid]
        ·obtain⟨h3,_⟩:=hget k ps h1;have:=(hc (l+k) j ps c h3 h2).1;rw[Nat.add_mul,←Nat.add_assoc]at this;exact this
        ·obtain⟨h3,_⟩:=hget k ps h1;exact(hc (l+k) j ps c h3 h2).2
      ·cases he
     ·cases he
    ·cases he
   ·cases ht
 |fieldAddr t y k=>
  simp only[zo,hop]at ht;split at ht<;>try(cases ht;done)
  rename_i fs hu;split at ht<;>try(cases ht;done)
  rename_i fd hfd;split at ht<;>try(cases ht;done)
  rename_i i hi;split at ht
  ·cases ht
  rename_i hsz;cases ht;have hrun:∀(b off:Nat),(Instr.fieldAt t (.pointer (some ⟨b,off,none⟩)) k).run P w=.ok (.pointer (some ⟨b,off+fd.offset,none⟩)) w:=by
   intro b off;simp[Instr.fieldAt,run_underlying hu,hfd,Instr.sureAddr,fieldPlace,z2r hi,hsz,Addr.add_mid,Result.andThen]
  simp only[eff]at he;split at he
  ·rename_i d off hz;cases he;have hx:=zh h hz;generalize hv:a.eval y=v at hx;cases hx;exact vD rfl (by simp[execOp,hop,hv,hrun,Result.andThen]) (.ptr d (off+fd.offset))
  ·rename_i cs hz;cases he;have hx:=zh h hz;generalize hv:a.eval y=v at hx;cases hx with
   |pv hx=>
   cases hx with
   |el _ b off f h1 h2=>
    refine vD rfl (v:=.pointer (some ⟨b,off+fd.offset,none⟩)) (by simp[execOp,hop,hv,hrun,Result.andThen]) (.pv ?_);refine .el _ b (off+fd.offset) (fun j=>f (fd.offset+j)) (fun j c hc=> ?_) (fun j c hc=>h2 _ c (by simpa using hc));have:=h1 (fd.offset+j) c (by simpa using hc);rw[←Nat.add_assoc]at this;exact this
  ·cases he
 |field t y k=>
  simp only[zo,hop]at ht;split at ht<;>try(cases ht;done)
  rename_i fs hu;split at ht<;>try(cases ht;done)
  rename_i fd hfd;split at ht<;>try(cases ht;done)
  rename_i i d hi hd;cases ht;simp only[eff]at he;split at he
  ·rename_i cs hz;have hx:=zh h hz;generalize hv:a.eval y=v at hx;cases hx with
   |agg _ vs hl hat hones=>
   have hL:RelL w E s.r cs vs:=⟨hl,hat,hones⟩
   cases hR:d.isRow with
   |true=>
    simp only[hR,if_true]at he;split at he
    ·cases he;refine vD rfl (v:=.agg ((vs.drop fd.offset).take i.size).toArray) ?_ (((hL.drop _).take _).agg);simp[execOp,hop,hv,Instr.field,run_underlying hu,hfd,asAgg,part,z9g hd,hR,z2r hi,Result.andThen]
    ·cases he
   |false=>
    simp only[hR,Bool.false_eq_true,if_false]at he;obtain⟨c,hc,h2⟩:=gO he;cases h2;have hlt:fd.offset<vs.length:=by rw[←hl];exact(gJ hc).1
    refine vD rfl (v:=vs[fd.offset]) ?_ (hat _ _ _ hc (gE hlt));simp[execOp,hop,hv,Instr.field,run_underlying hu,hfd,asAgg,part,z9g hd,hR,hlt,Result.andThen]
  ·cases he
 |indexAddr t y z=>
  simp only[zo,hop]at ht;split at ht<;>try(cases ht;done)
  rotate_left
  ·rename_i n e hu;split at ht<;>try(cases ht;done)
   rename_i kk k i hi;split at ht<;>try(cases ht;done)
   rename_i h0;cases ht;have hez:a.eval (.const (.int kk k))=.int kk k:=rfl;have hrun:∀(b off:Nat),(Instr.indexAt t (.pointer (some ⟨b,off,none⟩)) (.int kk k)).run P w=.ok (.pointer (some ⟨b,off+k.toNat*i.size,none⟩)) w:=by
    intro b off;simp[Instr.indexAt,asIntOf,run_underlying hu,h0.1,h0.2,Instr.sureAddr,z2r hi,Addr.add_mid,Result.andThen]
   simp only[eff]at he;split at he
   ·rename_i d off hz;cases he;have hx:=zh h hz;generalize hv:a.eval y=v at hx;cases hx;exact vD rfl (by simp[execOp,hop,hv,hez,hrun,Result.andThen]) (.ptr d (off+k.toNat*i.size))
   ·rename_i cs hz;cases he;have hx:=zh h hz;generalize hv:a.eval y=v at hx;cases hx with
    |pv hx=>
    cases hx with
    |el _ b off f h1 h2=>
     refine vD rfl (v:=.pointer (some ⟨b,off+k.toNat*i.size,none⟩)) (by simp[execOp,hop,hv,hez,hrun,Result.andThen]) (.pv ?_);refine .el _ b (off+k.toNat*i.size) (fun j=>f (k.toNat*i.size+j)) (fun j c hc=> ?_) (fun j c hc=>h2 _ c (by simpa using hc));have:=h1 (k.toNat*i.size+j) c (by simpa using hc);rw[←Nat.add_assoc]at this;exact this
   ·cases he
  rename_i e hu;split at ht<;>try(cases ht;done)
  rename_i i hi;cases ht;simp only[eff]at he;split at he
  ·rename_i d off n c k hbs hk;split at he
   ·rename_i h0;cases he;obtain⟨tz,hz1,hz2⟩:=gB hk;obtain⟨kk,hkk⟩:=z7c (zh h hz1) hz2;have hx:=zh h hbs;generalize hv:a.eval y=v at hx;cases hx;refine vD rfl (v:=.pointer (some ⟨E.β d,off+k.toNat*i.size,none⟩)) ?_ (.ptr d _);simp[execOp,hop,hv,hkk,Instr.indexAt,asIntOf,run_underlying hu,h0.1,h0.2,z2r hi,Addr.add_mid,Result.andThen]
   ·cases he
  ·rename_i ty k hnb hy1 hk;split at he
   ·rename_i h0;obtain⟨cs,hcs0,h2⟩:=gO he;cases h2;obtain⟨es,hy2,hcs⟩:=gB hcs0;obtain⟨tz,hz1,hz2⟩:=gB hk;obtain⟨kk,hkk⟩:=z7c (zh h hz1) hz2;have hrel:=z3j (zh h hy1) hy2;obtain⟨b,off,cap,p,f,hv,hp,hcap,hmax,hW,hc⟩:=z1g hrel;have hlt:k.toNat<es.length:=(gJ hcs).1;have hpe:=hp (by rintro rfl;simp at hlt);subst hpe;refine vD rfl (v:=.pointer (some ⟨b,off+k.toNat*i.size,none⟩)) ?_ (.pv ?_)
    ·have hlt':k<(es.length:Int):=by omega
     simp[execOp,hop,hv,hkk,Instr.indexAt,asIntOf,run_underlying hu,h0,hlt',z2r hi,Addr.add_mid,Result.andThen]
    ·exact .el cs b (off+k.toNat*i.size) (fun j=>f k.toNat j) (fun j c hj=>(hc _ j cs c hcs hj).1) (fun j c hj=>(hc _ j cs c hcs hj).2)
   ·cases he
  ·cases he
 |lookup t y i c=>
  cases c with
  |true=>simp only[zo,hop]at ht;cases ht
  |false=>
  simp only[zo,hop]at ht;split at ht<;>try(cases ht;done)
  rename_i kt et hu;split at ht<;>try(cases ht;done)
  rename_i j hj;split at ht<;>try(cases ht;done)
  rename_i z hz;split at ht<;>try(cases ht;done)
  rename_i hones;have hzr:∀w,(zeroValue et).run P w=.ok z w:=fun w=>by simp[zeroValue,typeInfo,hj,hz,Result.andThen]
  have hzt:RelT w E s.r (zeroT z) z:=by
   unfold zeroT;split
   ·rename_i cs;have:=(RelL.ofVals (w:=w) (E:=E) (r:=s.r) (vs:=cs.toList) (fun v hv=>List.all_eq_true.1 hones v hv)).agg;simpa using this
   ·exact .pv (.v _)
  have key:∀text,P.underlying kt=some (kdOf text)→sop=.lkp text z (.of y) (.of i)→o.wp P a w next Q:=by
   intro text hk hs;subst hs;simp only[eff]at he;split at he
   ·rename_i ks xs kv hy hi';obtain⟨ti,hi1,hi2⟩:=gB hi';have hkv:=zbi (zh h hi1) hi2;have hm:=zh h hy;generalize hv:a.eval y=v at hm;cases hm with
    |mp ks xs b es clock gv q1 q2 q3 q4 q5=>
    subst q2;split at he
    ·rename_i jj hf;obtain⟨tj,t1,t2⟩:=gO he;cases t2;have hrun:=zi5 (P:=P) hu hk (hzr w) q1 hf;have hlt:jj<es.toList.length:=by have:=(gJ t1).1;rw[q3,List.length_map]at this;exact this
     have hg:=q4 jj _ (gE hlt);refine vD rfl (v:=gv jj) ?_ (q5 jj _ t1);simp only[gE hlt,Option.map_some,Option.getD_some,hg]at hrun;simp[execOp,hop,hv,hkv,hrun,Result.andThen]
    ·rename_i hf;cases he;have hrun:=zi5 (P:=P) hu hk (hzr w) q1 hf;exact vD rfl (v:=z) (by simp[execOp,hop,hv,hkv,hrun,Result.andThen]) hzt
    ·cases he
   ·cases he
  split at ht<;>try(cases ht;done)
  ·rename_i hk;cases ht;exact key true hk rfl
  ·rename_i hk;cases ht;exact key false hk rfl
 |index t y z=>
  simp only[zo,hop]at ht;split at ht<;>try(cases ht;done)
  rename_i hu;cases ht;simp only[eff]at he;split at he
  ·rename_i zs k hx hy;split at he
   ·rename_i h0;obtain⟨bt,h1,h2⟩:=gO he;cases h2;obtain⟨ty,hy1,hy2⟩:=gB hx;obtain⟨tz,hz1,hz2⟩:=gB hy;have hv:=z59 (zh h hy1) hy2;obtain⟨kk,hkk⟩:=z7c (zh h hz1) hz2;have hget:zs[k.toNat]?=some bt:=by
     have hlt:=(gJ h1).1;have hlt':k.toNat<zs.size:=by simpa using hlt
     rw[getElem?_pos zs k.toNat hlt'];have:=(gJ h1).2;rw[←this];simp;rfl
    exact vD rfl (v:=.int .u8 bt.toNat) (by simp[execOp,hop,hv,hkk,Instr.index,asIntOf,run_underlying hu,h0,hget,Result.andThen]) (.pv (.v _))
   ·cases he
  ·cases he
 |extract y k=>
  simp only[zo,hop,Option.some.injEq]at ht;subst ht;simp only[eff]at he;split at he
  ·rename_i ts hz;obtain⟨c,hc,h2⟩:=gO he;cases h2;have hx:=zh h hz;generalize hv:a.eval y=v at hx;cases hx with
   |tuple _ vs hl hat=>
   have hlt:k<vs.length:=by rw[←hl];exact(gJ hc).1
   exact vD rfl (v:=vs[k]) (by simp[execOp,hop,hv,Instr.extract,hlt]) (hat _ _ _ hc (gE hlt))
  ·cases he
 |makeFunc fn fst cap=>
  simp only[zo,hop,Option.some.injEq]at ht;subst ht;simp only[eff]at he;split at he
  ·rename_i xa xb ha hb;cases he;obtain⟨a1,a2,_⟩:=z4X h ha;obtain⟨b1,b2,_⟩:=z4X h hb;refine vD rfl (v:=.func fn (fst.map a.eval) (cap.map a.eval)) (by simp[execOp,hop,Instr.makeFunc]) ?_;have e1:fst.map a.eval=(fst.toList.map a.eval).toArray:=by rw[←Array.toList_map,Array.toArray_toList]
   have e2:cap.map a.eval=(cap.toList.map a.eval).toArray:=by rw[←Array.toList_map,Array.toArray_toList]
   rw[e1,e2];exact .fn fn xa xb _ _ a1 b1 a2 b2
  ·cases he
 |range t y=>
  simp only[zo,hop]at ht;split at ht<;>try(cases ht;done)
  rename_i hu;cases ht;simp only[eff]at he;split at he
  ·rename_i d z hd hz;cases he;obtain⟨ty,hy1,hy2⟩:=gB hz;have hv:=z59 (zh h hy1) hy2;obtain⟨E',hE,hS⟩:=h.newI (hf d (by simp[SOp.news,hd])) z;refine z0R (s':=s.setI d (z,0)) ⟨.value (.pointer (some ⟨w.heap.size,0,none⟩)),_,w.alloc (.stringIter z 0),E',?_,.inl rfl,hS,?_⟩ hdst hn
   ·simp[execOp,hop,hv,Instr.range,run_underlying hu,Result.andThen]
   ·rw[←hE];exact .it d
  ·cases he
 |next y str=>
  cases str with
  |false=>simp[zo,hop]at ht
  |true=>
   simp only[zo,hop,Option.some.injEq]at ht;subst ht;simp only[eff]at he;split at he
   ·rename_i d hz;have hx:=zh h hz;generalize hv:a.eval y=v at hx;cases hx;split at he
    ·rename_i z p hi;obtain⟨h1,h2⟩:=h.itr d z p hi;have hr3:∀(v1 v2 v3:Value) (w:World) (E:Env) (r:Rows),RelT w E r (.tuple [.pv (.v v1),.pv (.v v2),.pv (.v v3)]) (.tuple #[v1,v2,v3]):=by
      intro v1 v2 v3 w E r;refine .tuple _ [v1,v2,v3] rfl (fun j c v hc hv=> ?_)
      match j with
      |0=>simp at hc hv;subst hc;subst hv;exact .pv (.v _)
      |1=>simp at hc hv;subst hc;subst hv;exact .pv (.v _)
      |2=>simp at hc hv;subst hc;subst hv;exact .pv (.v _)
      |n+3=>simp at hc
     split at he
     ·rename_i hlt;cases he;refine z0R (s':=s.setI d (z,p+(Utf8.decode z p).2)) ⟨.value (.tuple #[.bool true,.int .i64 p,.int .i32 (Utf8.decode z p).1]),_,_,E,?_,.inl rfl,h.goI hi,hr3 _ _ _ _ _ _⟩ hdst hn;simp[execOp,hop,hv,Instr.next,getObj,setObj,Sem.run,h1,hlt,Result.andThen,goInt]
     ·rename_i hlt;cases he;refine vD rfl (v:=.tuple #[.bool false]) ?_ ?_
      ·simp[execOp,hop,hv,Instr.next,getObj,Sem.run,h1,hlt,Result.andThen]
      ·refine .tuple _ [.bool false] rfl (fun j c v hc hv=> ?_)
       match j with
       |0=>simp at hc hv;subst hc;subst hv;exact .pv (.v _)
       |n+1=>simp at hc
    ·cases he
   ·cases he
 |makeSlice t ln cp=>
  simp only[zo,hop]at ht;split at ht<;>try(cases ht;done)
  rename_i e la lb hu;split at ht<;>try(cases ht;done)
  rename_i hab;obtain rfl:=Nat.eq_of_beq_eq_true hab;split at ht<;>try(cases ht;done)
  rename_i i hi;split at ht<;>try(cases ht;done)
  rename_i zv hz;split at ht<;>try(cases ht;done)
  rename_i hzl;cases ht;simp only[eff]at he;split at he
  ·rename_i d k hd hk;split at he
   ·rename_i hle;cases he;exact z0R (znq h _ hop hu hi hz hzl hd (hno d hd) (hf d (by simp[SOp.news,hd])) hk hle) hdst hn
   ·cases he
  ·cases he
 |call c=>
  obtain⟨callee,args,ats⟩:=c;cases callee with
  |invoke=>simp[zo,hop]at ht
  |value gf=>
   have harr:(args.toList.map a.eval).toArray=args.map a.eval:=by rw[←Array.toList_map,Array.toArray_toList]
   cases gf with
   |func f=>
    simp only[zo,hop]at ht;split at ht<;>try(cases ht;done)
    rename_i fn hfn;split at ht<;>try(cases ht;done)
    rename_i hb;cases ht;simp only[eff]at he;obtain⟨xs,hxs,he⟩:=gB he;obtain⟨a1,a2,a3⟩:=z4X h hxs;refine zdW h hG hX a3 a1 a2 (fun hbody=> ?_) hdst hC hm0 (fun q hq=>hf _ (by simp only[SOp.news];match q,hq with|0,_=>simp|1,_=>simp|2,_=>simp|3,_=>simp)) he hn;obtain⟨fn',body,h1,h2,h3⟩:=hbody;have hex:execOp a.eval o=callFunc f (#[]++args.map a.eval++ #[]):=by
     obtain⟨dst,op,type,pos,after,guard⟩:=o
     dsimp only at hop
     subst hop;rfl
    rw[hex,harr];simp[callFunc,h1,h2,h3]
   |tmp tt=>
    simp only[zo,hop,Option.some.injEq]at ht;subst ht;simp only[eff]at he;split at he
    ·rename_i f fa fb vs hcal hvs;obtain⟨tc,hc1,hc2⟩:=gB hcal;obtain⟨a1,a2,a3⟩:=z4X h hvs;have hcr:=zh h (x:=.tmp tt) hc1;obtain⟨us,cs,e1,e2,e3,e4,e5,e6⟩:=ziD hcr hc2;refine zdW (vs:=us++args.toList.map a.eval++cs) h hG hX (xs:=fa++vs++fb) ?_ ?_ ?_ (fun hbody=> ?_) hdst hC hm0 (fun q hq=>hf _ (by simp only[SOp.news];match q,hq with|0,_=>simp|1,_=>simp|2,_=>simp|3,_=>simp)) he hn
     ·intro x hx d hd;rcases List.mem_append.1 hx with hx|hx
      ·rcases List.mem_append.1 hx with hx|hx
       ·exact zZ hc1 (e6 x (.inl hx) d hd)
       ·exact a3 x hx d hd
      ·exact zZ hc1 (e6 x (.inr hx) d hd)
     ·simp[e2,e3];simpa using a1
     ·have hq1:=zm8 (xs:=fa) (ys:=vs) e2 (by simpa using a1) e4 a2;exact zm8 (by simp[e2];simpa using a1) e3 hq1 e5
     ·obtain⟨fn',body,h1,h2,h3⟩:=hbody;have hex:execOp a.eval o=callFunc f (us.toArray++args.map a.eval++cs.toArray):=by
       obtain⟨dst,op,type,pos,after,guard⟩:=o
       dsimp only at hop
       subst hop;show(do let d ←Deferred.ofValue (a.eval (.tmp tt)) (args.map a.eval);invoke d.target d.args)=_;rw[e1];rfl
      rw[hex];have:(us++args.toList.map a.eval++cs).toArray=us.toArray++args.map a.eval++cs.toArray:=by
       rw[←harr];simp
      rw[this];simp[callFunc,h1,h2,h3]
    ·cases he
   |_=>simp[zo,hop]at ht
  |builtin b=>
   cases b with
   |len=>
    simp only[zo,hop]at ht;split at ht<;>try(cases ht;done)
    rename_i t y hat har;obtain rfl:args= #[y]:=by rw[←Array.toArray_toList (xs:=args),har]
    obtain rfl:ats= #[t]:=by rw[←Array.toArray_toList (xs:=ats),hat]
    split at ht<;>try(cases ht;done)
    ·rename_i e hu;cases ht;simp only[eff]at he;obtain⟨n,hn1,h2⟩:=gO he;cases h2;obtain⟨ty,hy1,hy2⟩:=gB hn1;obtain⟨p,c,hv⟩:=zoE (zh h hy1) hy2;refine vD rfl (v:=.int .i64 n) ?_ (.pv (.v _));simp[execOp,hop,resolve,invoke,builtin,hv,Builtin.len_,run_underlying hu,goInt,Result.andThen]
    ·rename_i hu;cases ht;simp only[eff]at he;obtain⟨n,hn1,h2⟩:=gO he;cases h2;obtain⟨ty,hy1,hy2⟩:=gB hn1;have hv:=z59 (zh h hy1) hy2;refine vD rfl (v:=.int .i64 n.size) ?_ (.pv (.v _));simp[execOp,hop,resolve,invoke,builtin,hv,Builtin.len_,run_underlying hu,goInt,Result.andThen]
   |min=>
    simp only[zo,hop]at ht;split at ht<;>try(cases ht;done)
    rename_i y z t t2 har hat;obtain rfl:args= #[y,z]:=by rw[←Array.toArray_toList (xs:=args),har]
    split at ht<;>try(cases ht;done)
    cases ht;simp only[eff]at he;split at he
    ·rename_i x1 x2 h1 h2;cases he;have e1:=val_rel (y:=.int .i64 x1) (zh h h1) rfl;have e2:=val_rel (y:=.int .i64 x2) (zh h h2) rfl;refine vD rfl (v:=.int .i64 (min x1 x2)) ?_ (.pv (.v _));have:(if x2<x1 then x2 else x1)=min x1 x2:=by rw[Int.min_def];split<;>split<;>omega
     simp[execOp,hop,resolve,invoke,builtin,e1,e2,Builtin.min_,Builtin.min2,this]
    ·cases he
   |max=>
    simp only[zo,hop]at ht;split at ht<;>try(cases ht;done)
    rename_i y z t t2 har hat;obtain rfl:args= #[y,z]:=by rw[←Array.toArray_toList (xs:=args),har]
    split at ht<;>try(cases ht;done)
    cases ht;simp only[eff]at he;split at he
    ·rename_i x1 x2 h1 h2;cases he;have e1:=val_rel (y:=.int .i64 x1) (zh h h1) rfl;have e2:=val_rel (y:=.int .i64 x2) (zh h h2) rfl;refine vD rfl (v:=.int .i64 (max x1 x2)) ?_ (.pv (.v _));have:(if x2>x1 then x2 else x1)=max x1 x2:=by rw[Int.max_def];split<;>split<;>omega
     simp[execOp,hop,resolve,invoke,builtin,e1,e2,Builtin.max_,Builtin.max2,this]
    ·cases he
   |append=>
    simp only[zo,hop]at ht;split at ht<;>try(cases ht;done)
    rename_i y z t tx har hat;obtain rfl:args= #[y,z]:=by rw[←Array.toArray_toList (xs:=args),har]
    obtain rfl:ats= #[t,tx]:=by rw[←Array.toArray_toList (xs:=ats),hat]
    split at ht<;>try(cases ht;done)
    rename_i e hu;split at ht<;>try(cases ht;done)
    rename_i i hi;split at ht<;>try(cases ht;done)
    rename_i zv hz;split at ht<;>try(cases ht;done)
    rename_i hzl;have hnil:((Arg.of y).get s).map TV.isNil=some true→a.eval y=.slice none 0 0:=by
     intro hy;obtain⟨ty,h1,h2⟩:=gO hy;have:=zh h h1;unfold TV.isNil at h2;split at h2
     ·exact val_rel (y:=.slice none 0 0) this rfl
     ·cases h2
    split at ht<;>try(cases ht;done)
    ·rename_i e' htx;cases hin2:Nat.beq hint 2 with
     |true=>
      rw[hin2]at ht;simp only[if_true,Option.some.injEq]at ht;subst ht;simp only[eff]at he;split at he
      ·rename_i d es2 hd hnl hes;split at he
       ·rename_i hle;obtain⟨tz,hz1,hz2⟩:=gB hes;have hsrc:=zcm hzl.2 (z3j (zh h hz1) hz2) htx;split at he
        ·rename_i hem;cases he;obtain rfl:=List.isEmpty_iff.1 hem;exact z0R (ziN (P:=P) h hop hu hi (hnil hnl) hsrc) hdst hn
        ·rename_i hem;cases he;rw[hd]at hn hdst;exact z0R (s':=s.setB d (es2.flatten.map .pv)) (zkN (P:=P) h hop hu hi hz hzl.1 hzl.2 (hno d hd) (hf d (by simp[SOp.news,hd])) (hnil hnl) hsrc (fun e=>hem (by rw[e];rfl)) hle.1 hle.2) (by rw[hd];exact hdst) (by rw[hd];exact hn)
       ·cases he
      ·cases he
     |false=>
     rw[hin2]at ht;simp only[Bool.false_eq_true,if_false]at ht;cases hin:Nat.beq hint 1 with
     |true=>
      rw[hin]at ht;simp only[if_true,Option.some.injEq]at ht;subst ht;simp only[eff]at he;split at he
      ·rename_i d es2 hd hnl hes;split at he
       ·rename_i hle;cases he;obtain⟨tz,hz1,hz2⟩:=gB hes;have:=zdj (P:=P) h hop hu hi hz hzl.1 hzl.2 (hno d hd) (hf d (by simp[SOp.news,hd])) (hnil (by rw[hnl];rfl)) (zcm hzl.2 (z3j (zh h hz1) hz2) htx) hle.1 hle.2;rw[hd]at hn hdst;refine z0R (s':=s.setR d (e,i.size,es2.length)) this (by rw[hd];exact hdst) (by rw[hd];exact hn)
       ·cases he
      ·rename_i d W' es es2 hd hy hes;split at he
       ·rename_i hle;obtain⟨rfl,h0,h1,h2⟩:=hle;cases he;obtain⟨tz,hz1,hz2⟩:=gB hes;have:=zkO (P:=P) h hop hu hi hz hzl.1 hzl.2 (hno d hd) (hf d (by simp[SOp.news,hd])) (zh h hy) (zcm hzl.2 (z3j (zh h hz1) hz2) htx) h0 h1 h2;rw[hd]at hn hdst;refine z0R (s':=s.setR d (e,i.size,es.length+es2.length)) this (by rw[hd];exact hdst) (by rw[hd];exact hn)
       ·cases he
      ·cases he
     |false=>
      rw[hin]at ht;simp only[Bool.false_eq_true,if_false,Option.some.injEq]at ht;subst ht;simp only[eff]at he;split at he
      ·rename_i d W' es es2 hy hes;split at he
       ·rename_i hle;obtain⟨rfl,hr,h1,h2⟩:=hle;cases he;obtain⟨tz,hz1,hz2⟩:=gB hes;have:=zaF (P:=P) h hop hu hi hz hzl.1 hzl.2 rfl hr (zh h hy) (zcm hzl.2 (z3j (zh h hz1) hz2) htx) h1 h2;exact z0R this hdst hn
       ·cases he
      ·cases he
    ·rename_i htx;split at ht<;>try(cases ht;done)
     rename_i h1s;cases hin:Nat.beq hint 1 with
     |true=>
      rw[hin]at ht;simp only[if_true,Option.some.injEq]at ht;subst ht;simp only[eff]at he;split at he
      ·rename_i d b hd hnl hes;split at he
       ·rename_i hle;cases he;obtain⟨tz,hz1,hz2⟩:=gB hes;have hbl:(z0C b).length=b.size:=by unfold z0C;rw[List.length_map,Array.length_toList];rfl
        have:=zdj (P:=P) (es2:=z0C b) h hop hu hi hz hzl.1 hzl.2 (hno d hd) (hf d (by simp[SOp.news,hd])) (hnil hnl) (by rw[h1s,z59 (zh h hz1) hz2];exact zi8 b htx) (by rw[hbl];exact hle.1) (by rw[hbl];exact hle.2);rw[h1s,hbl]at this;rw[hd]at hn hdst;exact z0R (s':=s.setR d (e,1,b.size)) this (by rw[hd];exact hdst) (by rw[hd];exact hn)
       ·cases he
      ·cases he
     |false=>
      rw[hin]at ht;simp only[Bool.false_eq_true,if_false,Option.some.injEq]at ht;subst ht;simp only[eff]at he;split at he
      ·rename_i d W' es b hy hes;split at he
       ·rename_i hle;obtain⟨rfl,hr,h1,h2⟩:=hle;cases he;obtain⟨tz,hz1,hz2⟩:=gB hes;have hbl:(z0C b).length=b.size:=by unfold z0C;rw[List.length_map,Array.length_toList];rfl
        have:=zaF (P:=P) (es2:=z0C b) h hop hu hi hz hzl.1 hzl.2 rfl (by rw[h1s];exact hr) (by rw[h1s];exact zh h hy) (by rw[h1s,z59 (zh h hz1) hz2];exact zi8 b htx) (by rw[hbl];exact h1) (by rw[hbl];exact h2);rw[h1s,hbl]at this;exact z0R this hdst hn
       ·cases he
      ·cases he
   |_=>simp[zo,hop]at ht
 |makeInterface t y=>
  simp only[zo,hop]at ht;split at ht<;>try(cases ht;done)
  rename_i d hni hu;cases ht;simp only[eff]at he;obtain⟨v,h1,h2⟩:=gO he;cases h2;have hv:=z9D h h1;refine vD rfl (v:=.iface t v) ?_ (.pv (.v _));cases d<;>first|(exact(hni _ rfl).elim)|(simp[execOp,hop,hv,Instr.makeInterface,run_underlying hu,Result.andThen])
 |panic y=>
  simp only[zo,hop,Option.some.injEq]at ht;subst ht;simp[eff]at he
 |makeMap t r=>
  cases r with
  |some r=>simp[zo,hop]at ht
  |none=>
   simp only[zo,hop,Option.some.injEq]at ht;subst ht;simp only[eff,Option.some.injEq,Prod.mk.injEq]at he;obtain⟨rfl,rfl⟩:=he;have hb:Below w.heap.size w (w.alloc (.map #[] 0)):=(Below.refl _ _).alloc (Nat.le_refl _) _;refine z0R (s':=s) ⟨.value (.map (some w.heap.size)),_,w.alloc (.map #[] 0),E,?_,.inl rfl,h.ext hb E (fun _ _ h=>h) (fun _ _ h=> .inl h) (fun _ _=>⟨rfl,rfl⟩) (fun _ _ _=>rfl) (fun _ _=>⟨rfl,rfl⟩),?_⟩ hdst hn
   ·simp only[execOp,hop,Option.map_none];rfl
   ·exact .mp [] [] w.heap.size #[] 0 (fun _=>undef) (heap_alloc_new w _) rfl rfl (by simp) (by simp)
 |_=>simp[zo,hop]at ht
end
end
end Go.Sh
end
