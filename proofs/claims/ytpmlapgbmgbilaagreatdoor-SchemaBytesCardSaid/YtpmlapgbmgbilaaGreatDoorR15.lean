/- Merged texts: S20 S21 S22 S24 S28 S29 S30 Rw. No statement of the program is proved here. -/
import Derived.Test.YtpmlapgbmgbilaaGreatDoorR14
import Derived.OrdersIn
import Derived.Laws.OwnMore
set_option linter.unusedSimpArgs false
set_option linter.unusedVariables false
set_option maxRecDepth 100000
set_option maxHeartbeats 8000000
section
namespace Go.Sh
open Go Go.RowKit
section
def zeq(ops:Array Oper)(t m i:Nat):Option (Operand×Operand):=match ops[i]? with
 |some o=>match o.op,o.dst,o.guard with
  | .insert t' (.tmp m') k x,none,none=>if Nat.beq t t'&&Nat.beq m m' then some (k,x)else none
  |_,_,_=>none
 |none=>none
def zbM(ops:Array Oper)(t m:Nat):List Nat→Option (List (Operand×Operand))
 |[]=>some []
 |i::l=>match zeq ops t m i,zbM ops t m l with
  |some p,some r=>some (p::r)
  |_,_=>none
def zfe(kd:TypeDesc):List Value→List Value→Bool
 |_,[]=>true
 |ks,k::l=>(match findKs kd k ks 0 with|some none=>true|_=>false)&&zfe kd (ks++[k]) l
structure MapTurn(b:Nat)(w w':World):Prop where
 os:w'.os=w.os
 tape:w'.tape=w.tape
 output:w'.output=w.output
 size:w'.heap.size=w.heap.size
 block:∀k,k≠b→w'.heap[k]?=w.heap[k]?
theorem MapTurn.refl(b:Nat)(w:World):MapTurn b w w:=⟨rfl,rfl,rfl,rfl,fun _ _=>rfl⟩
theorem MapTurn.trans{b:Nat}{w w' w'':World}(h:MapTurn b w w')(h':MapTurn b w' w''):MapTurn b w w'':=
 ⟨h'.os.trans h.os,h'.tape.trans h.tape,h'.output.trans h.output,h'.size.trans h.size,fun k hk=>(h'.block k hk).trans (h.block k hk)⟩
section
variable{P:Program}{ops:Array Oper}{Q:Exit→Act→World→Prop}{a:Act}{w:World}{t kt et:TypeId}{text:Bool}{m b:Nat}
theorem zi4{es:Array MapEntry}{clock:Nat}{k v:Value}(ht:P.underlying t=some (.map kt et))(hk:P.underlying kt=some (kdOf text))(hb:w.heap[b]?=some (.map es clock))(hf:findKs (kdOf text) k (es.toList.map MapEntry.key) 0=some none):
  ∃w',(Instr.mapUpdate t (.map (some b)) k v).run P w=.ok () w'∧MapTurn b w w'∧w'.heap[b]?=some (.map (es.push { key:=k,val:=v,born:=clock }) (clock+1)):=by
 have hget:=Go.MapKept.run_getObj_map (P:=P) hb;have h1:=z6T _ _ hf;have hset:=fun o=>Go.MapKept.run_setObj_map (P:=P) o hb;refine⟨{ w with heap:=w.heap.setIfInBounds b (.map (es.push { key:=k,val:=v,born:=clock }) (clock+1)) },by simp[Instr.mapUpdate,run_underlying ht,hget,z6Q text _ _ hk,Instr.findKey,run_underlying hk,h1,hset,Result.andThen],⟨rfl,rfl,rfl,by simp,fun j hj=> ?_⟩,?_⟩
 ·grind
 ·grind
theorem zdX(ht:P.underlying t=some (.map kt et))(hk:P.underlying kt=some (kdOf text))(hm:a.eval (.tmp m)=.map (some b)):∀(l:List Nat) (kvs:List (Operand×Operand)) (zy:List Nat) (w:World) (es:Array MapEntry) (clock:Nat),zbM ops t m l=some kvs→w.heap[b]?=some (.map es clock)→zfe (kdOf text) (es.toList.map MapEntry.key) (kvs.map fun p=>a.eval p.1)=true→
  (∀(es':Array MapEntry) (clock':Nat) (w':World),MapTurn b w w'→w'.heap[b]?=some (.map es' clock')→es'.toList.map MapEntry.key=es.toList.map MapEntry.key++(kvs.map fun p=>a.eval p.1)→es'.toList.map MapEntry.val=es.toList.map MapEntry.val++(kvs.map fun p=>a.eval p.2)→wpOps P ops Q zy a w')→
  wpOps P ops Q (l++zy) a w
 |[],kvs,zy,w,es,clock,h,hb,hf,hK=>by
  simp only[zbM,Option.some.injEq]at h;subst h;exact hK es clock w (.refl b w) hb (by simp) (by simp)
 |i::l,kvs,zy,w,es,clock,h,hb,hf,hK=>by
  simp only[zbM]at h;split at h<;>try(cases h;done)
  rename_i p r hp hr;cases h;simp only[List.map_cons,zfe,Bool.and_eq_true]at hf;have hf1:findKs (kdOf text) (a.eval p.1) (es.toList.map MapEntry.key) 0=some none:=by
   grind
  unfold zeq at hp;split at hp<;>try(cases hp;done)
  rename_i o ho;split at hp<;>try(cases hp;done)
  rename_i t' m' k x hop hdst hg;split at hp<;>try(cases hp;done)
  rename_i htm;rw[Bool.and_eq_true]at htm;obtain rfl:=Nat.eq_of_beq_eq_true htm.1;obtain rfl:=Nat.eq_of_beq_eq_true htm.2;cases hp;obtain⟨w1,hrun,hturn,hb1⟩:=zi4 (P:=P) (v:=a.eval x) ht hk hb hf1;rw[List.cons_append,wpOps_cons];unfold wpOp;simp only[ho];rw[if_pos (by simp[Region.wanted,hg])];refine .inl ?_;unfold Oper.wp;have hex:(execOp a.eval o).run P w=.ok .skip w1:=by simp[execOp,hop,hm,hrun,Result.andThen]
  rw[hex];show wpOps P ops Q (l++zy) (a.put o.dst undef) w1;rw[hdst];refine zdX ht hk hm l r zy w1 _ _ hr hb1 (by grind) (fun es' clock' w' h1 h2 h3 h4=>hK es' clock' w' (hturn.trans h1) h2 (by grind) (by grind))
theorem z2v{i:Nat}{o:Oper}{v:Value}{w':World}{K:Act→World→Prop}(ho:ops[i]?=some o)(hg:o.guard=none)(hr:(execOp a.eval o).run P w=.ok (.value v) w')(hk:K (a.put o.dst v) w'):wpOp P ops Q i K a w:=by
 unfold wpOp;simp only[ho];rw[if_pos (by simp[Region.wanted,hg])];refine .inl ?_;unfold Oper.wp;rw[hr];exact hk
end
end
section
section
variable{P:Program}{g:Glob}
def zbt(s:FS)(d:Nat):List Nat:=match s.b d with|some cs=>cs.flatMap TV.ids1|none=>[]
def zp1(y0:TV)(s:FS)(al:List Nat):Option (TV×List MO):=match y0.ren3 (rhoIn al),seqO (fun d=>(s.mo d).bind (MO.ren (rhoIn al))) al with
 |some y,some os'=>some (y,os')
 |_,_=>none
def zpf(y0:TV)(keep:Bool)(n:Nat)(s:FS):Option (TV×List MO):=zp1 y0 s (zx s keep 64 (y0.ids3++(idsFrom 1000 n).flatMap (zbt s)) (idsFrom 1000 n))
theorem zpR{res:List SRes}{keep:Bool}{n:Nat}{s:ES}{y0:TV}(h:resT s.fs res=some y0):exitR res keep n s=zpf y0 keep n s.fs:=by
 unfold exitR exitF;rw[h];rfl
end
end
section
abbrev Fw(ro:Option Nat):Fence:={ Fence.wide with round:=ro }
section
variable{P:Program}{ops:Array Oper}{Q:Exit→Act→World→Prop}{ro:Option Nat}{n:Nat}
theorem ztr{o:Oper}(hd:∀c,o.op≠ .defer c){a:Act}{w:World}{K:Act→World→Prop}(h:o.wp P a w K Q):o.wpIn (Fw ro) n P a w K Q:=by
 refine⟨fun _ _=>trivial,?_⟩;rw[Oper.semAt_eq _ _ _ hd];unfold Oper.wp at h;generalize(execOp a.eval o).run P w=r at*;cases r with
 |ok x w'=>
  cases x with
  |value v=>exact h
  |skip=>exact h
  |defer d=>exact h
  |enter f args=>exact⟨fun h=>(by cases h),callsIn_wide.2 h⟩
  |row r args=>exact⟨fun h=>(by cases h),fun c cs _=>let⟨v,w',r,s⟩:=h c cs;⟨v,w',r,stepsIn_wide.2 s⟩⟩
  |_=>exact(h:False).elim
 |halt x w'=>cases x<;>first|exact h|exact(h:False).elim
theorem z8T{i:Nat}(hd:∀o:Oper,ops[i]?=some o→∀c,o.op≠Op.defer c)(hQ:¬LetsOut Q){a:Act}{w:World}{K:Act→World→Prop}(h:wpOp P ops Q i K a w):wpOpIn (Fw ro) n P ops Q i K a w:=by
 unfold wpOp at h;unfold wpOpIn;cases ho:ops[i]? with
 |none=>grind
 |some o=>
  rw[ho]at h;simp at h ⊢;split at h
  ·grind [ztr]
  ·rename_i hw;rw[if_neg hw];exact⟨fun _ _=>trivial,h⟩
theorem zpn(hd:∀(i:Nat) (o:Oper),ops[i]?=some o→∀c,o.op≠Op.defer c)(hQ:¬LetsOut Q):∀(is:List Nat) (a:Act) (w:World),wpOps P ops Q is a w→wpOpsIn (Fw ro) n P ops Q is a w
 |[],a,w,h=>h
 |i::is,a,w,h=>by
  refine wpOpIn_mono (fun a w h=>zpn hd hQ is a w h) (z8T (hd i) hQ h)
theorem zoY(hd:∀(i:Nat) (o:Oper),ops[i]?=some o→∀c,o.op≠Op.defer c)(hQ:¬LetsOut Q):∀(fuel:Nat) (li:Array Bool) (a:Act) (w:World),wpAny P .any ops Q fuel li a w→wpAnyIn (Fw ro) n P .any ops Q fuel li a w
 |0,li,a,w,h=>h
 |fuel+1,li,a,w,h=>⟨h.1,fun i hi=>wpOpIn_mono (fun a w h=>zoY hd hQ fuel _ a w h) (z8T (hd i) hQ (h.2 i hi))⟩
theorem z52{N:Nat}{H:Option Nat→Nat}{fp:Option Nat}{o:Oper}{so:SOper}(ht:z1o P N H fp ops o=some so):∀c,o.op≠ .defer c:=by
 intro c hc;unfold z1o at ht;split at ht<;>try(cases ht;done)
 rename_i hop;rcases z1w hop with hop|⟨_,hb⟩
 ·unfold zo at hop;rw[hc]at hop;simp at hop
 ·rw[hc]at hb;cases hb
end
section
variable{P:Program}{H:Option Nat→Nat}{ops:Array Oper}{B:Base}{sops:List SOper}{g:Glob}{draw:Bool}{id:Nat}{ro:Option Nat}{n:Nat}
theorem zcU(ze:P.follows .mixedOrders=true)(hm0:B.m≤1000)(hN:B.N≤1000)(hG:g.G B.w0)(hX:∀d b,B.X d b→g.n≤b){fps:Nat→Option Nat}(htr:z0i P B.N H fps ops draw=some sops){s:ES}{K:ES→Prop}
  (hf:∀d∈sops.flatMap SOper.news,z0y s.fs d) (h:zQ P g sops K s) {a:Act} {w:World} {E:Env} (hS:Sim B s.fs a w E) {Q:Exit→Act→World→Prop} (hLO:¬LetsOut Q) (hQ:∀s' a' w' E',K s'→Sim B s'.fs a' w' E'→Q .normal a' w'):
  (Code.region id ops draw).wpIn (Fw ro) n P Q a w:=by
 unfold z0i at htr;split at htr<;>try(cases htr;done)
 rename_i sops' hseq;split at htr<;>try(cases htr;done)
 rename_i hok;cases htr;obtain⟨s',hrun,hK⟩:=z6g (sops:=sops) (l:=sops) (j:=0) rfl h;obtain⟨hlen,hspec⟩:=z1a hseq;have hlen':ops.size=sops.length:=by omega
 have hdf:∀(i:Nat) (o:Oper),ops[i]?=some o→∀c,o.op≠Op.defer c:=fun i o ho=>by
  obtain⟨so,_,hto⟩:=hspec i o (by grind);exact z52 hto
 have hfi:∀l,z28 sops l s.fs:=fun l i _ o ho d hd=>hf d (List.mem_flatMap.2 ⟨o,gM ho,hd⟩);have hmk:=z4Z hok;rw[←List.range_eq_range',←hlen']at hrun;cases draw with
 |false=>
  refine wpIn_region (zpn hdf hLO _ _ _ ?_);have key:∀(l:List Nat) (s:FS) (a:Act) (w:World) (E:Env),l.Nodup→Sim B s a w E→z28 sops l s→z42 P g sops l s s'.fs→wpOps P ops Q l a w:=by
   intro l
   induction l with
   |nil=>intro s a w E _ hS _ hr;have hr:s=s'.fs:=hr;subst hr;exact hQ s' a w E hK hS
   |cons i l ih=>
    intro s a w E hnd hS hf hr;obtain⟨o,s1,ho,⟨C,hC,hst⟩,hr⟩:=hr;have hil:i<ops.size:=by grind
    have hoi:ops[i]?=some ops[i]:=Array.getElem?_eq_getElem hil;obtain⟨so,hso,hto⟩:=hspec i ops[i] (by simp);rw[ho]at hso;cases hso;refine z58 hm0 hN hG hX hC hS hoi hto (hf i (List.mem_cons_self ..) o ho) hst (fun a' w' E' hS'=> ?_);exact ih s1 a' w' E' (List.nodup_cons.1 hnd).2 hS' (z2w hmk ho (List.nodup_cons.1 hnd).1 (fun j hj=>hf j (List.mem_cons_of_mem _ hj)) ⟨C,hC,hst⟩) hr
  grind
 |true=>
  refine wpIn_region_any ze (zoY hdf hLO _ _ _ _ ?_);have hrest:zy ops.size (Array.replicate ops.size false)=List.range ops.size:=by
   unfold zy;simp_all
  refine zd7 hm0 hN hG hX hseq hok (sf:=s'.fs) (fun a w E hS=>hQ s' a w E hK hS) ops.size _ s.fs a _ E (by simp) (fun i o ho hl=> ?_) (hS.same (Below.refl _ _).drew) (hfi _) (by grind) (by grind);have hil:=(gA ho).1;simp_all
theorem runI_of_opsW'{P:Program}{g:Glob}{sops:List SOper}{K:ES→Prop}:∀{l:List SOper} {j:Nat} {s:ES},(∀(i:Nat) o,l[i]?=some o→sops[j+i]?=some o)→zQ P g l K s→∃s',z42 P g sops (List.range' j l.length) s.fs s'.fs∧K s'
 |[],j,s,_,h=>⟨s,rfl,h⟩
 |o::l,j,s,hd,h=>by
  obtain⟨C,hC,e,he,h⟩:=h;have hj:sops[j]?=some o:=hd 0 o rfl;obtain⟨s',h1,h2⟩:=runI_of_opsW' (j:=j+1) (fun i o ho=>by rw[show j+1+i=j+(i+1) by omega];exact hd (i+1) o ho) h;refine⟨s',⟨o,s.fs.after o e,hj,⟨C,hC,by unfold step;rw[he];rfl⟩,?_⟩,h2⟩
  grind [ES.after_fs]
theorem zg6{N:Nat}{H:Option Nat→Nat}{fps:Nat→Option Nat}{ops:Array Oper}{sops:List SOper}(htr:z0i P N H fps ops false=some sops)(k:Nat)(hk:k<sops.length)(hm0:B.m≤1000)(hN:B.N=N)(hN2:N≤1000)(hG:g.G B.w0)(hX:∀d b,B.X d b→g.n≤b)
  {g2:Glob} {s:ES} {K1:ES→Prop} (hf:∀d∈sops.flatMap SOper.news,z0y s.fs d) (h:zQ P g (sops.take k) K1 s) {a:Act} {w:World} {E:Env} (hS:Sim B s.fs a w E) {Q:Exit→Act→World→Prop} (hLO:¬LetsOut Q) (K2:Act→World→Prop)
  (hmid:∀s1 a w E,K1 s1→Sim B s1.fs a w E→wpOpIn (Fw ro) n P ops Q k K2 a w)
  (hpost:∀a w,K2 a w→∃(B2:Base) (s2:ES) (E2:Env) (K3:ES→Prop),B2.m≤1000∧B2.N=N∧g2.G B2.w0∧(∀d b,B2.X d b→g2.n≤b)∧Sim B2 s2.fs a w E2∧(∀d∈sops.flatMap SOper.news,z0y s2.fs d)∧zQ P g2 (sops.drop (k+1)) K3 s2∧∀s3 a' w' E',K3 s3→Sim B2 s3.fs a' w' E'→Q .normal a' w'):
  (Code.region id ops false).wpIn (Fw ro) n P Q a w:=by
 unfold z0i at htr;split at htr<;>try(cases htr;done)
 rename_i sops' hseq;split at htr<;>try(cases htr;done)
 rename_i hok;cases htr;subst hN;obtain⟨hlen,hspec⟩:=z1a hseq;have hlen':ops.size=sops.length:=by omega
 have hdf:∀(i:Nat) (o:Oper),ops[i]?=some o→∀c,o.op≠Op.defer c:=fun i o ho=>by
  obtain⟨so,_,hto⟩:=hspec i o (by grind);exact z52 hto
 have hfi:∀l (s:ES),(∀d∈sops.flatMap SOper.news,z0y s.fs d)→z28 sops l s.fs:=fun l s hf i _ o ho d hd=>hf d (List.mem_flatMap.2 ⟨o,gM ho,hd⟩);have hmk:=z4Z hok;have key:∀(g:Glob) (B':Base),B'.m≤1000→B'.N=B.N→g.G B'.w0→(∀d b,B'.X d b→g.n≤b)→∀(r:List Nat) (sf:FS),(∀a w E,Sim B' sf a w E→wpOpsIn (Fw ro) n P ops Q r a w)→∀(l:List Nat) (s:FS) (a:Act) (w:World) (E:Env),l.Nodup→Sim B' s a w E→z28 sops l s→z42 P g sops l s sf→wpOpsIn (Fw ro) n P ops Q (l++r) a w:=by
  intro g B' hm' hN' hG' hX' r sf hr0 l
  induction l with
  |nil=>intro s a w E _ hS _ hr;have hr:s=sf:=hr;subst hr;exact hr0 a w E hS
  |cons i l ih=>
   intro s a w E hnd hS hf hr;obtain⟨o,s1,ho,⟨C,hC,hst⟩,hr⟩:=hr;have hil:i<ops.size:=by grind
   have hoi:ops[i]?=some ops[i]:=Array.getElem?_eq_getElem hil;obtain⟨so,hso,hto⟩:=hspec i ops[i] (by simp);rw[ho]at hso;cases hso;rw[←hN']at hto;refine z8T (hdf i) hLO (z58 hm' (by omega) hG' hX' hC hS hoi hto (hf i (List.mem_cons_self ..) o ho) hst (fun a' w' E' hS'=> ?_));exact ih s1 a' w' E' (List.nodup_cons.1 hnd).2 hS' (z2w hmk ho (List.nodup_cons.1 hnd).1 (fun j hj=>hf j (List.mem_cons_of_mem _ hj)) ⟨C,hC,hst⟩) hr
 refine wpIn_region ?_;have hsplit:List.range ops.size=List.range' 0 k++k::List.range' (k+1) (sops.length-(k+1)):=by
  rw[hlen',List.range_eq_range',←List.range'_succ,show sops.length=k+(sops.length-(k+1)+1) by omega,←List.range'_append];simp;omega
 rw[hsplit];have hrun1:∃s',z42 P g sops (List.range' 0 k) s.fs s'.fs∧K1 s':=by
  have:=runI_of_opsW' (sops:=sops) (j:=0) (fun i o ho=>by rw[Nat.zero_add];rw[List.getElem?_take]at ho;split at ho;exact ho;cases ho) h
  grind
 obtain⟨s1,hrun1,hK1⟩:=hrun1;refine key g B hm0 rfl hG hX _ s1.fs (fun a1 w1 E1 hS1=> ?_) _ s.fs a w E List.nodup_range' hS (hfi _ s hf) hrun1;refine wpOpIn_mono (fun a2 w2 h2=> ?_) (hmid s1 a1 w1 E1 hK1 hS1);obtain⟨B2,s2,E2,K3,p1,p2,p3,p4,p5,p6,p7,p8⟩:=hpost a2 w2 h2;have hrun3:∃s',z42 P g2 sops (List.range' (k+1) (sops.length-(k+1))) s2.fs s'.fs∧K3 s':=by
  have:=runI_of_opsW' (sops:=sops) (j:=k+1) (fun i o ho=>by rwa [List.getElem?_drop]at ho) p7
  grind
 obtain⟨s3,hrun3,hK3⟩:=hrun3;have:=key g2 B2 p1 p2 p3 p4 [] s3.fs (fun a3 w3 E3 hS3=>p8 s3 a3 w3 E3 hK3 hS3) _ s2.fs a2 w2 E2 List.nodup_range' p5 (hfi _ s2 p6) hrun3
 grind
end
def z2C:SCode→Bool
 | .skip| .ret| .exit _| .reg _ _=>true
 | .seq a b=>z2C a&&z2C b
 | .cond _ a b=>z2C a&&z2C b
 | .block _ a=>z2C a
 |_=>false
section
variable{P:Program}{H:Nat→Option Nat→Nat}{Fp:Nat→List (Nat→Option Nat)}{K:Nat→List Nat}{B:Base}{g:Glob}{ro:Option Nat}{n:Nat}
theorem zgX{B:Base}{Q:SExit→ES→Prop}:¬LetsOut (fun x a' w'=>∃e s' E',x=SExit.to e∧Q e s'∧Sim B s'.fs a' w' E'):=by
 rintro⟨a,w,e,s',E',h,_⟩;cases e<;>cases h
theorem zax(ze:P.follows .mixedOrders=true)(hm0:B.m≤1000)(hN:B.N≤1000)(hG:g.G B.w0)(hX:∀d b,B.X d b→g.n≤b):∀{c:Code} {sc:SCode},zg P B.N H Fp K c=some sc→z2C sc=true→∀{Q:SExit→ES→Prop} {s:ES},swp P g sc Q s→∀{a:Act} {w:World} {E:Env},Sim B s.fs a w E→
  c.wpIn (Fw ro) n P (fun x a' w'=>∃e s' E',x=SExit.to e∧Q e s'∧Sim B s'.fs a' w' E') a w:=by
 intro c
 induction c with
 |skip=>
  intro sc h hnr Q s hs a w E hS;simp only[zg]at h;cases h;exact wpIn_skip ⟨.normal,s,E,rfl,hs,hS⟩
 |exit id=>
  intro sc h hnr Q s hs a w E hS;simp only[zg]at h;cases h;exact wpIn_exit ⟨.exit id,s,E,rfl,hs,hS⟩
 |ret=>
  intro sc h hnr Q s hs a w E hS;simp only[zg]at h;cases h;exact wpIn_ret ⟨.ret,s,E,rfl,hs,hS⟩
 |region id ops draw=>
  intro sc h hnr Q s hs a w E hS;simp only[zg]at h;split at h
  ·cases h;cases hnr
  ·split at h
   ·cases h;cases hnr
   cases h;obtain⟨al,hal,hs⟩:=hs;have key:∀(Hs:List ((Option Nat→Nat)×(Nat→Option Nat))),al∈z1N P B.N ops draw Hs→∃H,∃F:Nat→Option Nat,z0i P B.N H F ops draw=some al.2∧al.1=al.2.flatMap SOper.news:=by
    intro Hs
    induction Hs<;>grind [z1N,only]
   obtain⟨H',F',htr,hn⟩:=key _ hal;refine zcU ze hm0 hN hG hX htr (s:=s.fgt al.1) (fun d hd=>z1J s (by grind)) hs (z1K hS al.1) zgX (fun s' a' w' E' hK hS'=>⟨.normal,s'.kill _,E',rfl,hK,z5K hS' _⟩)
 |seq a b iha ihb=>
  intro sc h hnr Q s hs ac w E hS;simp only[zg]at h;split at h<;>try(cases h;done)
  rename_i a' b' ha hb;cases h;simp only[z2C,Bool.and_eq_true]at hnr;refine wpIn_seq (wpIn_mono (iha ha hnr.1 hs hS) ?_);rintro x a2 w2 ⟨e,s2,E2,rfl,hq,hS2⟩;cases e with
  |normal=>exact ihb hb hnr.2 hq hS2
  |exit id=>exact⟨.exit id,s2,E2,rfl,hq,hS2⟩
  |ret=>exact⟨.ret,s2,E2,rfl,hq,hS2⟩
  |pan z=>exact⟨.pan z,s2,E2,rfl,hq,hS2⟩
 |cond cnd a b iha ihb=>
  intro sc h hnr Q s hs ac w E hS;simp only[zg]at h;split at h<;>try(cases h;done)
  cases h;simp only[z2C,Bool.and_eq_true]at hnr;obtain⟨t,h1,h2⟩:=hs;have hv:=val_rel (y:=.bool t) (zh hS h1) rfl;refine wpIn_cond hv ?_
  grind
 |block id a ih=>
  intro sc h hnr Q s hs ac w E hS;obtain⟨a',ha,rfl⟩:=gO h;refine wpIn_block (wpIn_mono (ih ha hnr hs hS) ?_);rintro x a2 w2 ⟨e,s2,E2,rfl,hq,hS2⟩;cases e with
  |normal=>exact⟨.normal,s2,E2,rfl,hq,hS2⟩
  |ret=>exact⟨.ret,s2,E2,rfl,hq,hS2⟩
  |pan z=>exact⟨.pan z,s2,E2,rfl,hq,hS2⟩
  |exit j=>
   simp only[SExit.to,Exit.inBlock]
   grind [only,z1q]
 |loop a ih=>
  intro sc h hnr;obtain⟨a',ha,rfl⟩:=gO h;cases hnr
 |rangeFunc x y c d ih1 ih2=>
  intro sc h hnr;simp only[zg]at h;cases h;cases hnr
 |_=>grind [zg]
end
end
section
section
variable{B:Base}{s:FS}{a:Act}{w w':World}{E:Env}{I:List Nat}{N:Nat}
theorem Sim.setPr(h:Sim B s a w E){pr:List (Nat×Obj)}(hp:∀p∈pr,mark p.2=true∧w.heap[p.1]?=some p.2)(hq:∀p∈pr,∃q∈B.pr,q.1=p.1):Sim { B with pr:=pr } s a w E:=
 ⟨⟨let⟨l,h0,h1,h2,h3⟩:=h.defers.col;⟨l,h0,h1,h2,fun D hD=>⟨(h3 D hD).1,fun p hp e=>let⟨q,h4,h5⟩:=hq p hp;(h3 D hD).2.1 q h4 (h5.trans e),(h3 D hD).2.2⟩⟩,hp⟩,h.size,h.tmp,⟨h.mem.box,h.mem.row,h.mem.bb,h.mem.br,h.mem.rr,h.mem.lt,h.mem.low,h.mem.keep,h.mem.knew,⟨h.mem.pas.β,h.mem.pas.γ,h.mem.pas.row⟩⟩,h.itr,h.ii⟩
theorem Sim.act(h:Sim B s a w E){a2:Act}(hsz:a2.tmps.size=B.N)(hd:a2.defers=B.ds)(ht:∀k x,s.t k=some x→RelT w E s.r x (a2.tmps.getD k undef)):Sim B s a2 w E:=
 ⟨by rw[hd];exact⟨⟨[],fun _=>rfl,.nil,rfl,fun _ h=>by cases h⟩,h.defers.pr⟩,hsz,fun k x hx=>⟨(h.tmp k x hx).1,ht k x hx⟩,h.mem,h.itr,h.ii⟩
theorem zdy(hS:Sim B s a w E)(hI:I.Nodup){os:List MO}(hos:seqO (fun d=>(s.mo d).bind (MO.ren (rhoIn I))) I=some os){a2:Act}{pr:List (Nat×Obj)}(hsz:a2.tmps.size=N)(hd:a2.defers=[])(hp:∀p∈pr,mark p.2=true∧w.heap[p.1]?=some p.2)(ts:List (Nat×TV))
  (hts:∀k x',(k,x')∈ts→k<N∧RelT w (zw E I) (zA os) x' (a2.tmps.getD k undef)):
  Sim { start w (zw E I) os N with pr:=pr } (ES.fs ⟨ts,numB 1000 os,numR 1000 os,[]⟩) a2 w (zw E I):=by
 have hMp:=z4T hS hI hos;have hb:(ES.fs ⟨ts,numB 1000 os,numR 1000 os,[]⟩).b=z0q os:=by funext d;show lk (numB 1000 os) d=_;rw[z9H];rfl
 have hr:(ES.fs ⟨ts,numB 1000 os,numR 1000 os,[]⟩).r=zA os:=by funext d;show lk (numR 1000 os) d=_;rw[z9I];rfl
 have hmem:∀{k:Nat} {x:TV},lk ts k=some x→(k,x)∈ts:=by
  clear hts hb hr
  induction ts<;>grind [only,lk,Nat.eq_of_beq_eq_true,List.mem_cons_self,List.mem_cons_of_mem]
 refine⟨by rw[hd];exact⟨⟨[],fun _=>rfl,.nil,rfl,fun _ h=>by cases h⟩,hp⟩,hsz,fun k x hx=> ?_,?_,fun d z p h=>(by cases h),fun d d' q q' h=>(by cases h)⟩
 ·rw[hr];exact hts k x (hmem hx)
 ·rw[hb,hr];exact⟨hMp.box,hMp.row,hMp.bb,hMp.br,hMp.rr,hMp.lt,hMp.low,hMp.keep,hMp.knew,⟨hMp.pas.β,hMp.pas.γ,hMp.pas.row⟩⟩
theorem zbL{keep:Bool}(hS:Sim B s a w E)(hI:I.Nodup)(hm0:B.m≤1000){k:Nat}(hfr:∀q<4,z0y s (newId k q)){os os':List MO}(hos:seqO (fun d=>(s.mo d).bind (MO.ren (rhoIn I))) I=some os)
  (hok:moOk os os'=true) {us:List (Nat×MO)} (hus:outs (rhoOut I k) 0 os'=some us) {pr:List (Nat×Obj)} {s':ES} {a':Act} {E':Env} (hS':Sim { start w (zw E I) os N with pr:=pr } s'.fs a' w' E') {y:TV} (hex:exitR [] keep os.length s'=some (y,os')):
  ∃E2,Sim B (s.upd none (.mem us)) a w' E2:=by
 obtain⟨E1,m1,_,l1⟩:=zeo (ds:=[]) (y0:=.tuple []) (v:=.tuple #[]) hok (hS'.setPr (pr:=[]) (fun _ h=>by cases h) (fun _ h=>by cases h)) (.tuple [] [] rfl (fun j c v h=>by simp at h)) ((zcG (F:=⟨0,.skip,[],keep⟩) rfl).symm.trans hex);exact⟨_,(z6q hS hI hm0 hfr hos hok hus m1 l1 none).1⟩
theorem Sim.freeze0(h:Sim B s a w E){d:Nat}{ps:List PV}(hd:s.b d=some (ps.map TV.pv)):
  ∃K',Sim B { s with b:=fun e=>if e=d then none else s.b e } a w { E with K:=K' }∧RelT w { E with K:=K' } s.r (.pv (.el ps)) (.pointer (some ⟨E.β d,0,none⟩))∧∀b o,E.K b o→K' b o:=by
 obtain⟨hbx,hq⟩:=h.mem.box d _ hd;have hk:∀b o u,E.K b o→w.cell? ⟨b,o,none⟩=some u→(E.K b o∨(b=E.β d∧o<ps.length))∧w.cell? ⟨b,o,none⟩=some u:=fun b o u h1 h2=>⟨.inl h1,h2⟩
 have hmono:∀{x:TV} {v:Value},RelT w E s.r x v→RelT w { E with K:=fun b o=>E.K b o∨(b=E.β d∧o<ps.length) } s.r x v:=fun hx=>hx.mono hk (fun _ _=>⟨rfl,rfl⟩) (fun _ _ _ _ _ hd=> .inl ⟨hd,rfl⟩) (Maps.refl w);have hb':∀{e:Nat} {cs:List TV},(if e=d then none else s.b e)=some cs→e≠d∧s.b e=some cs:=fun {e cs} he=>by
  grind
 refine⟨fun b o=>E.K b o∨(b=E.β d∧o<ps.length),⟨h.defers,h.size,fun k x hx=>⟨(h.tmp k x hx).1,hmono (h.tmp k x hx).2⟩,⟨fun e cs he=> ?_,fun e ty W n he=> ?_,fun e e' c c' h1 h2 h3=>h.mem.bb e e' c c' (hb' h1).2 (hb' h2).2 h3,fun e e' c q k cap h1 h2 h3=>h.mem.br e e' c q k cap (hb' h1).2 h2 h3,h.mem.rr,fun k o ho=> ?_,h.mem.low,fun k o u h1 h2=>⟨.inl (h.mem.keep k o u h1 h2).1,(h.mem.keep k o u h1 h2).2⟩,fun k o ho=> ?_,⟨h.mem.pas.β,h.mem.pas.γ,h.mem.pas.row⟩⟩,h.itr,h.ii⟩,?_,fun _ _ h=> .inl h⟩
 ·obtain⟨hed,he⟩:=hb' he;obtain⟨h1,h2⟩:=h.mem.box e cs he;refine⟨⟨h1.lt,h1.obj,h1.fz,fun j c hj=> ?_,fun o ho=> ?_⟩,h2⟩
  ·obtain⟨v,c1,c2,c3⟩:=h1.cell j c hj
   grind
  ·rcases ho with ho|⟨ho,_⟩
   ·exact h1.out o ho
   ·exact hed (h.mem.bb e d _ _ he hd ho)
 ·rcases h.mem.row e ty W n he with h1|⟨k,cap,h1,h2,h3⟩
  ·grind
  ·refine .inr ⟨k,cap,h1,h2,⟨h3.cells,h3.le,h3.max,fun o ho=> ?_⟩⟩;rcases ho with ho|⟨ho,_⟩
   ·exact h3.out o ho
   ·exact absurd ho.symm (h.mem.br d e _ _ k cap hd he h1)
 ·rcases ho with ho|⟨rfl,_⟩
  ·exact h.mem.lt k o ho
  ·exact hbx.lt
 ·rcases ho with ho|⟨rfl,_⟩
  ·exact h.mem.knew k o ho
  ·grind
 ·have hcell:∀(j:Nat) c,ps[j]?=some c→∃v,w.cell? ⟨E.β d,j,none⟩=some v∧one v∧RelV w E.K c v:=fun j c hj=>by
   obtain⟨v,c1,c2,c3⟩:=hbx.cell j (.pv c) (by grind);cases c3 with|pv c3=>exact⟨v,c1,c2,c3⟩
  refine .pv (.el ps (E.β d) 0 (fun j=>(w.cell? ⟨E.β d,j,none⟩).getD undef) (fun j c hj=> ?_) (fun j c hj=> ?_))
  ·grind
  ·obtain⟨v,c1,c2,c3⟩:=hcell j c hj;rw[c1];exact c3.mono hk
theorem zhJ{n:Nat}(hS:Sim B s a w E){os:List MO}(hos:seqO (fun d=>(s.mo d).bind (MO.ren (rhoIn I))) I=some os)(hn:n≤B.w0.heap.size)(hX:∀d b,B.X d b→n≤b):∀d b,z2j (zw E I) os d b→n≤b:=by
 intro d b hx;obtain⟨hlen,hB,hR⟩:=z4E hos;rcases hx with⟨cs,e1,e2⟩|⟨⟨e,W,m⟩,cap,e1,e2⟩
 ·obtain⟨j,rfl,hj⟩:=z2x e1;obtain⟨i,c,b1,b2,_⟩:=hB j cs hj;have e3:E.β i=b:=by grind [only,zw,getD_of]
  rcases(hS.mem.box i c b2).2 with e4|e4<;>grind
 ·obtain⟨j,rfl,hj⟩:=z0V e1;obtain⟨i,b1,b2,b3⟩:=hR j e W m hj;have e3:E.γ i=some (b,cap):=by grind [only,zw,getD_of]
  rcases hS.mem.row i e W m b3 with⟨e4,_⟩|⟨k,cap',e4,e5,_⟩<;>grind
end
end
section
variable{B:Base}{s:FS}{a:Act}{w:World}{E:Env}
theorem z7G{W:Nat}:∀{es:List (List PV)},(∀cs∈es,cs.length=W)→∀{i j:Nat} {cs:List PV} {c:PV},es[i]?=some cs→cs[j]?=some c→es.flatten[i*W+j]?=some c
 |[],_,i,j,cs,c,h,_=>by simp at h
 |x::es,hW,i,j,cs,c,h,hc=>by
  cases i with
  |zero=>
   grind
  |succ i=>
   have:=z7G (es:=es) (fun y hy=>hW y (List.mem_cons_of_mem _ hy)) (i:=i) (by grind) hc
   grind
theorem Sim.freezeS(h:Sim B s a w E){d W:Nat}{es:List (List PV)}(hd:s.b d=some (es.flatten.map TV.pv))(hW:∀cs∈es,cs.length=W):
  ∃K',Sim B { s with b:=fun e=>if e=d then none else s.b e } a w { E with K:=K' }∧∀c v,RelT w { E with K:=K' } s.r (.bs d 0 es.length c) v→RelT w { E with K:=K' } s.r (.pv (.sl W es)) v:=by
 obtain⟨K',h1,h2,_⟩:=h.freeze0 hd;refine⟨K',h1,fun c v hv=> ?_⟩;cases hv with
 |bs _ _ _ _ C hn hc hm=>
 cases h2 with
 |pv h2=>
 cases h2 with
 |el _ _ _ f hf hs=>
 refine .pv (.sl W es (E.β d) 0 C (some ⟨E.β d,0,none⟩) (fun i j=>f (i*W+j)) (fun _=>rfl) (by omega) hm hW (fun i j cs c e1 e2=> ?_) (fun i j cs c e1 e2=>hs _ _ (z7G hW e1 e2)))
 grind [z7G]
theorem z8C(s:ES)(d:Nat):(fun e=>if e=d then none else s.fs.b e)=lk (drp [d] s.b):=by
 funext e;rw[z4I];show(if e=d then none else lk s.b e)=_
 grind [has,Nat.beq_refl,only,z4g]
theorem z66{s:ES}{k d W c:Nat}{es:List (List PV)}(hd:lk s.b d=some (es.flatten.map TV.pv))(hW:∀cs∈es,cs.length=W)(hk:lk s.t k=some (.bs d 0 es.length c)):(⟨sv s.t k (.pv (.sl W es)),drp [d] s.b,s.r,s.i⟩:ES).Lw s:=by
 intro B a w E _ _ hS;obtain⟨K',h1,h2⟩:=hS.freezeS hd hW;refine⟨{ E with K:=K' },?_⟩;have:=h1.reT (k:=k) (x:=.bs d 0 es.length c) (y:=.pv (.sl W es)) hk (h2 c)
 grind [sv,drp,FS.setT,z8C,only,ES.fs,z1z]
theorem zrs{s:ES}{x j d W c:Nat}{cs:List TV}{es:List (List PV)}(hd:lk s.b d=some (es.flatten.map TV.pv))(hW:∀cs∈es,cs.length=W)(hx:x≠d)(hk:lk s.b x=some cs)(hj:cs[j]?=some (.bs d 0 es.length c)):(⟨s.t,sv (drp [d] s.b) x (cs.set j (.pv (.sl W es))),s.r,s.i⟩:ES).Lw s:=by
 intro B a w E _ _ hS;obtain⟨K',h1,h2⟩:=hS.freezeS hd hW;refine⟨{ E with K:=K' },?_⟩;have:=h1.reB (k:=x) (cs:=cs) (ds:=cs.set j (.pv (.sl W es))) (by show(if x=d then none else s.fs.b x)=_;rw[if_neg hx];exact hk) (fun i y hi=>by
  by_cases hij:j=i
  ·subst hij;have hl:j<cs.length:=(gJ hj).1;rw[List.getElem?_set_self hl]at hi;cases hi;exact⟨_,hj,h2 c⟩
  ·rw[List.getElem?_set_ne hij]at hi;exact⟨y,hi,fun v hv=>hv⟩)
 have he:(⟨s.t,sv (drp [d] s.b) x (cs.set j (.pv (.sl W es))),s.r,s.i⟩:ES).fs=FS.setB { s.fs with b:=fun e=>if e=d then none else s.fs.b e } x (cs.set j (.pv (.sl W es))):=by
  rw[z8C];simp only[ES.fs,FS.setB,z1z]
 rw[he];exact this
theorem zpU{s:ES}{k d W:Nat}{es:List (List PV)}(hd:lk s.b d=some (es.flatten.map TV.pv))(hW:∀cs∈es,cs.length=W)(hk:lk s.t k=some (.bs d 0 es.length 0)):(⟨sv s.t k (.tsl W es),drp [d] s.b,s.r,s.i⟩:ES).Lw s:=by
 intro B a w E _ _ hS;obtain⟨K',h1,h2⟩:=hS.freezeS hd hW;refine⟨{ E with K:=K' },?_⟩;have:=h1.reT (k:=k) (x:=.bs d 0 es.length 0) (y:=.tsl W es) hk (fun v hv=>by
  have h3:=h2 0 v hv;cases hv with
  |bs _ _ _ _ C hn hc hm=>
  obtain rfl:C=es.length:=by omega
  cases h3 with
  |pv h3=>exact .tsl W es _ h3)
 grind [sv,drp,FS.setT,z8C,only,ES.fs,z1z]
theorem zpT{s:ES}{x j d W:Nat}{cs:List TV}{es:List (List PV)}(hd:lk s.b d=some (es.flatten.map TV.pv))(hW:∀cs∈es,cs.length=W)(hx:x≠d)(hk:lk s.b x=some cs)(hj:cs[j]?=some (.bs d 0 es.length 0)):(⟨s.t,sv (drp [d] s.b) x (cs.set j (.tsl W es)),s.r,s.i⟩:ES).Lw s:=by
 intro B a w E _ _ hS;obtain⟨K',h1,h2⟩:=hS.freezeS hd hW;refine⟨{ E with K:=K' },?_⟩;have:=h1.reB (k:=x) (cs:=cs) (ds:=cs.set j (.tsl W es)) (by show(if x=d then none else s.fs.b x)=_;rw[if_neg hx];exact hk) (fun i y hi=>by
  by_cases hij:j=i
  ·subst hij;have hl:j<cs.length:=(gJ hj).1;rw[List.getElem?_set_self hl]at hi;cases hi;refine⟨_,hj,fun v hv=> ?_⟩;have h3:=h2 0 v hv;cases hv with
   |bs _ _ _ _ C hn hc hm=>
   obtain rfl:C=es.length:=by omega
   cases h3 with
   |pv h3=>exact .tsl W es _ h3
  ·rw[List.getElem?_set_ne hij]at hi;exact⟨y,hi,fun v hv=>hv⟩)
 have he:(⟨s.t,sv (drp [d] s.b) x (cs.set j (.tsl W es)),s.r,s.i⟩:ES).fs=FS.setB { s.fs with b:=fun e=>if e=d then none else s.fs.b e } x (cs.set j (.tsl W es)):=by
  rw[z8C];simp only[ES.fs,FS.setB,z1z]
 rw[he];exact this
theorem zsj{w:World}{E:Env}{r:Rows}{W:Nat}{es:List (List PV)}{v:Value}(h:RelT w E r (.tsl W es) v):RelT w E r (.pv (.sl W es)) v:=by
 cases h with
 |tsl _ _ p h=>exact .pv h
end
section
theorem zrt{s:ES}{k d:Nat}{ps:List PV}(hd:lk s.b d=some (ps.map TV.pv))(hk:lk s.t k=some (.ptr d 0)):(⟨sv s.t k (.pv (.el ps)),drp [d] s.b,s.r,s.i⟩:ES).Lw s:=by
 intro B a w E _ _ hS;obtain⟨K',h1,h2,_⟩:=hS.freeze0 hd;refine⟨{ E with K:=K' },?_⟩;have:=h1.reT (k:=k) (x:=.ptr d 0) (y:=.pv (.el ps)) hk (fun v hv=>by cases hv;exact h2)
 grind [sv,drp,FS.setT,z8C,only,ES.fs,z1z]
section
variable{P:Program}{g:Glob}{N:Nat}{a b c:SCode}{Q Q':SExit→ES→Prop}{s s0:ES}
@[congr] theorem sem_congr (h:s=s0):z43 P g N c Q s=z43 P g N c Q s0:=by rw[h]
theorem zga(h:z43 P g N c Q s)(hq:∀e s,Q e s→Q' e s):z43 P g N c Q' s:=fun H Fp K code ht B a w E h1 h0 h2 h3 h4 h5 h6=>wp_mono (h H Fp K code ht B a w E h1 h0 h2 h3 h4 h5 h6) (by
 rintro x a' w' ⟨e,s',E',q1,q2,q3⟩;exact⟨e,s',E',q1,hq _ _ q2,q3⟩)
theorem z2t(hl:s0.Lw s)(h:z43 P g N c Q s0):z43 P g N c Q s:=by
 intro H Fp K code ht B a w E h1 h0 h2 h3 h4 h5 h6;obtain⟨E',h7⟩:=hl B a w E h2 h3 h6;exact h H Fp K code ht B a w E' h1 h0 h2 h3 h4 h5 h7
theorem zqD(h:z43 P g N a (z2G (z43 P g N b Q) Q) s):z43 P g N (.seq a b) Q s:=by
 intro H Fp K code ht B ac w E h1 h0 h2 h3 h4 h5 h6;cases code with
 |seq x y=>
  simp only[zg]at ht;split at ht<;>try(cases ht;done)
  rename_i a' b' ha hb;cases ht;refine wp_seq (wp_mono (h H Fp K x ha B ac w E h1 h0 h2 h3 h4 h5 h6) ?_);rintro z a2 w2 ⟨e,s2,E2,rfl,hq,hS2⟩;cases e with
  |normal=>exact hq H Fp K y hb B a2 w2 E2 h1 h0 h2 h3 h4 h5 hS2
  |exit id=>exact⟨.exit id,s2,E2,rfl,hq,hS2⟩
  |ret=>exact⟨.ret,s2,E2,rfl,hq,hS2⟩
  |pan z=>exact⟨.pan z,s2,E2,rfl,hq,hS2⟩
 |skip|exit id|ret|rangeFunc _ _ _ _=>simp[zg]at ht
 |region id ops draw=>
  grind [only,zg]
 |cond x y z=>
  grind [only,zg]
 |block id x=>
  grind [only,zg,Option.map_eq_some_iff]
 |loop x=>
  grind [only,zg,Option.map_eq_some_iff]
 |_=>simp[zg]at ht
theorem zE(ze:P.follows .mixedOrders=true)(h:swp P g a (z2G (z43 P g N b Q) Q) s):z43 P g N (.seq a b) Q s:=zqD (z26 ze h)
end
theorem znc{P:Program}{g:Glob}{f:Nat}{H:Nat→Option Nat→Nat}{Fp:Nat→List (Nat→Option Nat)}{K:Nat→List Nat}{keep:Bool}{F:SFunc}(ze:P.follows .mixedOrders=true)(hF:zW P f H Fp K keep=some F){xs:List TV}{os os':List MO}{y:TV}(hn:Nat.ble xs.length F.N=true)(hos:Nat.ble os.length 1000=true)(hmo:moOk os os'=true)
  (h:z43 P g F.N F.code (PostR F.res F.keep os.length y os') (startE xs os)):SCalls P g f xs os y os':=
 zaf ze hF (Nat.le_of_ble_eq_true hn) (Nat.le_of_ble_eq_true hos) hmo (zga h fun e s he=>by
  cases e with
  |normal=>exact⟨.inr rfl,by rw[z9v];exact he⟩
  |ret=>exact⟨.inl rfl,by rw[z9v];exact he⟩
  |exit id=>exact he.elim
  |pan z=>exact he.elim)
theorem z23{P:Program}{g:Glob}{f:Nat}{H:Nat→Option Nat→Nat}{Fp:Nat→List (Nat→Option Nat)}{K:Nat→List Nat}{keep:Bool}{F:SFunc}(ze:P.follows .mixedOrders=true)(hF:zW P f H Fp K keep=some F){xs:List TV}{y:TV}(hn:Nat.ble xs.length F.N=true)
  (h:z43 P g F.N F.code (Post0 F.res y) (startE xs [])):SCalls P g f xs [] y []:=by
 have key:∀s,ansW y (resT s.fs F.res)→exitR F.res F.keep 0 s=some (y,[]):=by
  intro s he;cases hr:resT s.fs F.res with
  |none=>rw[hr]at he;exact he.elim
  |some y0=>
   rw[hr]at he;obtain⟨h1,h2⟩:=he;simp[exitR,exitF,hr,idsFrom,h1,zx,h2,seqO]
 refine znc ze hF hn rfl rfl (zga h fun e s he=> ?_);cases e with
 |normal=>exact key s he
 |ret=>exact key s he
 |exit id=>exact he.elim
 |pan z=>exact he.elim
end
theorem zmo{w:World}{E:Env}{N:Nat}:∀d b,¬(start w E [] N).X d b:=fun d b hx=>by
 rcases hx with⟨cs,h1,_⟩|⟨q,cap,h1,_⟩<;>grind [z0q,zA]
theorem z2y{w:World}{E:Env}{N:Nat}:∀d,¬(start w E [] N).old d:=fun d h=>by have h1:=h.1;have h2:d<1000+0:=h.2;omega
theorem z47{e W n d:Nat}{q:Nat×Nat×Nat}(h:zA [.row e W n] d=some q):d=1000∧q=(e,W,n):=by
 grind [zA]
theorem zaY{cs:List TV}{d:Nat}{c:List TV}(h:z0q [.box cs] d=some c):d=1000∧c=cs:=by
 grind [z0q]
theorem z54{e W n d:Nat}:z0q [.row e W n] d=none:=by
 grind [z0q]
theorem zaZ{cs:List TV}{d:Nat}:zA [.box cs] d=none:=by
 grind [zA]
theorem zdB{X:Nat→Nat→Prop}{w w':World}(h:Below w.heap.size w w'):Low X w w':=⟨h.os,h.tape,h.output,h.size,fun k hk _=>h.block k hk⟩
theorem zfN{P:Program}{g:Glob}{f:Nat}{xs:List TV}{e W:Nat}{es:List (List PV)}(hW:0<W)(hb:z4Y P f)
  (h:∀(w:World) (E:Env) (us:List Value),g.G w→xs.length=us.length→(∀(j:Nat) x v,xs[j]?=some x→us[j]?=some v→RelT w E (zA []) x v)→
   ∃(news:List Value) (F:Nat→Nat→Value),News w E.K W es news F∧Calls P f us.toArray w fun o w'=>∃v',o=.returned v'∧w'.ownsRow w.heap.size e W v' es.length news∧Below w.heap.size w w'):
  SCalls P g f xs [] (.own 1000 W es) [.row e W es.length]:=by
 refine⟨hb,fun w E us hG hm hX hl hr=> ?_⟩;obtain⟨news,F,hn,hc⟩:=h w E us hG hl hr;refine hc.mono ?_;rintro o w' ⟨v',rfl,hown,hbel⟩;have hk0:∀b o u,E.K b o→w.cell? ⟨b,o,none⟩=some u→w'.cell? ⟨b,o,none⟩=some u:=fun b o u h1 h2=>(hbel.cell (z1y h2)).trans h2;obtain⟨hlen,hown⟩:=hown;rcases hown with⟨rfl,h0⟩|⟨k,cap,cur,rfl,hk,hcur,hle,hmax,hsz,htake⟩
 ·have hes:es=[]:=List.eq_nil_of_length_eq_zero h0;subst hes;refine⟨_,{ E with γ:=fun j=>if j=1000 then none else E.γ j },rfl,⟨fun d cs hd=>(by grind [z54]),fun d e' W' n hd=> ?_,fun d d' cs cs' hd=>(by grind [z54]),fun d d' cs q k cap hd=>(by grind [z54]),fun d d' q q' k cap cap' h1 h2 h3=> ?_,fun k o ho=>Nat.lt_of_lt_of_le (hm.lt k o ho) hbel.size,zdB hbel,fun k o u h1 h2=>⟨h1,hk0 k o u h1 h2⟩,fun k o h1=> .inl h1,⟨fun d hd=>absurd hd (z2y d),fun d hd=>absurd hd (z2y d),fun d e W n hd=>absurd hd (z2y d)⟩⟩,?_,⟨fun d h1 h2=>absurd h2 (by omega),fun d h1 h2=>absurd h2 (by omega),fun d e W n hd=>by simp[zA]at hd⟩⟩
  ·obtain⟨rfl,hq⟩:=z47 hd
   grind
  ·obtain⟨rfl,_⟩:=z47 h1;simp at h3
  ·refine .own 1000 W [] _ (.sl W [] 0 0 0 none (fun _ _=>undef) (by simp) (by simp) (Nat.zero_le _) (by simp) (by simp) (by simp)) (fun e' W' n hd=> ?_);obtain⟨_,hq⟩:=z47 hd;cases hq;exact⟨Nat.le_refl _,fun _=>⟨rfl,by simp[hdr]⟩⟩
 ·have hcell:∀(j:Nat) u,news[j]?=some u→w'.cell? ⟨k,j,none⟩=some u:=fun j u hj=>by
   have hj':j<es.length*W:=by grind
   have:=World.ownsRow.cellAt (w:=w') (base:=w.heap.size) (e:=e) (size:=W) (g:=k) (n:=es.length) (cap:=cap) (xs:=news) ⟨hlen,.inr ⟨k,cap,cur,rfl,hk,hcur,hle,hmax,hsz,htake⟩⟩ j hj'
   grind
  let K':Nat→Nat→Prop:=fun b o=>E.K b o∨(b=k∧o<es.length*W)
  have hkk:∀b o u,E.K b o→w.cell? ⟨b,o,none⟩=some u→K' b o∧w'.cell? ⟨b,o,none⟩=some u:=fun b o u h1 h2=>⟨.inl h1,hk0 b o u h1 h2⟩
  have hklt:k<w'.heap.size:=(gA hcur).1;refine⟨_,{ E with K:=K',γ:=fun j=>if j=1000 then some (k,cap)else E.γ j },rfl,⟨fun d cs hd=>(by grind [z54]),fun d e' W' n hd=> ?_,fun d d' cs cs' hd=>(by grind [z54]),fun d d' cs q k cap hd=>(by grind [z54]),fun d d' q q' k cap cap' h1 h2 h3 _=> ?_,fun b o ho=> ?_,zdB hbel,fun b o u h1 h2=>⟨.inl h1,hk0 b o u h1 h2⟩,fun b o h1=> ?_,⟨fun d hd=>absurd hd (z2y d),fun d hd=>absurd hd (z2y d),fun d e W n hd=>absurd hd (z2y d)⟩⟩,?_,⟨fun d h1 h2=>absurd h2 (by grind),fun d h1 h2=>absurd h2 (by grind),fun d e W n hd=>by simp[zA]at hd⟩⟩
  ·obtain⟨rfl,hq⟩:=z47 hd;cases hq;refine .inr ⟨k,cap,by simp,.inl hk,⟨⟨cur,hcur,hsz⟩,hle,hmax,fun o ho=> ?_⟩⟩;rcases ho with ho|⟨_,ho⟩
   ·exact absurd (hm.lt k o ho) (by omega)
   ·exact ho
  ·obtain⟨rfl,_⟩:=z47 h1
   grind [z47]
  ·rcases ho with ho|⟨rfl,_⟩
   ·exact Nat.lt_of_lt_of_le (hm.lt b o ho) hbel.size
   ·exact hklt
  ·rcases h1 with h1|⟨rfl,_⟩
   ·exact .inl h1
   ·exact .inr (.inl hk)
  ·refine .own 1000 W es _ (.sl W es k 0 cap _ F (fun _=>rfl) hle hmax hn.len (fun i j cs c h1 h2=> ?_) (fun i j cs c h1 h2=> ?_)) (fun e' W' n hd=> ?_)
   ·obtain⟨n1,n2,_⟩:=hn.at_ i j cs c h1 h2
    grind
   ·exact(hn.at_ i j cs c h1 h2).2.2.mono hkk
   ·obtain⟨_,hq⟩:=z47 hd;cases hq;exact⟨Nat.le_refl _,fun _=>⟨rfl,by simp[hdr]⟩⟩
def PV.flat:PV→Bool
 | .v _=>true
 | .sl _ []=>true
 |_=>false
theorem znB{w:World}{K K':Nat→Nat→Prop}{p:PV}{v:Value}(hp:p.flat=true)(h:RelV w K p v):RelV w K' p v:=by
 cases h with
 |v=>exact .v _
 |sl W es b off cap p f hp' hcap hmax hW hc hs=>
  cases es with
  |nil=>exact .sl W [] b off cap p f hp' hcap hmax hW (by simp) (by simp)
  |cons x l=>simp[PV.flat]at hp
 |_=>simp[PV.flat]at hp
theorem SCalls.boxed{P:Program}{g:Glob}{f:Nat}{xs:List TV}{e W:Nat}{es:List (List PV)}(h:SCalls P g f xs [] (.own 1000 W es) [.row e W es.length])(hne:es≠[])(hfl:∀cs∈es,cs.length=W∧∀c∈cs,c.flat=true):
  SCalls P g f xs [] (.bs 1000 0 es.length es.length) [.box (es.flatten.map TV.pv)]:=by
 refine⟨h.1,fun w E us hG hm hX hl hr=>(h.2 w E us hG hm hX hl hr).mono ?_⟩;rintro o w' ⟨v,E',rfl,hM,hrel,hleft⟩;have hq:zA [.row e W es.length] 1000=some (e,W,es.length):=by simp[zA]
 cases hrel with
 |own _ _ _ _ hv hown=>
 obtain⟨_,hval⟩:=hown e W es.length hq;obtain⟨_,rfl⟩:=hval rfl;have hpos:0<es.length:=List.length_pos_iff.2 hne;rcases hM.row 1000 e W es.length hq with⟨_,h0⟩|⟨k,cap,hg,hk,hrow⟩
 ·omega
 have hk:w.heap.size≤k:=by
  rcases hk with hk|hk
  ·exact hk
  ·exact absurd hk (zmo _ _)
 rw[hg]at hv ⊢;obtain⟨cur,hcur,hsz⟩:=hrow.cells;obtain⟨b,off,cap',p,F,he,hp,_,_,hWs,hcs⟩:=z1g hv;have hpe:=hp hne;subst hpe;obtain⟨⟨rfl,rfl,_⟩,_,rfl⟩:=he;have hno:∀d,¬(start w E [] 0).old d:=z2y;have hcl:cur.toList.length=cap*W:=by rw[Array.length_toList];exact hsz
 have htk:(cur.toList.take (es.length*W)).length=es.length*W:=by rw[List.length_take,hcl];exact Nat.min_eq_left (Nat.mul_le_mul_right W hrow.le)
 refine⟨_,{ E' with K:=fun b o=>E'.K b o∧b≠k,β:=fun j=>if j=1000 then k else E'.β j },rfl,⟨fun d cs hd=> ?_,fun d e' W' n hd=>(by rw[zaZ]at hd;cases hd),fun d d' cs cs' h1 h2 _=> ?_,fun d d' cs q k cap _ h2=>(by rw[zaZ]at h2;cases h2),fun d d' q q' k cap cap' h1=>(by rw[zaZ]at h1;cases h1),fun b o ho=>hM.lt b o ho.1,hM.low,fun b o u h1 h2=> ?_,fun b o h1=>hM.knew b o h1.1,⟨fun d hd=>absurd hd (hno d),fun d hd=>absurd hd (hno d),fun d e W n hd=>absurd hd (hno d)⟩⟩,?_,⟨fun d h1 h2=>absurd h2 (by simp;omega),fun d h1 h2=>absurd h2 (by simp;omega),fun d e W n hd=>by simp[zA]at hd⟩⟩
 ·obtain⟨rfl,rfl⟩:=zaY hd;refine⟨⟨(gA hcur).1,⟨_,_,_,hcur⟩,fun o=> ?_,fun j c hj=> ?_,fun o ho=>ho.2 rfl⟩,.inl hk⟩
  ·exact World.ownsRow.frozenAt (w:=w') (base:=0) (e:=e) (size:=W) (g:=k) (n:=es.length) (cap:=cap) (xs:=cur.toList.take (es.length*W)) ⟨htk,.inr ⟨k,cap,cur,rfl,Nat.zero_le _,hcur,hrow.le,hrow.max,hsz,rfl⟩⟩ o
  ·rw[List.getElem?_map]at hj;obtain⟨p,hp,rfl⟩:=gO hj;obtain⟨i,q,cs,h1,h2,rfl⟩:=z79 (fun cs h=>(hfl cs h).1) hp;obtain⟨⟨_,c2,c3⟩,c4⟩:=hcs i q cs p h1 h2;rw[Nat.zero_add]at c2;exact⟨_,c2,c3,.pv (znB ((hfl cs (gM h1)).2 p (gM h2)) c4)⟩
 ·obtain⟨rfl,_⟩:=zaY h1;obtain⟨rfl,_⟩:=zaY h2;rfl
 ·obtain⟨h3,h4⟩:=hM.keep b o u h1 h2;refine⟨⟨h3,fun hb=> ?_⟩,h4⟩;have:b<w.heap.size:=z1y h2;omega
 ·have:(⟨(if(1000:Nat)=1000 then k else E'.β 1000),0,none⟩:Addr)=⟨k,0,none⟩:=by simp
  exact .bs (E:={ E' with K:=fun b o=>E'.K b o∧b≠k,β:=fun j=>if j=1000 then k else E'.β j }) 1000 0 es.length es.length cap (.inl ⟨Nat.le_refl _,hpos⟩) hrow.le hrow.max
end Go.Sh
end

section
namespace Go.Proofs.YtpmlapgbmgbilaaGreatDoor
open Go Go.RowKit Go.Mor Go.Sh
theorem z4r(l:List V)(x:V):V.rows (l++[x])=V.rows l++[[.v (.int .i64 x.k),.v (.int .i64 x.n),.v (.string (str x.s)),.sl 4 (V.rows x.l)]]:=by rw[z1e,z1e,List.map_append,List.map_cons,List.map_nil,z2l]
theorem zcf(l:List V):∀cs∈V.rows l,cs.length=4:=by
 intro cs h;rw[z1e]at h;obtain⟨f,_,rfl⟩:=List.mem_map.1 h;rw[z2l];rfl
theorem z7j{α:Type}{W:Nat}{x:List α}(hx:x.length=W):∀{X:List (List α)} {k:Nat},(∀cs∈X,cs.length=W)→k<X.length→List.take (k*W) X.flatten++x++List.drop (k*W+W) X.flatten=(X.set k x).flatten
 |[],k,_,h=>by simp at h
 |y::X,0,hW,_=>by
  have hy:=hW y (List.mem_cons_self ..);rw[List.flatten_cons,List.set_cons_zero,List.flatten_cons,Nat.zero_mul,List.take_zero,List.nil_append,Nat.zero_add,List.drop_append,List.drop_eq_nil_of_le (by omega),hy,Nat.sub_self,List.drop_zero,List.nil_append]
 |y::X,k+1,hW,h=>by
  have hy:=hW y (List.mem_cons_self ..);have ih:=z7j hx (X:=X) (k:=k) (fun cs hc=>hW cs (List.mem_cons_of_mem _ hc)) (by simpa using h);rw[List.flatten_cons,List.set_cons_succ,List.flatten_cons,←ih];have e1:(k+1)*W=W+k*W:=by rw[Nat.add_mul];omega
  rw[e1,List.take_append,List.drop_append,List.take_of_length_le (by omega),List.drop_eq_nil_of_le (by omega),hy];simp[Nat.add_sub_cancel_left,Nat.add_assoc]
theorem zoS(l:List V)(k:Nat)(v:V)(h:k<l.length):List.take (k*4) (pvC (V.rows l).flatten)++[TV.pv (.v (.int .i64 v.k)),TV.pv (.v (.int .i64 v.n)),TV.pv (.v (.string (str v.s))),TV.pv (.sl 4 (V.rows v.l))]++List.drop (k*4+4) (pvC (V.rows l).flatten)=pvC (V.rows (l.set k v)).flatten:=by
 have hs:V.rows (l.set k v)=(V.rows l).set k (V.row v):=by rw[z1e,z1e,List.map_set]
 rw[hs,←z7j (x:=V.row v) (by rw[z2l];rfl) (zcf l) (by rw[z1u];exact h),z2l];unfold pvC;simp[List.map_take,List.map_drop]
end Go.Proofs.YtpmlapgbmgbilaaGreatDoor
end
