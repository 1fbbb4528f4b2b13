/- Merged texts: S21 S22 S23 S24 Ze1. No statement of the program is proved here. -/
import Derived.Test.YtcpaleaajdilgaaGreatDoorQ15
import Derived.OrdersIn
import Derived.RangeFuncWrites
set_option linter.unusedSimpArgs false
set_option linter.unusedVariables false
set_option maxRecDepth 100000
set_option maxHeartbeats 8000000
section
namespace Go.Sh
open Go Go.RowKit
section
section
variable{P:Program}{g:Glob}
theorem z6k{w:World}{E:Env}{os:List MO}{N:Nat}{xs:List TV}{vs:List Value}(hn:xs.length≤N)(hm:MSim (start w E os 0) (z01 os) (zm os) w E)(hl:xs.length=vs.length)(hxs:∀(j:Nat) x v,xs[j]?=some x→vs[j]?=some v→RelT w E (zm os) x v):
  Sim (start w E os N) (startE xs os).fs { tmps:=vs.toArray++Array.replicate (N-vs.toArray.size) undef,defers:=[] } w E:=by
 have hmB:MSim (start w E os N) (z01 os) (zm os) w E:=⟨hm.box,hm.row,hm.bb,hm.br,hm.rr,hm.lt,hm.low,hm.keep,hm.knew,⟨hm.pas.β,hm.pas.γ,hm.pas.row⟩⟩
 have hfs:(startE xs os).fs=⟨fun k=>xs[k]?,z01 os,zm os,fun _=>none⟩:=by
  refine FS.ext' (fun k=> ?_) (fun k=> ?_) (fun k=> ?_) (fun k=>rfl)
  ·show lk (numT 0 xs) k=_;rw[z9k];simp
  ·show lk (numB 1000 os) k=_;rw[z5x];rfl
  ·show lk (numR 1000 os) k=_;rw[z5y];rfl
 have hsize:(vs.toArray++Array.replicate (N-vs.toArray.size) undef).size=N:=by
  grind
 rw[hfs];refine⟨rfl,hsize,fun k x hx=> ?_,hmB,fun d z p hd=>(by cases hd),fun d d' q q' hd=>(by cases hd)⟩;have hk:k<xs.length:=(gJ hx).1;refine⟨Nat.lt_of_lt_of_le hk hn,?_⟩;have hkv:k<vs.length:=by omega
 have hv:(vs.toArray++Array.replicate (N-vs.toArray.size) undef).getD k undef=vs[k]:=by
  rw[Array.getD_eq_getD_getElem?,Array.getElem?_append_left (by omega)];simp[hkv]
 rw[hv];exact hxs k x _ hx (gE hkv)
theorem z6N{fn:Func}{rs:List SRes}{keep:Bool}{w w':World}{E E':Env}{os os':List MO}{N:Nat}{ds:List Deferred}{a':Act}{s':ES}{y:TV}{F:SFunc}(hF1:F.res=rs)(hF2:F.keep=keep)(hrs:seqO (z1m P) fn.results.toList=some rs)(hmo:moOk os os'=true)
  (hS':Sim { start w E os N with ds:=ds } s'.fs a' w' E') (hex:exitF F os.length s'=some (y,os')):
  ∃v,(results fn a'.tmps).run P w'=.ok v w'∧(∃v_1 E'_1,Ending.returned v=Ending.returned v_1∧MSim (start w E os 0) (z01 os') (zm os') w' E'_1∧RelT w' E'_1 (zm os') y v_1∧Left E os E'_1 os'):=by
 subst hF1;unfold exitF at hex;split at hex<;>try(cases hex;done)
 rename_i y0 hy0;obtain⟨v,hrun,hrel⟩:=za2 (fn:=fn) hrs hS' hy0;refine⟨v,hrun,v,?_⟩;simp at hex;obtain⟨i1,i2,i3⟩:=z3L os.length 1000;generalize hal:zx s'.fs F.keep 64 (y0.ids3++(idsFrom 1000 os.length).flatMap fun d=>match s'.fs.b d with|some cs=>cs.flatMap TV.ids1|none=>[]) (idsFrom 1000 os.length)=al at hex;obtain⟨hnd,t,hpre⟩:=z1x (s:=s'.fs) (rows:=F.keep) 64 (y0.ids3++(idsFrom 1000 os.length).flatMap fun d=>match s'.fs.b d with|some cs=>cs.flatMap TV.ids1|none=>[]) _ i1;rw[hal]at hnd hpre;split at hex<;>try(cases hex;done)
 rename_i y1 os1 hren hmos;cases hex;have hpas:∀j,j<os.length→al[j]?=some (1000+j):=fun j hj=>by
  grind [List.getElem?_append_left,z3D]
 have hM:=z2E hS' hnd hmos;obtain⟨hlen,hBx,hRx⟩:=z2Q hmos;have hβ:∀{i j},al[j]?=some i→(zo E' al).β (1000+j)=E'.β i:=fun hj=>by simp only[zo];rw[getD_of hj]
 have hγ:∀{i j},al[j]?=some i→(zo E' al).γ (1000+j)=E'.γ i:=fun hj=>by simp only[zo];rw[getD_of hj]
 have hXs:∀{i j b},al[j]?=some i→z1w E os i b→z1w E os (1000+j) b:=by
  intro i j b hj hx;have hi:∃q,i=1000+q∧q<os.length:=by
   rcases hx with⟨cs,h1,_⟩|⟨⟨e,W,n⟩,cap,h1,_⟩<;>grind [z0D,List.getElem?_eq_some_iff,zY]
  obtain⟨q,rfl,hq⟩:=hi;have a1:=z1B hnd hj;have a2:=z1B hnd (hpas q hq)
  grind
 have hM':MSim (start w E os 0) (z01 os') (zm os') w' (zo E' al):=by
  refine⟨fun d cs' hd=> ?_,fun d e W n hd=> ?_,hM.bb,hM.br,hM.rr,hM.lt,hS'.mem.low,hS'.mem.keep,hS'.mem.knew,⟨fun d ho=> ?_,fun d ho h0=> ?_,fun d e W n ho hd=> ?_⟩⟩
  ·refine⟨(hM.box d cs' hd).1,?_⟩;obtain⟨j,rfl,hj⟩:=z0D hd;obtain⟨i,cs,q1,q2,_⟩:=hBx j cs' hj;rw[hβ q1];rcases(hS'.mem.box i cs q2).2 with h1|h1
   ·exact .inl h1
   ·exact .inr (hXs q1 h1)
  ·obtain⟨j,rfl,hj⟩:=zY hd;obtain⟨i,q1,q2,q3⟩:=hRx j e W n hj;rw[hγ q1];rcases hS'.mem.row i e W n q3 with h1|⟨k,cap,h1,h2,h3⟩
   ·grind
   ·exact .inr ⟨k,cap,h1,h2.imp id (hXs q1),h3.cells,h3.le,h3.max,h3.out⟩
  ·obtain⟨q,rfl⟩:∃q,d=1000+q:=⟨d-1000,by have:=ho.1;omega⟩
   have hq:q<os.length:=by have:=ho.2;have h2:1000+q<1000+os.length:=this;omega
   rw[hβ (hpas q hq)];exact hS'.mem.pas.β _ ho
  ·obtain⟨q,rfl⟩:∃q,d=1000+q:=⟨d-1000,by have:=ho.1;omega⟩
   have hq:q<os.length:=by have:=ho.2;have h2:1000+q<1000+os.length:=this;omega
   rw[hγ (hpas q hq)];exact hS'.mem.pas.γ _ ho h0
  ·obtain⟨q,rfl⟩:∃q,d=1000+q:=⟨d-1000,by have:=ho.1;omega⟩
   have hq:q<os.length:=by have:=ho.2;have h2:1000+q<1000+os.length:=this;omega
   obtain⟨j,hj0,hj⟩:=zY hd;obtain rfl:q=j:=by omega
   obtain⟨i,q1,q2,q3⟩:=hRx q e W n hj;rw[hpas q hq]at q1;cases q1;rw[hγ (hpas q hq)];exact hS'.mem.pas.row _ e W n ho q3
 refine⟨zo E' al,rfl,hM',z3U (z7F hmos) (fun _ _ _ h _=>h) hrel hren,⟨fun d h1 h2=>hM'.pas.β d ⟨h1,h2⟩,fun d h1 h2 h0=>hM'.pas.γ d ⟨h1,h2⟩ h0,fun d e W n hd=> ?_⟩⟩;obtain⟨q,rfl,hq⟩:=zY hd;have hql:q<os.length:=(gJ hq).1;obtain⟨n',h1,h2⟩:=(z2D hmo).2.2.2 q e W n hq;obtain⟨n0,h3,h4,h5⟩:=hM'.pas.row (1000+q) e W n' ⟨by omega,by show 1000+q<1000+os.length;omega⟩ (z0Q h1);have h3:zm os (1000+q)=some (e,W,n0):=h3;rw[hd]at h3;cases h3;exact⟨n',z0Q h1,h4,h5⟩
def z7f(y0:TV)(keep:Bool)(n:Nat)(s:ES):Option (TV×List MO):=
 let I0:=idsFrom 1000 n
 let al:=zx s.fs keep 64 (y0.ids3++I0.flatMap fun d=>match s.fs.b d with|some cs=>cs.flatMap TV.ids1|none=>[]) I0
 match y0.ren3 (rhoIn al),seqO (fun d=>(s.fs.mo d).bind (MO.ren (rhoIn al))) al with
 |some y,some os'=>some (y,os')
 |_,_=>none
theorem zn0{keep:Bool}{w w':World}{E E':Env}{os os':List MO}{N:Nat}{ds:List Deferred}{a':Act}{s':ES}{y0 y:TV}{v:Value}(hmo:moOk os os'=true)
  (hS':Sim { start w E os N with ds:=ds } s'.fs a' w' E') (hrel:RelT w' E' s'.fs.r y0 v) (hex:z7f y0 keep os.length s'=some (y,os')):
  ∃E'_1,MSim (start w E os 0) (z01 os') (zm os') w' E'_1∧RelT w' E'_1 (zm os') y v∧Left E os E'_1 os':=by
 unfold z7f at hex;simp at hex;obtain⟨i1,i2,i3⟩:=z3L os.length 1000;generalize hal:zx s'.fs keep 64 (y0.ids3++(idsFrom 1000 os.length).flatMap fun d=>match s'.fs.b d with|some cs=>cs.flatMap TV.ids1|none=>[]) (idsFrom 1000 os.length)=al at hex;obtain⟨hnd,t,hpre⟩:=z1x (s:=s'.fs) (rows:=keep) 64 (y0.ids3++(idsFrom 1000 os.length).flatMap fun d=>match s'.fs.b d with|some cs=>cs.flatMap TV.ids1|none=>[]) _ i1;rw[hal]at hnd hpre;split at hex<;>try(cases hex;done)
 rename_i y1 os1 hren hmos;cases hex;have hpas:∀j,j<os.length→al[j]?=some (1000+j):=fun j hj=>by
  grind [List.getElem?_append_left,z3D]
 have hM:=z2E hS' hnd hmos;obtain⟨hlen,hBx,hRx⟩:=z2Q hmos;have hβ:∀{i j},al[j]?=some i→(zo E' al).β (1000+j)=E'.β i:=fun hj=>by simp only[zo];rw[getD_of hj]
 have hγ:∀{i j},al[j]?=some i→(zo E' al).γ (1000+j)=E'.γ i:=fun hj=>by simp only[zo];rw[getD_of hj]
 have hXs:∀{i j b},al[j]?=some i→z1w E os i b→z1w E os (1000+j) b:=by
  intro i j b hj hx;have hi:∃q,i=1000+q∧q<os.length:=by
   rcases hx with⟨cs,h1,_⟩|⟨⟨e,W,n⟩,cap,h1,_⟩<;>grind [z0D,List.getElem?_eq_some_iff,zY]
  obtain⟨q,rfl,hq⟩:=hi;have a1:=z1B hnd hj;have a2:=z1B hnd (hpas q hq)
  grind
 have hM':MSim (start w E os 0) (z01 os') (zm os') w' (zo E' al):=by
  refine⟨fun d cs' hd=> ?_,fun d e W n hd=> ?_,hM.bb,hM.br,hM.rr,hM.lt,hS'.mem.low,hS'.mem.keep,hS'.mem.knew,⟨fun d ho=> ?_,fun d ho h0=> ?_,fun d e W n ho hd=> ?_⟩⟩
  ·refine⟨(hM.box d cs' hd).1,?_⟩;obtain⟨j,rfl,hj⟩:=z0D hd;obtain⟨i,cs,q1,q2,_⟩:=hBx j cs' hj;rw[hβ q1];rcases(hS'.mem.box i cs q2).2 with h1|h1
   ·exact .inl h1
   ·exact .inr (hXs q1 h1)
  ·obtain⟨j,rfl,hj⟩:=zY hd;obtain⟨i,q1,q2,q3⟩:=hRx j e W n hj;rw[hγ q1];rcases hS'.mem.row i e W n q3 with h1|⟨k,cap,h1,h2,h3⟩
   ·grind
   ·exact .inr ⟨k,cap,h1,h2.imp id (hXs q1),h3.cells,h3.le,h3.max,h3.out⟩
  ·obtain⟨q,rfl⟩:∃q,d=1000+q:=⟨d-1000,by have:=ho.1;omega⟩
   have hq:q<os.length:=by have:=ho.2;have h2:1000+q<1000+os.length:=this;omega
   rw[hβ (hpas q hq)];exact hS'.mem.pas.β _ ho
  ·obtain⟨q,rfl⟩:∃q,d=1000+q:=⟨d-1000,by have:=ho.1;omega⟩
   have hq:q<os.length:=by have:=ho.2;have h2:1000+q<1000+os.length:=this;omega
   rw[hγ (hpas q hq)];exact hS'.mem.pas.γ _ ho h0
  ·obtain⟨q,rfl⟩:∃q,d=1000+q:=⟨d-1000,by have:=ho.1;omega⟩
   have hq:q<os.length:=by have:=ho.2;have h2:1000+q<1000+os.length:=this;omega
   obtain⟨j,hj0,hj⟩:=zY hd;obtain rfl:q=j:=by omega
   obtain⟨i,q1,q2,q3⟩:=hRx q e W n hj;rw[hpas q hq]at q1;cases q1;rw[hγ (hpas q hq)];exact hS'.mem.pas.row _ e W n ho q3
 refine⟨zo E' al,hM',z3U (z7F hmos) (fun _ _ _ h _=>h) hrel hren,⟨fun d h1 h2=>hM'.pas.β d ⟨h1,h2⟩,fun d h1 h2 h0=>hM'.pas.γ d ⟨h1,h2⟩ h0,fun d e W n hd=> ?_⟩⟩;obtain⟨q,rfl,hq⟩:=zY hd;have hql:q<os.length:=(gJ hq).1;obtain⟨n',h1,h2⟩:=(z2D hmo).2.2.2 q e W n hq;obtain⟨n0,h3,h4,h5⟩:=hM'.pas.row (1000+q) e W n' ⟨by omega,by show 1000+q<1000+os.length;omega⟩ (z0Q h1);have h3:zm os (1000+q)=some (e,W,n0):=h3;rw[hd]at h3;cases h3;exact⟨n',z0Q h1,h4,h5⟩
def zaO(s:FS)(d:Nat):List Nat:=match s.b d with|some cs=>cs.flatMap TV.ids1|none=>[]
def zmN(y0:TV)(s:FS)(al:List Nat):Option (TV×List MO):=match y0.ren3 (rhoIn al),seqO (fun d=>(s.mo d).bind (MO.ren (rhoIn al))) al with
 |some y,some os'=>some (y,os')
 |_,_=>none
def zmZ(y0:TV)(keep:Bool)(n:Nat)(s:FS):Option (TV×List MO):=zmN y0 s (zx s keep 64 (y0.ids3++(idsFrom 1000 n).flatMap (zaO s)) (idsFrom 1000 n))
theorem znz{res:List SRes}{keep:Bool}{n:Nat}{s:ES}{y0:TV}(h:resT s.fs res=some y0):exitR res keep n s=zmZ y0 keep n s.fs:=by
 unfold exitR exitF;rw[h];rfl
end
end
section
abbrev Fw(ro:Option Nat):Fence:={ Fence.wide with round:=ro }
section
variable{P:Program}{ops:Array Oper}{Q:Exit→Act→World→Prop}{ro:Option Nat}{n:Nat}
theorem zqT{o:Oper}(hd:∀c,o.op≠ .defer c){a:Act}{w:World}{K:Act→World→Prop}(h:o.wp P a w K Q):o.wpIn (Fw ro) n P a w K Q:=by
 refine⟨fun _ _=>trivial,?_⟩;rw[Oper.semAt_eq _ _ _ hd];unfold Oper.wp at h;generalize(execOp a.eval o).run P w=r at*;cases r with
 |ok x w'=>
  cases x with
  |value v=>exact h
  |skip=>exact h
  |defer d=>exact h
  |enter f args=>exact⟨fun h=>(by cases h),callsIn_wide.2 h⟩
  |row r args=>exact⟨fun h=>(by cases h),fun c cs _=>let⟨v,w',r,s⟩:=h c cs;⟨v,w',r,stepsIn_wide.2 s⟩⟩
  |_=>exact(h:False).elim
 |halt x w'=>cases x<;>first|exact h|exact(h:False).elim
theorem z8x{i:Nat}(hd:∀o:Oper,ops[i]?=some o→∀c,o.op≠Op.defer c)(hQ:¬LetsOut Q){a:Act}{w:World}{K:Act→World→Prop}(h:wpOp P ops Q i K a w):wpOpIn (Fw ro) n P ops Q i K a w:=by
 unfold wpOp at h;unfold wpOpIn;cases ho:ops[i]? with
 |none=>grind
 |some o=>
  rw[ho]at h;simp at h ⊢;split at h
  ·grind [zqT]
  ·rename_i hw;rw[if_neg hw];exact⟨fun _ _=>trivial,h⟩
theorem zn9(hd:∀(i:Nat) (o:Oper),ops[i]?=some o→∀c,o.op≠Op.defer c)(hQ:¬LetsOut Q):∀(is:List Nat) (a:Act) (w:World),wpOps P ops Q is a w→wpOpsIn (Fw ro) n P ops Q is a w
 |[],a,w,h=>h
 |i::is,a,w,h=>by
  refine wpOpIn_mono (fun a w h=>zn9 hd hQ is a w h) (z8x (hd i) hQ h)
theorem zmK(hd:∀(i:Nat) (o:Oper),ops[i]?=some o→∀c,o.op≠Op.defer c)(hQ:¬LetsOut Q):∀(fuel:Nat) (li:Array Bool) (a:Act) (w:World),wpAny P .any ops Q fuel li a w→wpAnyIn (Fw ro) n P .any ops Q fuel li a w
 |0,li,a,w,h=>h
 |fuel+1,li,a,w,h=>⟨h.1,fun i hi=>wpOpIn_mono (fun a w h=>zmK hd hQ fuel _ a w h) (z8x (hd i) hQ (h.2 i hi))⟩
theorem z4A{N:Nat}{H:Option Nat→Nat}{fp:Option Nat}{o:Oper}{so:SOper}(ht:z1O P N H fp ops o=some so):∀c,o.op≠ .defer c:=by
 intro c hc;unfold z1O at ht;split at ht<;>try(cases ht;done)
 rename_i hop;unfold zA at hop;rw[hc]at hop;simp at hop
end
section
variable{P:Program}{H:Option Nat→Nat}{ops:Array Oper}{B:Base}{sops:List SOper}{g:Glob}{draw:Bool}{id:Nat}{ro:Option Nat}{n:Nat}
theorem zbW(zf:P.follows .mixedOrders=true)(hm0:B.m≤1000)(hN:B.N≤1000)(hG:g.G B.w0)(hX:∀d b,B.X d b→g.n≤b){fps:Nat→Option Nat}(htr:z0o P B.N H fps ops draw=some sops){s:ES}{K:ES→Prop}
  (hf:∀d∈sops.flatMap SOper.news,z0x s.fs d) (h:zR P g sops K s) {a:Act} {w:World} {E:Env} (hS:Sim B s.fs a w E) {Q:Exit→Act→World→Prop} (hLO:¬LetsOut Q) (hQ:∀s' a' w' E',K s'→Sim B s'.fs a' w' E'→Q .normal a' w'):
  (Code.region id ops draw).wpIn (Fw ro) n P Q a w:=by
 unfold z0o at htr;split at htr<;>try(cases htr;done)
 rename_i sops' hseq;split at htr<;>try(cases htr;done)
 rename_i hok;cases htr;obtain⟨s',hrun,hK⟩:=z5S (sops:=sops) (l:=sops) (j:=0) rfl h;obtain⟨hlen,hspec⟩:=z1F hseq;have hlen':ops.size=sops.length:=by omega
 have hdf:∀(i:Nat) (o:Oper),ops[i]?=some o→∀c,o.op≠Op.defer c:=fun i o ho=>by
  obtain⟨so,_,hto⟩:=hspec i o (by grind);exact z4A hto
 have hfi:∀l,z1T sops l s.fs:=fun l i _ o ho d hd=>hf d (List.mem_flatMap.2 ⟨o,gM ho,hd⟩);have hmk:=z4y hok;rw[←List.range_eq_range',←hlen']at hrun;cases draw with
 |false=>
  refine wpIn_region (zn9 hdf hLO _ _ _ ?_);have key:∀(l:List Nat) (s:FS) (a:Act) (w:World) (E:Env),l.Nodup→Sim B s a w E→z1T sops l s→z3O P g sops l s s'.fs→wpOps P ops Q l a w:=by
   intro l
   induction l with
   |nil=>intro s a w E _ hS _ hr;have hr:s=s'.fs:=hr;subst hr;exact hQ s' a w E hK hS
   |cons i l ih=>
    intro s a w E hnd hS hf hr;obtain⟨o,s1,ho,⟨C,hC,hst⟩,hr⟩:=hr;have hil:i<ops.size:=by grind
    have hoi:ops[i]?=some ops[i]:=Array.getElem?_eq_getElem hil;obtain⟨so,hso,hto⟩:=hspec i ops[i] (by simp);rw[ho]at hso;cases hso;refine z4J hm0 hN hG hX hC hS hoi hto (hf i (List.mem_cons_self ..) o ho) hst (fun a' w' E' hS'=> ?_);exact ih s1 a' w' E' (List.nodup_cons.1 hnd).2 hS' (z2j hmk ho (List.nodup_cons.1 hnd).1 (fun j hj=>hf j (List.mem_cons_of_mem _ hj)) ⟨C,hC,hst⟩) hr
  grind
 |true=>
  refine wpIn_region_any zf (zmK hdf hLO _ _ _ _ ?_);have hrest:zy ops.size (Array.replicate ops.size false)=List.range ops.size:=by
   unfold zy;simp_all
  refine zcc hm0 hN hG hX hseq hok (sf:=s'.fs) (fun a w E hS=>hQ s' a w E hK hS) ops.size _ s.fs a _ E (by simp) (fun i o ho hl=> ?_) (hS.same (Below.refl _ _).drew) (hfi _) (by grind) (by grind);have hil:=(gA ho).1;simp_all
theorem runI_of_opsW'{P:Program}{g:Glob}{sops:List SOper}{K:ES→Prop}:∀{l:List SOper} {j:Nat} {s:ES},(∀(i:Nat) o,l[i]?=some o→sops[j+i]?=some o)→zR P g l K s→∃s',z3O P g sops (List.range' j l.length) s.fs s'.fs∧K s'
 |[],j,s,_,h=>⟨s,rfl,h⟩
 |o::l,j,s,hd,h=>by
  obtain⟨C,hC,e,he,h⟩:=h;have hj:sops[j]?=some o:=hd 0 o rfl;obtain⟨s',h1,h2⟩:=runI_of_opsW' (j:=j+1) (fun i o ho=>by rw[show j+1+i=j+(i+1) by omega];exact hd (i+1) o ho) h;refine⟨s',⟨o,s.fs.after o e,hj,⟨C,hC,by unfold step;rw[he];rfl⟩,?_⟩,h2⟩
  grind [ES.after_fs]
theorem zeS{N:Nat}{H:Option Nat→Nat}{fps:Nat→Option Nat}{ops:Array Oper}{sops:List SOper}(htr:z0o P N H fps ops false=some sops)(k:Nat)(hk:k<sops.length)(hm0:B.m≤1000)(hN:B.N=N)(hN2:N≤1000)(hG:g.G B.w0)(hX:∀d b,B.X d b→g.n≤b)
  {g2:Glob} {s:ES} {K1:ES→Prop} (hf:∀d∈sops.flatMap SOper.news,z0x s.fs d) (h:zR P g (sops.take k) K1 s) {a:Act} {w:World} {E:Env} (hS:Sim B s.fs a w E) {Q:Exit→Act→World→Prop} (hLO:¬LetsOut Q) (K2:Act→World→Prop)
  (hmid:∀s1 a w E,K1 s1→Sim B s1.fs a w E→wpOpIn (Fw ro) n P ops Q k K2 a w)
  (hpost:∀a w,K2 a w→∃(B2:Base) (s2:ES) (E2:Env) (K3:ES→Prop),B2.m≤1000∧B2.N=N∧g2.G B2.w0∧(∀d b,B2.X d b→g2.n≤b)∧Sim B2 s2.fs a w E2∧(∀d∈sops.flatMap SOper.news,z0x s2.fs d)∧zR P g2 (sops.drop (k+1)) K3 s2∧∀s3 a' w' E',K3 s3→Sim B2 s3.fs a' w' E'→Q .normal a' w'):
  (Code.region id ops false).wpIn (Fw ro) n P Q a w:=by
 unfold z0o at htr;split at htr<;>try(cases htr;done)
 rename_i sops' hseq;split at htr<;>try(cases htr;done)
 rename_i hok;cases htr;subst hN;obtain⟨hlen,hspec⟩:=z1F hseq;have hlen':ops.size=sops.length:=by omega
 have hdf:∀(i:Nat) (o:Oper),ops[i]?=some o→∀c,o.op≠Op.defer c:=fun i o ho=>by
  obtain⟨so,_,hto⟩:=hspec i o (by grind);exact z4A hto
 have hfi:∀l (s:ES),(∀d∈sops.flatMap SOper.news,z0x s.fs d)→z1T sops l s.fs:=fun l s hf i _ o ho d hd=>hf d (List.mem_flatMap.2 ⟨o,gM ho,hd⟩);have hmk:=z4y hok;have key:∀(g:Glob) (B':Base),B'.m≤1000→B'.N=B.N→g.G B'.w0→(∀d b,B'.X d b→g.n≤b)→∀(r:List Nat) (sf:FS),(∀a w E,Sim B' sf a w E→wpOpsIn (Fw ro) n P ops Q r a w)→∀(l:List Nat) (s:FS) (a:Act) (w:World) (E:Env),l.Nodup→Sim B' s a w E→z1T sops l s→z3O P g sops l s sf→wpOpsIn (Fw ro) n P ops Q (l++r) a w:=by
  intro g B' hm' hN' hG' hX' r sf hr0 l
  induction l with
  |nil=>intro s a w E _ hS _ hr;have hr:s=sf:=hr;subst hr;exact hr0 a w E hS
  |cons i l ih=>
   intro s a w E hnd hS hf hr;obtain⟨o,s1,ho,⟨C,hC,hst⟩,hr⟩:=hr;have hil:i<ops.size:=by grind
   have hoi:ops[i]?=some ops[i]:=Array.getElem?_eq_getElem hil;obtain⟨so,hso,hto⟩:=hspec i ops[i] (by simp);rw[ho]at hso;cases hso;rw[←hN']at hto;refine z8x (hdf i) hLO (z4J hm' (by omega) hG' hX' hC hS hoi hto (hf i (List.mem_cons_self ..) o ho) hst (fun a' w' E' hS'=> ?_));exact ih s1 a' w' E' (List.nodup_cons.1 hnd).2 hS' (z2j hmk ho (List.nodup_cons.1 hnd).1 (fun j hj=>hf j (List.mem_cons_of_mem _ hj)) ⟨C,hC,hst⟩) hr
 refine wpIn_region ?_;have hsplit:List.range ops.size=List.range' 0 k++k::List.range' (k+1) (sops.length-(k+1)):=by
  rw[hlen',List.range_eq_range',←List.range'_succ,show sops.length=k+(sops.length-(k+1)+1) by omega,←List.range'_append];simp;omega
 rw[hsplit];have hrun1:∃s',z3O P g sops (List.range' 0 k) s.fs s'.fs∧K1 s':=by
  have:=runI_of_opsW' (sops:=sops) (j:=0) (fun i o ho=>by rw[Nat.zero_add];rw[List.getElem?_take]at ho;split at ho;exact ho;cases ho) h
  grind
 obtain⟨s1,hrun1,hK1⟩:=hrun1;refine key g B hm0 rfl hG hX _ s1.fs (fun a1 w1 E1 hS1=> ?_) _ s.fs a w E List.nodup_range' hS (hfi _ s hf) hrun1;refine wpOpIn_mono (fun a2 w2 h2=> ?_) (hmid s1 a1 w1 E1 hK1 hS1);obtain⟨B2,s2,E2,K3,p1,p2,p3,p4,p5,p6,p7,p8⟩:=hpost a2 w2 h2;have hrun3:∃s',z3O P g2 sops (List.range' (k+1) (sops.length-(k+1))) s2.fs s'.fs∧K3 s':=by
  have:=runI_of_opsW' (sops:=sops) (j:=k+1) (fun i o ho=>by rwa [List.getElem?_drop]at ho) p7
  grind
 obtain⟨s3,hrun3,hK3⟩:=hrun3;have:=key g2 B2 p1 p2 p3 p4 [] s3.fs (fun a3 w3 E3 hS3=>p8 s3 a3 w3 E3 hK3 hS3) _ s2.fs a2 w2 E2 List.nodup_range' p5 (hfi _ s2 p6) hrun3
 grind
end
def z68:SCode→Bool
 | .skip| .ret| .exit _| .reg _ _=>true
 | .seq a b=>z68 a&&z68 b
 | .cond _ a b=>z68 a&&z68 b
 | .block _ a=>z68 a
 |_=>false
section
variable{P:Program}{H:Nat→Option Nat→Nat}{Fp:Nat→List (Nat→Option Nat)}{K:Nat→List Nat}{B:Base}{g:Glob}{ro:Option Nat}{n:Nat}
theorem zfD{B:Base}{Q:SExit→ES→Prop}:¬LetsOut (fun x a' w'=>∃e s' E',x=SExit.to e∧Q e s'∧Sim B s'.fs a' w' E'):=by
 rintro⟨a,w,e,s',E',h,_⟩;cases e<;>cases h
theorem z6H(zf:P.follows .mixedOrders=true)(hm0:B.m≤1000)(hN:B.N≤1000)(hG:g.G B.w0)(hX:∀d b,B.X d b→g.n≤b):∀{c:Code} {sc:SCode},ze P B.N H Fp K c=some sc→z68 sc=true→∀{Q:SExit→ES→Prop} {s:ES},swp P g sc Q s→∀{a:Act} {w:World} {E:Env},Sim B s.fs a w E→
  c.wpIn (Fw ro) n P (fun x a' w'=>∃e s' E',x=SExit.to e∧Q e s'∧Sim B s'.fs a' w' E') a w:=by
 intro c
 induction c with
 |skip=>
  intro sc h hnr Q s hs a w E hS;simp only[ze]at h;cases h;exact wpIn_skip ⟨.normal,s,E,rfl,hs,hS⟩
 |exit id=>
  intro sc h hnr Q s hs a w E hS;simp only[ze]at h;cases h;exact wpIn_exit ⟨.exit id,s,E,rfl,hs,hS⟩
 |ret=>
  intro sc h hnr Q s hs a w E hS;simp only[ze]at h;cases h;exact wpIn_ret ⟨.ret,s,E,rfl,hs,hS⟩
 |region id ops draw=>
  intro sc h hnr Q s hs a w E hS;simp only[ze]at h;split at h
  ·cases h;cases hnr
  ·split at h
   ·cases h;cases hnr
   cases h;obtain⟨al,hal,hs⟩:=hs;have key:∀(Hs:List ((Option Nat→Nat)×(Nat→Option Nat))),al∈z3g P B.N ops draw Hs→∃H,∃F:Nat→Option Nat,z0o P B.N H F ops draw=some al.2∧al.1=al.2.flatMap SOper.news:=by
    intro Hs
    induction Hs<;>grind [z3g,only]
   obtain⟨H',F',htr,hn⟩:=key _ hal;refine zbW zf hm0 hN hG hX htr (s:=s.fgt al.1) (fun d hd=>z13 s (by grind)) hs (z1N hS al.1) zfD (fun s' a' w' E' hK hS'=>⟨.normal,s'.kill _,E',rfl,hK,z5m hS' _⟩)
 |seq a b iha ihb=>
  intro sc h hnr Q s hs ac w E hS;simp only[ze]at h;split at h<;>try(cases h;done)
  rename_i a' b' ha hb;cases h;simp only[z68,Bool.and_eq_true]at hnr;refine wpIn_seq (wpIn_mono (iha ha hnr.1 hs hS) ?_);rintro x a2 w2 ⟨e,s2,E2,rfl,hq,hS2⟩;cases e with
  |normal=>exact ihb hb hnr.2 hq hS2
  |exit id=>exact⟨.exit id,s2,E2,rfl,hq,hS2⟩
  |ret=>exact⟨.ret,s2,E2,rfl,hq,hS2⟩
  |pan z=>exact⟨.pan z,s2,E2,rfl,hq,hS2⟩
 |cond cnd a b iha ihb=>
  intro sc h hnr Q s hs ac w E hS;simp only[ze]at h;split at h<;>try(cases h;done)
  cases h;simp only[z68,Bool.and_eq_true]at hnr;obtain⟨t,h1,h2⟩:=hs;have hv:=val_rel (y:=.bool t) (zj hS h1) rfl;refine wpIn_cond hv ?_
  grind
 |block id a ih=>
  intro sc h hnr Q s hs ac w E hS;obtain⟨a',ha,rfl⟩:=gO h;refine wpIn_block (wpIn_mono (ih ha hnr hs hS) ?_);rintro x a2 w2 ⟨e,s2,E2,rfl,hq,hS2⟩;cases e with
  |normal=>exact⟨.normal,s2,E2,rfl,hq,hS2⟩
  |ret=>exact⟨.ret,s2,E2,rfl,hq,hS2⟩
  |pan z=>exact⟨.pan z,s2,E2,rfl,hq,hS2⟩
  |exit j=>
   simp only[SExit.to,Exit.inBlock]
   grind [only,z2u]
 |loop a ih=>
  intro sc h hnr;obtain⟨a',ha,rfl⟩:=gO h;cases hnr
 |rangeFunc x y c d ih1 ih2=>
  intro sc h hnr;simp only[ze]at h;cases h;cases hnr
 |_=>grind [ze]
end
end
section
def TV.flat(x:TV):Prop:=(∃p,x=.pv p)∨∃d W es,x=.own d W es
theorem RelT.still{w w':World}{E:Env}{r:Rows}{x:TV}{v:Value}(hx:x.flat)(h:RelT w E r x v)(hk:∀b o u,E.K b o→w.cell? ⟨b,o,none⟩=some u→E.K b o∧w'.cell? ⟨b,o,none⟩=some u):RelT w' E r x v:=by
 rcases hx with⟨p,rfl⟩|⟨d,W,es,rfl⟩
 ·cases h with|pv h=>exact .pv (h.mono hk)
 ·cases h with|own _ _ _ _ h h2=>exact .own d W es v (h.mono hk) h2
theorem z61{w w':World}{b o:Nat}(h:w'.heap[b]?=w.heap[b]?):w'.frozen? ⟨b,o,none⟩=w.frozen? ⟨b,o,none⟩:=by
 simp only[World.frozen?,h]
theorem z29{w:World}{b o:Nat}{u:Value}(h:w.cell? ⟨b,o,none⟩=some u):∃ob:Obj,w.heap[b]?=some ob∧ob.isCells=true:=by
 unfold World.cell? at h;split at h
 ·rename_i c e z hb;exact⟨_,hb,rfl⟩
 ·cases h
section
variable{B:Base}{b:Nat→Option (List TV)}{r:Rows}{w w':World}{E:Env}{row:Option Nat}
theorem MSim.grown(h:MSim B b r w E)(hfl:∀d cs,b d=some cs→∀x∈cs,x.flat)(hg:w.grownBy w' row)(hr:∀k,row=some k→B.w0.heap.size≤k∧∃o:Obj,w.heap[k]?=some o∧o.isCells=false):MSim B b r w' E:=by
 have hcs:∀(k:Nat) (o:Obj),w.heap[k]?=some o→o.isCells=true→w'.heap[k]?=w.heap[k]?:=fun k o hk ho=>by
  refine hg.block k (gA hk).1 (fun he=> ?_)
  grind
 have hce:∀(k o:Nat) (u:Value),w.cell? ⟨k,o,none⟩=some u→w'.cell? ⟨k,o,none⟩=some u:=fun k o u hu=>by
  grind [z29,World.cell?_of_block]
 have hk:∀b o u,E.K b o→w.cell? ⟨b,o,none⟩=some u→E.K b o∧w'.cell? ⟨b,o,none⟩=some u:=fun b o u h1 h2=>⟨h1,hce b o u h2⟩
 refine⟨fun d cs hd=> ?_,fun d e W n hd=> ?_,h.bb,h.br,h.rr,fun k o hk=>Nat.lt_of_lt_of_le (h.lt k o hk) hg.size,?_,fun k o u h1 h2=>⟨(h.keep k o u h1 h2).1,hce _ _ _ (h.keep k o u h1 h2).2⟩,h.knew,h.pas⟩
 ·obtain⟨⟨lt,⟨c,e,z,hob⟩,fz,cell,out⟩,hq⟩:=h.box d cs hd;have hs:=hcs _ _ hob rfl;refine⟨⟨Nat.lt_of_lt_of_le lt hg.size,⟨c,e,z,hs.trans hob⟩,fun o=>(z61 hs).trans (fz o),fun j c hj=> ?_,out⟩,hq⟩;obtain⟨v,h1,h2,h3⟩:=cell j c hj;exact⟨v,hce _ _ _ h1,h2,h3.still (hfl d cs hd c (gM hj)) hk⟩
 ·rcases h.row d e W n hd with h1|⟨k,cap,h1,h2,⟨⟨cur,h3,h4⟩,h5,h6,h7⟩⟩
  ·grind
  ·exact .inr ⟨k,cap,h1,h2,⟨⟨cur,(hcs _ _ h3 rfl).trans h3,h4⟩,h5,h6,h7⟩⟩
 ·exact⟨hg.os.trans h.low.os,hg.tape.trans h.low.tape,hg.output.trans h.low.output,Nat.le_trans h.low.size hg.size,fun k hk hX=>(hg.block k (Nat.lt_of_lt_of_le hk h.low.size) (fun he=>by have:=(hr k he.symm).1;omega)).trans (h.low.block k hk hX)⟩
end
def EK(K:Nat→Nat→Prop):Env:=⟨K,fun _=>0,fun _=>none,fun _=>0⟩
theorem zio{W:World}{K:Nat→Nat→Prop}(hK:∀b o,K b o→b<W.heap.size){N:Nat}{a:Act}(hsz:a.tmps.size=N)(hd:a.defers=[])(ts:List (Nat×TV))(ht:∀k x,(k,x)∈ts→k<N∧RelT W (EK K) (fun _=>none) x (a.tmps.getD k undef)):
  Sim (start W (EK K) [] N) (ES.fs ⟨ts,[],[],[]⟩) a W (EK K):=by
 have hmem:∀{k:Nat} {x:TV},lk ts k=some x→(k,x)∈ts:=by
  clear ht
  induction ts<;>grind [only,lk,Nat.eq_of_beq_eq_true,List.mem_cons_self,List.mem_cons_of_mem]
 have ho:∀d,¬(start W (EK K) [] N).old d:=fun d h=>by have h1:=h.1;have h2:d<1000+0:=h.2;omega
 refine⟨hd,hsz,fun k x hx=>ht k x (hmem hx),⟨fun d cs h=>(by cases h),fun d e W n h=>(by cases h),fun d d' cs cs' h=>(by cases h),fun d d' cs q k cap h=>(by cases h),fun d d' q q' k cap cap' h=>(by cases h),fun k o h=>hK k o h,⟨rfl,rfl,rfl,Nat.le_refl _,fun _ _ _=>rfl⟩,fun k o u h1 h2=>⟨h1,h2⟩,fun k o h=> .inl h,⟨fun d h=>absurd h (ho d),fun d h=>absurd h (ho d),fun d e W n h=>absurd h (ho d)⟩⟩,fun d z p h=>(by cases h),fun d d' q q' h=>(by cases h)⟩
theorem z4x{W W':World}{K:Nat→Nat→Prop}{N:Nat}{s:FS}{a:Act}{E:Env}(h:Sim (start W (EK K) [] N) s a W' E):W.grownBy W' none:=by
 have hl:=h.mem.low;refine⟨hl.os,hl.tape,hl.output,hl.size,fun k hk _=>hl.block k hk fun d hx=> ?_⟩;rcases hx with⟨cs,h1,_⟩|⟨q,cap,h1,_⟩<;>grind [z01,zm]
def g00:Glob:=⟨fun _=>True,0,fun _ _ _ _=>trivial,fun _ _=>Nat.zero_le _⟩
theorem z3H{W:World}{K:Nat→Nat→Prop}{N n:Nat}:∀d b,(start W (EK K) [] N).X d b→n≤b:=by
 intro d b hx;rcases hx with⟨cs,h1,_⟩|⟨q,cap,h1,_⟩<;>grind [z01,zm]
def z3z(β:Nat)(W:World)(k:Nat):Prop:=∃p n c,W.cell? ⟨β,0,none⟩=some (.slice (some p) n c)∧p.block=k
structure Kp(O:List Nat)(β n:Nat)(W W':World):Prop where
 size:W.heap.size≤W'.heap.size
 same:∀(k:Nat) (o:Obj),W.heap[k]?=some o→o.isCells=true→k∉O→¬z3z β W k→W'.heap[k]?=some o
 rb:∀k,z3z β W' k→z3z β W k∨W.heap.size≤k
 lt:(∀k,z3z β W k→k<W.heap.size)→∀k,z3z β W' k→k<W'.heap.size
 glob:∀k,k<n→W'.heap[k]?=W.heap[k]?
theorem Kp.refl{O:List Nat}{β n:Nat}(W:World):Kp O β n W W:=⟨Nat.le_refl _,fun _ _ h _ _ _=>h,fun _ h=> .inl h,fun h=>h,fun _ _=>rfl⟩
theorem Kp.trans{O:List Nat}{β n:Nat}{A B C:World}(h:Kp O β n A B)(k:Kp O β n B C):Kp O β n A C:=by
 refine⟨Nat.le_trans h.size k.size,fun j o h1 h2 h3 h4=>k.same j o (h.same j o h1 h2 h3 h4) h2 h3 (fun h5=> ?_),fun j h1=> ?_,fun h1=>k.lt (h.lt h1),fun j hj=>(k.glob j hj).trans (h.glob j hj)⟩
 ·rcases h.rb j h5 with h6|h6<;>grind
 ·rcases k.rb j h1 with h2|h2
  ·exact h.rb j h2
  ·have:=h.size;exact .inr (by omega)
theorem z3e{β:Nat}{W W':World}(h:W'.heap[β]?=W.heap[β]?)(k:Nat):z3z β W' k ↔ z3z β W k:=by
 grind [z3z,World.cell?_of_block]
theorem Kp.put{O:List Nat}{β n m:Nat}(hβ:β<m)(hn:n≤m)(W:World)(l:Nat)(o o':Obj)(hl:m≤l)(ho:W.heap[l]?=some o)(hc:o.isCells=false):Kp O β n W (W.putObj l o'):=by
 have hne:∀k,k≠l→(W.putObj l o').heap[k]?=W.heap[k]?:=fun k hk=>World.putObj_heap_other hk;refine⟨by simp,fun k ob h1 h2 _ _=>(hne k (fun he=> ?_)).trans h1,fun k h=> .inl ((z3e (hne β (by omega)) k).1 h),fun h k h1=> ?_,fun k hk=>hne k (by omega)⟩
 ·grind
 ·have:=h k ((z3e (hne β (by omega)) k).1 h1);simp_all
end
section
section
variable{B:Base}{s:FS}{a:Act}{w w':World}{E:Env}{I:List Nat}{N:Nat}
theorem z64(hS:Sim B s a w E)(hI:I.Nodup){os:List MO}(hos:seqO (fun d=>(s.mo d).bind (MO.ren (rhoIn I))) I=some os){a2:Act}{ds:List Deferred}(hsz:a2.tmps.size=N)(hd:a2.defers=ds)(ts:List (Nat×TV))
  (hts:∀k x',(k,x')∈ts→k<N∧((∃x,x.ren3 (rhoIn I)=some x'∧RelT w E s.r x (a2.tmps.getD k undef))∨∀W E r,RelT W E r x' (a2.tmps.getD k undef))):
  Sim { start w (zo E I) os N with ds:=ds } (ES.fs ⟨ts,numB 1000 os,numR 1000 os,[]⟩) a2 w (zo E I):=by
 have hMp:=z2E hS hI hos;have hb:(ES.fs ⟨ts,numB 1000 os,numR 1000 os,[]⟩).b=z01 os:=by funext d;show lk (numB 1000 os) d=_;rw[z5x];rfl
 have hr:(ES.fs ⟨ts,numB 1000 os,numR 1000 os,[]⟩).r=zm os:=by funext d;show lk (numR 1000 os) d=_;rw[z5y];rfl
 have hmem:∀{k:Nat} {x:TV},lk ts k=some x→(k,x)∈ts:=by
  clear hts hb hr
  induction ts<;>grind [only,lk,Nat.eq_of_beq_eq_true,List.mem_cons_self,List.mem_cons_of_mem]
 refine⟨hd,hsz,fun k x hx=> ?_,?_,fun d z p h=>(by cases h),fun d d' q q' h=>(by cases h)⟩
 ·obtain⟨h1,h2⟩:=hts k x (hmem hx);refine⟨h1,?_⟩;rcases h2 with⟨y,h4,h5⟩|h2
  ·rw[hr];exact z3U (z7F hos) (fun _ _ _ h _=>h) h5 h4
  ·grind
 ·rw[hb,hr];exact⟨hMp.box,hMp.row,hMp.bb,hMp.br,hMp.rr,hMp.lt,hMp.low,hMp.keep,hMp.knew,⟨hMp.pas.β,hMp.pas.γ,hMp.pas.row⟩⟩
theorem z7l(hS:Sim B s a w E)(hI:I.Nodup)(hIm:∀i∈I,s.ment i)(hm0:B.m≤1000){k:Nat}(hfr:∀q<4,z0x s (newId k q)){os os':List MO}(hos:seqO (fun d=>(s.mo d).bind (MO.ren (rhoIn I))) I=some os)
  (hok:moOk os os'=true) {us:List (Nat×MO)} (hus:outs (rhoOut I k) 0 os'=some us) {ds:List Deferred} {s':ES} {a':Act} {E':Env} (hS':Sim { start w (zo E I) os N with ds:=ds } s'.fs a' w' E') {y0 y y2:TV} {v:Value} (hrel:RelT w' E' s'.fs.r y0 v)
  (hex:z7f y0 false os.length s'=some (y,os')) (hy2:y.ren3 (rhoOut I k)=some y2):
  ∃E2,Sim B (s.upd none (.mem us)) a w' E2∧RelT w' E2 (s.upd none (.mem us)).r y2 v:=by
 obtain⟨E1,m1,r1,l1⟩:=zn0 hok hS' hrel hex;obtain⟨h1,h2⟩:=z4V hS hI hIm hm0 hfr hos hok hus m1 l1 none;exact⟨_,h1,z3U h2 (fun _ _ _ h _=>h) r1 hy2⟩
theorem Sim.grown{row:Option Nat}(h:Sim B s a w E)(hts:∀k x,s.t k=some x→x.flat∨∃d o,x=.ptr d o)(hi:∀d,s.i d=none)(hfl:∀d cs,s.b d=some cs→∀x∈cs,x.flat)(hg:w.grownBy w' row)(hr:∀k,row=some k→B.w0.heap.size≤k∧∃o:Obj,w.heap[k]?=some o∧o.isCells=false):Sim B s a w' E:=by
 refine⟨h.defers,h.size,fun k x hx=>⟨(h.tmp k x hx).1,?_⟩,h.mem.grown hfl hg hr,fun d z p hd=>(by grind),h.ii⟩;rcases hts k x hx with hf|⟨d,o,rfl⟩
 ·refine(h.tmp k x hx).2.still hf (fun b o u h1 h2=>⟨h1,?_⟩);obtain⟨ob,e1,e2⟩:=z29 h2;refine(World.cell?_of_block (w:=w) (a:=⟨b,o,none⟩) (hg.block b (gA e1).1 (fun he=> ?_))).trans h2
  grind
 ·have:=(h.tmp k _ hx).2;generalize a.tmps.getD k undef=v at this;cases this;exact .ptr d o
theorem Sim.freeze0(h:Sim B s a w E){d:Nat}{ps:List PV}(hd:s.b d=some (ps.map TV.pv)):
  ∃K',Sim B { s with b:=fun e=>if e=d then none else s.b e } a w { E with K:=K' }∧RelT w { E with K:=K' } s.r (.pv (.el ps)) (.pointer (some ⟨E.β d,0,none⟩))∧∀b o,E.K b o→K' b o:=by
 obtain⟨hbx,hq⟩:=h.mem.box d _ hd;have hk:∀b o u,E.K b o→w.cell? ⟨b,o,none⟩=some u→(E.K b o∨(b=E.β d∧o<ps.length))∧w.cell? ⟨b,o,none⟩=some u:=fun b o u h1 h2=>⟨.inl h1,h2⟩
 have hmono:∀{x:TV} {v:Value},RelT w E s.r x v→RelT w { E with K:=fun b o=>E.K b o∨(b=E.β d∧o<ps.length) } s.r x v:=fun hx=>hx.mono hk (fun _ _=>⟨rfl,rfl⟩) (fun _ _ _ _ _ hd=> .inl ⟨hd,rfl⟩) (Maps.refl w);have hb':∀{e:Nat} {cs:List TV},(if e=d then none else s.b e)=some cs→e≠d∧s.b e=some cs:=fun {e cs} he=>by
  grind
 refine⟨fun b o=>E.K b o∨(b=E.β d∧o<ps.length),⟨h.defers,h.size,fun k x hx=>⟨(h.tmp k x hx).1,hmono (h.tmp k x hx).2⟩,⟨fun e cs he=> ?_,fun e ty W n he=> ?_,fun e e' c c' h1 h2 h3=>h.mem.bb e e' c c' (hb' h1).2 (hb' h2).2 h3,fun e e' c q k cap h1 h2 h3=>h.mem.br e e' c q k cap (hb' h1).2 h2 h3,h.mem.rr,fun k o ho=> ?_,h.mem.low,fun k o u h1 h2=>⟨.inl (h.mem.keep k o u h1 h2).1,(h.mem.keep k o u h1 h2).2⟩,fun k o ho=> ?_,⟨h.mem.pas.β,h.mem.pas.γ,h.mem.pas.row⟩⟩,h.itr,h.ii⟩,?_,fun _ _ h=> .inl h⟩
 ·obtain⟨hed,he⟩:=hb' he;obtain⟨h1,h2⟩:=h.mem.box e cs he;refine⟨⟨h1.lt,h1.obj,h1.fz,fun j c hj=> ?_,fun o ho=> ?_⟩,h2⟩
  ·obtain⟨v,c1,c2,c3⟩:=h1.cell j c hj
   grind
  ·rcases ho with ho|⟨ho,_⟩
   ·exact h1.out o ho
   ·exact hed (h.mem.bb e d _ _ he hd ho)
 ·rcases h.mem.row e ty W n he with h1|⟨k,cap,h1,h2,h3⟩
  ·grind
  ·refine .inr ⟨k,cap,h1,h2,⟨h3.cells,h3.le,h3.max,fun o ho=> ?_⟩⟩;rcases ho with ho|⟨ho,_⟩
   ·exact h3.out o ho
   ·exact absurd ho.symm (h.mem.br d e _ _ k cap hd he h1)
 ·rcases ho with ho|⟨rfl,_⟩
  ·exact h.mem.lt k o ho
  ·exact hbx.lt
 ·rcases ho with ho|⟨rfl,_⟩
  ·exact h.mem.knew k o ho
  ·grind
 ·have hcell:∀(j:Nat) c,ps[j]?=some c→∃v,w.cell? ⟨E.β d,j,none⟩=some v∧one v∧RelV w E.K c v:=fun j c hj=>by
   obtain⟨v,c1,c2,c3⟩:=hbx.cell j (.pv c) (by grind);cases c3 with|pv c3=>exact⟨v,c1,c2,c3⟩
  refine .pv (.el ps (E.β d) 0 (fun j=>(w.cell? ⟨E.β d,j,none⟩).getD undef) (fun j c hj=> ?_) (fun j c hj=> ?_))
  ·grind
  ·obtain⟨v,c1,c2,c3⟩:=hcell j c hj;rw[c1];exact c3.mono hk
theorem Sim.freeze(h:Sim B s a w E)(hold:∀d,s.b d≠none→True){d:Nat}{ps:List PV}(hd:s.b d=some (ps.map TV.pv))(hnm:∀k x,s.t k=some x→¬Ment d x)(hnb:∀e cs x,s.b e=some cs→e≠d→x∈cs→¬Ment d x):
  ∃K',Sim B { s with b:=fun e=>if e=d then none else s.b e } a w { E with K:=K' }∧RelT w { E with K:=K' } s.r (.pv (.el ps)) (.pointer (some ⟨E.β d,0,none⟩))∧∀b o,E.K b o→K' b o:=h.freeze0 hd
theorem zbP{n:Nat}(hS:Sim B s a w E){os:List MO}(hos:seqO (fun d=>(s.mo d).bind (MO.ren (rhoIn I))) I=some os)(hn:n≤B.w0.heap.size)(hX:∀d b,B.X d b→n≤b):∀d b,z1w (zo E I) os d b→n≤b:=by
 intro d b hx;obtain⟨hlen,hB,hR⟩:=z2Q hos;rcases hx with⟨cs,e1,e2⟩|⟨⟨e,W,m⟩,cap,e1,e2⟩
 ·obtain⟨j,rfl,hj⟩:=z0D e1;obtain⟨i,c,b1,b2,_⟩:=hB j cs hj;have e3:E.β i=b:=by grind [only,zo,getD_of]
  rcases(hS.mem.box i c b2).2 with e4|e4<;>grind
 ·obtain⟨j,rfl,hj⟩:=zY e1;obtain⟨i,b1,b2,b3⟩:=hR j e W m hj;have e3:E.γ i=some (b,cap):=by grind [only,zo,getD_of]
  rcases hS.mem.row i e W m b3 with⟨e4,_⟩|⟨k,cap',e4,e5,_⟩<;>grind
theorem Sim.act(h:Sim B s a w E){a2:Act}(hsz:a2.tmps.size=B.N)(hd:a2.defers=B.ds)(ht:∀k x,s.t k=some x→RelT w E s.r x (a2.tmps.getD k undef)):Sim B s a2 w E:=
 ⟨hd,hsz,fun k x hx=>⟨(h.tmp k x hx).1,ht k x hx⟩,h.mem,h.itr,h.ii⟩
theorem zfC(hS:Sim B s a w E)(hI:I.Nodup){os:List MO}(hos:seqO (fun d=>(s.mo d).bind (MO.ren (rhoIn I))) I=some os){d k:Nat}(hx:z1w (zo E I) os d k):∃c e z,w.heap[k]?=some (.cells c e z):=by
 have hMp:=z2E hS hI hos;rcases hx with⟨cs,e1,e2⟩|⟨⟨e,W,m⟩,cap,e1,e2⟩
 ·have:=(hMp.box d cs e1).1.obj
  grind
 ·rcases hMp.row d e W m e1 with⟨e4,_⟩|⟨k',cap',e4,e5,h6⟩
  ·grind
  ·rw[e2]at e4;cases e4;obtain⟨cur,h7,_⟩:=h6.cells
   grind
theorem z6x(hS:Sim B s a w E)(hI:I.Nodup){os:List MO}(hos:seqO (fun d=>(s.mo d).bind (MO.ren (rhoIn I))) I=some os){ds:List Deferred}{s':FS}{a':Act}{E':Env}(hS':Sim { start w (zo E I) os N with ds:=ds } s' a' w' E'):∀(k:Nat) (o:Obj),w.heap[k]?=some o→o.isCells=false→w'.heap[k]?=some o:=by
 intro k o hk ho;refine(hS'.mem.low.block k (gA hk).1 fun d hx=> ?_).trans hk;obtain⟨c,e,z,hc⟩:=zfC hS hI hos hx;rw[hk]at hc;cases hc;cases ho
end
end
end Go.Sh
end

section
namespace Go.Proofs.YtcpaleaajdilgaaGreatDoor
open Go Go.RowKit Go.Mor Go.Sh
section
def bindL:List (zB×Int):=[([42],4),([47],4),([37],4),([43],3),([45],3),([38],2),([61],1),([60,62],1),([60],1),([60,61],1),([62],1),([62,61],1)]
def zaL:List Value:=bindL.map fun p=> .string (str p.1)
def z0c:TV:=.mp zaL (bindL.map fun p=>I p.2)
theorem z6s(g:Sh.Glob):zC g 74 [] [] z0c []:=by
 refine⟨z0A (by kernel_rfl),fun w E us hG hm hX hl hr=> ?_⟩;obtain rfl:us=[]:=List.eq_nil_of_length_eq_zero hl.symm;refine calls_of_wp Tryz.func74 rfl ?_;refine wp_seq (wp_region ?_);show wpOps _ _ _ [0] _ _;rw[wpOps_cons];refine z2i rfl rfl (v:=.map none) (w':=w) rfl ?_;show(Code.seq _ _).wp _ _ { tmps:= #[.map none,undef,undef],defers:=[] } _;refine wp_seq (wp_region ?_);show wpOps _ _ _ (0::([1,2,3,4,5,6,7,8,9,10,11,12]++[13,14])) _ _;rw[wpOps_cons];refine z2i rfl rfl (v:=.map (some w.heap.size)) (w':=w.alloc (.map #[] 0)) rfl ?_;have hnew:(w.alloc (.map #[] 0)).heap[w.heap.size]?=some (.map #[] 0):=heap_alloc_new w _;refine zcY (t:=133) (m:=1) (kt:=9) (et:=3) (text:=true) (b:=w.heap.size) (by kernel_rfl) (by kernel_rfl) rfl _ _ _ _ #[] 0 rfl hnew (by rfl) ?_;intro es clock w' hturn hb hks hvs;show wpOps _ _ _ [13,14] { tmps:= #[.map none,.map (some w.heap.size),undef],defers:=[] } _;rw[wpOps_cons];refine z2i rfl rfl (v:=.map (some w.heap.size)) (w':=w') rfl ?_;rw[wpOps_cons];refine z2i rfl rfl (v:=.map (some w.heap.size)) (w':=w') rfl ?_;show Code.ret.wp _ _ { tmps:= #[.map (some w.heap.size),.map (some w.heap.size),.map (some w.heap.size)],defers:=[] } _;refine wp_ret ?_
 have hbel:Below w.heap.size w w':=by
  refine⟨hturn.os,hturn.tape,hturn.output,by rw[hturn.size];exact(((Below.refl w.heap.size w)).alloc (Nat.le_refl _) (.map #[] 0)).size,fun k hk=> ?_⟩;rw[hturn.block k (by omega)];exact(((Below.refl w.heap.size w)).alloc (Nat.le_refl _) _).block k hk
 refine⟨rfl,.map (some w.heap.size),by simp[results,Tryz.results74],.map (some w.heap.size),E,rfl,?_,?_,⟨fun _ _ _=>rfl,fun _ _ _ _=>rfl,fun d e W n hd=>by obtain⟨j,_,hj⟩:=zY hd;simp at hj⟩⟩
 ·exact MSim.ext (s:=⟨fun _=>none,z01 [],zm [],fun _=>none⟩) hm hbel E (fun _ _ h=>h) (fun _ _ h=> .inl h) (fun _ _=>⟨rfl,rfl⟩) (fun _ _ _=>rfl) (fun _ _=>⟨rfl,rfl⟩)
 ·have hlen:es.toList.length=12:=by have:=congrArg List.length hks;simpa using this
  refine .mp zaL _ w.heap.size es clock (fun j=>(es.toList.map MapEntry.val).getD j undef) hb hks rfl (fun j e he=>by simp[he]) (fun j x hx=> ?_);rw[hvs];have hj:j<12:=(gJ hx).1;simp only[bindL,List.getElem?_map]at hx
  match j,hj with
  |0,_|1,_|2,_|3,_|4,_|5,_|6,_|7,_|8,_|9,_|10,_|11,_=>cases hx;exact .pv (.v _)
theorem zmP(ids:List Nat):TV.m1 ids z0c=false:=rfl
theorem zmQ(ids:List Nat):TV.m2 ids z0c=false:=rfl
theorem zmR(ids:List Nat):TV.m3 ids z0c=false:=rfl
theorem zg2:TV.ids1 z0c=[]:=rfl
theorem zg3:TV.ids2 z0c=[]:=rfl
theorem zg4:TV.ids3 z0c=[]:=rfl
theorem zg5(ρ:Nat→Option Nat):TV.ren1 ρ z0c=some z0c:=rfl
theorem zg6(ρ:Nat→Option Nat):TV.ren2 ρ z0c=some z0c:=rfl
theorem zg7(ρ:Nat→Option Nat):TV.ren3 ρ z0c=some z0c:=rfl
theorem zdI:TV.cells z0c=some [z0c]:=rfl
theorem zmk(a b:zB):Instr.sameNow (kdOf true) (.string (str a)) (.string (str b))=some (a==b):=by
 have:(str a==str b)=(a==b):=by
  show(a.toArray==b.toArray)=(a==b)
  simp
 first
  |(simp[Instr.sameNow,kdOf,this];done)
  |(simp[Instr.sameNow,kdOf];exact this)
theorem zg1(s:zB):∀(l:List (zB×Int)) (i:Nat),findKs (kdOf true) (.string (str s)) (l.map fun p=> .string (str p.1)) i=some ((l.findIdx? fun p=>s==p.1).map (·+i))
 |[],i=>rfl
 |p::l,i=>by
  rw[List.map_cons,findKs,zmk,List.findIdx?_cons];cases h:(s==p.1)with
  |true=>simp
  |false=>
   simp only[Bool.false_eq_true,if_false,zg1 s l (i+1),Option.map_map];congr 2;funext j;simp;omega
theorem zmO(s:zB):zep true (.int .i64 0) (some z0c) (some (.string (str s)))=some (.pv (.v (.int .i64 (zu s))),.no):=by
 show zan _ _ (findKs (kdOf true) (.string (str s)) zaL 0)=_;unfold zaL;rw[zg1 s bindL 0];simp only[bindL,List.findIdx?_cons,List.findIdx?_nil,zu];by_cases h1:s=[42];· subst h1;rfl
 by_cases h2:s=[47];· subst h2;rfl
 by_cases h3:s=[37];· subst h3;rfl
 by_cases h4:s=[43];· subst h4;rfl
 by_cases h5:s=[45];· subst h5;rfl
 by_cases h6:s=[38];· subst h6;rfl
 by_cases h7:s=[61];· subst h7;rfl
 by_cases h8:s=[60,62];· subst h8;rfl
 by_cases h9:s=[60];· subst h9;rfl
 by_cases h10:s=[60,61];· subst h10;rfl
 by_cases h11:s=[62];· subst h11;rfl
 by_cases h12:s=[62,61];· subst h12;rfl
 simp[h1,h2,h3,h4,h5,h6,h7,h8,h9,h10,h11,h12,zan,zeroT]
theorem bmV:(type_of% @zmP)∧(type_of% @zmQ)∧(type_of% @zmR)∧(type_of% @zg2)∧(type_of% @zg3)∧(type_of% @zg4)∧(type_of% @zg5)∧(type_of% @zg6)∧(type_of% @zg7)∧(type_of% @zdI)∧(type_of% @zmO):=⟨@zmP,@zmQ,@zmR,@zg2,@zg3,@zg4,@zg5,@zg6,@zg7,@zdI,@zmO⟩
section
variable{g:Sh.Glob}{f m:Nat}{dst fp:Option Nat}{xs:List Arg}{xs':List TV}{I:List Nat}{os os':List MO}{y:TV}{l:List SOper}{K:ES→Prop}{s s':ES}{G:Prop}
theorem zt(hc:zC g f xs' os y os')(hk:zR Tryz.prog g l K s')(hx:callIn s m xs=some (xs',os,I):=by simp only[vW,seval,bmV];rfl)(hfp:z5b fp I=true:=by rfl)(hmo:moOk os os'=true:=by first|rfl|(simp only[vcA,seval];omega))(hs:callOut s dst I y os'=some s':=by simp only[vW,seval,bmV];rfl):
  zR Tryz.prog g (⟨dst,none,fp,.call f m xs⟩::l) K s:=z05 hx hfp hc hmo hs hk
theorem zU(hc:zC g f xs' os y os')(h:G)(hx:callIn s m xs=some (xs',os,I):=by simp only[vW,seval,bmV];rfl)(hfp:z5b fp I=true:=by rfl)(hmo:moOk os os'=true:=by first|rfl|(simp only[vcA,seval];omega))(hs:callOut s dst I y os'=some s':=by simp only[vW,seval,bmV];rfl)(hr:zR Tryz.prog g l K s'=G:=by simp only[vW,seval,bmV];rfl):
  zR Tryz.prog g (⟨dst,none,fp,.call f m xs⟩::l) K s:=z05 hx hfp hc hmo hs (hr▸h)
theorem z1h(hc:zC g f xs' os y os')(hx:callIn s m xs=some (xs',os,I):=by simp only[vW,seval,bmV];rfl)(hfp:z5b fp I=true:=by rfl)(hmo:moOk os os'=true:=by first|rfl|(simp only[vcA,seval];omega))(hs:callOut s dst I y os'=some s':=by simp only[vW,seval,bmV];rfl)(hr:zR Tryz.prog g l K s':=by simp only[vW,seval,bmV]):
  zR Tryz.prog g (⟨dst,none,fp,.call f m xs⟩::l) K s:=z05 hx hfp hc hmo hs hr
end
end
end Go.Proofs.YtcpaleaajdilgaaGreatDoor
end
