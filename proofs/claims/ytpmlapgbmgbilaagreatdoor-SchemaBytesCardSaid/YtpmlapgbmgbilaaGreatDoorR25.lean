/- Merged texts: S34. No statement of the program is proved here. -/
import Derived.Test.YtpmlapgbmgbilaaGreatDoorR15
import Derived.Test.YtpmlapgbmgbilaaGreatDoorR16
import Derived.RangeFuncIn
set_option linter.unusedSimpArgs false
set_option linter.unusedVariables false
set_option maxRecDepth 100000
set_option maxHeartbeats 8000000
section
namespace Go.Sh
open Go Go.RowKit
section
def asY:SOp→Option (Arg×List Arg)
 | .callv x _ xs=>some (x,xs)
 |_=>none
def z6j:List SOper→Option (List SOper×Option Nat×Arg×List Arg×List SOper)
 |[]=>none
 |o::l=>match asY o.op with
  |some (x,xs)=>match o.guard with
   |none=>some ([],o.dst,x,xs,l)
   |some _=>none
  |none=>match z6j l with
   |some (p,d,x,xs,q)=>some (o::p,d,x,xs,q)
   |none=>none
structure RY where
 lt:List (Nat×TV)
 ps:List Nat
 sa:SCode
 sb:SCode
def y4:List Nat:=[newId 900 0,newId 900 1,newId 900 2,newId 900 3]
def handT(s:ES)(ts:List TV):Option (List TV×List MO×List Nat):=match seqO (TV.ren2 (rhoIn (handI s.fs 2 ts))) ts,seqO (fun d=>(s.fs.mo d).bind (MO.ren (rhoIn (handI s.fs 2 ts)))) (handI s.fs 2 ts)with
 |some xs',some os=>some (xs',os,handI s.fs 2 ts)
 |_,_=>none
def z6b:SExit→Option SExit
 | .normal=>none
 |e=>some e
def onN:SExit→Bool
 | .normal=>true
 |_=>false
def zcF(K:ES→Prop):Option ES→Prop
 |some s=>K s
 |none=>False
def z5A(s:ES)(os:List MO)(I:List Nat)(K:ES→Prop):Option (TV×List MO)→Prop
 |some (_,os')=>moOk os os'=true∧zcF K (callOut s none I (.tuple []) os')
 |none=>False
def zaG(s:ES)(os:List MO)(I:List Nat)(K:SExit→ES→Prop):SExit→ES→Prop
 | .pan _,_=>False
 |e,s'=>z5A s os I (K e) (exitR [] true os.length s')
def noK:SExit→ES→Prop:=fun _ _=>False
def roundW(P:Program)(g:Glob)(R:RY)(s:ES)(os:List MO)(I:List Nat)(xs:List TV)(K:SExit→ES→Prop):Prop:=
 swp P g R.sa (z2G (swp P g R.sb (zaG s os I K)) noK) ⟨(R.ps++R.lt.map (·.1)).zip xs,numB 1000 os,numR 1000 os,[]⟩
def z7q(R:RY)(s:ES)(xs:List Arg):Option (List TV×List MO×List Nat):=match seqO (fun x:Arg=>x.get s.fs) xs with
 |some ts=>if Nat.beq ts.length R.ps.length then handT s (ts++R.lt.map (·.2))else none
 |none=>none
def z9p(P:Program)(g:Glob)(R:RY)(yv:Value)(x:Arg)(xs:List Arg)(K:SExit→ES→Prop)(s:ES):Prop:=
 x.get s.fs=some (.pv (.v yv))∧∃us os I,z7q R s xs=some (us,os,I)∧Nat.ble os.length 1000=true∧roundW P g R s os I us K
def zaS(kill:List Nat)(Q:Option SExit→SExit→ES→Prop)(e:SExit)(s:ES):Prop:=Q (z6b e) .normal (s.kill kill)
def zeE(P:Program)(g:Glob)(n:List Nat)(d:Option Nat)(q:List SOper)(kill:List Nat)(Q:Option SExit→SExit→ES→Prop)(e:SExit)(s:ES):Prop:=zQ P g q (zaS kill Q e) ((s.put d (.pv (.v (.bool (onN e))))).fgt n)
def zgC(P:Program)(g:Glob)(R:RY)(yv:Value)(n:List Nat)(d:Option Nat)(x:Arg)(xs:List Arg)(q:List SOper)(kill:List Nat)(Q:Option SExit→SExit→ES→Prop)(s:ES):Prop:=z9p P g R yv x xs (zeE P g n d q kill Q) (s.fgt y4)
def zs2(P:Program)(g:Glob)(R:RY)(yv:Value)(n:List Nat)(kill:List Nat)(Q:Option SExit→SExit→ES→Prop)(s:ES):List SOper×Option Nat×Arg×List Arg×List SOper→Prop
 |(p,d,x,xs,q)=>zQ P g p (zgC P g R yv n d x xs q kill Q) (s.fgt n)
inductive YD where
 |plain (c:SCode)
 |yld (n:List Nat) (p:List SOper) (d:Option Nat) (x:Arg) (xs:List Arg) (q:List SOper) (kill:List Nat)
 |seq (a b:YD) (b0:SCode)
 |cond (c:Arg) (a b:YD)
 |block (id:Nat) (a:YD)
 |loop (a:YD)
def zbe(kill:List Nat):List (List Nat×List SOper)→YD
 |[(n,l)]=>match z6j l with
  |some (p,d,x,xs,q)=> .yld n p d x xs q kill
  |none=> .plain (.reg [(n,l)] kill)
 |alts=> .plain (.reg alts kill)
def toY:SCode→YD
 | .reg alts kill=>zbe kill alts
 | .seq a b=>match toY a,toY b with
  | .plain _,.plain _=> .plain (.seq a b)
  |a',b'=> .seq a' b' b
 | .cond c a b=>match toY a,toY b with
  | .plain _,.plain _=> .plain (.cond c a b)
  |a',b'=> .cond c a' b'
 | .block id a=>match toY a with
  | .plain _=> .plain (.block id a)
  |a'=> .block id a'
 | .loop a=>match toY a with
  | .plain _=> .plain (.loop a)
  |a'=> .loop a'
 |c=> .plain c
def z6I(A:ES→Prop)(P:Program)(g:Glob)(b:SCode)(Q:Option SExit→SExit→ES→Prop):Option SExit→SExit→ES→Prop
 |none,.normal,s=>A s
 |some p,.normal,s=>swp P g b (Q (some p)) s
 |ph,e,s=>Q ph e s
def zeI(id:Nat)(Q:Option SExit→SExit→ES→Prop)(ph:Option SExit):SExit→ES→Prop:=z1q id (Q ph)
def zaV(A:ES→Prop)(Q:Option SExit→SExit→ES→Prop):Option SExit→SExit→ES→Prop
 |none,.normal,s=>A s
 |some _,.normal,_=>False
 |ph,e,s=>Q ph e s
def z1M(P:Program)(g:Glob)(R:RY)(yv:Value):YD→(Option SExit→SExit→ES→Prop)→ES→Prop
 | .plain c,Q,s=>swp P g c (Q none) s
 | .yld n p d x xs q kill,Q,s=>zs2 P g R yv n kill Q s (p,d,x,xs,q)
 | .seq a b b0,Q,s=>z1M P g R yv a (z6I (z1M P g R yv b Q) P g b0 Q) s
 | .cond c a b,Q,s=>zpb c s (z1M P g R yv a Q s) (z1M P g R yv b Q s)
 | .block id a,Q,s=>z1M P g R yv a (zeI id Q) s
 | .loop a,Q,s=>∃(I:Nat→ES→Prop) (n:Nat),(∃s0,s0.Lw s∧I n s0)∧∀n s,I n s→z1M P g R yv a (zaV (fun s'=>∃m,m<n∧∃s0,s0.Lw s'∧I m s0) Q) s
def phK(Q:SExit→ES→Prop):Option SExit→ES→Prop
 |none,s=>Q .normal s
 |some .ret,s=>Q .ret s
 |some (.exit id),s=>Q (.exit id) s
 |_,_=>False
def z8v(s:ES)(os:List MO)(I:List Nat)(Q:SExit→ES→Prop)(ph:Option SExit):SExit→ES→Prop
 | .normal,s'| .ret,s'=>z5A s os I (phK Q ph) (exitR [] true os.length s')
 |_,_=>False
def z5Y(s:ES)(x:Arg)(gi:Nat)(lug:List Nat)(n2:Nat):Option (List TV×List (Nat×TV)×List MO×List Nat):=match x.get s.fs with
 |some (.fn (.func f) [] cs)=>match seqO (fun k=>lk s.t k) lug with
  |some lt=>match handT s (cs++lt)with
   |some (us,os,I)=>if Nat.beq f gi&&Nat.blt cs.length n2 then some (us.take cs.length,lug.zip (us.drop cs.length),os,I)else none
   |none=>none
  |none=>none
 |_=>none
def yOk:Code→Bool
 | .region _ ops draw=> !draw|| !(ops.any fun o=>match o.op with| .call { callee:=.value (.tmp _), .. }=>true|_=>false)
 | .seq a b| .cond _ a b=>yOk a&&yOk b
 | .block _ a| .loop a=>yOk a
 |_=>true
theorem zf3{s s':ES}{os:List MO}{I:List Nat}{K:ES→Prop}(h:z5A s os I K (exitR [] true os.length s')):∃y os',exitR [] true os.length s'=some (y,os')∧moOk os os'=true∧∃s3,callOut s none I (.tuple []) os'=some s3∧K s3:=by
 unfold z5A at h;split at h
 ·rename_i hx;obtain⟨h1,h2⟩:=h;unfold zcF at h2;split at h2
  ·rename_i hy;exact⟨_,_,hx,h1,_,hy,h2⟩
  ·exact h2.elim
 ·exact h.elim
theorem zmW{o:SOp}{x:Arg}{xs:List Arg}(h:asY o=some (x,xs)):∃m,o=.callv x m xs:=by
 unfold asY at h;split at h
 ·cases h;exact⟨_,rfl⟩
 ·cases h
theorem z72:∀{l p q:List SOper} {d:Option Nat} {x:Arg} {xs:List Arg},z6j l=some (p,d,x,xs,q)→∃fp m,l[p.length]?=some ⟨d,none,fp,.callv x m xs⟩∧l.take p.length=p∧l.drop (p.length+1)=q
 |[],_,_,_,_,_,h=>by cases h
 |o::l,p,q,d,x,xs,h=>by
  unfold z6j at h;split at h
  ·rename_i ha;obtain⟨m,hm⟩:=zmW ha;split at h
   ·rename_i hg;cases h;obtain⟨d,gd,fp,op⟩:=o;simp only[]at hm hg;subst hm hg;exact⟨fp,m,rfl,rfl,rfl⟩
   ·cases h
  ·split at h
   ·rename_i h2;cases h;obtain⟨fp,m,h3,h4,h5⟩:=z72 h2;exact⟨fp,m,by simpa using h3,by simp[h4],by simpa using h5⟩
   ·cases h
section
variable{P:Program}{g:Glob}{B:Base}{s:ES}{a:Act}{w:World}{E:Env}
theorem zjr{os:List MO}{d b:Nat}(h:MSim (start w E os 0) (z0q os) (zA os) w E)(hx:z2j E os d b):∃c e z,w.heap[b]?=some (.cells c e z):=by
 rcases hx with⟨cs,e1,rfl⟩|⟨⟨e,W,m⟩,cap,e1,e2⟩
 ·exact(h.box d cs e1).1.obj
 ·rcases h.row d e W m e1 with⟨e4,_⟩|⟨k',cap',e4,e5,h6⟩
  ·rw[e4]at e2;cases e2
  ·rw[e2]at e4;cases e4;obtain⟨cur,h7,_⟩:=h6.cells;exact⟨_,_,_,h7⟩
theorem RelT.stay{w0:World}{N:Nat}{os:List MO}{E0:Env}{pr:List (Nat×Obj)}{s:FS}(h0:MSim (start w0 E0 os 0) (z0q os) (zA os) w0 E0)(h:Sim { start w0 E0 os N with pr:=pr } s a w E){x:TV}{v:Value}(hx:RelT w0 E0 (zA os) x v)(hm:∀d,Ment d x→1000≤d∧d<1000+os.length):RelT w { E with ι:=E0.ι } s.r x v:=by
 refine hx.monoM (fun b o u h1 h2=>h.mem.keep b o u h1 h2) (fun d hd=>⟨h.mem.pas.β d (hm d hd),rfl⟩) (fun d e W n hd hr=> ?_) (fun b es c hb=> ?_)
 ·obtain⟨n0,h1,h2,h3⟩:=h.mem.pas.row d e W n (hm d hd) hr;rcases Nat.lt_or_ge n0 n with h4|h4
  ·exact .inr ⟨n0,h1,h4⟩
  ·obtain rfl:n0=n:=by omega
   exact .inl ⟨h1,h3 rfl⟩
 ·refine(h.mem.low.block b (gA hb).1 fun d hd=> ?_).trans hb;obtain⟨_,_,_,h2⟩:=zjr h0 hd;rw[hb]at h2;cases h2
def z0o(fn:FuncId)(tm:Array Value)(ps:Array Tmp)(ca cb:Code)(D:Nat)(st:LoopState)(pe:Option Code):Loop:={ state:=st,pending:=pe,fn:=fn,tmps:=tm,params:=ps,assign:=ca,body:=cb,defers:=D }
def jmp:SExit→Code
 | .exit id=> .exit id
 |_=> .ret
def prY(l D:Nat)(r:LoopState→Option Code→Loop):Option SExit→List (Nat×Obj)
 |none=>[(l,.loop (r .ready none)),(D,.deferred (some []))]
 |some e=>[(l,.loop (r .done (some (jmp e)))),(D,.deferred (some []))]
theorem zdx{ts us:List TV}{os:List MO}{I:List Nat}(h:handT s ts=some (us,os,I)):I.Nodup∧seqO (TV.ren2 (rhoIn I)) ts=some us∧seqO (fun d=>(s.fs.mo d).bind (MO.ren (rhoIn I))) I=some os:=by
 unfold handT at h;split at h
 ·rename_i h1 h2;cases h;refine⟨?_,h1,h2⟩;unfold handI;exact(z2Q 64 _ [] List.nodup_nil).1
 ·cases h
theorem Dp.put{ds:List Deferred}(h:Dp B ds w){l:Nat}{r:Loop}{o':Obj}(ho:w.heap[l]?=some (.loop r)){pr:List (Nat×Obj)}(hp:∀p∈pr,mark p.2=true∧(w.putObj l o').heap[p.1]?=some p.2)(hq:∀p∈pr,∃q∈B.pr,q.1=p.1):Dp { B with w0:=B.w0.putObj l o',pr:=pr } ds (w.putObj l o'):=
 ⟨let⟨L,h0,h1,h2,h3⟩:=h.col;⟨L,h0,h1,h2,fun D hD=>⟨by simpa using(h3 D hD).1,fun p hp e=>let⟨q,h4,h5⟩:=hq p hp;(h3 D hD).2.1 q h4 (h5.trans e),(World.putObj_heap_other (fun e=>by have:=(h3 D hD).2.2;rw[e,ho]at this;cases this)).trans (h3 D hD).2.2⟩⟩,hp⟩
theorem zi6{l D:Nat}{o o':Obj}{x x':Obj}:∀p∈[(l,o),(D,x)],∃q∈[(l,o'),(D,x')],q.1=p.1:=by simp
theorem zoX{s:FS}(h:Sim B s a w E)(hG:g.G B.w0)(hX:∀d b,B.X d b→g.n≤b):g.G w:=
 g.st _ _ hG fun k hk=>h.mem.low.block k (Nat.lt_of_lt_of_le hk (g.le _ hG)) fun d hx=>absurd (hX d k hx) (by omega)
theorem zqn{w:World}{l:Nat}{o o':Obj}:(w.putObj l o).putObj l o'=w.putObj l o':=by simp[World.putObj]
variable{N:Nat}{R:RY}{ca cb:Code}{H:Nat→Option Nat→Nat}{Fp:Nat→List (Nat→Option Nat)}{Kk:Nat→List Nat}{l D:Nat}{fnid:FuncId}{tm0:Array Value}{pa:Array Tmp}
theorem zmc(ze:P.follows .mixedOrders=true)(tA:zg P N H Fp Kk ca=some R.sa)(nA:z2C R.sa=true)(tB:zg P N H Fp Kk cb=some R.sb)(nB:z2C R.sb=true)(hN:N≤1000)
  (hS:Sim { B with pr:=prY l D (z0o fnid tm0 pa ca cb D) none } s.fs a w E) (hl:B.w0.heap.size≤l) (hlD:D≠l) (hm0:B.m≤1000) (hf:∀q<4,z0y s.fs (newId 900 q)) (hG:g.G B.w0) (hX:∀d b,B.X d b→g.n≤b)
  {ts us:List TV} {os:List MO} {I:List Nat} (hh:handT s ts=some (us,os,I)) (hos1:Nat.ble os.length 1000=true) {tm:Array Value} (hsz:tm.size=N)
  (hts:∀(j:Nat) k x,(R.ps++R.lt.map (·.1))[j]?=some k→ts[j]?=some x→k<N∧∃ι,RelT w { E with ι:=ι } s.fs.r x (tm.getD k undef)) {K:SExit→ES→Prop} (hr:roundW P g R s os I us K) {n:Nat}:
  RoundIn Fence.wide n P l fnid tm ca cb w (fun e w'=>∃ex s2 E2,e=.returned (.bool (onN ex))∧K ex s2∧Sim { B with pr:=prY l D (z0o fnid tm0 pa ca cb D) (z6b ex) } s2.fs a w' E2):=by
 obtain⟨hI,hus,hos⟩:=zdx hh;have hp:=hS.defers.pr;have hl1:w.heap[l]?=some (.loop (z0o fnid tm0 pa ca cb D .ready none)):=(hp _ (List.mem_cons_self ..)).2;have hD1:w.heap[D]?=some (.deferred (some [])):=(hp _ (List.mem_cons_of_mem _ (List.mem_cons_self ..))).2;have hG0:g.G w:=zoX (B:={ B with pr:=prY l D (z0o fnid tm0 pa ca cb D) none }) hS hG hX;have hn:=g.le _ hG;have hx1:∀d b,z2j (zw E I) os d b→g.n≤b:=zhJ hS hos hn hX;have hm1:os.length≤1000:=Nat.le_of_ble_eq_true hos1;obtain⟨q1,q2⟩:=z00 hus;have hi:=zdy (N:=N) (a2:={ tmps:=tm,defers:=[] }) hS hI hos hsz rfl hp ((R.ps++R.lt.map (·.1)).zip us) (fun k x' hk=>by
  obtain⟨j,hj⟩:=List.getElem?_of_mem hk;obtain⟨e1,e2⟩:=List.getElem?_zip_eq_some.1 hj;have hjl:j<ts.length:=by rw[q1];exact(gJ e2).1
  obtain⟨y,e3,e4⟩:=q2 j ts[j] (gE hjl);obtain⟨h1,ι,h2⟩:=hts j k ts[j] e1 (gE hjl);rw[e2]at e3;cases e3;have hro:RenOk { E with ι:=ι } s.fs.r (rhoIn I) (zw E I) (zA os):=⟨(za1 (E:=E) hos).at_⟩
  exact⟨h1,z56 hro (fun _ _ _ h _=>h) h2 e4⟩)
 refine roundIn_of_wpIn trivial (wpIn_mono (zax (ro:=some l) (n:=n) (B:={ start w (zw E I) os N with pr:=prY l D (z0o fnid tm0 pa ca cb D) none }) ze hm1 hN hG0 hx1 tA nA hr hi) ?_);rintro x a1 w1 ⟨e,s1,E1,rfl,hq,h1⟩;cases e with
 |normal=>
  have hl2:w1.heap[l]?=some (.loop (z0o fnid tm0 pa ca cb D .ready none)):=(h1.defers.pr _ (List.mem_cons_self ..)).2;have hD2:w1.heap[D]?=some (.deferred (some [])):=(h1.defers.pr _ (List.mem_cons_of_mem _ (List.mem_cons_self ..))).2;refine⟨_,run_beginRound hl2 rfl,?_⟩;have hput:∀{W:World} {r:Loop} (o':Obj) (_:W.heap[l]?=some (.loop r)) (_:W.heap[D]?=some (.deferred (some []))) (_:mark o'=true),∀p∈[(l,o'),(D,.deferred (some []))],mark p.2=true∧(W.putObj l o').heap[p.1]?=some p.2:=fun o' e1 e2 e3 p hp=>by
   simp only[List.mem_cons,List.not_mem_nil,or_false]at hp;rcases hp with rfl|rfl
   ·exact⟨e3,World.putObj_heap_same (gA e1).1⟩
   ·exact⟨rfl,(World.putObj_heap_other hlD).trans e2⟩
  have h2:=h1.both (l:=l) (o':=.loop (z0o fnid tm0 pa ca cb D .busy none)) (a':=a1) hl2 rfl rfl (fun x hx=>by rw[show w.heap[l]?=some x from hx]at hl1;cases hl1;rfl) rfl (h1.defers.put hl2 (hput _ hl2 hD2 rfl) zi6);refine wpIn_mono (zax (ro:=some l) (n:=n) (B:={ start w (zw E I) os N with w0:=w.putObj l (.loop (z0o fnid tm0 pa ca cb D .busy none)),pr:=[(l,.loop (z0o fnid tm0 pa ca cb D .busy none)),(D,.deferred (some []))] }) ze hm1 hN (g.st _ _ hG0 (fun k hk=>World.putObj_heap_other (by omega))) hx1 tB nB hq h2) ?_;rintro x a2 w2 ⟨e,s2,E2,rfl,hq2,h3⟩;have hl3:w2.heap[l]?=some (.loop (z0o fnid tm0 pa ca cb D .busy none)):=(h3.defers.pr _ (List.mem_cons_self ..)).2;have hD3:w2.heap[D]?=some (.deferred (some [])):=(h3.defers.pr _ (List.mem_cons_of_mem _ (List.mem_cons_self ..))).2;have fin:∀(e:SExit) (jp:Option Code) (o3:Obj),(∀z,e≠ .pan z)→Obj.loop { z0o fnid tm0 pa ca cb D .busy none with state:=if jp.isNone then .ready else .done,pending:=jp }=o3→mark o3=true→jp.isNone=onN e→prY l D (z0o fnid tm0 pa ca cb D) (z6b e)=[(l,o3),(D,.deferred (some []))]→zaG s os I K e s2→
    ∃v w',(Instr.endRound l jp).run P w2=.ok v w'∧∃ex s2 E2,Ending.returned v=.returned (.bool (onN ex))∧K ex s2∧Sim { B with pr:=prY l D (z0o fnid tm0 pa ca cb D) (z6b ex) } s2.fs a w' E2:=by
   intro e jp o3 hz ho3 hmk hon hpr hq2;refine⟨_,_,run_endRound jp hl3,?_⟩;rw[ho3,hon];obtain⟨y,os',hex,hmo,s3,hco,hK⟩:∃y os',exitR [] true os.length s2=some (y,os')∧moOk os os'=true∧∃s3,callOut s none I (.tuple []) os'=some s3∧K e s3:=by
    refine zf3 (K:=K e) ?_;cases e with
    |pan z=>exact absurd rfl (hz z)
    |_=>exact hq2
   refine⟨e,s3,?_⟩;unfold callOut at hco;split at hco<;>try(cases hco;done)
   rename_i y' us' _ hou;cases hco;have h4:=h3.both (l:=l) (o':=o3) (pr:=[]) (a':=a2) hl3 rfl hmk (fun x hx=>by
    have hx:(w.putObj l (.loop (z0o fnid tm0 pa ca cb D .busy none))).heap[l]?=some x:=hx;rw[World.putObj_heap_same (gA hl1).1]at hx;cases hx;rfl) rfl (h3.defers.put hl3 (fun p hp=>by cases hp) (fun p hp=>by cases hp))
   have h5:=hS.both (l:=l) (o':=o3) (pr:=prY l D (z0o fnid tm0 pa ca cb D) (z6b e)) (a':=a) hl1 rfl hmk (fun x hx=>by
    have:=(gA hx).1;exact absurd this (by show ¬l<B.w0.heap.size;omega)) rfl (hS.defers.put hl1 (by rw[hpr];exact hput _ hl1 hD1 hmk) (by rw[hpr];exact zi6))
   have e0:(w.putObj l (.loop (z0o fnid tm0 pa ca cb D .busy none))).putObj l o3=w.putObj l o3:=zqn;have h5:Sim { B with pr:=prY l D (z0o fnid tm0 pa ca cb D) (z6b e) } s.fs a (w.putObj l o3) E:=by
    have e1:B.w0.putObj l o3=B.w0:=z5N hl;have h5:Sim { B with w0:=B.w0.putObj l o3,pr:=prY l D (z0o fnid tm0 pa ca cb D) (z6b e) } s.fs a (w.putObj l o3) E:=h5
    rwa [e1]at h5
   have h4:Sim { start (w.putObj l o3) (zw E I) os N with pr:=[] } s2.fs a2 (w2.putObj l o3) E2:=by
    have h4:Sim { start w (zw E I) os N with w0:=(w.putObj l (.loop (z0o fnid tm0 pa ca cb D .busy none))).putObj l o3,pr:=[] } s2.fs a2 (w2.putObj l o3) E2:=h4
    rwa [e0]at h4
   obtain⟨E3,h6⟩:=zbL (k:=900) h5 hI hm0 hf hos hmo hou h4 hex;rw[←ES.upd_fs]at h6;exact⟨E3,rfl,hK,h6⟩
  cases e with
  |normal=>exact fin .normal none _ (by simp) rfl rfl rfl rfl hq2
  |ret=>exact fin .ret (some .ret) _ (by simp) rfl rfl rfl rfl hq2
  |exit id=>exact fin (.exit id) (some (.exit id)) _ (by simp) rfl rfl rfl rfl hq2
  |pan z=>exact hq2.elim
 |exit id=>exact hq.elim
 |ret=>exact hq.elim
 |pan z=>exact hq.elim
theorem zlu{F:Option SExit→Base}{Q:Option SExit→SExit→ES→Prop}:¬LetsOut (fun x a' w'=>∃ph e s' E',x=SExit.to e∧Q ph e s'∧Sim (F ph) s'.fs a' w' E'):=by
 rintro⟨a,w,ph,e,s',E',h,_⟩;cases e<;>cases h
structure YC(P:Program)(g:Glob)(B:Base)(R:RY)(N:Nat)(ca cb:Code)(l D:Nat)(fnid:FuncId)(tm0:Array Value):Prop where
 mix:P.follows .mixedOrders=true
 A:∃H Fp Kk,zg P N H Fp Kk ca=some R.sa∧zg P N H Fp Kk cb=some R.sb
 nA:z2C R.sa=true
 nB:z2C R.sb=true
 hN:N≤1000
 hl:B.w0.heap.size≤l
 lD:D≠l
 hm:B.m≤1000
 BN:B.N≤1000
 lp:B.lp=true
 G:g.G B.w0
 X:∀d b,B.X d b→g.n≤b
 sz:tm0.size=N
 ps:∀k∈R.ps,k<N
 nd:R.ps.Nodup
 dj:∀k x,(k,x)∈R.lt→k∉R.ps
 lug:∀(s:FS) (a:Act) (w:World) (E:Env),Sim { B with pr:=prY l D (z0o fnid tm0 R.ps.toArray ca cb D) none } s a w E→∀k x,(k,x)∈R.lt→k<N∧∃ι,RelT w { E with ι:=ι } s.r x (tm0.getD k undef)
theorem z8m{o:Oper}{h m:Nat}{x:Arg}{xs:List Arg}(ht:zo P o h=some (.callv x m xs)):∃t ag aT,o.op=.call { callee:=.value (.tmp t),args:=ag,argTypes:=aT }∧x=.tmp t∧xs=ag.toList.map Arg.of:=by
 unfold zo at ht;split at ht;all_goals first|(rename_i hop;cases ht;exact⟨_,_,_,hop,rfl,rfl⟩)|(repeat' (first|(cases ht;done)|(obtain⟨_,_,h9⟩:=gO ht;cases h9;done)|split at ht))
theorem zck:∀(ps:List Nat) (vs:List Value) (tm:Array Value),ps.length=vs.length→ps.Nodup→(∀k∈ps,k<tm.size)→((ps.zip vs).foldl (fun t (p:Nat×Value)=>t.setIfInBounds p.1 p.2) tm).size=tm.size∧
  (∀k,k∉ps→((ps.zip vs).foldl (fun t (p:Nat×Value)=>t.setIfInBounds p.1 p.2) tm).getD k undef=tm.getD k undef)∧∀(j:Nat) k v,ps[j]?=some k→vs[j]?=some v→((ps.zip vs).foldl (fun t (p:Nat×Value)=>t.setIfInBounds p.1 p.2) tm).getD k undef=v
 |[],vs,tm,_,_,_=>⟨rfl,fun _ _=>rfl,fun j k v h=>by simp at h⟩
 |p::ps,[],tm,h,_,_=>by simp at h
 |p::ps,v::vs,tm,h,hn,hlt=>by
  obtain⟨h1,h2⟩:=List.nodup_cons.1 hn;have hp:p<tm.size:=hlt p (List.mem_cons_self ..);obtain⟨i1,i2,i3⟩:=zck ps vs (tm.setIfInBounds p v) (by simpa using h) h2 (fun k hk=>by simpa using hlt k (List.mem_cons_of_mem _ hk));refine⟨by simpa using i1,fun k hk=> ?_,fun j k u hj hu=> ?_⟩
  ·have:=i2 k (fun h=>hk (List.mem_cons_of_mem _ h));refine this.trans ?_;have hne:p≠k:=fun e=>hk (e▸List.mem_cons_self ..);simp only[Array.getD_eq_getD_getElem?];rw[Array.getElem?_setIfInBounds_ne hne]
  ·cases j with
   |zero=>
    simp only[List.getElem?_cons_zero,Option.some.injEq]at hj hu;subst hj hu;refine(i2 p h1).trans ?_;simp[Array.getD_eq_getD_getElem?,hp]
   |succ j=>exact i3 j k u (by simpa using hj) (by simpa using hu)
theorem zgB(hc:YC P g B R N ca cb l D fnid tm0){H':Option Nat→Nat}{F':Nat→Option Nat}{id:Nat}{ops:Array Oper}{sops:List SOper}(htr:z0i P B.N H' F' ops false=some sops){z:List SOper×Option Nat×Arg×List Arg×List SOper}(hz:z6j sops=some z){kill:List Nat}{Q:Option SExit→SExit→ES→Prop}
  (h:zs2 P g R (.func (.yield l) #[] #[]) (sops.flatMap SOper.news) kill Q s z) (hS:Sim { B with pr:=prY l D (z0o fnid tm0 R.ps.toArray ca cb D) none } s.fs a w E) {n:Nat}:
  (Code.region id ops false).wpIn Fence.wide n P (fun x a' w'=>∃ph e s' E',x=SExit.to e∧Q ph e s'∧Sim { B with pr:=prY l D (z0o fnid tm0 R.ps.toArray ca cb D) ph } s'.fs a' w' E') a w:=by
 obtain⟨p,d,x,xs,q⟩:=z;obtain⟨fp,m,hk,htk,hdr⟩:=z72 hz;have hkl:=(gJ hk).1;obtain⟨H,Fp,Kk,tA,tB⟩:=hc.A;have hops:∃o aT t ag,ops[p.length]?=some o∧o.guard=none∧o.dst=d∧zel B.N d=true∧x=.tmp t∧xs=ag.toList.map Arg.of∧o.op=.call { callee:=.value (.tmp t),args:=ag,argTypes:=aT }:=by
  unfold z0i at htr;split at htr<;>try(cases htr;done)
  rename_i sops' hseq;split at htr<;>try(cases htr;done)
  cases htr;obtain⟨hlen,hspec⟩:=z1a hseq;have hil:p.length<ops.size:=by have:ops.toList.length=ops.size:=Array.length_toList;omega
  obtain⟨so,hso,hto⟩:=hspec p.length ops[p.length] (by simp);rw[hk]at hso;cases hso;refine⟨ops[p.length],?_⟩;rw[Array.getElem?_eq_getElem hil];generalize ops[p.length]=o at hto;unfold z1o at hto;split at hto<;>try(cases hto;done)
  rename_i gg op hg hop;split at hto<;>try(cases hto;done)
  rename_i hdst;cases hto;have hgu:o.guard=none:=by
   unfold z3L at hg;split at hg
   ·rename_i h;exact h
   ·split at hg<;>cases hg
  obtain⟨t,ag,aT,h1,h2,h3⟩:=z8m ((z1w hop).resolve_right fun h=>by cases h.1);exact⟨aT,t,ag,rfl,hgu,rfl,hdst,h2,h3,h1⟩
 obtain⟨o,aT,t,ag,ho,hgu,hod,hdst,rfl,rfl,hop⟩:=hops;subst hod;let Kn:SExit→ES→Prop:=fun e s2=>zQ P g q (fun s3=>Q (z6b e) .normal (s3.kill kill)) ((s2.put o.dst (.pv (.v (.bool (onN e))))).fgt (sops.flatMap SOper.news))
 have hfr:∀(s:ES),∀d∈sops.flatMap SOper.news,z0y (s.fgt (sops.flatMap SOper.news)).fs d:=fun s d hd=>z1J s hd;refine zg6 (ro:=none) (g:=g) (g2:=g) htr p.length hkl (B:={ B with pr:=prY l D (z0o fnid tm0 R.ps.toArray ca cb D) none }) hc.hm rfl hc.BN hc.G hc.X (s:=s.fgt (sops.flatMap SOper.news)) (hfr s) (by rw[htk];exact h) (z1K hS _) (zlu (F:=fun ph=>{ B with pr:=prY l D (z0o fnid tm0 R.ps.toArray ca cb D) ph }) (Q:=Q))
  (fun a w=>∃e s2 E,Kn e s2∧Sim { B with pr:=prY l D (z0o fnid tm0 R.ps.toArray ca cb D) (z6b e) } (s2.put o.dst (.pv (.v (.bool (onN e))))).fs a w E) ?_ ?_
 ·rintro s1 a1 w1 E1 ⟨hy,us,os,I,hin,hos1,hr⟩ hS1;unfold z7q at hin;split at hin<;>try(cases hin;done)
  rename_i ts hts;split at hin<;>try(cases hin;done)
  rename_i htl;have htl:=Nat.eq_of_beq_eq_true htl;have hh:=hin;have hS1:=z1K hS1 y4;have hl1:w1.heap[l]?=some (.loop (z0o fnid tm0 R.ps.toArray ca cb D .ready none)):=(hS1.defers.pr _ (List.mem_cons_self ..)).2;have hv:a1.eval (.tmp t)=.func (.yield l) #[] #[]:=val_rel (zh hS1 hy) rfl;obtain⟨g1,g2,_⟩:=z4X hS1 hts;have hag:R.ps.length=(ag.toList.map a1.eval).length:=by rw[←g1,htl]
  obtain⟨p1,p2,p3⟩:=zck R.ps (ag.toList.map a1.eval) tm0 hag hc.nd (fun k hk=>by rw[hc.sz];exact hc.ps k hk);unfold wpOpIn;rw[ho];simp only[];rw[if_pos (by simp[Region.wanted,hgu])];refine⟨fun _ _=>trivial,?_⟩;have hrun:(o.semAt none a1.eval).run P w1=.ok (.round l fnid ((R.ps.zip (ag.toList.map a1.eval)).foldl (fun t (p:Nat×Value)=>t.setIfInBounds p.1 p.2) tm0) ca cb) w1:=by
   rw[Oper.semAt_none];have hy:=run_yield (P:=P) (args:=ag.map a1.eval) hl1 (by show(ag.map a1.eval).size=R.ps.toArray.size;simp[hag]);obtain⟨dst,op,ty,pos,after,gd⟩:=o;simp only[]at hop;subst hop;simp[execOp,resolve,hv,invoke,Deferred.ofValue,Result.andThen];refine hy.trans ?_;rw[←Array.foldl_toList];simp[z0o]
  rw[hrun];have hd1:∀k,o.dst=some k→k<B.N:=fun k hk=>by rw[hk]at hdst;exact Nat.le_of_ble_eq_true hdst
  refine⟨fun h=>(by cases h),(zmc (g:=g) (N:=N) (R:=R) (tm0:=tm0) (pa:=R.ps.toArray) (s:=s1.fgt y4) hc.mix hc.A.choose_spec.choose_spec.choose_spec.1 hc.nA hc.A.choose_spec.choose_spec.choose_spec.2 hc.nB hc.hN hS1 hc.hl hc.lD hc.hm (fun q hq=>z1J s1 (by unfold y4;match q,hq with|0,_|1,_|2,_|3,_=>simp)) hc.G hc.X hh hos1 (p1.trans hc.sz) (fun j k x hj hx=> ?_) hr).mono ?_⟩
  ·rcases Nat.lt_or_ge j R.ps.length with hjl|hjl
   ·rw[List.getElem?_append_left hjl]at hj;rw[List.getElem?_append_left (by omega)]at hx;have hvl:j<(ag.toList.map a1.eval).length:=by omega
    refine⟨hc.ps k (gM hj),E1.ι,?_⟩;rw[p3 j k _ hj (gE hvl)];exact g2 j x _ hx (gE hvl)
   ·rw[List.getElem?_append_right hjl]at hj;rw[List.getElem?_append_right (by omega),htl]at hx;rw[List.getElem?_map]at hj hx;obtain⟨e,he,rfl⟩:=gO hj;rw[he]at hx;cases hx;have hmem:=gM he;obtain⟨h1,ι,h2⟩:=hc.lug _ _ _ _ hS1 e.1 e.2 hmem;rw[p2 e.1 (hc.dj e.1 e.2 hmem)];exact⟨h1,ι,h2⟩
  ·rintro e w2 ⟨ex,s2,E2,rfl,hK,hS2⟩;exact⟨ex,s2,E2,hK,by have:=hS2.put (dst:=o.dst) (x:=.pv (.v (.bool (onN ex)))) (v:=.bool (onN ex)) hd1 (.pv (.v _));rwa [←ES.put_fs]at this⟩
 ·rintro a2 w2 ⟨e,s2,E2,hK,hS2⟩;refine⟨{ B with pr:=prY l D (z0o fnid tm0 R.ps.toArray ca cb D) (z6b e) },_,E2,_,hc.hm,rfl,hc.G,hc.X,z1K hS2 _,hfr _,(by rw[hdr];exact hK),?_⟩;intro s3 a3 w3 E3 hq hS3;exact⟨z6b e,.normal,s3.kill kill,E3,rfl,hq,z5K hS3 _⟩
theorem zcp{alts:List (List Nat×List SOper)}{kill:List Nat}:zbe kill alts=.plain (.reg alts kill)∨∃n l p d x xs q,alts=[(n,l)]∧z6j l=some (p,d,x,xs,q)∧zbe kill alts=.yld n p d x xs q kill:=by
 match alts with
 |[]=>exact .inl rfl
 |[(n,l)]=>
  cases h:z6j l with
  |none=>exact .inl (by simp[zbe,h])
  |some z=>obtain⟨p,d,x,xs,q⟩:=z;exact .inr ⟨_,_,_,_,_,_,_,rfl,h,by simp[zbe,h]⟩
 |_::_::_=>exact .inl rfl
theorem zqK{a b:SCode}:toY (.seq a b)=.plain (.seq a b)∨toY (.seq a b)=.seq (toY a) (toY b) b:=by
 simp only[toY];split<;>simp
theorem zoJ{x:Arg}{a b:SCode}:toY (.cond x a b)=.plain (.cond x a b)∨toY (.cond x a b)=.cond x (toY a) (toY b):=by
 simp only[toY];split<;>simp
theorem zms{id:Nat}{a:SCode}:toY (.block id a)=.plain (.block id a)∨toY (.block id a)=.block id (toY a):=by
 simp only[toY];split<;>simp
theorem zoK{a:SCode}:toY (.loop a)=.plain (.loop a)∨toY (.loop a)=.loop (toY a):=by
 simp only[toY];split<;>simp
theorem zmt{c c':SCode}(h:toY c=.plain c'):c'=c:=by
 cases c with
 |reg alts kill=>
  have h:zbe kill alts=.plain c':=h;rcases zcp (alts:=alts) (kill:=kill)with h1|⟨n,l,p,d,x,xs,q,_,_,h1⟩<;>rw[h1]at h<;>cases h
  rfl
 |seq a b=>unfold toY at h;split at h<;>cases h;rfl
 |cond x a b=>unfold toY at h;split at h<;>cases h;rfl
 |block id a=>unfold toY at h;split at h<;>cases h;rfl
 |loop a=>unfold toY at h;split at h<;>cases h;rfl
 |_=>cases h;rfl
theorem zka(hc:YC P g B R N ca cb l D fnid tm0){H2:Nat→Option Nat→Nat}{Fp2:Nat→List (Nat→Option Nat)}{K2:Nat→List Nat}{n:Nat}:∀{c:Code} {sc:SCode},zg P B.N H2 Fp2 K2 c=some sc→yOk c=true→∀{Q:Option SExit→SExit→ES→Prop} {s:ES},z1M P g R (.func (.yield l) #[] #[]) (toY sc) Q s→
  ∀{a:Act} {w:World} {E:Env},Sim { B with pr:=prY l D (z0o fnid tm0 R.ps.toArray ca cb D) none } s.fs a w E→
  c.wpIn Fence.wide n P (fun x a' w'=>∃ph e s' E',x=SExit.to e∧Q ph e s'∧Sim { B with pr:=prY l D (z0o fnid tm0 R.ps.toArray ca cb D) ph } s'.fs a' w' E') a w:=by
 have plain:∀(ph:Option SExit) {c:Code} {sc:SCode},zg P B.N H2 Fp2 K2 c=some sc→∀{Q:SExit→ES→Prop} {s:ES},swp P g sc Q s→∀{a:Act} {w:World} {E:Env},Sim { B with pr:=prY l D (z0o fnid tm0 R.ps.toArray ca cb D) ph } s.fs a w E→
   c.wpIn Fence.wide n P (fun x a' w'=>∃e s' E',x=SExit.to e∧Q e s'∧Sim { B with pr:=prY l D (z0o fnid tm0 R.ps.toArray ca cb D) ph } s'.fs a' w' E') a w:=fun ph c sc ht Q s hs a w E hS=>
  wpIn_wide.2 (z5v (B:={ B with pr:=prY l D (z0o fnid tm0 R.ps.toArray ca cb D) ph }) hc.mix hc.hm hc.BN hc.G hc.X ht (.inl hc.lp) hs hS)
 have pl:∀{c:Code} {sc c':SCode},zg P B.N H2 Fp2 K2 c=some sc→toY sc=.plain c'→∀{Q:Option SExit→SExit→ES→Prop} {s:ES},z1M P g R (.func (.yield l) #[] #[]) (toY sc) Q s→∀{a:Act} {w:World} {E:Env},Sim { B with pr:=prY l D (z0o fnid tm0 R.ps.toArray ca cb D) none } s.fs a w E→
   c.wpIn Fence.wide n P (fun x a' w'=>∃ph e s' E',x=SExit.to e∧Q ph e s'∧Sim { B with pr:=prY l D (z0o fnid tm0 R.ps.toArray ca cb D) ph } s'.fs a' w' E') a w:=fun ht h Q s hs a w E hS=>by
  obtain rfl:=zmt h;rw[h]at hs;refine wpIn_mono (plain none ht (Q:=Q none) hs hS) ?_;rintro x a2 w2 ⟨e,s2,E2,h1,h2,h3⟩;exact⟨none,e,s2,E2,h1,h2,h3⟩
 intro c
 induction c with
 |region id ops draw=>
  intro sc h hy Q s hs a w E hS;have h0:=h;simp only[zg]at h;split at h
  ·cases h;exact pl h0 rfl hs hS
  ·split at h
   ·cases h;exact pl h0 rfl hs hS
   cases h;rcases zcp (alts:=z1N P B.N ops draw (zbn H2 (Fp2 id) (zbK ops))) (kill:=K2 id)with h1|⟨n0,l0,p,d,x,xs,q,ha,hz,h1⟩
   ·exact pl h0 h1 hs hS
   ·have key:∀(Hs:List ((Option Nat→Nat)×(Nat→Option Nat))),(n0,l0)∈z1N P B.N ops draw Hs→∃H,∃F:Nat→Option Nat,z0i P B.N H F ops draw=some l0∧n0=l0.flatMap SOper.news:=by
     intro Hs
     induction Hs<;>grind [z1N,only]
    obtain⟨H',F',htr,hn⟩:=key _ (by rw[ha];exact List.mem_cons_self ..);have hs2:z1M P g R (.func (.yield l) #[] #[]) (zbe (K2 id) (z1N P B.N ops draw (zbn H2 (Fp2 id) (zbK ops)))) Q s:=hs;rw[h1,hn]at hs2;have hdr:draw=false:=by
     cases draw with
     |false=>rfl
     |true=>
      exfalso;simp only[yOk,Bool.not_true,Bool.false_or,Bool.not_eq_true']at hy;obtain⟨fp,m,hk,_⟩:=z72 hz;unfold z0i at htr;split at htr<;>try(cases htr;done)
      rename_i sops' hseq;split at htr<;>try(cases htr;done)
      cases htr;obtain⟨hlen,hspec⟩:=z1a hseq;have hkl:=(gJ hk).1;have hil:p.length<ops.size:=by have:ops.toList.length=ops.size:=Array.length_toList;omega
      obtain⟨so,hso,hto⟩:=hspec p.length ops[p.length] (by simp);rw[hk]at hso;cases hso;unfold z1o at hto;split at hto<;>try(cases hto;done)
      rename_i gg op hg hop;split at hto<;>try(cases hto;done)
      cases hto;obtain⟨t,ag,aT,h1,_⟩:=z8m ((z1w hop).resolve_right fun h=>by cases h.1);rw[Array.any_eq_false']at hy;have:=hy ops[p.length] (Array.getElem_mem hil);rw[h1]at this;simp at this
    subst hdr;exact zgB hc htr hz hs2 hS
 |seq a b iha ihb=>
  intro sc h hy Q s hs ac w E hS;have h0:=h;simp only[yOk,Bool.and_eq_true]at hy;simp only[zg]at h;split at h<;>try(cases h;done)
  rename_i a' b' ha hb;cases h;rcases zqK with hq|hq
  ·exact pl h0 hq hs hS
  rw[hq]at hs;refine wpIn_seq (wpIn_mono (iha ha hy.1 hs hS) ?_);rintro x a2 w2 ⟨ph,e,s2,E2,rfl,hq,hS2⟩;cases e with
  |normal=>
   cases ph with
   |none=>exact ihb hb hy.2 hq hS2
   |some p=>
    refine wpIn_mono (plain (some p) hb hq hS2) ?_;rintro x a3 w3 ⟨e,s3,E3,h1,h2,h3⟩;exact⟨some p,e,s3,E3,h1,h2,h3⟩
  |exit id=>cases ph<;>exact⟨_,.exit id,s2,E2,rfl,hq,hS2⟩
  |ret=>cases ph<;>exact⟨_,.ret,s2,E2,rfl,hq,hS2⟩
  |pan z=>cases ph<;>exact⟨_,.pan z,s2,E2,rfl,hq,hS2⟩
 |cond cnd a b iha ihb=>
  intro sc h hy Q s hs ac w E hS;have h0:=h;simp only[yOk,Bool.and_eq_true]at hy;simp only[zg]at h;split at h<;>try(cases h;done)
  rename_i a' b' ha hb;cases h;rcases zoJ with hq|hq
  ·exact pl h0 hq hs hS
  rw[hq]at hs;obtain⟨t,h1,h2⟩:=hs;refine wpIn_cond (t:=t) (val_rel (y:=.bool t) (zh hS h1) rfl) ?_;cases t with
  |true=>exact iha ha hy.1 h2 hS
  |false=>exact ihb hb hy.2 h2 hS
 |block id a ih=>
  intro sc h hy Q s hs ac w E hS;obtain⟨a',ha,rfl⟩:=gO h;rcases zms with hq|hq
  ·exact pl h hq hs hS
  rw[hq]at hs;refine wpIn_block (wpIn_mono (ih ha hy hs hS) ?_);rintro x a2 w2 ⟨ph,e,s2,E2,rfl,hq,hS2⟩;cases e with
  |normal=>exact⟨ph,.normal,s2,E2,rfl,hq,hS2⟩
  |ret=>exact⟨ph,.ret,s2,E2,rfl,hq,hS2⟩
  |pan z=>exact⟨ph,.pan z,s2,E2,rfl,hq,hS2⟩
  |exit j=>
   simp only[SExit.to,Exit.inBlock];have hq:z1q id (Q ph) (.exit j) s2:=hq;by_cases hj:j=id
   ·rw[if_pos hj];simp only[z1q,if_pos hj]at hq;exact⟨ph,.normal,s2,E2,rfl,hq,hS2⟩
   ·rw[if_neg hj];simp only[z1q,if_neg hj]at hq;exact⟨ph,.exit j,s2,E2,rfl,hq,hS2⟩
 |loop a ih=>
  intro sc h hy Q s hs ac w E hS;obtain⟨a',ha,rfl⟩:=gO h;rcases zoK with hq|hq
  ·exact pl h hq hs hS
  rw[hq]at hs;obtain⟨I,m,⟨s0,hle,h0⟩,hround⟩:=hs;let B':Base:={ B with pr:=prY l D (z0o fnid tm0 R.ps.toArray ca cb D) none }
  obtain⟨E0,hS0⟩:=hle B' ac w E hc.hm hc.BN hS;let p:Act→World→Nat→Prop:=fun a w n=>∃s E,I n s∧Sim B' s.fs a w E
  refine wpIn_loop (fun a w=>∃n,p a w n) (z7e p) ⟨m,s0,E0,h0,hS0⟩ (fun a1 w1 hJ=> ?_);obtain⟨⟨s1,E1,hI1,hS1⟩,_⟩:=z4H (p:=p) hJ;refine wpIn_mono (ih ha hy (hround _ s1 hI1) hS1) ?_;rintro x a2 w2 ⟨ph,e,s2,E2,rfl,hq,hS2⟩;cases e with
  |normal=>
   cases ph with
   |none=>
    obtain⟨k,hk,s3,hle,hI2⟩:=hq;obtain⟨E3,hS3⟩:=hle B' a2 w2 E2 hc.hm hc.BN hS2;have hJ2:∃n,p a2 w2 n:=⟨k,s3,E3,hI2,hS3⟩
    exact⟨hJ2,Nat.lt_of_le_of_lt ((z4H (p:=p) hJ2).2 k ⟨s3,E3,hI2,hS3⟩) hk⟩
   |some p=>exact hq.elim
  |exit id=>cases ph<;>exact⟨_,.exit id,s2,E2,rfl,hq,hS2⟩
  |ret=>cases ph<;>exact⟨_,.ret,s2,E2,rfl,hq,hS2⟩
  |pan z=>cases ph<;>exact⟨_,.pan z,s2,E2,rfl,hq,hS2⟩
 |skip=>intro sc h _ Q s hs a w E hS;have h0:=h;simp only[zg]at h;cases h;exact pl h0 rfl hs hS
 |exit id=>intro sc h _ Q s hs a w E hS;have h0:=h;simp only[zg]at h;cases h;exact pl h0 rfl hs hS
 |ret=>intro sc h _ Q s hs a w E hS;have h0:=h;simp only[zg]at h;cases h;exact pl h0 rfl hs hS
 |rangeFunc x y c d ih1 ih2=>intro sc h _ Q s hs a w E hS;have h0:=h;simp only[zg]at h;cases h;exact pl h0 rfl hs hS
 |_=>grind [zg]
theorem znh:∀{l l':List Nat} {ds:List Deferred},l.map zcD++ds=l'.map zcD++ds→l=l':=by
 intro l l' ds h;have h:=List.append_cancel_right h;refine List.map_inj_right (f:=zcD) (fun a b e=> ?_)|>.1 h;unfold zcD at e;simpa using e
theorem zfH{k:Nat}{x:TV}:∀{l:List TV} {b:Nat},(k,x)∈numT b l→∃j,l[j]?=some x∧k=b+j
 |[],b,h=>by simp[numT]at h
 |y::l,b,h=>by
  simp only[numT,List.mem_cons,Prod.mk.injEq]at h;rcases h with⟨rfl,rfl⟩|h
  ·exact⟨0,rfl,rfl⟩
  ·obtain⟨j,h1,h2⟩:=zfH h;exact⟨j+1,by simpa using h1,by omega⟩
theorem zqt(ze:P.follows .mixedOrders=true){x:Operand}{gi:Nat}{F2:SFunc}{H2:Nat→Option Nat→Nat}{Fp2:Nat→List (Nat→Option Nat)}{K2:Nat→List Nat}{keep:Bool}(hF:zW P gi H2 Fp2 K2 keep=some F2)(hres:F2.res=[])
  (hyo:∀fn c,P.funcs[gi]?=some fn→fn.body=some c→yOk c=true) {ps lug:List Nat} {sa sb:SCode} (hA:∃H Fp Kk,zg P N H Fp Kk ca=some sa∧zg P N H Fp Kk cb=some sb) (nA:z2C sa=true) (nB:z2C sb=true) (hps:ps.all (fun k=>Nat.blt k N)=true) (hnd:ps.Nodup) (hdj:lug.all (fun k=> !ps.contains k)=true)
  {Q:SExit→ES→Prop} {uc:List TV} {lt:List (Nat×TV)} {os:List MO} {I:List Nat} (hin:z5Y (s.fgt y4) (.of x) gi lug F2.N=some (uc,lt,os,I)) (hos1:Nat.ble os.length 1000=true)
  (h:∀yv:Value,z1M P g ⟨lt,ps,sa,sb⟩ yv (toY F2.code) (z8v (s.fgt y4) os I Q) ⟨(0,.pv (.v yv))::numT 1 uc,numB 1000 os,numR 1000 os,[]⟩):zit P g N (.rangeFunc x ps.toArray ca cb) Q s:=by
 intro B a w E hBN hlp hm hN1 hG hX hS0;have hS:=z1K hS0 y4;have hfr:∀q<4,z0y (s.fgt y4).fs (newId 900 q):=fun q hq=>z1J s (by unfold y4;match q,hq with|0,_|1,_|2,_|3,_=>simp);generalize s.fgt y4=s at hS hfr h hin;clear hS0;have hy:=h;unfold z5Y at hin;split at hin<;>try(cases hin;done)
 rename_i f cs hx;split at hin<;>try(cases hin;done)
 rename_i lt0 hlt;split at hin<;>try(cases hin;done)
 rename_i us os0 I0 hh;split at hin<;>try(cases hin;done)
 rename_i hbb;cases hin;rw[Bool.and_eq_true]at hbb;obtain⟨hfg,hn2⟩:=hbb;obtain rfl:gi=f:=(Nat.eq_of_beq_eq_true hfg).symm;obtain⟨hI,hus,hos⟩:=zdx hh;obtain⟨q1,q2⟩:=z00 hus;obtain⟨l1,l2⟩:=z00 hlt;have hm1:os.length≤1000:=Nat.le_of_ble_eq_true hos1;have hn2:cs.length<F2.N:=Nat.le_of_ble_eq_true hn2;unfold zW at hF;split at hF<;>try(cases hF;done)
 rename_i fn2 hfn;split at hF<;>try(cases hF;done)
 rename_i c2 hc2;split at hF<;>try(cases hF;done)
 rename_i hname;split at hF<;>try(cases hF;done)
 rename_i sc rs hsc hrs;cases hF;rw[Bool.and_eq_true]at hname;have hnm:¬fn2.name= "runtime.NumGoroutine" :=by simpa using hname.1
 have hN2:fn2.ntmps≤1000:=Nat.le_of_ble_eq_true hname.2;have hres:rs=[]:=hres;have hy:=hyo fn2 c2 hfn hc2|>fun h=>And.intro h hy;obtain⟨hyok,hy⟩:=hy;obtain⟨vs,hv,hcl,hcr⟩:∃vs:List Value,a.eval x=.func (.func gi) #[] vs.toArray∧cs.length=vs.length∧∀(j:Nat) c v,cs[j]?=some c→vs[j]?=some v→RelT w E s.fs.r c v:=by
  have:=zh hS hx;generalize a.eval x=v at this;cases this with
  |fn g xs ys us vs h1 h2 r1 r2=>
   match us,h1 with
   |[],_=>exact⟨vs,rfl,h2,r2⟩
 let l:=w.heap.size+1
 let D:=w.heap.size
 refine(wpIn_wide (n:=0)).1 (wpIn_rangeFunc fun fnid _=> ?_);obtain⟨W1,hW1⟩:∃W1,(w.alloc (.deferred (some []))).alloc (.loop (z0o fnid a.tmps ps.toArray ca cb D .ready none))=W1:=⟨_,rfl⟩
 have hL1:W1.heap[l]?=some (.loop (z0o fnid a.tmps ps.toArray ca cb D .ready none)):=by
  rw[←hW1];have:=World.alloc_heap_new (w.alloc (.deferred (some []))) (.loop (z0o fnid a.tmps ps.toArray ca cb D .ready none));rwa [World.size_alloc]at this
 have hK1:W1.heap[D]?=some (.deferred (some [])):=by
  rw[←hW1];exact(Below.heap_alloc _ _ _ (by simp[D])).trans (World.alloc_heap_new w _)
 have hb1:Below w.heap.size w W1:=by
  rw[←hW1];exact((Below.refl _ w).alloc (Nat.le_refl _) _).alloc (by simp) _
 refine⟨l,[{ target:=.collected D,args:= #[] }],W1,{ target:=.fn (.func gi) vs.toArray,args:= #[.func (.yield l) #[] #[]] },W1,gi,#[.func (.yield l) #[] #[]]++vs.toArray,W1,?_,?_,fun _ _=>trivial,?_,fun h=>(by cases h),?_⟩
 ·rw[←hW1];exact run_enterLoop_outer _ _ _ _ _
 ·simp only[resolve,hv];simp[go_sem]
 ·simp[invoke,go_sem,callFunc,hfn,hc2,hnm]
 ·
  let yv:Value:=.func (.yield l) #[] #[]
  have hMp:=z4T hS hI hos;have hr2:∀{x y:TV} {v:Value},RelT w E s.fs.r x v→x.ren2 (rhoIn I)=some y→RelT w (zw E I) (zA os) y v:=fun h1 h2=>z56 (za1 hos) (fun _ _ _ h _=>h) h1 h2;have hcu:(us.take cs.length).length=vs.length:=by rw[List.length_take,←q1,List.length_append];omega
  have hsz:((#[yv]++vs.toArray)++Array.replicate (fn2.ntmps-(#[yv]++vs.toArray).size) undef).size=fn2.ntmps:=by
   simp;have:cs.length<fn2.ntmps:=hn2;omega
  have hS1:=zdy (N:=fn2.ntmps) (a2:={ tmps:=(#[yv]++vs.toArray)++Array.replicate (fn2.ntmps-(#[yv]++vs.toArray).size) undef,defers:=[] }) (pr:=[]) hS hI hos hsz rfl (fun _ h=>by cases h) ((0,.pv (.v yv))::numT 1 (us.take cs.length)) (fun k x' hk=>by
   rcases List.mem_cons.1 hk with hk|hk
   ·cases hk;refine⟨by have:cs.length<fn2.ntmps:=hn2;omega,?_⟩;have hval:((#[yv]++vs.toArray)++Array.replicate (fn2.ntmps-(#[yv]++vs.toArray).size) undef).getD 0 undef=yv:=by
     rw[Array.getD_eq_getD_getElem?,Array.getElem?_append_left (by simp),Array.getElem?_append_left (by simp)];rfl
    show RelT w (zw E I) (zA os) _ (((#[yv]++vs.toArray)++Array.replicate (fn2.ntmps-(#[yv]++vs.toArray).size) undef).getD 0 undef);rw[hval];exact .pv (.v _)
   ·obtain⟨j,hj,rfl⟩:=zfH hk;have hjl:j<cs.length:=by have:=(gJ hj).1;omega
    refine⟨by have:cs.length<fn2.ntmps:=hn2;omega,?_⟩;have hjv:j<vs.length:=by omega
    have hval:((#[yv]++vs.toArray)++Array.replicate (fn2.ntmps-(#[yv]++vs.toArray).size) undef).getD (1+j) undef=vs[j]:=by
     rw[Array.getD_eq_getD_getElem?,Array.getElem?_append_left (by simp;omega),Array.getElem?_append_right (by simp)];simp[hjv]
    show RelT w (zw E I) (zA os) x' (((#[yv]++vs.toArray)++Array.replicate (fn2.ntmps-(#[yv]++vs.toArray).size) undef).getD (1+j) undef);rw[hval];rw[List.getElem?_take_of_lt hjl]at hj;obtain⟨y,h1,h2⟩:=q2 j cs[j] (by rw[List.getElem?_append_left hjl];exact gE hjl);rw[hj]at h1;cases h1;exact hr2 (hcr j _ _ (gE hjl) (gE hjv)) h2)
  have hS2:Sim { start w (zw E I) os fn2.ntmps with pr:=prY l D (z0o fnid a.tmps ps.toArray ca cb D) none } (ES.fs ⟨(0,.pv (.v yv))::numT 1 (us.take cs.length),numB 1000 os,numR 1000 os,[]⟩) { tmps:=(#[yv]++vs.toArray)++Array.replicate (fn2.ntmps-(#[yv]++vs.toArray).size) undef,defers:=[] } W1 (zw E I):=by
   have:=hS1.same hb1;refine⟨⟨⟨[],fun _=>rfl,.nil,rfl,fun _ h=>by cases h⟩,fun p hp=> ?_⟩,this.size,this.tmp,⟨this.mem.box,this.mem.row,this.mem.bb,this.mem.br,this.mem.rr,this.mem.lt,this.mem.low,this.mem.keep,this.mem.knew,⟨this.mem.pas.β,this.mem.pas.γ,this.mem.pas.row⟩⟩,this.itr,this.ii⟩;simp only[prY,List.mem_cons,List.not_mem_nil,or_false]at hp;rcases hp with rfl|rfl
   ·exact⟨rfl,hL1⟩
   ·exact⟨rfl,hK1⟩
  have hGw:=zoX hS hG hX;have hgn:=g.le _ hG;have hx1:∀d b,z2j (zw E I) os d b→g.n≤b:=zhJ hS hos hgn hX;have hYC:YC P g (start w (zw E I) os fn2.ntmps) ⟨lug.zip (us.drop cs.length),ps,sa,sb⟩ N ca cb l D fnid a.tmps:=by
   refine⟨ze,hA,nA,nB,by omega,Nat.le_succ _,by simp[l,D],hm1,hN2,rfl,hGw,hx1,by rw[hS.size,hBN],fun k hk=>Nat.le_of_ble_eq_true (List.all_eq_true.1 hps k hk),hnd,fun k x hk hp=> ?_,fun s' a' w' E' hS' k x hk=> ?_⟩
   ·have:=List.all_eq_true.1 hdj k (List.of_mem_zip hk).1;simp_all
   ·obtain⟨j,hj⟩:=List.getElem?_of_mem hk;obtain⟨e1,e2⟩:=List.getElem?_zip_eq_some.1 hj;have e1:lug[j]?=some k:=e1;have e2:(us.drop cs.length)[j]?=some x:=e2;obtain⟨y,e3,e4⟩:=l2 j k e1;rw[List.getElem?_drop]at e2;obtain⟨z,e5,e6⟩:=q2 (cs.length+j) y (by rw[List.getElem?_append_right (by omega)];simpa using e3);rw[e2]at e5;cases e5;obtain⟨h1,h2⟩:=hS.tmp k y e4;refine⟨by omega,(zw E I).ι,RelT.stay hMp hS' (hr2 h2 e6) (fun d hd=> ?_)⟩;obtain⟨d',hd'⟩:=z9b e6 hd;unfold rhoIn at hd';obtain⟨j,hj1,rfl⟩:=gO hd';have:=(gJ (z3n hj1)).1;have:=(z00 hos).1;omega
  refine callsIn_of_wp_marks (n:=0) hfn hc2 trivial (wpIn_mono (zka hYC hsc hyok (hy yv) hS2) ?_) rfl;rintro x2 a2 w2 ⟨ph,e,s2,E2,rfl,hq,hS3⟩;have fin:z8v s os I Q ph .ret s2→LeavesInM Fence.wide 0 P fn2 a2.tmps (rangePost Fence.wide 0 P l (fun x a' w'=>∃e s' E',x=SExit.to e∧Q e s'∧Sim B s'.fs a' w' E') { a with defers:=[{ target:=.collected D,args:= #[] }]++a.defers }) a2.defers .returning w2:=by
   intro hq;obtain⟨y,os',hex,hmo,s3,hco,hq⟩:=zf3 hq;unfold callOut at hco;split at hco<;>try(cases hco;done)
   rename_i y' us' _ hou;cases hco;refine zaT (B:={ start w (zw E I) os fn2.ntmps with pr:=prY l D (z0o fnid a.tmps ps.toArray ca cb D) ph }) (ds:=[]) (s:=s2.fs) (a:=a2) (by simp) (fun w3 h3=> ?_) hS3;obtain⟨v,hv1,_⟩:=zaw (P:=P) (y:=.tuple []) hrs h3 (by rw[hres];rfl);refine⟨v,hv1,?_⟩;have hD3:w3.heap[D]?=some (.deferred (some [])):=by
    cases ph<;>exact(h3.defers.pr _ (List.mem_cons_of_mem _ (List.mem_cons_self ..))).2
   have fin2:∀(r:Loop),w3.heap[l]?=some (.loop r)→∃E4,Sim B (s.upd none (.mem us')).fs { a with defers:=[{ target:=.collected D,args:= #[] }]++a.defers } (w3.putObj l (.loop { r with state:=.exhausted })) E4:=by
    intro r hr;obtain⟨E3,h6⟩:=zbL (k:=900) (w':=w3) hS hI hm hfr hos hmo hou (pr:=prY l D (z0o fnid a.tmps ps.toArray ca cb D) ph) h3 hex;rw[←ES.upd_fs]at h6;have hsz2:=hS.mem.low.size;have h7:=h6.both (l:=l) (o':=.loop { r with state:=.exhausted }) (pr:=B.pr) (a':={ a with defers:=[{ target:=.collected D,args:= #[] }]++a.defers }) hr rfl rfl (fun x hx=>by
     have:=(gA hx).1;exact absurd this (by simp only[l];omega)) rfl ?_
    ·rw[z5N (by simp only[l];omega)]at h7;exact⟨E3,h7⟩
    ·obtain⟨L,_,g1,g2,g3⟩:=hS.defers.col;obtain⟨L2,_,f1,f2,f3⟩:=h6.defers.col;obtain rfl:=znh (g2.symm.trans f2);have hlt:∀D'∈L,D'<w.heap.size:=fun D' hD'=>(gA (g3 D' hD').2.2).1;have hpr:∀p∈B.pr,p.1<w.heap.size:=fun p hp=>(gA (hS.defers.pr p hp).2).1;refine⟨⟨D::L,(fun h=>by rw[hlp]at h;cases h),List.nodup_cons.2 ⟨fun hD=>by have:=hlt D hD;simp[D]at this,g1⟩,by show [zcD D]++a.defers=_;rw[g2];rfl,fun D' hD'=> ?_⟩,fun p hp=> ?_⟩
     ·rcases List.mem_cons.1 hD' with rfl|hD'
      ·exact⟨by simpa using hsz2,fun p hp e=>by have:=hpr p hp;simp only[D]at e;omega,(World.putObj_heap_other (by simp[l,D])).trans hD3⟩
      ·have:=hlt D' hD';exact⟨by simpa using(g3 D' hD').1,(g3 D' hD').2.1,(World.putObj_heap_other (by simp only[l];omega)).trans (f3 D' hD').2.2⟩
     ·have:=hpr p hp;exact⟨(h6.defers.pr p hp).1,(World.putObj_heap_other (by simp only[l];omega)).trans (h6.defers.pr p hp).2⟩
   cases ph with
   |none=>
    have hr:=(h3.defers.pr _ (List.mem_cons_self ..)).2;obtain⟨E4,h8⟩:=fin2 _ hr;exact⟨none,_,run_endLoop hr (by simp[z0o]),.normal,_,E4,rfl,hq,h8⟩
   |some p=>
    have hr:=(h3.defers.pr _ (List.mem_cons_self ..)).2;obtain⟨E4,h8⟩:=fin2 _ hr;cases p with
    |normal=>exact hq.elim
    |ret=>exact⟨some .ret,_,run_endLoop hr (by simp[z0o]),wpIn_ret ⟨.ret,_,E4,rfl,hq,h8⟩⟩
    |exit id=>exact⟨some (.exit id),_,run_endLoop hr (by simp[z0o]),wpIn_exit ⟨.exit id,_,E4,rfl,hq,h8⟩⟩
    |pan z=>exact hq.elim
  cases e with
  |normal=>exact fin hq
  |ret=>exact fin hq
  |exit id=>exact hq.elim
  |pan z=>exact hq.elim
def zg7(P:Program)(f k N:Nat)(H:Nat→Option Nat→Nat)(Fp:Nat→List (Nat→Option Nat))(K:Nat→List Nat):Option (Arg×List Nat×SCode×SCode):=match z6C P f k with
 | .rangeFunc x ps a b=>match zg P N H Fp K a,zg P N H Fp K b with
  |some sa,some sb=>some (.of x,ps.toList,sa,sb)
  |_,_=>none
 |_=>none
def zk1(P:Program)(f k:Nat)(H:Nat→Option Nat→Nat)(Fp:Nat→List (Nat→Option Nat))(K:Nat→List Nat):Arg×List Nat×SCode×SCode:=match zfz P.funcs.toList f with
 |some fn=>match fn.body with
  |some c=>match zfz (z5p c) k with
   |some (.rangeFunc x ps a b)=>(.of x,ps.toList,z3A P H Fp K a,z3A P H Fp K b)
   |_=>(.val undef,[],.skip,.skip)
  |none=>(.val undef,[],.skip,.skip)
 |none=>(.val undef,[],.skip,.skip)
def zbS:List Nat→Bool
 |[]=>true
 |x::l=> !l.contains x&&zbS l
def zk2(P:Program)(N gi:Nat)(lug:List Nat):Option (Arg×List Nat×SCode×SCode)→Bool
 |some (_,ps,a,b)=>z2C a&&z2C b&&ps.all (fun k=>Nat.blt k N)&&zbS ps&&lug.all (fun k=> !ps.contains k)&&(match P.funcs[gi]? with
  |some fn=>match fn.body with|some c=>yOk c|none=>true
  |none=>true)
 |none=>false
theorem zam:∀{l:List Nat},zbS l=true→l.Nodup
 |[],_=> .nil
 |x::l,h=>by
  simp only[zbS,Bool.and_eq_true,Bool.not_eq_true',List.contains_eq_mem,decide_eq_false_iff_not]at h;exact List.nodup_cons.2 ⟨h.1,zam h.2⟩
theorem zqP(ze:P.follows .mixedOrders=true){f k gi:Nat}{F2:SFunc}{H2:Nat→Option Nat→Nat}{Fp2:Nat→List (Nat→Option Nat)}{K2:Nat→List Nat}{keep:Bool}(hF:zW P gi H2 Fp2 K2 keep=some F2)(hres:F2.res=[]){lug:List Nat}(hT:zg7 P f k N H Fp Kk=some (zk1 P f k H Fp Kk))(hok:zk2 P N gi lug (zg7 P f k N H Fp Kk)=true)
  {x:Arg} {ps:List Nat} {sa sb:SCode} (hd:zk1 P f k H Fp Kk=(x,ps,sa,sb)) {c2:YD} {n2:Nat} (hc2:(F2.N,toY F2.code)=(n2,c2)) {Q:SExit→ES→Prop} {uc:List TV} {lt:List (Nat×TV)} {os:List MO} {I:List Nat} (hin:z5Y (s.fgt y4) x gi lug n2=some (uc,lt,os,I)) (hos1:Nat.ble os.length 1000=true)
  (h:∀yv:Value,z1M P g ⟨lt,ps,sa,sb⟩ yv c2 (z8v (s.fgt y4) os I Q) ⟨(0,.pv (.v yv))::numT 1 uc,numB 1000 os,numR 1000 os,[]⟩):swp P g (.raw N (z6C P f k)) Q s:=by
 show zit P g N (z6C P f k) Q s;cases hc2;rw[hT,hd]at hok;rw[hd]at hT;unfold zg7 at hT;split at hT<;>try(cases hT;done)
 rename_i y pa a b hraw;split at hT<;>try(cases hT;done)
 rename_i xa xb ha hb;cases hT;simp only[zk2,Bool.and_eq_true]at hok;obtain⟨⟨⟨⟨⟨h1,h2⟩,h3⟩,h4⟩,h5⟩,h6⟩:=hok;have:=zqt (g:=g) (s:=s) (N:=N) (ca:=a) (cb:=b) ze hF hres (fun fn c e1 e2=>by rw[e1]at h6;simp only[e2]at h6;exact h6) (ps:=pa.toList) (lug:=lug) ⟨H,Fp,Kk,ha,hb⟩ h1 h2 h3 (zam h4) h5 hin hos1 h;rw[hraw];simpa using this
end
end
end Go.Sh
end
