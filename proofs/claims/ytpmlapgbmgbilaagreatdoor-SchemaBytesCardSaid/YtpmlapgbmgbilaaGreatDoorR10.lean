/- Merged texts: S14. No statement of the program is proved here. -/
import Derived.Test.YtpmlapgbmgbilaaGreatDoorR9
set_option linter.unusedSimpArgs false
set_option linter.unusedVariables false
set_option maxRecDepth 100000
set_option maxHeartbeats 8000000
section
namespace Go.Sh
open Go Go.RowKit
section
def lk{α:Type}:List (Nat×α)→Nat→Option α
 |[],_=>none
 |(k,x)::l,d=>match Nat.beq k d with|true=>some x|false=>lk l d
def sv{α:Type}:List (Nat×α)→Nat→α→List (Nat×α)
 |[],k,x=>[(k,x)]
 |(j,y)::l,k,x=>match Nat.beq j k with|true=>(k,x)::l|false=>(j,y)::sv l k x
def has:List Nat→Nat→Bool
 |[],_=>false
 |k::l,d=>match Nat.beq k d with|true=>true|false=>has l d
def drp{α:Type}(ids:List Nat):List (Nat×α)→List (Nat×α)
 |[]=>[]
 |(k,x)::l=>match has ids k with|true=>drp ids l|false=>(k,x)::drp ids l
theorem z1z{α:Type}(k:Nat)(x:α):∀l:List (Nat×α),lk (sv l k x)=z0I (lk l) k x
 |[]=>by
  grind [only,sv,lk,z0I,Nat.beq_refl,Nat.beq,Nat.eq_of_beq_eq_true]
 |(j,y)::l=>by
  have ih:=z1z k x l;funext d;simp only[sv];cases hj:Nat.beq j k with
  |true=>
   grind [Nat.eq_of_beq_eq_true,only,lk,z0I,Nat.beq_refl,Nat.beq]
  |false=>
   have hne:j≠k:=by grind [Nat.beq_refl]
   simp only[lk,ih,z0I]
   grind
theorem z9F:∀{l:List Nat} {d:Nat},has l d=true ↔ d∈l
 |[],d=>by simp[has]
 |k::l,d=>by
  simp only[has];cases hb:Nat.beq k d with
  |true=>simp_all
  |false=>
   have:d≠k:=by grind [Nat.beq_refl]
   simp[this,z9F]
theorem z4I{α:Type}{ids:List Nat}:∀(l:List (Nat×α)) (d:Nat),lk (drp ids l) d=if has ids d then none else lk l d
 |[],d=>by simp[drp,lk]
 |(k,x)::l,d=>by
  have ih:=z4I (ids:=ids) l d
  grind [only,drp,has,lk,Nat.beq,Nat.eq_of_beq_eq_true]
theorem z8M{α:Type}(f:α→α):∀(l:List (Nat×α)) (d:Nat),lk (l.map fun e=>(e.1,f e.2)) d=(lk l d).map f
 |[],d=>rfl
 |(k,x)::l,d=>by
  simp only[List.map_cons,lk];cases Nat.beq k d with
  |true=>rfl
  |false=>exact z8M f l d
structure ES where
 t:List (Nat×TV)
 b:List (Nat×List TV)
 r:List (Nat×(Nat×Nat×Nat))
 i:List (Nat×(ByteArray×Nat))
def ES.fs(s:ES):FS:=⟨lk s.t,lk s.b,lk s.r,lk s.i⟩
def putMem(us:List (Nat×MO))(s:ES):List Nat→ES
 |[]=>s
 |i::l=>match us.lookup i with
  |some (.box cs)=>let s':=putMem us s l;{ s' with b:=sv s'.b i cs }
  |some (.row e W n)=>let s':=putMem us s l;{ s' with r:=sv s'.r i (e,W,n) }
  |none=>putMem us s l
def ES.upd(s:ES)(dst:Option Nat):Upd→ES
 | .no=>s
 | .box cs=>match dst with|some d=>{ s with b:=sv s.b d cs }|none=>s
 | .wr d cs=>{ s with b:=sv s.b d cs }
 | .row d q=>{ s with r:=sv s.r d q }
 | .mem us=>putMem us s (us.map (·.1))
 | .it d q=>{ s with i:=sv s.i d q }
def ES.put(s:ES)(dst:Option Nat)(x:TV):ES:=match dst with|some k=>{ s with t:=sv s.t k x }|none=>s
def ES.after(s:ES)(o:SOper)(e:TV×Upd):ES:=(s.upd o.dst e.2).put o.dst e.1
theorem zap(us:List (Nat×MO))(s:ES):∀l:List Nat,(putMem us s l).t=s.t∧(putMem us s l).i=s.i∧(∀d,lk (putMem us s l).b d=if d∈l then z8N us (lk s.b) d else lk s.b d)∧(∀d,lk (putMem us s l).r d=if d∈l then z6U us (lk s.r) d else lk s.r d)
 |[]=>by simp[putMem]
 |i::l=>by
  obtain⟨h1,h2,h3,h4⟩:=zap us s l;simp only[putMem];cases hm:us.lookup i with
  |none=>
   grind [z8N,z6U]
  |some m=>
   cases m with
   |box cs=>
    refine⟨h1,h2,fun d=> ?_,fun d=> ?_⟩
    ·simp only[z1z,z0I,h3]
     grind [z8N]
    ·grind [only,z6U]
   |row e W n=>
    refine⟨h1,h2,fun d=> ?_,fun d=> ?_⟩
    ·grind [only,z8N]
    ·simp only[z1z,z0I,h4]
     grind [z6U]
theorem zal{us:List (Nat×MO)}{d:Nat}(h:d∉us.map (·.1)):us.lookup d=none:=by
 grind
theorem ES.upd_fs(s:ES)(dst:Option Nat)(u:Upd):(s.upd dst u).fs=s.fs.upd dst u:=by
 cases u with
 |no=>rfl
 |box cs=>
  cases dst<;>grind [only,ES.upd,ES.fs,FS.upd,FS.setB,z1z]
 |wr d cs=>simp only[ES.upd,ES.fs,FS.upd,FS.setB,z1z]
 |row d q=>simp only[ES.upd,ES.fs,FS.upd,FS.setR,z1z]
 |it d q=>simp only[ES.upd,ES.fs,FS.upd,FS.setI,z1z]
 |mem us=>
  obtain⟨h1,h2,h3,h4⟩:=zap us s (us.map (·.1));simp only[ES.upd,ES.fs,FS.upd];refine FS.ext' (fun k=> ?_) (fun k=> ?_) (fun k=> ?_) (fun k=> ?_)
  ·simp[h1]
  ·grind [only,z8N,zal]
  ·grind [only,z6U,zal]
  ·simp[h2]
theorem ES.put_fs(s:ES)(dst:Option Nat)(x:TV):(s.put dst x).fs=s.fs.put dst x:=by
 cases dst<;>grind [only,ES.put,ES.fs,FS.put,FS.setT,z1z]
theorem ES.after_fs(s:ES)(o:SOper)(e:TV×Upd):(s.after o e).fs=s.fs.after o e:=by
 unfold ES.after FS.after;rw[ES.put_fs,ES.upd_fs]
def TV.m0(ids:List Nat):TV→Bool
 | .pv _| .unk| .tsl _ _=>false
 | .ptr d _| .own d _ _| .bs d _ _ _| .it d=>has ids d
 |_=>true
def TV.mF(ids:List Nat):TV→Bool
 | .fn _ a b=>a.any (TV.m0 ids)||b.any (TV.m0 ids)
 |t=>t.m0 ids
def TV.mE(ids:List Nat):TV→Bool
 | .agg cs=>cs.any (TV.mF ids)
 |t=>t.mF ids
def TV.m1(ids:List Nat):TV→Bool
 | .mp _ xs=>xs.any (TV.mE ids)
 |t=>t.mF ids
def TV.m2(ids:List Nat):TV→Bool
 | .agg cs=>cs.any (TV.m1 ids)
 |t=>t.m1 ids
def TV.m3(ids:List Nat):TV→Bool
 | .tuple cs=>cs.any (TV.m2 ids)
 |t=>t.m2 ids
theorem zhQ{ids:List Nat}{t:TV}{d:Nat}(h:t.m0 ids=false)(hd:d∈ids):¬Ment d t:=by
 intro hm;cases hm<;>simp only[TV.m0]at h
 all_goals first|(rw[z9F.2 hd]at h;cases h)|cases h
theorem zcN{ids:List Nat}{t:TV}{d:Nat}(h:t.mF ids=false)(hd:d∈ids):¬Ment d t:=by
 cases t with
 |fn f a b=>
  intro hm;simp only[TV.mF,Bool.or_eq_false_iff,List.any_eq_false]at h;cases hm<;>grind [zhQ]
 |_=>exact zhQ h hd
theorem zq8{ids:List Nat}{t:TV}{d:Nat}(h:t.mE ids=false)(hd:d∈ids):¬Ment d t:=by
 cases t with
 |agg cs=>
  intro hm;simp only[TV.mE,List.any_eq_false]at h;cases hm<;>grind [zcN]
 |_=>exact zcN h hd
theorem zhR{ids:List Nat}{t:TV}{d:Nat}(h:t.m1 ids=false)(hd:d∈ids):¬Ment d t:=by
 cases t with
 |mp ks xs=>
  intro hm;simp only[TV.m1,List.any_eq_false]at h;cases hm<;>grind [zq8]
 |_=>exact zcN h hd
theorem zhS{ids:List Nat}{t:TV}{d:Nat}(h:t.m2 ids=false)(hd:d∈ids):¬Ment d t:=by
 cases t with
 |agg cs=>
  intro hm;simp only[TV.m2,List.any_eq_false]at h;cases hm<;>grind [zhR]
 |_=>exact zhR h hd
theorem zq7{ids:List Nat}{t:TV}{d:Nat}(h:t.m3 ids=false)(hd:d∈ids):¬Ment d t:=by
 cases t with
 |tuple cs=>
  intro hm;simp only[TV.m3,List.any_eq_false]at h;cases hm<;>grind [zhS]
 |_=>exact zhS h hd
def fgt3(ids:List Nat)(x:TV):TV:=match x.m3 ids with|true=> .unk|false=>x
def ES.fgt(s:ES)(ids:List Nat):ES:=
 ⟨s.t.map fun e=>(e.1,fgt3 ids e.2),(drp ids s.b).map fun e=>(e.1,e.2.map (fgt3 ids)),drp ids s.r,drp ids s.i⟩
theorem zbG(ids:List Nat)(x:TV):fgt3 ids x=x∨fgt3 ids x=.unk:=by
 grind [fgt3]
theorem zdm{ids:List Nat}{x:TV}{d:Nat}(hd:d∈ids):¬Ment d (fgt3 ids x):=by
 unfold fgt3;cases h:x.m3 ids with
 |true=>intro hm;cases hm
 |false=>exact zq7 h hd
theorem zen(s:ES)(ids:List Nat)(d:Nat):(s.fgt ids).fs.b d=if has ids d then none else(lk s.b d).map fun cs=>cs.map (fgt3 ids):=by
 show lk ((drp ids s.b).map fun e=>(e.1,e.2.map (fgt3 ids))) d=_;rw[z8M (fun cs:List TV=>cs.map (fgt3 ids)) (drp ids s.b) d,z4I]
 grind
theorem z1K{B:Base}{s:ES}{a:Act}{w:World}{E:Env}(h:Sim B s.fs a w E)(ids:List Nat):Sim B (s.fgt ids).fs a w E:=by
 refine h.less (fun k x hx=> ?_) (fun d cs' hd=> ?_) (fun d q hd=> ?_) (fun d q hd=> ?_)
 ·have hx:lk (s.t.map fun e=>(e.1,fgt3 ids e.2)) k=some x:=hx;rw[z8M (fgt3 ids)]at hx;obtain⟨y,h1,rfl⟩:=gO hx;rcases zbG ids y with e|e
  ·rw[e];exact .inl h1
  ·exact .inr ⟨e,y,h1⟩
 ·rw[zen]at hd;split at hd
  ·cases hd
  ·obtain⟨cs,h1,rfl⟩:=gO hd;refine⟨cs,h1,fun j c hc=> ?_⟩
   grind [Option.map_eq_some_iff,zbG]
 ·have hd:lk (drp ids s.r) d=some q:=hd;rw[z4I]at hd;split at hd
  ·cases hd
  ·exact hd
 ·have hd:lk (drp ids s.i) d=some q:=hd;rw[z4I]at hd;split at hd
  ·cases hd
  ·exact hd
theorem z1J(s:ES){ids:List Nat}{d:Nat}(hd:d∈ids):z0y (s.fgt ids).fs d:=by
 have hh:=z9F.2 hd;refine⟨?_,by rw[zen,hh];rfl,by show lk (drp ids s.r) d=none;rw[z4I,hh];rfl,by show lk (drp ids s.i) d=none;rw[z4I,hh];rfl⟩;rintro(⟨k,x,hx,hm⟩|⟨e,cs,c,he,hc,hm⟩)
 ·have hx:lk (s.t.map fun e=>(e.1,fgt3 ids e.2)) k=some x:=hx;rw[z8M (fgt3 ids)]at hx
  grind [Option.map_eq_some_iff,zdm]
 ·grind [zen,Option.map_eq_some_iff,zdm]
def ES.kill(s:ES)(ks:List Nat):ES:=match ks with|[]=>s|_=>{ s with t:=drp ks s.t }
theorem z5K{B:Base}{s:ES}{a:Act}{w:World}{E:Env}(h:Sim B s.fs a w E)(ks:List Nat):Sim B (s.kill ks).fs a w E:=by
 unfold ES.kill;split
 ·exact h
 ·refine h.less (fun k x hx=> .inl ?_) (fun d cs hd=>⟨cs,hd,fun j c hc=> .inl hc⟩) (fun d q hd=>hd) (fun d q hd=>hd);have hx:lk (drp ks s.t) k=some x:=hx;rw[z4I]at hx;split at hx
  ·cases hx
  ·exact hx
def zs6(P:Program)(C:z0m):List SOper→ES→Option ES
 |[],s=>some s
 |o::l,s=>match effG P C o s.fs with
  |some e=>zs6 P C l (s.after o e)
  |none=>none
def zQ(P:Program)(g:Glob):List SOper→(ES→Prop)→ES→Prop
 |[],K,s=>K s
 |o::l,K,s=>∃C,z3O P g C∧∃e,effG P C o s.fs=some e∧zQ P g l K (s.after o e)
theorem z6g{P:Program}{g:Glob}{sops:List SOper}{K:ES→Prop}:∀{l:List SOper} {j:Nat} {s:ES},sops.drop j=l→zQ P g l K s→∃s',z42 P g sops (List.range' j l.length) s.fs s'.fs∧K s'
 |[],j,s,_,h=>⟨s,rfl,h⟩
 |o::l,j,s,hd,h=>by
  obtain⟨C,hC,e,he,h⟩:=h;have hj:sops[j]?=some o:=by
   have:=congrArg (·[0]?) hd
   grind
  have hd':sops.drop (j+1)=l:=by
   have:=congrArg (List.drop 1) hd
   grind [List.drop_drop,Nat.add_comm]
  obtain⟨s',h1,h2⟩:=z6g hd' h;refine⟨s',⟨o,s.fs.after o e,hj,⟨C,hC,by unfold step;rw[he];rfl⟩,?_⟩,h2⟩
  grind [ES.after_fs]
section
variable{P:Program}{H:Option Nat→Nat}{ops:Array Oper}{B:Base}{sops:List SOper}{g:Glob}{draw:Bool}{id:Nat}
theorem z98(ze:P.follows .mixedOrders=true)(hm0:B.m≤1000)(hN:B.N≤1000)(hG:g.G B.w0)(hX:∀d b,B.X d b→g.n≤b){fps:Nat→Option Nat}(htr:z0i P B.N H fps ops draw=some sops){s:ES}{K:ES→Prop}
  (hf:∀d∈sops.flatMap SOper.news,z0y s.fs d) (h:zQ P g sops K s) {a:Act} {w:World} {E:Env} (hS:Sim B s.fs a w E) {Q:Exit→Act→World→Prop} (hQ:∀s' a' w' E',K s'→Sim B s'.fs a' w' E'→Q .normal a' w'):
  (Code.region id ops draw).wp P Q a w:=by
 unfold z0i at htr;split at htr<;>try(cases htr;done)
 rename_i sops' hseq;split at htr<;>try(cases htr;done)
 rename_i hok;cases htr;obtain⟨s',hrun,hK⟩:=z6g (sops:=sops) (l:=sops) (j:=0) rfl h;obtain⟨hlen,hspec⟩:=z1a hseq;have hlen':ops.size=sops.length:=by omega
 have hfi:∀l,z28 sops l s.fs:=fun l i _ o ho d hd=>hf d (List.mem_flatMap.2 ⟨o,gM ho,hd⟩);have hmk:=z4Z hok;rw[←List.range_eq_range',←hlen']at hrun;cases draw with
 |false=>
  refine wp_region ?_;have key:∀(l:List Nat) (s:FS) (a:Act) (w:World) (E:Env),l.Nodup→Sim B s a w E→z28 sops l s→z42 P g sops l s s'.fs→wpOps P ops Q l a w:=by
   intro l
   induction l with
   |nil=>intro s a w E _ hS _ hr;have hr:s=s'.fs:=hr;subst hr;exact hQ s' a w E hK hS
   |cons i l ih=>
    intro s a w E hnd hS hf hr;obtain⟨o,s1,ho,⟨C,hC,hst⟩,hr⟩:=hr;have hil:i<ops.size:=by grind
    have hoi:ops[i]?=some ops[i]:=Array.getElem?_eq_getElem hil;obtain⟨so,hso,hto⟩:=hspec i ops[i] (by simp[hil]);rw[ho]at hso;cases hso;rw[wpOps_cons];refine z58 hm0 hN hG hX hC hS hoi hto (hf i (List.mem_cons_self ..) o ho) hst (fun a' w' E' hS'=> ?_);exact ih s1 a' w' E' (List.nodup_cons.1 hnd).2 hS' (z2w hmk ho (List.nodup_cons.1 hnd).1 (fun j hj=>hf j (List.mem_cons_of_mem _ hj)) ⟨C,hC,hst⟩) hr
  grind
 |true=>
  refine wp_region_any ze ?_;have hrest:zy ops.size (Array.replicate ops.size false)=List.range ops.size:=by
   unfold zy;simp_all
  refine zd7 hm0 hN hG hX hseq hok (sf:=s'.fs) (fun a w E hS=>hQ s' a w E hK hS) ops.size _ s.fs a _ E (by simp) (fun i o ho hl=> ?_) (hS.same (Below.refl _ _).drew) (hfi _) (by rw[hrest];exact hrun) (by rw[hrest];simp);have hil:=(gA ho).1;simp_all
end
def z2Z(P:Program)(g:Glob)(D:List Nat):List SOper→(Value→ES→Prop)→ES→Prop
 |[],_,_=>False
 |o::l,R,s=>(zI o.op=true∧∃z u,zaA P g o s.fs z u∧R z ((s.upd o.dst u).kill D))∨∃C,z3O P g C∧∃e,effG P C o s.fs=some e∧z2Z P g D l R (s.after o e)
theorem z9f{P:Program}{g:Glob}{D:List Nat}{sops:List SOper}{R:Value→ES→Prop}:∀{l:List SOper} {j:Nat} {s:ES},sops.drop j=l→z2Z P g D l R s→
  ∃(k:Nat) (o:SOper) (sk:ES) (z:Value) (u:Upd),j≤k∧sops[k]?=some o∧zI o.op=true∧z42 P g sops (List.range' j (k-j)) s.fs sk.fs∧zaA P g o sk.fs z u∧R z ((sk.upd o.dst u).kill D)
 |[],j,s,_,h=>h.elim
 |o::l,j,s,hd,h=>by
  have hj:sops[j]?=some o:=by
   have:=congrArg (·[0]?) hd
   grind
  rcases h with⟨h1,z,u,h2,h3⟩|⟨C,hC,e,he,h⟩
  ·exact⟨j,o,s,z,u,Nat.le_refl _,hj,h1,by rw[Nat.sub_self];exact rfl,h2,h3⟩
  ·have hd':sops.drop (j+1)=l:=by
    have:=congrArg (List.drop 1) hd
    grind [List.drop_drop,Nat.add_comm]
   obtain⟨k,o',sk,z,u,a1,a2,a3,a4,a5,a6⟩:=z9f hd' h;refine⟨k,o',sk,z,u,by omega,a2,a3,?_,a5,a6⟩;have:k-j=(k-(j+1))+1:=by omega
   rw[this,List.range'_succ];exact⟨o,s.fs.after o e,hj,⟨C,hC,by unfold step;rw[he];rfl⟩,by rw[←ES.after_fs];exact a4⟩
theorem zrA{s:ES}{ks:List Nat}{k:Nat}{x:TV}(h:lk (s.kill ks).t k=some x):k∉ks∧lk s.t k=some x:=by
 unfold ES.kill at h
 grind [lk,drp,z4I,z9F]
theorem znR(s:ES)(ks:List Nat):(s.kill ks).b=s.b∧(s.kill ks).r=s.r∧(s.kill ks).i=s.i:=by
 unfold ES.kill
 grind
def dstOps(l:List SOper):List Nat:=l.filterMap (·.dst)
section
variable{P:Program}{H:Option Nat→Nat}{ops:Array Oper}{B:Base}{sops:List SOper}{g:Glob}{draw:Bool}{id:Nat}
theorem zmC{s1 sk:FS}(hb:s1.b=sk.b)(hr:s1.r=sk.r)(hi:s1.i=sk.i)(dst:Option Nat)(u:Upd):(s1.upd dst u).b=(sk.upd dst u).b∧(s1.upd dst u).r=(sk.upd dst u).r∧(s1.upd dst u).i=(sk.upd dst u).i:=
 ⟨funext fun d=>by rw[z6L,z6L,hb],funext fun d=>by rw[za8,za8,hr],funext fun d=>by rw[za7,za7,hi]⟩
theorem zjP(ze:P.follows .mixedOrders=true)(hm0:B.m≤1000)(hN:B.N≤1000)(hG:g.G B.w0)(hX:∀d b,B.X d b→g.n≤b){fps:Nat→Option Nat}(htr:z0i P B.N H fps ops draw=some sops)(hpo:draw=true→zbX ops sops=true){s:ES}{R:Value→ES→Prop}
  (hf:∀d∈sops.flatMap SOper.news,z0y s.fs d) (h:z2Z P g (dstOps sops) sops R s) {a:Act} {w:World} {E:Env} (hS:Sim B s.fs a w E) {Q:Exit→Act→World→Prop} (hQ:∀z s' a' w' E',R z s'→Sim B s'.fs a' w' E'→Q (.panic [{ v:=z,recovered:=false }]) a' w'):
  (Code.region id ops draw).wp P Q a w:=by
 unfold z0i at htr;split at htr<;>try(cases htr;done)
 rename_i sops' hseq;split at htr<;>try(cases htr;done)
 rename_i hok;cases htr;obtain⟨k,o,sk,z,u,_,hk,hmay,hrun,hp,hR⟩:=z9f (sops:=sops) (l:=sops) (j:=0) rfl h;obtain⟨hlen,hspec⟩:=z1a hseq;have hlen':ops.size=sops.length:=by omega
 have hkn:k<sops.length:=(gJ hk).1;have hfi:∀l,z28 sops l s.fs:=fun l i _ o ho d hd=>hf d (List.mem_flatMap.2 ⟨o,gM ho,hd⟩);have hmk:=z4Z hok;rw[Nat.sub_zero,←List.range_eq_range']at hrun;have fin:∀(s1:FS) a w E,s1.b=sk.fs.b→s1.r=sk.fs.r→s1.i=sk.fs.i→(∀j,(∀o'∈sops,o'.dst≠some j)→s1.t j=sk.fs.t j)→Sim B (s1.upd o.dst u) a w E→Q (.panic [{ v:=z,recovered:=false }]) a w:=by
  intro s1 a w E e1 e2 e3 e4 hS1;refine hQ z _ a w E hR ?_;obtain⟨u1,u2,u3⟩:=zmC e1 e2 e3 o.dst u;obtain⟨k1,k2,k3⟩:=znR (sk.upd o.dst u) (dstOps sops);have hfs:(sk.upd o.dst u).fs=sk.fs.upd o.dst u:=ES.upd_fs _ _ _;refine hS1.less (fun j x hx=> .inl ?_) (fun d cs hd=>⟨cs,?_,fun j c hc=> .inl hc⟩) (fun d q hd=> ?_) (fun d q hd=> ?_)
  ·obtain⟨h1,h2⟩:=zrA hx;have h2:(sk.upd o.dst u).fs.t j=some x:=h2;rw[hfs,za9]at h2;rw[za9,e4 j (fun o' ho' hd=>h1 (List.mem_filterMap.2 ⟨o',ho',hd⟩))];exact h2
  ·have hd:lk ((sk.upd o.dst u).kill (dstOps sops)).b d=some cs:=hd;rw[k1]at hd;have hd:(sk.upd o.dst u).fs.b d=some cs:=hd
   grind
  ·have hd:lk ((sk.upd o.dst u).kill (dstOps sops)).r d=some q:=hd;rw[k2]at hd;have hd:(sk.upd o.dst u).fs.r d=some q:=hd
   grind
  ·have hd:lk ((sk.upd o.dst u).kill (dstOps sops)).i d=some q:=hd;rw[k3]at hd;have hd:(sk.upd o.dst u).fs.i d=some q:=hd
   grind
 cases draw with
 |false=>
  refine wp_region ?_;have key:∀(l:List Nat) (s:FS) (a:Act) (w:World) (E:Env) (r:List Nat),(l++k::r).Nodup→Sim B s a w E→z28 sops (l++k::r) s→z42 P g sops l s sk.fs→wpOps P ops Q (l++k::r) a w:=by
   intro l
   induction l with
   |nil=>
    intro s a w E r hnd hS hf hr;have hr:s=sk.fs:=hr;subst hr;have hil:k<ops.size:=by omega
    have hoi:ops[k]?=some ops[k]:=Array.getElem?_eq_getElem hil;obtain⟨so,hso,hto⟩:=hspec k ops[k] (by simp[hil]);rw[hk]at hso;cases hso;rw[List.nil_append,wpOps_cons];exact zi7 hm0 hG hX hS hoi hto (hf k (by simp) o hk) hp (fun w' E' hS'=>fin sk.fs a w' E' rfl rfl rfl (fun _ _=>rfl) hS')
   |cons i l ih=>
    intro s a w E r hnd hS hf hr;obtain⟨oi,s1,ho,⟨C,hC,hst⟩,hr⟩:=hr;have hil:i<ops.size:=by grind
    have hoi:ops[i]?=some ops[i]:=Array.getElem?_eq_getElem hil;obtain⟨so,hso,hto⟩:=hspec i ops[i] (by simp[hil]);rw[ho]at hso;cases hso;rw[List.cons_append]at hnd hf ⊢;rw[wpOps_cons];refine z58 hm0 hN hG hX hC hS hoi hto (hf i (List.mem_cons_self ..) oi ho) hst (fun a' w' E' hS'=> ?_);exact ih s1 a' w' E' r (List.nodup_cons.1 hnd).2 hS' (z2w hmk ho (List.nodup_cons.1 hnd).1 (fun j hj=>hf j (List.mem_cons_of_mem _ hj)) ⟨C,hC,hst⟩) hr
  have hsplit:List.range ops.size=List.range k++k::List.range' (k+1) (ops.size-(k+1)):=by
   have:ops.size=k+1+(ops.size-(k+1)):=by omega
   conv=>lhs;rw[this]
   rw[List.range_add,List.range_succ,List.append_assoc];congr 1;rw[List.singleton_append,List.range'_eq_map_range]
  grind
 |true=>
  refine wp_region_any ze ?_;have hrest:zy ops.size (Array.replicate ops.size false)=List.range ops.size:=by
   unfold zy;simp_all
  have hfil:(List.range ops.size).filter (fun i=>decide (i<k))=List.range k:=by
   have:ops.size=k+(ops.size-k):=by omega
   rw[this,List.range_add,List.filter_append,List.filter_eq_self.2 (by intro i hi;simpa using hi),List.filter_eq_nil_iff.2,List.append_nil];simp
  refine zpA hm0 hN hG hX hseq hok (hpo rfl) hk hmay hp fin ops.size _ s.fs a _ E (by simp) (fun i o ho hl=> ?_) (hS.same (Below.refl _ _).drew) (hfi _) ?_ (by rw[hrest,hfil];exact hrun) (by rw[hrest];simp)
  ·have hil:=(gA ho).1;simp_all
  ·simp_all
end
inductive SCode where
 |skip
 |regq (alts:List (List Nat×List SOper)) (kill:List Nat)
 |raw (N:Nat) (c:Code)
 |reg (alts:List (List Nat×List SOper)) (kill:List Nat)
 |seq (a b:SCode)
 |cond (c:Arg) (a b:SCode)
 |block (id:Nat) (a:SCode)
 |loop (a:SCode)
 |exit (id:Nat)
 |ret
inductive SExit where
 |normal
 |exit (id:Nat)
 |ret
 |pan (z:Value)
def SExit.to:SExit→Exit
 | .normal=> .normal
 | .exit id=> .exit id
 | .ret=> .ret
 | .pan z=> .panic [{ v:=z,recovered:=false }]
def zbK(ops:Array Oper):Bool:=ops.any fun o=>match o.op with| .call { callee:=.builtin .append, .. }=>true|_=>false
def z1N(P:Program)(N:Nat)(ops:Array Oper)(draw:Bool):List ((Option Nat→Nat)×(Nat→Option Nat))→List (List Nat×List SOper)
 |[]=>[]
 |H::r=>match z0i P N H.1 H.2 ops draw with
  |some l=>(l.flatMap SOper.news,l)::z1N P N ops draw r
  |none=>z1N P N ops draw r
def z3K(P:Program)(N:Nat)(ops:Array Oper)(draw:Bool):List ((Option Nat→Nat)×(Nat→Option Nat))→List (List Nat×List SOper)
 |[]=>[]
 |H::r=>match z0i P N H.1 H.2 ops draw with
  |some l=>if !draw||zbX ops l then(l.flatMap SOper.news,l)::z3K P N ops draw r else z3K P N ops draw r
  |none=>z3K P N ops draw r
def zbn(H:Nat→Option Nat→Nat)(Fs:List (Nat→Option Nat))(app:Bool):List ((Option Nat→Nat)×(Nat→Option Nat)):=
 Fs.flatMap fun F=>if app then [(H 0,F),(H 1,F)] else [(H 0,F)]
def zg(P:Program)(N:Nat)(H:Nat→Option Nat→Nat)(Fp:Nat→List (Nat→Option Nat))(K:Nat→List Nat):Code→Option SCode
 | .skip=>some .skip
 | .region id ops draw=>match has (K id) 9999 with
  |true=>some (.regq (z3K P N ops draw (zbn H (Fp id) (zbK ops))) (K id))
  |false=>match has (K id) 9998 with
   |true=>some (.raw N (.region id ops draw))
   |false=>some (.reg (z1N P N ops draw (zbn H (Fp id) (zbK ops))) (K id))
 | .rangeFunc a b c d=>some (.raw N (.rangeFunc a b c d))
 | .seq a b=>match zg P N H Fp K a,zg P N H Fp K b with
  |some a',some b'=>some (.seq a' b')
  |_,_=>none
 | .cond c a b=>match zg P N H Fp K a,zg P N H Fp K b with
  |some a',some b'=>some (.cond (Arg.of c) a' b')
  |_,_=>none
 | .block id a=>(zg P N H Fp K a).map (.block id)
 | .loop a=>(zg P N H Fp K a).map .loop
 | .exit id=>some (.exit id)
 | .ret=>some .ret
 |_=>none
def leL{α:Type}:List (Nat×α)→List (Nat×α)→Prop
 |[],_=>True
 |(k,x)::r,l=>lk l k=some x∧leL r l
structure ES.Le(s0 s:ES):Prop where
 t:∀k x,lk s0.t k=some x→lk s.t k=some x
 b:∀k x,lk s0.b k=some x→lk s.b k=some x
 r:∀k x,lk s0.r k=some x→lk s.r k=some x
 i:∀k x,lk s0.i k=some x→lk s.i k=some x
theorem ES.Le.refl(s:ES):s.Le s:=⟨fun _ _ h=>h,fun _ _ h=>h,fun _ _ h=>h,fun _ _ h=>h⟩
theorem z8K{α:Type}{l:List (Nat×α)}:∀{l0:List (Nat×α)},leL l0 l→∀{k:Nat} {x:α},lk l0 k=some x→lk l k=some x
 |[],_,k,x,h=>by simp[lk]at h
 |(j,y)::r,⟨h1,h2⟩,k,x,h=>by
  simp only[lk]at h;split at h
  ·simp_all
  ·exact z8K h2 h
theorem zsU{s0 s:ES}(h1:leL s0.t s.t)(h2:leL s0.b s.b)(h3:leL s0.r s.r)(h4:leL s0.i s.i):s0.Le s:=⟨fun _ _ h=>z8K h1 h,fun _ _ h=>z8K h2 h,fun _ _ h=>z8K h3 h,fun _ _ h=>z8K h4 h⟩
theorem znV{B:Base}{s0 s:ES}{a:Act}{w:World}{E:Env}(hle:s0.Le s)(h:Sim B s.fs a w E):Sim B s0.fs a w E:=
 h.less (fun k x hx=> .inl (hle.t k x hx)) (fun d cs hd=>⟨cs,hle.b d cs hd,fun j c hc=> .inl hc⟩) (fun d q hd=>hle.r d q hd) (fun d q hd=>hle.i d q hd)
def ES.Lw(s0 s:ES):Prop:=∀(B:Base) (a:Act) (w:World) (E:Env),B.m≤1000→B.N≤1000→Sim B s.fs a w E→∃E',Sim B s0.fs a w E'
theorem ES.Lw.refl(s:ES):s.Lw s:=fun _ _ _ E _ _ h=>⟨E,h⟩
theorem ES.Lw.trans{a b c:ES}(h1:a.Lw b)(h2:b.Lw c):a.Lw c:=fun B x w E hm hn h=>by
 obtain⟨E1,h3⟩:=h2 B x w E hm hn h;exact h1 B x w E1 hm hn h3
theorem ES.Le.lw{s0 s:ES}(h:s0.Le s):s0.Lw s:=fun _ _ _ E _ _ hS=>⟨E,znV h hS⟩
def z82(P:Program)(g:Glob)(alts:List (List Nat×List SOper))(kill:List Nat)(K:ES→Prop)(s:ES):Prop:=
 ∃a∈alts,zQ P g a.2 (fun s'=>K (s'.kill kill)) (s.fgt a.1)
def zpb(c:Arg)(s:ES)(A B:Prop):Prop:=∃t,c.get s.fs=some (.pv (.v (.bool t)))∧(if t then A else B)
def z2G(K:ES→Prop)(Q:SExit→ES→Prop):SExit→ES→Prop
 | .normal,s=>K s
 |e,s=>Q e s
def z1q(id:Nat)(Q:SExit→ES→Prop):SExit→ES→Prop
 | .exit j,s=>if j=id then Q .normal s else Q (.exit j) s
 |e,s=>Q e s
def ztt(P:Program)(g:Glob)(alts:List (List Nat×List SOper))(Q:SExit→ES→Prop)(s:ES):Prop:=
 ∃a∈alts,z2Z P g (dstOps a.2) a.2 (fun z s'=>Q (.pan z) s') (s.fgt a.1)
def zit(P:Program)(g:Glob)(N:Nat)(c:Code)(Q:SExit→ES→Prop)(s:ES):Prop:=
 ∀(B:Base) (a:Act) (w:World) (E:Env),B.N=N→B.lp=true→B.m≤1000→B.N≤1000→g.G B.w0→(∀d b,B.X d b→g.n≤b)→Sim B s.fs a w E→
  c.wp P (fun x a' w'=>∃e s' E',x=SExit.to e∧Q e s'∧Sim B s'.fs a' w' E') a w
def z7Z:SCode→Bool
 | .raw _ _=>false
 | .seq a b=>z7Z a&&z7Z b
 | .cond _ a b=>z7Z a&&z7Z b
 | .block _ a=>z7Z a
 | .loop a=>z7Z a
 |_=>true
def swp(P:Program)(g:Glob):SCode→(SExit→ES→Prop)→ES→Prop
 | .skip,Q,s=>Q .normal s
 | .reg alts kill,Q,s=>z82 P g alts kill (Q .normal) s
 | .regq alts kill,Q,s=>z82 P g alts kill (Q .normal) s∨ztt P g alts Q s
 | .raw N c,Q,s=>zit P g N c Q s
 | .seq a b,Q,s=>swp P g a (z2G (swp P g b Q) Q) s
 | .cond c a b,Q,s=>zpb c s (swp P g a Q s) (swp P g b Q s)
 | .block id a,Q,s=>swp P g a (z1q id Q) s
 | .loop a,Q,s=>∃(I:Nat→ES→Prop) (n:Nat),(∃s0,s0.Lw s∧I n s0)∧∀n s,I n s→swp P g a (z2G (fun s'=>∃m,m<n∧∃s0,s0.Lw s'∧I m s0) Q) s
 | .exit id,Q,s=>Q (.exit id) s
 | .ret,Q,s=>Q .ret s
theorem zdG{P:Program}{g:Glob}{D:List Nat}{R R':Value→ES→Prop}(hq:∀z s,R z s→R' z s):∀(l:List SOper) (s:ES),z2Z P g D l R s→z2Z P g D l R' s
 |[],_,h=>h
 |o::l,s,h=>by
  rcases h with⟨h1,z,u,h2,h3⟩|⟨C,hC,e,he,h⟩
  ·exact .inl ⟨h1,z,u,h2,hq _ _ h3⟩
  ·exact .inr ⟨C,hC,e,he,zdG hq l _ h⟩
theorem zdL{P:Program}{g:Glob}{alts:List (List Nat×List SOper)}{kill:List Nat}{K K':ES→Prop}{s:ES}(hq:∀s,K s→K' s)(h:z82 P g alts kill K s):z82 P g alts kill K' s:=by
 obtain⟨a,ha,h⟩:=h;refine⟨a,ha,?_⟩;have key:∀(l:List SOper) (s:ES),zQ P g l (fun s'=>K (s'.kill kill)) s→zQ P g l (fun s'=>K' (s'.kill kill)) s:=by
  intro l
  induction l with
  |nil=>exact fun s h=>hq _ h
  |cons o l ih=>rintro s ⟨C,hC,e,he,h⟩;exact⟨C,hC,e,he,ih _ h⟩
 grind
theorem z1c{P:Program}{g:Glob}:∀{c:SCode} {Q Q':SExit→ES→Prop} {s:ES},swp P g c Q s→(∀e s,Q e s→Q' e s)→swp P g c Q' s
 | .skip,Q,Q',s,h,hq=>hq _ _ h
 | .reg alts kill,Q,Q',s,h,hq=>zdL (fun _ h=>hq _ _ h) h
 | .regq alts kill,Q,Q',s,h,hq=>by
  rcases h with h|⟨a,ha,h⟩
  ·exact .inl (zdL (fun _ h=>hq _ _ h) h)
  ·exact .inr ⟨a,ha,zdG (fun _ _ h=>hq _ _ h) _ _ h⟩
 | .raw N c,Q,Q',s,h,hq=>fun B a w E e1 e2 e3 e4 e5 e6 e7=>wp_mono (h B a w E e1 e2 e3 e4 e5 e6 e7) (by
  rintro x a' w' ⟨e,s',E',h1,h2,h3⟩;exact⟨e,s',E',h1,hq _ _ h2,h3⟩)
 | .seq a b,Q,Q',s,h,hq=>z1c (c:=a) h fun e s he=>by
  cases e with
  |normal=>exact z1c (c:=b) he hq
  |exit id=>exact hq _ _ he
  |ret=>exact hq _ _ he
  |pan z=>exact hq _ _ he
 | .cond c a b,Q,Q',s,h,hq=>by
  obtain⟨t,h1,h2⟩:=h;refine⟨t,h1,?_⟩;cases t with
  |true=>exact z1c (c:=a) h2 hq
  |false=>exact z1c (c:=b) h2 hq
 | .block id a,Q,Q',s,h,hq=>z1c (c:=a) h fun e s he=>by
  cases e with
  |exit j=>simp only[z1q]at he ⊢;split at he<;>rename_i hj<;>simp[hj,hq _ _ he]
  |normal=>exact hq _ _ he
  |ret=>exact hq _ _ he
  |pan z=>exact hq _ _ he
 | .loop a,Q,Q',s,h,hq=>by
  obtain⟨I,n,h0,h1⟩:=h;refine⟨I,n,h0,fun n s hI=>z1c (c:=a) (h1 n s hI) fun e s he=> ?_⟩;cases e with
  |normal=>exact he
  |exit id=>exact hq _ _ he
  |ret=>exact hq _ _ he
  |pan z=>exact hq _ _ he
 | .exit id,Q,Q',s,h,hq=>hq _ _ h
 | .ret,Q,Q',s,h,hq=>hq _ _ h
theorem zu{p:Nat→Prop}(h:∃n,p n):∃n,p n∧∀m,p m→n≤m:=by
 obtain⟨n,hn⟩:=h
 induction n using Nat.strongRecOn with
 |_ n ih=>
  grind
open Classical in
noncomputable def z7e(p:Act→World→Nat→Prop)(a:Act)(w:World):Nat:=if h:∃n,p a w n then Classical.choose (zu h)else 0
theorem z4H{p:Act→World→Nat→Prop}{a:Act}{w:World}(h:∃n,p a w n):p a w (z7e p a w)∧∀m,p a w m→z7e p a w≤m:=by
 grind [z7e,zu]
section
variable{P:Program}{H:Nat→Option Nat→Nat}{Fp:Nat→List (Nat→Option Nat)}{K:Nat→List Nat}{B:Base}{g:Glob}
theorem z5v(ze:P.follows .mixedOrders=true)(hm0:B.m≤1000)(hN:B.N≤1000)(hG:g.G B.w0)(hX:∀d b,B.X d b→g.n≤b):∀{c:Code} {sc:SCode},zg P B.N H Fp K c=some sc→(B.lp=true∨z7Z sc=true)→∀{Q:SExit→ES→Prop} {s:ES},swp P g sc Q s→∀{a:Act} {w:World} {E:Env},Sim B s.fs a w E→
  c.wp P (fun x a' w'=>∃e s' E',x=SExit.to e∧Q e s'∧Sim B s'.fs a' w' E') a w:=by
 intro c
 induction c with
 |skip=>
  intro sc h hl Q s hs a w E hS;simp only[zg]at h;cases h;exact wp_skip ⟨.normal,s,E,rfl,hs,hS⟩
 |exit id=>
  intro sc h hl Q s hs a w E hS;simp only[zg]at h;cases h;exact wp_exit ⟨.exit id,s,E,rfl,hs,hS⟩
 |ret=>
  intro sc h hl Q s hs a w E hS;simp only[zg]at h;cases h;exact wp_ret ⟨.ret,s,E,rfl,hs,hS⟩
 |region id ops draw=>
  intro sc h hl Q s hs a w E hS;simp only[zg]at h;split at h
  ·
   cases h;have key:∀(Hs:List ((Option Nat→Nat)×(Nat→Option Nat))) (al:List Nat×List SOper),al∈z3K P B.N ops draw Hs→∃H,∃F:Nat→Option Nat,z0i P B.N H F ops draw=some al.2∧al.1=al.2.flatMap SOper.news∧(draw=true→zbX ops al.2=true):=by
    intro Hs
    induction Hs<;>grind [z3K,only]
   rcases hs with⟨al,hal,hs⟩|⟨al,hal,hs⟩
   ·obtain⟨H',F',htr,hn,_⟩:=key _ al hal;refine z98 ze hm0 hN hG hX htr (s:=s.fgt al.1) (fun d hd=>z1J s (by rw[hn];exact hd)) hs (z1K hS al.1) (fun s' a' w' E' hK hS'=>⟨.normal,s'.kill _,E',rfl,hK,z5K hS' _⟩)
   ·obtain⟨H',F',htr,hn,hpo⟩:=key _ al hal;exact zjP ze hm0 hN hG hX htr hpo (s:=s.fgt al.1) (fun d hd=>z1J s (by rw[hn];exact hd)) hs (z1K hS al.1) (fun z s' a' w' E' hR hS'=>⟨.pan z,s',E',rfl,hR,hS'⟩)
  ·split at h
   ·cases h;exact hs B a w E rfl (hl.resolve_right (by simp[z7Z])) hm0 hN hG hX hS
   cases h;obtain⟨al,hal,hs⟩:=hs;have key:∀(Hs:List ((Option Nat→Nat)×(Nat→Option Nat))),al∈z1N P B.N ops draw Hs→∃H,∃F:Nat→Option Nat,z0i P B.N H F ops draw=some al.2∧al.1=al.2.flatMap SOper.news:=by
    intro Hs
    induction Hs<;>grind [z1N,only]
   obtain⟨H',F',htr,hn⟩:=key _ hal;refine z98 ze hm0 hN hG hX htr (s:=s.fgt al.1) (fun d hd=>z1J s (by rw[hn];exact hd)) hs (z1K hS al.1) (fun s' a' w' E' hK hS'=>⟨.normal,s'.kill _,E',rfl,hK,z5K hS' _⟩)
 |seq a b iha ihb=>
  intro sc h hl Q s hs ac w E hS;simp only[zg]at h;split at h<;>try(cases h;done)
  rename_i a' b' ha hb;cases h;refine wp_seq (wp_mono (iha ha (hl.imp id fun h=>(Bool.and_eq_true_iff.1 h).1) hs hS) ?_);rintro x a2 w2 ⟨e,s2,E2,rfl,hq,hS2⟩;cases e with
  |normal=>exact ihb hb (hl.imp id fun h=>(Bool.and_eq_true_iff.1 h).2) hq hS2
  |exit id=>exact⟨.exit id,s2,E2,rfl,hq,hS2⟩
  |ret=>exact⟨.ret,s2,E2,rfl,hq,hS2⟩
  |pan z=>exact⟨.pan z,s2,E2,rfl,hq,hS2⟩
 |cond cnd a b iha ihb=>
  intro sc h hl Q s hs ac w E hS;simp only[zg]at h;split at h<;>try(cases h;done)
  rename_i a' b' ha hb;cases h;obtain⟨t,h1,h2⟩:=hs;have hv:=val_rel (y:=.bool t) (zh hS h1) rfl;refine wp_cond hv ?_;cases t with
  |true=>exact iha ha (hl.imp id fun h=>(Bool.and_eq_true_iff.1 h).1) h2 hS
  |false=>exact ihb hb (hl.imp id fun h=>(Bool.and_eq_true_iff.1 h).2) h2 hS
 |block id a ih=>
  intro sc h hl Q s hs ac w E hS;simp only[zg]at h;obtain⟨a',ha,rfl⟩:=gO h;refine wp_block (wp_mono (ih ha hl hs hS) ?_);rintro x a2 w2 ⟨e,s2,E2,rfl,hq,hS2⟩;cases e with
  |normal=>exact⟨.normal,s2,E2,rfl,hq,hS2⟩
  |ret=>exact⟨.ret,s2,E2,rfl,hq,hS2⟩
  |pan z=>exact⟨.pan z,s2,E2,rfl,hq,hS2⟩
  |exit j=>
   simp only[SExit.to,Exit.inBlock]
   grind [only,z1q]
 |loop a ih=>
  intro sc h hl Q s hs ac w E hS;simp only[zg]at h;obtain⟨a',ha,rfl⟩:=gO h;obtain⟨I,n,⟨s0,hle,h0⟩,hround⟩:=hs;obtain⟨E0,hS0⟩:=hle B ac w E hm0 hN hS;have hex:∃n,∃s E,I n s∧Sim B s.fs ac w E:=⟨n,s0,E0,h0,hS0⟩
  let J:Act→World→Prop:=fun a w=>∃n s E,I n s∧Sim B s.fs a w E
  refine wp_loop J (z7e fun a w n=>∃s E,I n s∧Sim B s.fs a w E) hex (fun a1 w1 hJ=> ?_);obtain⟨⟨s1,E1,hI1,hS1⟩,_⟩:=z4H (p:=fun a w n=>∃s E,I n s∧Sim B s.fs a w E) hJ;refine wp_mono (ih ha hl (hround _ s1 hI1) hS1) ?_;rintro x a2 w2 ⟨e,s2,E2,rfl,hq,hS2⟩;cases e with
  |normal=>
   obtain⟨m,hm,s3,hle,hI2⟩:=hq;obtain⟨E3,hS3⟩:=hle B a2 w2 E2 hm0 hN hS2;have hJ2:∃n,∃s E,I n s∧Sim B s.fs a2 w2 E:=⟨m,s3,E3,hI2,hS3⟩
   exact⟨hJ2,Nat.lt_of_le_of_lt ((z4H (p:=fun a w n=>∃s E,I n s∧Sim B s.fs a w E) hJ2).2 m ⟨s3,E3,hI2,hS3⟩) hm⟩
  |exit id=>exact⟨.exit id,s2,E2,rfl,hq,hS2⟩
  |ret=>exact⟨.ret,s2,E2,rfl,hq,hS2⟩
  |pan z=>exact⟨.pan z,s2,E2,rfl,hq,hS2⟩
 |rangeFunc x y c d ih1 ih2=>
  intro sc h hl Q s hs ac w E hS;simp only[zg]at h;cases h;exact hs B ac w E rfl (hl.resolve_right (by simp[z7Z])) hm0 hN hG hX hS
 |_=>grind [zg]
def z43(P:Program)(g:Glob)(N:Nat)(c:SCode)(Q:SExit→ES→Prop)(s:ES):Prop:=
 ∀(H:Nat→Option Nat→Nat) (Fp:Nat→List (Nat→Option Nat)) (K:Nat→List Nat) (code:Code),zg P N H Fp K code=some c→zit P g N code Q s
theorem z26{N:Nat}{c:SCode}{Q:SExit→ES→Prop}{s:ES}(ze:P.follows .mixedOrders=true)(h:swp P g c Q s):z43 P g N c Q s:=by
 intro H Fp K code ht B a w E hN hl hm hn hG hX hS;subst hN;exact z5v ze hm hn hG hX ht (.inl hl) h hS
end
end
end Go.Sh
end
