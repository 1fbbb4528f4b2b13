/- Merged texts: S27 Zg5 Bb Zg6 Zg7. No statement of the program is proved here. -/
import Derived.Test.YtpmlapgbmgbilaaGreatDoorR18
import Derived.Test.YtpmlapgbmgbilaaGreatDoorR20
set_option linter.unusedSimpArgs false
set_option linter.unusedVariables false
set_option maxRecDepth 100000
set_option maxHeartbeats 8000000
section
namespace Go.Sh
open Go Go.RowKit
section
def TV.isPv:TV→Bool
 | .pv _=>true
 |_=>false
def TV.flB:TV→Bool
 | .pv _=>true
 | .own _ _ _=>true
 | .fn _ a b=>a.all TV.isPv&&b.all TV.isPv
 |_=>false
def TV.fl2B:TV→Bool
 | .agg cs=>cs.all TV.flB
 | .ptr _ _=>true
 |x=>x.flB
theorem RelT.stillB{w w':World}{E:Env}{r:Rows}{x:TV}{v:Value}(hx:x.flB=true)(h:RelT w E r x v)(hk:∀b o u,E.K b o→w.cell? ⟨b,o,none⟩=some u→E.K b o∧w'.cell? ⟨b,o,none⟩=some u):RelT w' E r x v:=by
 have hpv:∀{l:List TV} {us:List Value},l.all TV.isPv=true→(∀(j:Nat) c v,l[j]?=some c→us[j]?=some v→RelT w E r c v)→∀(j:Nat) c v,l[j]?=some c→us[j]?=some v→RelT w' E r c v:=by
  intro l us hl hr j c v hc hv;have h1:=List.all_eq_true.1 hl c (gM hc);have h2:=hr j c v hc hv;cases c with
  |pv p=>cases h2 with|pv h=>exact .pv (h.mono hk)
  |_=>simp[TV.isPv]at h1
 cases x with
 |pv p=>exact h.still (.inl ⟨_,rfl⟩) hk
 |own d W es=>exact h.still (.inr ⟨_,_,_,rfl⟩) hk
 |fn f a b=>
  simp only[TV.flB,Bool.and_eq_true]at hx;cases h with
  |fn g xs ys us vs h1 h2 r1 r2=>exact .fn f a b us vs h1 h2 (hpv hx.1 r1) (hpv hx.2 r2)
 |_=>simp[TV.flB]at hx
theorem RelT.still2{w w':World}{E:Env}{r:Rows}{x:TV}{v:Value}(hx:x.fl2B=true)(h:RelT w E r x v)(hk:∀b o u,E.K b o→w.cell? ⟨b,o,none⟩=some u→E.K b o∧w'.cell? ⟨b,o,none⟩=some u):RelT w' E r x v:=by
 cases x with
 |agg cs=>
  cases h with
  |agg cs vs hl h ho=>
   refine .agg cs vs hl (fun j c v hc hv=>(h j c v hc hv).stillB ?_ hk) ho;exact(List.all_eq_true.1 hx) c (gM hc)
 |ptr d o=>cases h;exact .ptr d o
 |_=>exact h.stillB hx hk
inductive MixO where
 |op (so:SOper)
 |ins (k:Value) (x:Nat)
def zpl(P:Program)(N:Nat)(H:Option Nat→Nat)(ops:Array Oper)(t m i:Nat):Option MixO:=match zeq ops t m i with
 |some (.const k,.tmp x)=>some (.ins k x)
 |some _=>none
 |none=>match ops[i]? with
  |some o=>match z1o P N H none ops o with
   |some so=>match so.guard,so.dst with
    |none,some d=>if Nat.beq d m then none else some (.op so)
    |_,_=>none
   |none=>none
  |none=>none
def zcP(P:Program)(N:Nat)(H:Option Nat→Nat)(ops:Array Oper)(t m:Nat):List Nat→Option (List MixO)
 |[]=>some []
 |i::l=>match zpl P N H ops t m i,zcP P N H ops t m l with
  |some x,some r=>some (x::r)
  |_,_=>none
def flS(m:Nat)(s:ES):Bool:=s.t.all (fun p=>Nat.beq p.1 m||p.2.fl2B)&&s.b.all (fun p=>p.2.all TV.flB)&&s.i.isEmpty
def zj9(m x:Nat)(k:Value)(text:Bool)(K:ES→Prop)(s:ES):Option TV→Option TV→Prop
 |some (.mp ks xs),some y=>findKs (kdOf text) k ks 0=some none∧(xs.all TV.fl2B&&y.fl2B)=true∧K ⟨sv s.t m (.mp (ks++[k]) (xs++[y])),s.b,s.r,s.i⟩
 |_,_=>False
def z5C(P:Program)(g:Glob)(text:Bool)(m:Nat)(K:ES→Prop):List MixO→ES→Prop
 |[],s=>K s
 | .op so::l,s=>zQ P g [so] (z5C P g text m K l) (s.fgt so.news)
 | .ins k x::l,s=>flS m s=true∧Nat.beq x m=false∧zj9 m x k text (z5C P g text m K l) s (lk s.t m) (lk s.t x)
theorem z7f{α:Type}:∀{l:List (Nat×α)} {k:Nat} {x:α},lk l k=some x→(k,x)∈l
 |[],k,x,h=>by simp[lk]at h
 |(j,y)::l,k,x,h=>by
  simp only[lk]at h;cases hj:Nat.beq j k with
  |true=>simp_all
  |false=>rw[hj]at h;exact List.mem_cons_of_mem _ (z7f h)
section
variable{P:Program}{g:Glob}{ops:Array Oper}{B:Base}{H:Option Nat→Nat}{t kt et:TypeId}{text:Bool}{m b:Nat}
theorem zoM{s:ES}{a:Act}{w w':World}{E:Env}(h:Sim B s.fs a w E)(hfl:flS m s=true){ks ks':List Value}{xs xs':List TV}(hm:lk s.t m=some (.mp ks xs))(hs:MapTurn b w w')(hb:B.w0.heap.size≤b)(ho:∃es c,w.heap[b]?=some (Obj.map es c))
  (hr:(∀b o u,E.K b o→w.cell? ⟨b,o,none⟩=some u→E.K b o∧w'.cell? ⟨b,o,none⟩=some u)→RelT w' E s.fs.r (.mp ks' xs') (a.tmps.getD m undef)):
  Sim B (⟨sv s.t m (.mp ks' xs'),s.b,s.r,s.i⟩:ES).fs a w' E:=by
 unfold flS at hfl;simp only[Bool.and_eq_true,List.all_eq_true,List.isEmpty_iff]at hfl;obtain⟨⟨ht,hbx⟩,hi⟩:=hfl;have hcs:∀(k:Nat) (o:Obj),w.heap[k]?=some o→o.isCells=true→w'.heap[k]?=w.heap[k]?:=fun k o hk hc=>by
  refine hs.block k (fun e=> ?_);obtain⟨_,_,ho⟩:=ho;rw[e,ho]at hk;cases hk;cases hc
 have hce:∀(k o:Nat) (u:Value),w.cell? ⟨k,o,none⟩=some u→w'.cell? ⟨k,o,none⟩=some u:=fun k o u hu=>by
  grind [zby,World.cell?_of_block]
 have hk:∀b o u,E.K b o→w.cell? ⟨b,o,none⟩=some u→E.K b o∧w'.cell? ⟨b,o,none⟩=some u:=fun b o u h1 h2=>⟨h1,hce b o u h2⟩
 have hlow:Low B.X B.w0 w':=by
  obtain⟨l1,l2,l3,l4,l5⟩:=h.mem.low;refine⟨hs.os.trans l1,hs.tape.trans l2,hs.output.trans l3,by rw[hs.size];exact l4,fun k hk hx=>(hs.block k (fun e=>by subst e;exact absurd hk (Nat.not_lt.2 hb))).trans (l5 k hk hx)⟩
 have hmk:∀(k:Nat) (o:Obj),mark o=true→w.heap[k]?=some o→w'.heap[k]?=some o:=fun k o h1 h2=>(hs.block k (fun e=>by obtain⟨_,_,ho⟩:=ho;rw[e,ho]at h2;cases h2;cases h1)).trans h2;refine⟨⟨let⟨l,h0,h1,h2,h3⟩:=h.defers.col;⟨l,h0,h1,h2,fun D hD=>⟨(h3 D hD).1,(h3 D hD).2.1,hmk _ _ rfl (h3 D hD).2.2⟩⟩,fun p hp=>⟨(h.defers.pr p hp).1,hmk _ _ (h.defers.pr p hp).1 (h.defers.pr p hp).2⟩⟩,h.size,fun k x hx=> ?_,⟨fun d cs hd=> ?_,fun d e W n hd=> ?_,h.mem.bb,h.mem.br,h.mem.rr,fun k o hko=>by rw[hs.size];exact h.mem.lt k o hko,hlow,fun k o u h1 h2=>⟨(h.mem.keep k o u h1 h2).1,hce _ _ _ (h.mem.keep k o u h1 h2).2⟩,h.mem.knew,h.mem.pas⟩,fun d z p hd=> ?_,h.ii⟩
 ·have hx:lk (sv s.t m (.mp ks' xs')) k=some x:=hx;rw[z1z]at hx;rcases z0d hx with⟨rfl,rfl⟩|⟨hne,hx⟩
  ·exact⟨(h.tmp k _ hm).1,hr hk⟩
  ·obtain⟨h1,h2⟩:=h.tmp k x hx;refine⟨h1,h2.still2 ?_ hk⟩;have:=ht _ (z7f hx);simp_all
 ·obtain⟨⟨lt,⟨c,e,z,hob⟩,fz,cell,out⟩,hq⟩:=h.mem.box d cs hd;have hss:=hcs _ _ hob rfl;refine⟨⟨by rw[hs.size];exact lt,⟨c,e,z,hss.trans hob⟩,fun o=>(z6t hss).trans (fz o),fun j c hj=> ?_,out⟩,hq⟩;obtain⟨v,h1,h2,h3⟩:=cell j c hj;exact⟨v,hce _ _ _ h1,h2,h3.stillB ((hbx _ (z7f hd)) c (gM hj)) hk⟩
 ·rcases h.mem.row d e W n hd with h1|⟨k,cap,h1,h2,⟨⟨cur,h3,h4⟩,h5,h6,h7⟩⟩
  ·grind
  ·exact .inr ⟨k,cap,h1,h2,⟨⟨cur,(hcs _ _ h3 rfl).trans h3,h4⟩,h5,h6,h7⟩⟩
 ·have hd:lk s.i d=some (z,p):=hd
  grind [lk]
theorem zrL{w:World}{E:Env}{r:Rows}{ks:List Value}{xs:List TV}{v:Value}(h:RelT w E r (.mp ks xs) v):∃(b:Nat) (es:Array MapEntry) (clock:Nat) (g:Nat→Value),v=.map (some b)∧w.heap[b]?=some (Obj.map es clock)∧es.toList.map MapEntry.key=ks∧xs.length=ks.length∧(∀(j:Nat) e,es.toList[j]?=some e→e.val=g j)∧∀(j:Nat) x,xs[j]?=some x→RelT w E r x (g j):=by
 cases h with
 |mp ks xs b es clock g h1 h2 h3 h4 h=>exact⟨b,es,clock,g,rfl,h1,h2,h3,h4,h⟩
theorem z8O(hm0:B.m≤1000)(hN:B.N≤1000)(hG:g.G B.w0)(hX:∀d b,B.X d b→g.n≤b)(hu:P.underlying t=some (.map kt et))(hkt:P.underlying kt=some (kdOf text))(hmN:m<B.N)(hbb:B.w0.heap.size≤b){Q:Exit→Act→World→Prop}{K:ES→Prop}{zy:List Nat}
  (hK:∀(s:ES) (a:Act) (w:World) (E:Env),Sim B s.fs a w E→K s→wpOps P ops Q zy a w):∀(is:List Nat) (l:List MixO),zcP P B.N H ops t m is=some l→∀(s:ES) (a:Act) (w:World) (E:Env),z5C P g text m K l s→Sim B s.fs a w E→a.tmps.getD m undef=.map (some b)→wpOps P ops Q (is++zy) a w
 |[],l,hl,s,a,w,E,h,hS,hm=>by
  simp only[zcP,Option.some.injEq]at hl;subst hl;exact hK s a w E hS h
 |i::is,l,hl,s,a,w,E,h,hS,hm=>by
  simp only[zcP]at hl;split at hl<;>try(cases hl;done)
  rename_i x r hx hr;cases hl;have ih:=z8O hm0 hN hG hX hu hkt hmN hbb hK is r hr;rw[List.cons_append,wpOps_cons];unfold zpl at hx;split at hx
  ·rename_i k y hins;cases hx;obtain⟨hfl,hne,hk⟩:=h;unfold zj9 at hk;split at hk<;>try(exact hk.elim)
   rename_i ks xs tv hks htv;obtain⟨hfr,hfx,hk⟩:=hk;unfold zeq at hins;split at hins<;>try(cases hins;done)
   rename_i o ho;split at hins<;>try(cases hins;done)
   rename_i t' m' k' x' hop hdst hg;split at hins<;>try(cases hins;done)
   rename_i htm;rw[Bool.and_eq_true]at htm;obtain rfl:=Nat.eq_of_beq_eq_true htm.1;obtain rfl:=Nat.eq_of_beq_eq_true htm.2;cases hins;obtain⟨_,hrel⟩:=hS.tmp m _ hks;rw[hm]at hrel;obtain⟨b',es,clock,gg,e1,hob,hkeys,hlen,hvals,hxs⟩:=zrL hrel;cases e1;obtain⟨w1,hrun,hturn,hb1⟩:=zi4 (P:=P) (k:=a.eval (.const k)) (v:=a.eval (.tmp y)) hu hkt hob (by rw[hkeys];exact hfr);unfold wpOp;simp only[ho];rw[if_pos (by simp[Region.wanted,hg])];refine .inl ?_;unfold Oper.wp;have em:a.eval (.tmp m)=.map (some b):=hm;have hex:(execOp a.eval o).run P w=.ok .skip w1:=by
    have ec:a.eval (.const k)=k:=rfl;rw[ec]at hrun;simp[execOp,hop,em,ec,hrun,Result.andThen]
   rw[hex];show wpOps P ops Q (is++zy) (a.put o.dst undef) w1;rw[hdst];refine ih _ a w1 E hk (zoM hS hfl hks hturn hbb ⟨_,_,hob⟩ (fun hkk=> ?_)) hm;rw[hm];rw[Bool.and_eq_true,List.all_eq_true]at hfx;refine .mp _ _ b _ _ (fun j=>if j=ks.length then a.tmps.getD y undef else gg j) hb1 (by simp[hkeys];rfl) (by grind) (fun j e he=> ?_) (fun j z hz=> ?_)
   ·rw[Array.toList_push]at he;have hkl:es.toList.length=ks.length:=by grind
    rcases Nat.lt_or_ge j ks.length with hj|hj
    ·grind
    ·rw[List.getElem?_append_right (by omega)]at he;have hj0:j-es.toList.length=0:=by
      grind
     rw[hj0]at he;simp at he;subst he;rw[if_pos (by omega)];rfl
   ·rcases Nat.lt_or_ge j ks.length with hj|hj
    ·rw[List.getElem?_append_left (by omega)]at hz;rw[if_neg (by omega)];exact(hxs j z hz).still2 (hfx.1 z (gM hz)) hkk
    ·rw[List.getElem?_append_right (by omega)]at hz;have hj0:j-xs.length=0:=by
      grind
     rw[hj0]at hz;simp at hz;subst hz;rw[if_pos (by omega)];exact(hS.tmp y _ htv).2.still2 hfx.2 hkk
  ·cases hx
  ·rename_i hins;split at hx<;>try(cases hx;done)
   rename_i o ho;split at hx<;>try(cases hx;done)
   rename_i so ht;split at hx<;>try(cases hx;done)
   rename_i d hgd hdd;split at hx<;>try(cases hx;done)
   cases hx;have hd:Nat.beq d m=false:=by
    grind
   unfold z1o at ht;split at ht<;>try(cases ht;done)
   rename_i gd op hg hop;split at ht<;>try(cases ht;done)
   rename_i hdn;cases ht;simp only at hgd hdd;subst hgd;have hgo:o.guard=none:=by
    cases hgo:o.guard<;>grind [only,z3L]
   have hS':=z1K hS (SOper.news ⟨o.dst,none,none,op⟩);obtain⟨C,hC,e,he,hk⟩:=h;have he':eff P C o.dst op (s.fgt (SOper.news ⟨o.dst,none,none,op⟩)).fs=some e:=(z4U (o:=⟨o.dst,none,none,op⟩) he).1;unfold wpOp;simp only[ho];rw[if_pos (by simp[Region.wanted,hgo])];have hop:=(z1w hop).resolve_right fun h=>by rw[h.1]at he';cases he'
   refine .inl (zmm (C:=C) hS' hm0 hN hG hX hop (fun k hk=>by rw[hk]at hdn;simp only[zel,Nat.blt_eq]at hdn;exact hdn) (fun d hd=>z1J s hd) hC (x:=e.1) (u:=e.2) he' (fun v w' E' hS2=> ?_));refine ih _ _ w' E' hk ?_ ?_
   ·rw[ES.after_fs];exact hS2
   ·rw[hdd];have hne:d≠m:=fun e=>by subst e;rw[Nat.beq_refl]at hd;cases hd
    simp only[Act.put,Array.getD_eq_getD_getElem?]at hm ⊢
    grind
end
end
end Go.Sh
end

section
namespace Go.Proofs.YtpmlapgbmgbilaaGreatDoor
open Go Go.RowKit Go.Mor Go.Sh
section
open Go.Sh.Cd1 Go.Sh.Cd6
def fnP(f:Nat):TV:=.pv (.v (.func (.func f) #[] #[]))
def clE(of w:TV):TV:=.agg [of,w]
def callL:List (zB×TV):=[(z4J,clE (z09 1 [2]) (fnP 184)),(z1B,clE (z09 2 [2,1]) (fnP 187)),(z11,clE (z09 2 [2,1]) (fnP 190)),(z1A,clE (z09 2 [2,1]) (fnP 191)),(z3f,clE (z09 1 [2,2]) (fnP 192)),
 (z1P,clE (z09 2 [1]) (fnP 194)),(z4K,clE (z09 1 [2]) (fnP 196)),(nIf,clE (fnP 198) (fnP 199)),(z50,clE (z09 1 [1,1]) (fnP 200)),(z5D,clE (z09 1 [1,1]) (fnP 201))]
def zr9:List Value:=callL.map fun p=> .string (str p.1)
def z1x:TV:=.mp zr9 (callL.map (·.2))
noncomputable def zhw:Array Oper:=match Tryz.prog.funcs[154]? with
 |some fn=>match fn.body with
  |some (.seq _ (.seq (.region _ ops _) _))=>ops
  |_=> #[]
 |none=> #[]
def z9r:List MixO:=[.op ⟨(some 2),none,none,.bsl 1 [(.val (.int .i64 2))]⟩,.op ⟨(some 3),none,none,.call 183 0 [(.val (.int .i64 1)),(.tmp 2)]⟩,.op ⟨(some 4),none,none,.build [.nilFunc,.nilFunc] [(0,1,(.tmp 3)),(1,1,(.val (.func (.func 184) #[] #[])))]⟩,.ins ((.string ⟨#[108,101,110]⟩)) 4,.op ⟨(some 5),none,none,.bsl 1 [(.val (.int .i64 2)),(.val (.int .i64 1))]⟩,.op ⟨(some 6),none,none,.call 183 0 [(.val (.int .i64 2)),(.tmp 5)]⟩,.op ⟨(some 7),none,none,.build [.nilFunc,.nilFunc] [(0,1,(.tmp 6)),(1,1,(.val (.func (.func 187) #[] #[])))]⟩,.ins ((.string ⟨#[108,101,102,116]⟩)) 7,.op ⟨(some 8),none,none,.bsl 1 [(.val (.int .i64 2)),(.val (.int .i64 1))]⟩,.op ⟨(some 9),none,none,.call 183 0 [(.val (.int .i64 2)),(.tmp 8)]⟩,.op ⟨(some 10),none,none,.build [.nilFunc,.nilFunc] [(0,1,(.tmp 9)),(1,1,(.val (.func (.func 190) #[] #[])))]⟩,.ins ((.string ⟨#[114,105,103,104,116]⟩)) 10,.op ⟨(some 11),none,none,.bsl 1 [(.val (.int .i64 2)),(.val (.int .i64 1))]⟩,.op ⟨(some 12),none,none,.call 183 0 [(.val (.int .i64 2)),(.tmp 11)]⟩,.op ⟨(some 13),none,none,.build [.nilFunc,.nilFunc] [(0,1,(.tmp 12)),(1,1,(.val (.func (.func 191) #[] #[])))]⟩,.ins ((.string ⟨#[102,114,111,109]⟩)) 13,.op ⟨(some 14),none,none,.bsl 1 [(.val (.int .i64 2)),(.val (.int .i64 2))]⟩,.op ⟨(some 15),none,none,.call 183 0 [(.val (.int .i64 1)),(.tmp 14)]⟩,.op ⟨(some 16),none,none,.build [.nilFunc,.nilFunc] [(0,1,(.tmp 15)),(1,1,(.val (.func (.func 192) #[] #[])))]⟩,.ins ((.string ⟨#[102,105,110,100]⟩)) 16,.op ⟨(some 17),none,none,.bsl 1 [(.val (.int .i64 1))]⟩,.op ⟨(some 18),none,none,.call 183 0 [(.val (.int .i64 2)),(.tmp 17)]⟩,.op ⟨(some 19),none,none,.build [.nilFunc,.nilFunc] [(0,1,(.tmp 18)),(1,1,(.val (.func (.func 194) #[] #[])))]⟩,.ins ((.string ⟨#[116,101,120,116]⟩)) 19,.op ⟨(some 20),none,none,.bsl 1 [(.val (.int .i64 2))]⟩,.op ⟨(some 21),none,none,.call 183 0 [(.val (.int .i64 1)),(.tmp 20)]⟩,.op ⟨(some 22),none,none,.build [.nilFunc,.nilFunc] [(0,1,(.tmp 21)),(1,1,(.val (.func (.func 196) #[] #[])))]⟩,.ins ((.string ⟨#[110,117,109]⟩)) 22,.op ⟨(some 23),none,none,.build [.nilFunc,.nilFunc] [(0,1,(.val (.func (.func 198) #[] #[]))),(1,1,(.val (.func (.func 199) #[] #[])))]⟩,.ins ((.string ⟨#[105,102]⟩)) 23,.op ⟨(some 24),none,none,.bsl 1 [(.val (.int .i64 1)),(.val (.int .i64 1))]⟩,.op ⟨(some 25),none,none,.call 183 0 [(.val (.int .i64 1)),(.tmp 24)]⟩,.op ⟨(some 26),none,none,.build [.nilFunc,.nilFunc] [(0,1,(.tmp 25)),(1,1,(.val (.func (.func 200) #[] #[])))]⟩,.ins ((.string ⟨#[109,105,110]⟩)) 26,.op ⟨(some 27),none,none,.bsl 1 [(.val (.int .i64 1)),(.val (.int .i64 1))]⟩,.op ⟨(some 28),none,none,.call 183 0 [(.val (.int .i64 1)),(.tmp 27)]⟩,.op ⟨(some 29),none,none,.build [.nilFunc,.nilFunc] [(0,1,(.tmp 28)),(1,1,(.val (.func (.func 201) #[] #[])))]⟩,.ins ((.string ⟨#[109,97,120]⟩)) 29,.op ⟨(some 30),none,none,.mov (.tmp 1)⟩,.op ⟨(some 0),none,none,.mov (.tmp 30)⟩]
theorem ziB:zcP Tryz.prog 31 (fun _=>0) zhw 232 1 (List.range' 1 40)=some z9r:=by kernel_rfl
@[congr] theorem mixW_congr {P:Program} {g:Sh.Glob} {text:Bool} {m:Nat} {K:ES→Prop} {l:List MixO} {s s':ES} (h:s=s'):z5C P g text m K l s=z5C P g text m K l s':=by rw[h]
section
variable{P:Program}{g:Sh.Glob}{text:Bool}{m x:Nat}{k:Value}{K:ES→Prop}{l:List MixO}{s:ES}{so:SOper}{ks:List Value}{xs:List TV}{y:TV}
theorem zlD:z5C P g text m K [] s=K s:=rfl
theorem zpm:z5C P g text m K (.op so::l) s=zQ P g [so] (z5C P g text m K l) (s.fgt so.news):=rfl
theorem zlC:z5C P g text m K (.ins k x::l) s=(flS m s=true∧Nat.beq x m=false∧zj9 m x k text (z5C P g text m K l) s (lk s.t m) (lk s.t x)):=rfl
theorem ik:zj9 m x k text K s (some (.mp ks xs)) (some y)=(findKs (kdOf text) k ks 0=some none∧(xs.all TV.fl2B&&y.fl2B)=true∧K ⟨sv s.t m (.mp (ks++[k]) (xs++[y])),s.b,s.r,s.i⟩):=rfl
end
theorem mwV:(type_of% @zlD)∧(type_of% @zpm)∧(type_of% @zlC)∧(type_of% @ik):=⟨@zlD,@zpm,@zlC,@ik⟩
def zbv:SFunc:=⟨0,.skip,[.tmp 0],false⟩
def z7v(s:ES):Prop:=exitF zbv 0 s=some (z1x,[])
theorem in1(a:Int):inR [a]=[[.v (.int .i64 a)]]:=rfl
theorem ziE(g:Sh.Glob):z5C Tryz.prog g true 1 z7v z9r ⟨[(1,.mp [] [])],[],[],[]⟩:=by
 have T1:=z2p g 1 [2];have T2:=z2p g 2 [2,1];have T3:=z2p g 1 [2,2];have T4:=z2p g 2 [1];have T5:=z2p g 1 [1,1];unfold z9r;simp only[vW,seval,mwV,SOper.news,SOp.news];unfold z09 at T1 T2 T3 T4 T5;(with_reducible apply zF);simp only[vW,seval,in1];rfl;rfl;exact T1;exact km;simp only[vW,seval,in1];rfl;simp only[vW,seval,mwV,SOper.news,SOp.news];repeat(refine⟨by rfl,?_⟩)
 (with_reducible apply zF);simp only[vW,seval,in2];rfl;rfl;exact T2;exact km;simp only[vW,seval,in2];rfl;simp only[vW,seval,mwV,SOper.news,SOp.news];repeat(refine⟨by rfl,?_⟩)
 (with_reducible apply zF);simp only[vW,seval,in2];rfl;rfl;exact T2;exact km;simp only[vW,seval,in2];rfl;simp only[vW,seval,mwV,SOper.news,SOp.news];repeat(refine⟨by rfl,?_⟩)
 (with_reducible apply zF);simp only[vW,seval,in2];rfl;rfl;exact T2;exact km;simp only[vW,seval,in2];rfl;simp only[vW,seval,mwV,SOper.news,SOp.news];repeat(refine⟨by rfl,?_⟩)
 (with_reducible apply zF);simp only[vW,seval,in2];rfl;rfl;exact T3;exact km;simp only[vW,seval,in2];rfl;simp only[vW,seval,mwV,SOper.news,SOp.news];repeat(refine⟨by rfl,?_⟩)
 (with_reducible apply zF);simp only[vW,seval,in1];rfl;rfl;exact T4;exact km;simp only[vW,seval,in1];rfl;simp only[vW,seval,mwV,SOper.news,SOp.news];repeat(refine⟨by rfl,?_⟩)
 (with_reducible apply zF);simp only[vW,seval,in1];rfl;rfl;exact T1;exact km;simp only[vW,seval,in1];rfl;simp only[vW,seval,mwV,SOper.news,SOp.news];repeat(refine⟨by rfl,?_⟩)
 (with_reducible apply zF);simp only[vW,seval,in2];rfl;rfl;exact T5;exact km;simp only[vW,seval,in2];rfl;simp only[vW,seval,mwV,SOper.news,SOp.news];repeat(refine⟨by rfl,?_⟩)
 (with_reducible apply zF);simp only[vW,seval,in2];rfl;rfl;exact T5;exact km;simp only[vW,seval,in2];rfl;simp only[vW,seval,mwV,SOper.news,SOp.news];repeat(refine⟨by rfl,?_⟩)
 show exitF zbv 0 _=some (z1x,[]);kernel_rfl
theorem zeN(g:Sh.Glob):zC g 154 [] [] z1x []:=by
 refine⟨z1k (by kernel_rfl),fun w E us hG hm hX hl hr=> ?_⟩;obtain rfl:us=[]:=List.eq_nil_of_length_eq_zero hl.symm;have hS0:=z5u (lp:=true) (N:=31) (xs:=[]) (by decide) hm hl hr;have hn:∀(k:Nat),(startE [] []).fs.t k=none:=fun k=>rfl;refine z5c Tryz.func154 rfl ?_;refine wp_seq (wp_region ?_);show wpOps _ _ _ [0] _ _;rw[wpOps_cons];refine z2v rfl rfl (v:=.map none) (w':=w) rfl ?_;show(Code.seq _ _).wp _ _ _ _;refine wp_seq (wp_region ?_);show wpOps _ zhw _ (0::(List.range' 1 40++[])) _ _;rw[wpOps_cons];refine z2v rfl rfl (v:=.map (some w.heap.size)) (w':=w.alloc (.map #[] 0)) rfl ?_;have hnew:(w.alloc (.map #[] 0)).heap[w.heap.size]?=some (.map #[] 0):=heap_alloc_new w _;have hbel:Below w.heap.size w (w.alloc (.map #[] 0)):=(Below.refl w.heap.size w).alloc (Nat.le_refl _) _;have hS1:=hS0.same hbel;refine z8O (B:=Sh.start w E [] 31) (g:=g) (kt:=9) (et:=264) (text:=true) (t:=232) (m:=1) (b:=w.heap.size) (H:=fun _=>0) (K:=z7v) (by show 0≤1000;decide) (by show 31≤1000;decide) hG hX (by kernel_rfl) (by kernel_rfl) (by show 1<31;decide) (Nat.le_refl _) ?_ _ z9r ziB ⟨[(1,.mp [] [])],[],[],[]⟩ _ _ E (ziE g) ?_ rfl
 ·intro s a w2 E2 hS hk;show Code.ret.wp _ _ a w2;refine wp_ret ?_;have hhrs:seqO (z2c Tryz.prog) Tryz.f154.results.toList=some [.tmp 0]:=by kernel_rfl
  exact z8L (F:=zbv) (os:=[]) (os':=[]) rfl rfl hhrs rfl hS hk
 ·have h1:=hS1.act (a2:=Act.put ⟨#[]++Array.replicate (31-0) undef,[]⟩ (some 0) (.map none)) (by rfl) rfl (fun k x hx=>by rw[hn]at hx;cases hx);have h2:=h1.setT (k:=1) (by show 1<31;decide) (x:=.mp [] []) (v:=.map (some w.heap.size)) (.mp [] [] w.heap.size #[] 0 (fun _=>undef) hnew rfl rfl (by simp) (by simp));have he:((startE [] []).fs.setT 1 (.mp [] []))=(⟨[(1,.mp [] [])],[],[],[]⟩:ES).fs:=by
   refine FS.ext' (fun k=> ?_) (fun k=>rfl) (fun k=>rfl) (fun k=>rfl);show z0I (lk []) 1 _ k=lk [(1,_)] k;rw[←z1z];rfl
  rw[he]at h2;exact h2
end
theorem zek(p q:Bool):z05 Tryz.prog (do eqGuard .eql 4 (.const (.bool p)) (.const (.bool q)) (.bool p) (.bool q);binOp .eql 4 (.bool p) (.bool q))=some (.pv (.v (.bool (p==q))),.no):=by
 cases p<;>cases q<;>kernel_rfl
section
open Go.Sh.Cd1 Go.Sh.Cd6
def vC(ps:List V):List TV:=pvC (ps.flatMap V.row)
theorem z0Z(x:V)(ps:List V):vC (x::ps)=I x.k::I x.n::S (str x.s):: .pv (.sl 4 (V.rows x.l))::vC ps:=by
 unfold vC;rw[List.flatMap_cons,z2l];rfl
theorem z3a:vC []=[]:=rfl
theorem zgu(ps:List V):(vC ps).length=ps.length*4:=by
 induction ps with
 |nil=>rfl
 |cons p ps ih=>rw[z0Z];simp[ih];omega
theorem zmD(ids:List Nat)(ps:List V):List.map (fgt3 ids) (vC ps)=vC ps:=z9X ids _
theorem zmE(ps:List V):List.flatMap TV.ids1 (vC ps)=[]:=z9Y _
theorem zmF(ρ:Nat→Option Nat)(ps:List V):seqO (TV.ren1 ρ) (vC ps)=some (vC ps):=z9Z ρ _
theorem vcC:(type_of% @zmD)∧(type_of% @zmE)∧(type_of% @zmF)∧(type_of% @zgu):=⟨@zmD,@zmE,@zmF,@zgu⟩
theorem zdO(l:zB)(i:Nat):(str l).extract i l.length=str (l.drop i):=by rw[str_extract,List.take_of_length_le (by simp)]
def z2J(s:zB):Prop:=s.length≤60
def RgN(n:Int):Prop:= -1000000000000000≤n∧n≤1000000000000000
section
variable{x y z:V}
theorem zn3(g:Sh.Glob)(hx:z2J x.s):zC g 184 [.bs 1000 0 1 1] [.box (vC [x])] (nv (z0a z4J [x])) [.box (vC [x])]:=by
 have HS:=zba g x.s (by have:x.s.length≤60:=hx;omega);have HN:=z0W g (z16 x.s);rw[show z0a z4J [x]=z0p (z16 x.s) from rfl];simp only[z0Z,z3a];refine zj tf_74 ?_;generalize z0p (z16 x.s)=r at*;unfold nv at*;simp only[vW,seval];refine z7 HS ?_;exact zf HN
theorem zn4(g:Sh.Glob)(hx:z2J x.s):zC g 187 [.bs 1000 0 2 2] [.box (vC [x,y])] (nv (z0a z1B [x,y])) [.box (vC [x,y])]:=by
 have hx:x.s.length≤60:=hx;have HB:=z8q g x.s y.n (by omega);have hb:=zcA x.s y.n;have HT:=z5a g (x.s.take (z1W x.s y.n)) (by rw[List.length_take];omega);rw[show z0a z1B [x,y]=z22 (x.s.take (z1W x.s y.n)) from rfl];simp only[z0Z,z3a];refine zj tf_76 ?_;generalize z22 (x.s.take (z1W x.s y.n))=r at*;unfold nv at*;simp only[vW,seval];refine z7 HB ?_;simp only[vW,seval,List.drop_zero];refine⟨by omega,?_⟩;exact zf HT
theorem zn5(g:Sh.Glob)(hx:z2J x.s)(hy:RgN y.n):zC g 190 [.bs 1000 0 2 2] [.box (vC [x,y])] (nv (z0a z11 [x,y])) [.box (vC [x,y])]:=by
 have hx:x.s.length≤60:=hx;obtain⟨hy0,hy1⟩:=hy;have HS:=zba g x.s (by omega);have hs:=zgg _ x.s (Nat.le_refl _);have HB:=z8q g x.s (z16 x.s-y.n) (by omega);have hb:=zcA x.s (z16 x.s-y.n);have HT:=z5a g (x.s.drop (z1W x.s (z16 x.s-y.n))) (by rw[List.length_drop];omega);have w1:IntKind.i64.wrap ((z16 x.s:Int) - y.n)=(z16 x.s:Int) - y.n:=wrap64 (by omega) (by omega);have hd:=zdO x.s (z1W x.s (z16 x.s-y.n));rw[show z0a z11 [x,y]=z22 (x.s.drop (z1W x.s (z16 x.s-y.n))) from rfl];simp only[z0Z,z3a];refine zj tf_77 ?_;generalize z22 (x.s.drop (z1W x.s (z16 x.s-y.n)))=r at*;unfold nv at*;simp only[vW,seval];refine z7 HS ?_;simp only[vW,seval,w1];refine z7 HB ?_;simp only[vW,seval,hd];refine⟨by omega,?_⟩;exact zf HT
theorem zn6(g:Sh.Glob)(hx:z2J x.s):zC g 191 [.bs 1000 0 2 2] [.box (vC [x,y])] (nv (z0a z1A [x,y])) [.box (vC [x,y])]:=by
 have hx:x.s.length≤60:=hx;have HB:=z8q g x.s y.n (by omega);have hb:=zcA x.s y.n;have HT:=z5a g (x.s.drop (z1W x.s y.n)) (by rw[List.length_drop];omega);have hd:=zdO x.s (z1W x.s y.n);rw[show z0a z1A [x,y]=z22 (x.s.drop (z1W x.s y.n)) from rfl];simp only[z0Z,z3a];refine zj tf_78 ?_;generalize z22 (x.s.drop (z1W x.s y.n))=r at*;unfold nv at*;simp only[vW,seval];refine z7 HB ?_;simp only[vW,seval,hd];refine⟨by omega,?_⟩;exact zf HT
theorem zn7(m:Nat)(hx:z2J x.s):zC (glT m) 192 [.bs 1000 0 2 2] [.box (vC [x,y])] (nv (z0a z3f [x,y])) [.box (vC [x,y])]:=by
 have HF:=zl0 m x.s y.s (by have:x.s.length≤60:=hx;omega);have HN:=z0W (glT m) (z9y x.s y.s);rw[show z0a z3f [x,y]=z0p (z9y x.s y.s) from rfl];simp only[z0Z,z3a];refine zj tf_79 ?_;generalize z0p (z9y x.s y.s)=r at*;unfold nv at*;simp only[vW,seval];refine z7 HF ?_;exact zf HN
theorem zn8(m:Nat)(hx:RgN x.n):zC (glT m) 194 [.bs 1000 0 1 1] [.box (vC [x])] (nv (z0a z1P [x])) [.box (vC [x])]:=by
 obtain⟨h0,h1⟩:=hx;have HI:=zq2 m x.n (by omega) (by omega);have hl:(Lib.itoa x.n).length≤4611686018427387904:=by
  have:=zf0 x.n;have hh:∀n:Nat,(Lib.decDigits n).length≤n+1:=fun n=>by
   induction n using Nat.strongRecOn with
   |_ n ih=>
    by_cases h:n<10
    ·rw[Lib.decDigits_one h];simp
    ·rw[Lib.decDigits,dif_neg h,List.length_append];have:=ih (n / 10) (by omega);simp;omega
  unfold Lib.itoa;split
  ·have:=hh x.n.natAbs;simp;omega
  ·have:=hh x.n.toNat;omega
 have HT:=z5a (glT m) (Lib.itoa x.n) hl;rw[show z0a z1P [x]=z22 (Lib.itoa x.n) from rfl];simp only[z0Z,z3a];refine zj tf_80 ?_;generalize z22 (Lib.itoa x.n)=r at*;unfold nv at*;simp only[vW,seval];refine z7 HI ?_;exact zf HT
theorem zn9(m:Nat)(hx:z2J x.s):zC (glE m) 196 [.bs 1000 0 1 1] [.box (vC [x])] (nv (z0a z4K [x])) [.box (vC [x])]:=by
 have HF:=zqL m x.s (by have:x.s.length≤60:=hx;omega);have HN:=z0W (glE m) (z3Z x.s);rw[show z0a z4K [x]=z0p (z3Z x.s) from rfl];simp only[z0Z,z3a];refine zj tf_81 ?_;generalize z0p (z3Z x.s)=r at*;unfold nv at*;simp only[vW,seval];refine z7 HF ?_;exact zf HN
theorem zna(g:Sh.Glob):zC g 199 [.bs 1000 0 3 3] [.box (vC [x,y,z])] (tv (z0a nIf [x,y,z])) [.box (vC [x,y,z])]:=by
 rw[show z0a nIf [x,y,z]=if x.n≠0 then y else z from rfl];simp only[z0Z,z3a];refine zj tf_82 ?_;by_cases h:x.n=0
 ·rw[if_neg (by simpa using h)];simp only[vW,seval,h]
 ·rw[if_pos h];simp only[vW,seval,h]
theorem znb(g:Sh.Glob):zC g 200 [.bs 1000 0 2 2] [.box (vC [x,y])] (nv (z0a z50 [x,y])) [.box (vC [x,y])]:=by
 have HN:=z0W g (min x.n y.n);rw[show z0a z50 [x,y]=z0p (min x.n y.n) from rfl];simp only[z0Z,z3a];refine zj tf_83 ?_;generalize z0p (min x.n y.n)=r at*;unfold nv at*;simp only[vW,seval];exact zf HN
theorem zkw(g:Sh.Glob):zC g 201 [.bs 1000 0 2 2] [.box (vC [x,y])] (nv (z0a z5D [x,y])) [.box (vC [x,y])]:=by
 have HN:=z0W g (max x.n y.n);rw[show z0a z5D [x,y]=z0p (max x.n y.n) from rfl];simp only[z0Z,z3a];refine zj tf_75 ?_;generalize z0p (max x.n y.n)=r at*;unfold nv at*;simp only[vW,seval];exact zf HN
end
theorem zaq(g:Sh.Glob)(s:zB)(a b:Int)(ha:RgN a)(hs:s=[47]∨s=[37]):zC g 224 [S (str s),I a,I b] [] (I (z5O s a b)) []:=by
 have q1:=bS [47];have e1:(([37]:zB)==[47])=false:=rfl;obtain⟨a0,a1⟩:=ha;unfold z5O;refine za tf_93 ?_;by_cases h:b=0
 ·subst h;simp only[vW,seval]
 ·rw[if_neg h];rcases hs with rfl|rfl
  ·have hb: -1000000000000000≤a.tdiv b∧a.tdiv b≤1000000000000000:=by
    have h1:=Int.natAbs_tdiv_le_natAbs a b;omega
   have w1:IntKind.i64.wrap (a.tdiv b)=a.tdiv b:=wrap64 (by omega) (by omega);simp only[vW,seval,h,q1,w1]
  ·simp only[vW,seval,h,q1,e1];rfl
end
section
open Go.Sh.Cd1 Go.Sh.Cd6
theorem zcz(a:Int):max a (-a)=(a.natAbs:Int):=by omega
theorem zok{a b:Int}(h0:a≠0)(h:max b (-b)≤(1000000000000000:Int).tdiv (max a (-a))): -1000000000000000≤a*b∧a*b≤1000000000000000:=by
 rw[zcz,zcz]at h;have e:(1000000000000000:Int).tdiv (a.natAbs:Int)=((1000000000000000 / a.natAbs:Nat):Int):=rfl;rw[e]at h;have h1:b.natAbs≤1000000000000000 / a.natAbs:=by omega
 have h2:b.natAbs*a.natAbs≤1000000000000000:=(Nat.le_div_iff_mul_le (by omega)).1 h1;have h3:(a*b).natAbs=b.natAbs*a.natAbs:=by rw[Int.natAbs_mul,Nat.mul_comm]
 omega
theorem zqs(a:Int):0≤(1000000000000000:Int).tdiv (max a (-a))∧(1000000000000000:Int).tdiv (max a (-a))≤1000000000000000:=by
 rw[zcz];have e:(1000000000000000:Int).tdiv (a.natAbs:Int)=((1000000000000000 / a.natAbs:Nat):Int):=rfl;rw[e];have:=Nat.div_le_self 1000000000000000 a.natAbs;exact⟨Int.natCast_nonneg _,Int.ofNat_le.2 this⟩
theorem zjE(g:Sh.Glob)(a b:Int)(ha:RgN a)(hb:RgN b):zC g 223 [I a,I b] [] (I (z9U a b)) []:=by
 obtain⟨a0,a1⟩:=ha;obtain⟨b0,b1⟩:=hb;have w1:IntKind.i64.wrap (0-a)= -a:=wG;have w2:IntKind.i64.wrap (0-b)= -b:=wG;have w1':IntKind.i64.wrap (-a)= -a:=by rw[wrap64 (by omega) (by omega)]
 have w2':IntKind.i64.wrap (-b)= -b:=by rw[wrap64 (by omega) (by omega)]
 have hq:=zqs a;have w3:IntKind.i64.wrap ((1000000000000000:Int).tdiv (max a (-a)))=(1000000000000000:Int).tdiv (max a (-a)):=wrap64 (by omega) (by omega);unfold z9U;refine za tf_92 ?_;by_cases h:a=0
 ·subst h;have w4:IntKind.i64.wrap (0*b)=0*b:=by rw[Int.zero_mul];rfl
  simp only[vW,seval,w4];simp
 ·have hm:¬max a (-a)=0:=by omega
  by_cases h2:max b (-b)≤(1000000000000000:Int).tdiv (max a (-a))
  ·rw[if_pos (.inr h2)];have hr:=zok h h2;have w4:IntKind.i64.wrap (a*b)=a*b:=wrap64 (by omega) (by omega);simp only[vW,seval,h,w1,w2,w1',w2',w3,w4,hm,h2]
  ·rw[if_neg (by simp only[not_or];exact⟨h,h2⟩)];by_cases c1:a<0
   ·by_cases c2:b<0
    ·simp only[vW,seval,h,w1,w2,w1',w2',w3,hm,h2,c1,c2,zek]
    ·simp only[vW,seval,h,w1,w2,w1',w2',w3,hm,h2,c1,c2,zek]
   ·by_cases c2:b<0
    ·simp only[vW,seval,h,w1,w2,w1',w2',w3,hm,h2,c1,c2,zek]
    ·simp only[vW,seval,h,w1,w2,w1',w2',w3,hm,h2,c1,c2,zek]
section
variable{a b:V}
theorem zoe(g:Sh.Glob)(s:zB)(ha:RgN a.n)(hb:RgN b.n)(hs:s=[45]∨s=[43]∨s=[42]∨s=[47]∨s=[37]):zC g 204 [S (str s),tv a,tv b] [] (nv (opV s a b)) []:=by
 have q1:=bS [45];have q2:=bS [43];have q3:=bS [42];have q4:=bS [47];have q5:=bS [37];have r1:=ha.1;have r2:=ha.2;have r3:=hb.1;have r4:=hb.2;have e1:(([43]:zB)==[45])=false:=rfl;have f1:(([42]:zB)==[45])=false:=rfl;have f2:(([42]:zB)==[43])=false:=rfl;have g1:(([47]:zB)==[45])=false:=rfl;have g2:(([47]:zB)==[43])=false:=rfl;have g3:(([47]:zB)==[42])=false:=rfl;have h1:(([37]:zB)==[45])=false:=rfl;have h2:(([37]:zB)==[43])=false:=rfl;have h3:(([37]:zB)==[42])=false:=rfl;have h4:(([37]:zB)==[47])=false:=rfl;refine za tf_89 ?_;rcases hs with rfl|rfl|rfl|rfl|rfl
 ·have w1:IntKind.i64.wrap (0-b.n)= -b.n:=wG;have w1':IntKind.i64.wrap (-b.n)= -b.n:=by rw[wrap64 (by omega) (by omega)]
  have w2:IntKind.i64.wrap (a.n+ -b.n)=a.n+ -b.n:=wrap64 (by omega) (by omega);have HN:=z0W g (a.n+ -b.n);rw[show opV [45] a b=z0p (a.n+ -b.n) from rfl];generalize z0p (a.n+ -b.n)=r at*;unfold nv at*;simp only[vW,seval,q1,w1,w1',w2];exact zf HN
 ·have w2:IntKind.i64.wrap (a.n+b.n)=a.n+b.n:=wrap64 (by omega) (by omega);have HN:=z0W g (a.n+b.n);rw[show opV [43] a b=z0p (a.n+b.n) from rfl];generalize z0p (a.n+b.n)=r at*;unfold nv at*;simp only[vW,seval,q1,q2,e1,w2];exact zf HN
 ·have HP:=zjE g a.n b.n ha hb;have HN:=z0W g (z9U a.n b.n);rw[show opV [42] a b=z0p (z9U a.n b.n) from rfl];generalize z0p (z9U a.n b.n)=r at*;unfold nv at*;simp only[vW,seval,q1,q2,q3,f1,f2];refine z7 HP ?_;exact zf HN
 ·have HP:=zaq g [47] a.n b.n ha (.inl rfl);have HN:=z0W g (z5O [47] a.n b.n);rw[show opV [47] a b=z0p (z5O [47] a.n b.n) from rfl];generalize z0p (z5O [47] a.n b.n)=r at*;unfold nv at*;simp only[vW,seval,q1,q2,q3,q4,g1,g2,g3];refine z7 HP ?_;exact zf HN
 ·have HP:=zaq g [37] a.n b.n ha (.inr rfl);have HN:=z0W g (z5O [37] a.n b.n);rw[show opV [37] a b=z0p (z5O [37] a.n b.n) from rfl];generalize z0p (z5O [37] a.n b.n)=r at*;unfold nv at*;simp only[vW,seval,q1,q2,q3,q4,q5,h1,h2,h3,h4];refine z7 HP ?_;exact zf HN
theorem zod(g:Sh.Glob)(ha:z2J a.s)(hb:z2J b.s):zC g 204 [S (str [38]),tv a,tv b] [] (nv (opV [38] a b)) []:=by
 have q1:=bS [45];have q2:=bS [43];have q3:=bS [42];have q4:=bS [47];have q5:=bS [37];have q6:=bS [38];have h1:(([38]:zB)==[45])=false:=rfl;have h2:(([38]:zB)==[43])=false:=rfl;have h3:(([38]:zB)==[42])=false:=rfl;have h4:(([38]:zB)==[47])=false:=rfl;have h5:(([38]:zB)==[37])=false:=rfl;have la:a.s.length≤60:=ha;have lb:b.s.length≤60:=hb;have HT:=z5a g (a.s++b.s) (by rw[List.length_append];omega);rw[show opV [38] a b=z22 (a.s++b.s) from rfl];generalize z22 (a.s++b.s)=r at*;unfold nv at*;refine za tf_89 ?_;simp only[vW,seval,q1,q2,q3,q4,q5,q6,h1,h2,h3,h4,h5];refine⟨by omega,?_⟩;exact zf HT
theorem zoc(g:Sh.Glob)(s:zB)(ha:VSmall a)(hs:s=[61]∨s=[60,62]∨s=[60]∨s=[60,61]∨s=[62]∨s=[62,61]):zC g 204 [S (str s),tv a,tv b] [] (nv (opV s a b)) []:=by
 have q1:=bS [45];have q2:=bS [43];have q3:=bS [42];have q4:=bS [47];have q5:=bS [37];have q6:=bS [38];have h1:(s==[45])=false:=by rcases hs with rfl|rfl|rfl|rfl|rfl|rfl<;>rfl
 have h2:(s==[43])=false:=by rcases hs with rfl|rfl|rfl|rfl|rfl|rfl<;>rfl
 have h3:(s==[42])=false:=by rcases hs with rfl|rfl|rfl|rfl|rfl|rfl<;>rfl
 have h4:(s==[47])=false:=by rcases hs with rfl|rfl|rfl|rfl|rfl|rfl<;>rfl
 have h5:(s==[37])=false:=by rcases hs with rfl|rfl|rfl|rfl|rfl|rfl<;>rfl
 have h6:(s==[38])=false:=by rcases hs with rfl|rfl|rfl|rfl|rfl|rfl<;>rfl
 have HC:=ziH g a b ha;have HH:=znN g s (cmpV a b) hs;have N1:=z0W g 1;have N0:=z0W g 0;have hop:opV s a b=if z3Q s (cmpV a b)then z0p 1 else z0p 0:=by rcases hs with rfl|rfl|rfl|rfl|rfl|rfl<;>rfl
 rw[hop];unfold B at HH;refine za tf_89 ?_;cases hh:z3Q s (cmpV a b)
 ·rw[hh]at HH;simp only[Bool.false_eq_true,if_false];generalize z0p 0=r at*;generalize z0p 1=r' at*;unfold nv at*;simp only[vW,seval,q1,q2,q3,q4,q5,q6,h1,h2,h3,h4,h5,h6];refine z7 HC ?_;refine z8 HH ?_;exact zf N0
 ·rw[hh]at HH;simp only[if_true];generalize z0p 0=r at*;generalize z0p 1=r' at*;unfold nv at*;simp only[vW,seval,q1,q2,q3,q4,q5,q6,h1,h2,h3,h4,h5,h6];refine z7 HC ?_;refine z8 HH ?_;exact zf N1
end
theorem zpW(g:Sh.Glob):∀(n:Nat) (x:V),SizeOf.sizeOf x≤n→VFew x→zC g 203 [tv x] [] (tv x) []:=by
 intro n
 induction n with
 |zero=>intro x hx;cases x;simp at hx
 |succ n ih=>
  intro x hx hs;have hl:=hs.len;have hK:∀y∈x.l,zC g 203 [tv y] [] (tv y) []:=fun y hy=>by
   refine ih y ?_ (hs.sub hy);have:=V.size_lt hy x.k x.n x.s;rw[V.eta]at this;omega
  refine za4 tf_86 ?_;refine zk (σ:={i:Nat // i≤x.l.length}) (fun i=>⟨[(1,.ptr 1 0),(2,.ptr 2 0),(3,.own 3000 4 (V.rows (x.l.take i.1))),(7,.pv (.sl 4 (V.rows x.l))),(8,I (x.l.length:Int)),(9,I (i.1:Int))],[(1,[I x.k,I x.n,S (str x.s),.pv (.sl 4 (V.rows x.l))]),(2,[I 0,I 0,S ⟨#[]⟩,.pv (.v (.slice none 0 0))])],[(3000,(76,4,i.1))],[]⟩) (fun i=>x.l.length-i.1) ⟨0,Nat.zero_le _⟩ ?_ ?_
  ·refine ES.Lw.trans ?_ (z8p (k:=3) (d:=3000) (e:=76) (W:=4) (.inr (by decide)) rfl);exact z18 rfl
  rintro⟨i,hi⟩;by_cases hlt:i<x.l.length
  ·have d1:(i:Int)<(x.l.length:Int):=by omega
   obtain⟨y,ey⟩:∃y,x.l[i]?=some y:=⟨_,gE hlt⟩
   have HF:=hK y (gM ey);have w1:=wS i;have ht:(V.rows (x.l.take i)).length=i:=by rw[z1u,List.length_take];omega
   have hsn:V.rows (x.l.take i)++[V.row y]=V.rows (x.l.take (i+1)):=by
    rw[z1e,z1e,List.take_add_one,ey];simp
   rw[z2l]at hsn;simp only[vW,seval,d1,ey];left;unfold tv at HF;refine z7 HF ?_;simp only[vW,seval,ht,w1,hsn];refine⟨⟨by omega,by unfold maxLen;omega⟩,zc ⟨i+1,hlt⟩ (by show x.l.length-(i+1)<x.l.length-i;omega) ?_⟩;exact lwA
  ·have d1:¬(i:Int)<(x.l.length:Int):=by omega
   obtain rfl:i=x.l.length:=by omega
   simp only[vW,seval,d1,List.take_length]
theorem znD(g:Sh.Glob)(x:V)(hx:VFew x):zC g 203 [tv x] [] (tv x) []:=zpW g _ x (Nat.le_refl _) hx
end
end Go.Proofs.YtpmlapgbmgbilaaGreatDoor
end
