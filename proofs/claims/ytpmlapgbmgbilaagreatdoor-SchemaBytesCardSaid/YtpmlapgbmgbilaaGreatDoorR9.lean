/- Merged texts: S13 S13p. No statement of the program is proved here. -/
import Derived.Test.YtpmlapgbmgbilaaGreatDoorR8
set_option linter.unusedSimpArgs false
set_option linter.unusedVariables false
set_option maxRecDepth 100000
set_option maxHeartbeats 8000000
section
namespace Go.Sh
open Go Go.RowKit
section
section
variable{P:Program}{C C':z0m}{s s':FS}
def isK:Option Nat→Nat→Bool
 |some k,d=>Nat.beq k d
 |none,_=>false
theorem zlo{x:Option Nat}{d:Nat}(h:isK x d=true):x=some d:=by
 cases x with
 |none=>cases h
 |some k=>rw[Nat.eq_of_beq_eq_true h]
def footOk(o:SOper)(s:FS):Bool:=match o.fp with
 |none=>true
 |some d=>isK (o.op.foot s) d
def effF(P:Program)(C:z0m)(o:SOper)(s:FS):Option (TV×Upd):=match footOk o s with|true=>eff P C o.dst o.op s|false=>none
theorem z4U{o:SOper}{e:TV×Upd}(h:effF P C o s=some e):eff P C o.dst o.op s=some e∧∀d,o.fp=some d→o.op.foot s=some d:=by
 grind [effF,footOk,zlo]
def effG(P:Program)(C:z0m)(o:SOper)(s:FS):Option (TV×Upd):=
 match o.guard with
 |some (g,want)=>match s.t g with
  |some (.pv (.v (.bool b)))=>if b==want then effF P C o s else some (.pv (.v undef),.no)
  |some (.pv (.v _))=>some (.pv (.v undef),.no)
  |_=>none
 |none=>effF P C o s
def FS.after(s:FS)(o:SOper)(e:TV×Upd):FS:=(s.upd o.dst e.2).put o.dst e.1
def step(P:Program)(C:z0m)(o:SOper)(s:FS):Option FS:=(effG P C o s).map (s.after o)
def SOper.news(o:SOper):List Nat:=o.op.news o.dst
def zcs:Option Nat→Option Nat→Bool
 |some a,some b=> !Nat.beq a b
 |_,_=>false
def z9L(o p:SOper):Bool:=(zcs o.fp p.fp||(!(o.op.wb&&p.op.rb)&& !(p.op.wb&&o.op.rb)))&& !(o.op.wr&&p.op.wr)&& !(o.op.wi&&p.op.wi)
def z2A(o p:SOper):Bool:=
 (match o.dst with|some d=> !p.reads.contains d&&p.dst !=some d|none=>true)&&(match p.dst with|some d=> !o.reads.contains d&&o.dst !=some d|none=>true)&&z9L o p
theorem zix{o p:SOper}(h:z2A o p=true):z2A p o=true:=by
 unfold z2A z9L at*;simp only[Bool.and_eq_true,Bool.or_eq_true]at h ⊢;obtain⟨⟨h1,h2⟩,⟨h3,h5⟩,h6⟩:=h;refine⟨⟨h2,h1⟩,⟨?_,?_⟩,?_⟩
 ·rcases h3 with h3|⟨h3,h4⟩
  ·left;cases ho:o.fp with
   |none=>rw[ho]at h3;cases h3
   |some a=>
    cases hp:p.fp<;>grind [only,zcs,Bool.not_eq_true',Nat.beq,Nat.eq_of_beq_eq_true,Nat.beq_refl]
  ·grind
 ·grind
 ·grind
theorem zay{a b:Option Nat}(h:zcs a b=true):∃x y,a=some x∧b=some y∧x≠y:=by
 cases a with
 |none=>cases h
 |some x=>
  cases b<;>grind [only,zcs,Bool.not_eq_true',Nat.beq_refl]
def z3N(o:SOper)(s:FS):Prop:=∀d∈o.news,z0y s d
theorem z7B{o:SOper}{e:TV×Upd}(h:effG P C o s=some e):e=(.pv (.v undef),.no)∨effF P C o s=some e:=by
 grind [effG]
theorem z3w{o:SOper}{e:TV×Upd}(h:effG P C o s=some e):Shape s o.dst o.op e.1 e.2:=by
 rcases z7B h with rfl|h
 ·exact .no (fun d hd=>by cases hd)
 ·exact zkV (x:=e.1) (u:=e.2) (z4U h).1
theorem zhI(I:List Nat)(k:Nat):isK (only I) k=true ↔ I=[k]:=by
 match I with
 |[]=>simp[only,isK]
 |[d]=>exact⟨fun h=>by rw[Nat.eq_of_beq_eq_true h],fun h=>by cases h;exact Nat.beq_refl k⟩
 |_::_::_=>simp[only,isK]
theorem zfd{o:SOper}(h:∀k∈o.op.reads,s'.t k=s.t k)(hb:o.op.rb=true→∀d,s.ment d→(∀k,o.fp=some k→d=k)→s'.b d=s.b d)(hb2:o.op.rb=true→∀d,s.ment d→(s'.b d=none ↔ s.b d=none))(hr:o.op.wr=true→∀d,s.ment d→s'.r d=s.r d):footOk o s'=footOk o s:=by
 unfold footOk;cases hfp:o.fp with
 |none=>rfl
 |some k=>
  cases hop:o.op with
  |ld a n x=>rw[hop]at h;simp only[SOp.foot,z08 (x:=x) h]
  |st n x y=>grind [only,SOp.reads,SOp.foot,z08]
  |call f m xs=>
   rw[hop]at h hb hb2 hr;simp only[SOp.foot,z3B (xs:=xs) h];cases hx:seqO (fun x:Arg=>x.get s) xs with
   |none=>rfl
   |some args=>
    simp only;rw[Bool.eq_iff_iff,zhI,zhI];cases h0:Nat.beq m 0 with
    |true=>simp[handI,h0]
    |false=>
     have hrb:(SOp.call f m xs).rb=true:=by simp[SOp.rb,h0]
     have hwr:(SOp.call f m xs).wr=true:=by simp[SOp.wr,h0]
     have hids:∀d∈args.flatMap TV.ids2,s.ment d:=fun d hd=>by
      grind [z6i,z8F]
     have key:((∀d∈handI s m args,d∈[k])∨(∀d∈handI s' m args,d∈[k]))→handI s' m args=handI s m args:=by
      intro hk;simp only[handI,h0,Bool.false_eq_true,if_false]at hk ⊢;exact z31 (R:=[k]) (fun d hd hdk=>hb hrb d hd (fun k' hk'=>by rw[hfp]at hk';cases hk';simpa using hdk)) (hb2 hrb) (hr hwr) 64 _ [] hids hk
     grind
  |_=>rfl
theorem ziR{o:SOper}(h:∀k∈o.reads,s'.t k=s.t k)(hb:o.op.rb=true→∀d,s.ment d→(∀k,o.fp=some k→d=k)→s'.b d=s.b d)(hb2:o.op.rb=true→∀d,s.ment d→(s'.b d=none ↔ s.b d=none))(hr:o.op.wr=true→∀d,s.ment d→s'.r d=s.r d)(hi:o.op.wi=true→∀d,s.ment d→s'.i d=s.i d):effG P C o s'=effG P C o s:=by
 have hrd:∀k∈o.op.reads,s'.t k=s.t k:=fun k hk=>h k (by simp[SOper.reads,hk]);have hft:footOk o s'=footOk o s:=zfd hrd hb hb2 hr;have he:effF P C o s'=effF P C o s:=by
  grind [effF,footOk,zkU,zlo]
 grind [effG,only,SOper.reads]
theorem ziQ{o p:SOper}(hap:z2A o p=true)(hf:z3N o s){e:TV×Upd}(he:effG P C o s=some e):effG P C' p (s.after o e)=effG P C' p s:=by
 unfold z2A z9L at hap;simp only[Bool.and_eq_true,Bool.not_eq_true',Bool.or_eq_true]at hap;obtain⟨⟨h1,h2⟩,⟨h34,h5⟩,h6⟩:=hap;have hS:=z3w he;have hfo:∀d cs,ovB o.dst e.2 d=some cs→d∈o.op.news o.dst∨(o.op.wb=true∧(∀k,o.fp=some k→d=k)∧∃c0,s.b d=some c0):=by
  intro d cs hd;rcases z7B he with rfl|he'
  ·cases hd
  ·rcases hS.b d cs hd with h|⟨h,_,h',h''⟩
   ·grind
   ·exact .inr ⟨h,fun k hk=>h' k ((z4U he').2 k hk),h''⟩
 have hne:∀d,s.ment d→d∉o.op.news o.dst:=fun d hd hn=>(hf d hn).1 hd;refine ziR (fun k hk=> ?_) (fun hb d hd hdk=> ?_) (fun hb d hd=> ?_) (fun hr d hd=> ?_) (fun hi d hd=> ?_)
 ·grind [FS.after,zex,za9]
 ·unfold FS.after;rw[z9W,z6L]
  grind [ovB,zay]
 ·unfold FS.after;rw[z9W,z6L]
  grind
 ·unfold FS.after;rw[zew,za8];cases ho:ovR e.2 d with
  |none=>rfl
  |some cs=>
   rcases hS.r d cs ho with h|⟨h,_⟩<;>grind
 ·unfold FS.after;rw[zev,za7];cases ho:ovI e.2 d with
  |none=>rfl
  |some cs=>
   rcases hS.i d cs ho with h|⟨h,_⟩<;>grind
theorem FS.ext'{a b:FS}(h1:∀k,a.t k=b.t k)(h2:∀k,a.b k=b.b k)(h3:∀k,a.r k=b.r k)(h4:∀k,a.i k=b.i k):a=b:=by
 cases a;cases b;simp only[FS.mk.injEq]
 grind
def z6V(a b:SOper):Bool:=a.news.all fun d=> !b.news.contains d
theorem z8P{a b:SOper}(h:z6V a b=true){d:Nat}(h1:d∈a.news)(h2:d∈b.news):False:=by
 have:=List.all_eq_true.1 h d h1
 grind
theorem ziu{o p:SOper}(hap:z2A o p=true)(hmk:z6V o p=true)(hfo:z3N o s)(hfp:z3N p s){e f:TV×Upd}(he:effG P C o s=some e)(hf:effG P C' p s=some f):(s.after o e).after p f=(s.after p f).after o e:=by
 unfold z2A z9L at hap;simp only[Bool.and_eq_true,Bool.not_eq_true',Bool.or_eq_true]at hap;obtain⟨⟨h1,h2⟩,⟨h34,h5⟩,h6⟩:=hap;have hdd:∀k,o.dst=some k→p.dst≠some k:=by
  grind
 have hSo:=z3w he;have hSp:=z3w hf;have clash:∀{d:Nat} {A Bo:Bool},(d∈o.op.news o.dst∨(A=true∧s.ment d))→(d∈p.op.news p.dst∨(Bo=true∧s.ment d))→(A&&Bo)=false→False:=by
  intro d A Bo q1 q2 hq;rcases q1 with q1|⟨q1,q1'⟩<;>rcases q2 with q2|⟨q2,q2'⟩
  ·exact z8P hmk q1 q2
  ·exact(hfo d q1).1 q2'
  ·exact(hfp d q2).1 q1'
  ·grind
 refine FS.ext' (fun k=> ?_) (fun k=> ?_) (fun k=> ?_) (fun k=> ?_)
 ·unfold FS.after;simp only[zex,za9]
  grind
 ·unfold FS.after;simp only[z9W,z6L];cases q1:ovB o.dst e.2 k with
  |none=>rfl
  |some x=>
   cases q2:ovB p.dst f.2 k with
   |none=>rfl
   |some y=>
    exfalso;rcases h34 with hu|⟨h3,_⟩
    ·obtain⟨x',y',e1,e2,e3⟩:=zay hu;have k1:∀(o:SOper) (C:z0m) (e:TV×Upd),effG P C o s=some e→∀cs,ovB o.dst e.2 k=some cs→∀z,o.fp=some z→k∈o.op.news o.dst∨(k=z∧s.ment k):=by
      intro o C e he cs hd z hz;rcases z7B he with rfl|he'
      ·cases hd
      ·rcases(z3w he).b k cs hd with h|⟨_,h0,h',_⟩
       ·grind
       ·exact .inr ⟨h' z ((z4U he').2 z hz),h0⟩
     rcases k1 o C e he _ q1 x' e1 with a1|a1
     ·rcases k1 p C' f hf _ q2 y' e2 with a2|a2
      ·simp_all
      ·exact(hfo k a1).1 a2.2
     ·rcases k1 p C' f hf _ q2 y' e2 with a2|a2
      ·exact(hfp k a2).1 a1.2
      ·omega
    ·refine clash ((hSo.b k _ q1).imp id (fun h=>⟨h.1,h.2.1⟩)) ((hSp.b k _ q2).imp id (fun h=>⟨h.1,h.2.1⟩)) ?_
     grind [ztb]
 ·unfold FS.after;simp only[zew,za8];cases q1:ovR e.2 k with
  |none=>rfl
  |some x=>
   cases q2:ovR f.2 k with
   |none=>rfl
   |some y=>exact(clash (hSo.r k _ q1) (hSp.r k _ q2) h5).elim
 ·unfold FS.after;simp only[zev,za7];cases q1:ovI e.2 k with
  |none=>rfl
  |some x=>
   cases q2:ovI f.2 k with
   |none=>rfl
   |some y=>exact(clash (hSo.i k _ q1) (hSp.i k _ q2) h6).elim
theorem zmp{o p:SOper}(hap:z2A o p=true)(hmk:z6V o p=true)(hfo:z3N o s)(hfp:z3N p s){s1 s2:FS}(h1:step P C o s=some s1)(h2:step P C' p s1=some s2):∃s1',step P C' p s=some s1'∧step P C o s1'=some s2:=by
 grind [Option.map_eq_some_iff,ziQ,step,zix,ziu]
theorem zgS{o p:SOper}(hf:z3N p s)(hmk:z6V o p=true){s1:FS}(h:step P C o s=some s1):z3N p s1:=by
 obtain⟨e,he,rfl⟩:=gO h;have hS:=z3w he;intro d hd;obtain⟨f1,f2,f3,f4⟩:=hf d hd;have hno:d∉o.op.news o.dst:=fun h=>z8P hmk h hd;have hm:∀{A:Prop},(s.ment d∨d∈o.op.news o.dst)→A:=fun h=>h.elim (fun h=>absurd h f1) (fun h=>absurd h hno);refine⟨?_,?_,?_,?_⟩
 ·rintro(⟨k,y,hk,hy⟩|⟨k,cs,c,hk,hc,hy⟩)
  ·unfold FS.after at hk;rw[zex,za9]at hk;split at hk
   ·cases hk;exact hm (hS.x d hy)
   ·exact f1 (.inl ⟨k,y,hk,hy⟩)
  ·unfold FS.after at hk;rw[z9W,z6L]at hk;cases ho:ovB o.dst e.2 k with
   |none=>rw[ho]at hk;exact f1 (.inr ⟨k,cs,c,hk,hc,hy⟩)
   |some x=>rw[ho]at hk;cases hk;exact hm (hS.m d k cs c ho hc hy)
 ·unfold FS.after;rw[z9W,z6L];cases ho:ovB o.dst e.2 d with
  |none=>exact f2
  |some x=>exact hm ((hS.b d x ho).elim .inr (fun h=> .inl h.2.1))
 ·unfold FS.after;rw[zew,za8];cases ho:ovR e.2 d with
  |none=>exact f3
  |some x=>exact hm ((hS.r d x ho).elim .inr (fun h=> .inl h.2))
 ·unfold FS.after;rw[zev,za7];cases ho:ovI e.2 d with
  |none=>exact f4
  |some x=>exact hm ((hS.i d x ho).elim .inr (fun h=> .inl h.2))
end
def zel(N:Nat):Option Nat→Bool
 |some d=>Nat.blt d N
 |none=>true
def z3L(ops:Array Oper):Option (Nat×Bool)→Option (Option (Nat×Bool))
 |none=>some none
 |some (j,want)=>match(ops[j]?).bind (·.dst)with
  |some d=>some (some (d,want))
  |none=>none
def z1o(P:Program)(N:Nat)(H:Option Nat→Nat)(fp:Option Nat)(ops:Array Oper)(o:Oper):Option SOper:=
 match z3L ops o.guard,zbf P o (H o.dst)with
 |some g,some op=>if zel N o.dst then some ⟨o.dst,g,fp,op⟩ else none
 |_,_=>none
def zbC(ops:Array Oper)(a i:Nat):Bool:=match ops[i]? with
 |some o=>o.after.any fun e=>Region.binds .any e&&Nat.beq e.on a
 |none=>false
def z6n(ops:Array Oper):Nat→Nat→Nat→Bool
 |0,a,i=>zbC ops a i
 |f+1,a,i=>zbC ops a i||(match ops[i]? with
  |some o=>o.after.any fun e=>Region.binds .any e&&z6n ops f a e.on
  |none=>false)
def zbV(ops:Array Oper)(draw:Bool)(sops:List SOper)(i j:Nat):Bool:=
 match sops[i]?,sops[j]? with
 |some a,some b=>z6V a b&&(!draw||z2A a b||z6n ops 4 i j)
 |_,_=>false
def z34(ops:Array Oper)(draw:Bool)(sops:List SOper):Bool:=
 ((List.range sops.length).all fun j=>(List.range j).all fun i=>zbV ops draw sops i j)&&
 (!draw||(List.range sops.length).all fun i=>match ops[i]? with|some o=>o.after.all fun e=> !Region.binds .any e||Nat.blt e.on i|none=>true)
def z4e(P:Program)(N:Nat)(H:Option Nat→Nat)(fps:Nat→Option Nat)(ops:Array Oper):Nat→List Oper→Option (List SOper)
 |_,[]=>some []
 |j,o::l=>match z1o P N H (fps j) ops o,z4e P N H fps ops (j+1) l with
  |some x,some r=>some (x::r)
  |_,_=>none
theorem z1a{P:Program}{N:Nat}{H:Option Nat→Nat}{fps:Nat→Option Nat}{ops:Array Oper}:∀{l:List Oper} {j:Nat} {sops:List SOper},z4e P N H fps ops j l=some sops→l.length=sops.length∧∀(i:Nat) o,l[i]?=some o→∃so,sops[i]?=some so∧z1o P N H (fps (j+i)) ops o=some so
 |[],j,sops,h=>by simp[z4e]at h;subst h;simp
 |o::l,j,sops,h=>by
  simp only[z4e]at h;split at h
  ·rename_i x r h1 h2;cases h;obtain⟨a1,a2⟩:=z1a h2
   grind
  ·cases h
def z0i(P:Program)(N:Nat)(H:Option Nat→Nat)(fps:Nat→Option Nat)(ops:Array Oper)(draw:Bool):Option (List SOper):=
 match z4e P N H fps ops 0 ops.toList with
 |some sops=>if z34 ops draw sops then some sops else none
 |none=>none
section
variable{P:Program}{H:Option Nat→Nat}{ops:Array Oper}{B:Base}{C:z0m}{sops:List SOper}{g:Glob}
def z3O(P:Program)(g:Glob)(C:z0m):Prop:=∀f xs os y os',C f xs os=some (y,os')→SCalls P g f xs os y os'
def Stp(P:Program)(g:Glob)(o:SOper)(s s':FS):Prop:=∃C,z3O P g C∧step P C o s=some s'
theorem z58(hm0:B.m≤1000)(hN:B.N≤1000)(hG:g.G B.w0)(hX:∀d b,B.X d b→g.n≤b)(hC:z3O P g C){s s':FS}{a:Act}{w:World}{E:Env}(h:Sim B s a w E){i:Nat}{o:Oper}{so:SOper}{fp:Option Nat}(hi:ops[i]?=some o)(ht:z1o P B.N H fp ops o=some so)(hf:z3N so s)(hs:step P C so s=some s')
  {K:Act→World→Prop} {Q:Exit→Act→World→Prop} (hK:∀a' w' E',Sim B s' a' w' E'→K a' w'):wpOp P ops Q i K a w:=by
 unfold z1o at ht;split at ht<;>try(cases ht;done)
 rename_i gd op hg hop;split at ht<;>try(cases ht;done)
 rename_i hd;cases ht;have hdst:∀k,o.dst=some k→k<B.N:=by
  grind [only,zel,Nat.blt_eq]
 obtain⟨e,he,rfl⟩:=gO hs;have hdo:effF P C ⟨o.dst,gd,fp,op⟩ s=some e→o.wp P a w K Q:=fun he'=>by
  rcases z1w hop with hop|⟨rfl,_⟩
  ·exact zmm (C:=C) h hm0 hN hG hX hop hdst hf hC (x:=e.1) (u:=e.2) (z4U he').1 (fun v w' E' hS=>hK _ _ _ hS)
  ·cases(z4U he').1
 unfold wpOp;simp only[hi];unfold effG at he;cases hgo:o.guard with
 |none=>
  rw[hgo]at hg;simp only[z3L,Option.some.injEq]at hg;subst hg;simp only at he;rw[if_pos (by simp[Region.wanted,hgo])]
  grind
 |some jw=>
  obtain⟨j,want⟩:=jw;rw[hgo]at hg;simp only[z3L]at hg;split at hg<;>try(cases hg;done)
  rename_i d hjd;cases hg;simp only at he;have hskip:∀v,a.tmps[d]?=some v→(∀b,v=.bool b→(b==want)=false)→e=(.pv (.v undef),.no)→(if Region.wanted o (yielded ops a.tmps)=true then o.wp P a w K Q∨(o.asks P a w∧LetsOut Q)else K (a.put o.dst undef) w):=by
   intro v hv hb he';rw[if_neg]
   ·rw[he']at hK;exact hK _ _ E (h.put hdst (.pv (.v undef)))
   ·simp only[Region.wanted,hgo,yielded,hjd,Option.bind_some,hv]
    grind
  have hval:∀v,s.t d=some (.pv (.v v))→a.tmps[d]?=some v:=by
   intro v hv;obtain⟨h1,h2⟩:=h.tmp d _ hv;have h3:=val_rel (y:=v) h2 rfl;have hlt:d<a.tmps.size:=by rw[h.size];exact h1
   simp_all
  split at he
  ·rename_i b hb;have hv:=hval _ hb;split at he
   ·rename_i hbw;rw[if_pos]
    ·grind
    ·simp only[Region.wanted,hgo,yielded,hjd,Option.bind_some,hv]
     grind
   ·grind
  ·grind
  ·cases he
def z42(P:Program)(g:Glob)(sops:List SOper):List Nat→FS→FS→Prop
 |[],s,sf=>s=sf
 |i::l,s,sf=>∃o s1,sops[i]?=some o∧Stp P g o s s1∧z42 P g sops l s1 sf
def zir(sops:List SOper):Prop:=∀(i j:Nat) a b,i≠j→sops[i]?=some a→sops[j]?=some b→z6V a b=true
theorem zlB{a b:SOper}(h:z6V a b=true):z6V b a=true:=by
 grind [z6V,List.all_eq_true,z8P]
theorem z4Z{draw:Bool}(h:z34 ops draw sops=true):zir sops:=by
 unfold z34 at h;rw[Bool.and_eq_true]at h;have key:∀(i j:Nat) a b,i<j→sops[i]?=some a→sops[j]?=some b→z6V a b=true:=by
  intro i j a b hij ha hb;have hj:j<sops.length:=(gJ hb).1;have:=List.all_eq_true.1 (List.all_eq_true.1 h.1 j (by simpa using hj)) i (by simpa using hij)
  grind [zbV]
 intro i j a b hne ha hb
 grind [Nat.lt_or_gt_of_ne,zlB]
def z28(sops:List SOper)(l:List Nat)(s:FS):Prop:=∀i∈l,∀o,sops[i]?=some o→z3N o s
theorem z2w(hmk:zir sops){l:List Nat}{i:Nat}{o:SOper}{s s1:FS}(hi:sops[i]?=some o)(hl:i∉l)(hf:z28 sops l s)(hs:Stp P g o s s1):z28 sops l s1:=by
 intro j hj p hp;obtain⟨C,_,hs⟩:=hs;exact zgS (hf j hj p hp) (hmk i j o p (by rintro rfl;exact hl hj) hi hp) hs
theorem z89(hmk:zir sops){i:Nat}{o:SOper}(hi:sops[i]?=some o){Bl:List Nat}{sf:FS}:∀(A:List Nat) (s:FS),(A++i::Bl).Nodup→(∀a∈A,∀oa,sops[a]?=some oa→z2A oa o=true)→z28 sops (A++i::Bl) s→
  z42 P g sops (A++i::Bl) s sf→∃s1,Stp P g o s s1∧z42 P g sops (A++Bl) s1 sf
 |[],s,_,_,_,h=>by
  obtain⟨o',s1,h0,h1,h2⟩:=h
  grind
 |a::A,s,hnd,hap,hf,h=>by
  obtain⟨oa,sa,hoa,h1,h2⟩:=h;simp only[List.cons_append,List.nodup_cons]at hnd;have hfa:z28 sops (A++i::Bl) sa:=z2w hmk hoa hnd.1 (fun j hj=>hf j (List.mem_cons_of_mem _ hj)) h1;obtain⟨s1',h3,h4⟩:=z89 hmk hi A sa hnd.2 (fun b hb=>hap b (List.mem_cons_of_mem _ hb)) hfa h2;obtain⟨C1,c1,h1⟩:=h1;obtain⟨C2,c2,h3⟩:=h3;obtain⟨s1,h5,h6⟩:=zmp (hap a (List.mem_cons_self ..) oa hoa) (hmk a i oa o (by rintro rfl;exact hnd.1 (List.mem_append_right _ (List.mem_cons_self ..))) hoa hi) (hf a (List.mem_cons_self ..) oa hoa) (hf i (List.mem_cons_of_mem _ (List.mem_append_right _ (List.mem_cons_self ..))) o hi) h1 h3;exact⟨s1,⟨C2,c2,h5⟩,oa,s1',hoa,⟨C1,c1,h6⟩,h4⟩
def zcw(ops:Array Oper)(listed:Array Bool):Prop:=∀i o,ops[i]?=some o→listed.getD i true=true→∀e∈o.after,Region.binds .any e=true→listed.getD e.on false=true
theorem z4v{listed:Array Bool}(hcl:zcw ops listed)(hsz:listed.size=ops.size):∀(f a i:Nat),(∀o,ops[i]?=some o→∀e∈o.after,Region.binds .any e=true→listed.getD e.on false=true)→z6n ops f a i=true→listed.getD a false=true:=by
 have hdir:∀a i,(∀o,ops[i]?=some o→∀e∈o.after,Region.binds .any e=true→listed.getD e.on false=true)→zbC ops a i=true→listed.getD a false=true:=by
  intro a i h hd;unfold zbC at hd;split at hd
  ·rename_i o ho;obtain⟨e,he1,he2⟩:=Array.any_eq_true'.1 hd;rw[Bool.and_eq_true]at he2
   grind [Nat.eq_of_beq_eq_true]
  ·cases hd
 intro f
 induction f with
 |zero=>exact hdir
 |succ f ih=>
  intro a i h hr;simp only[z6n,Bool.or_eq_true]at hr;rcases hr with hr|hr
  ·grind
  ·split at hr
   ·rename_i o ho;obtain⟨e,he1,he2⟩:=Array.any_eq_true'.1 hr;rw[Bool.and_eq_true]at he2;have hl:=h o ho e he1 he2.1;refine ih a e.on (fun o' ho' e' he' hb'=>hcl e.on o' ho' ?_ e' he' hb') he2.2
    grind
   ·cases hr
def zy(n:Nat)(listed:Array Bool):List Nat:=(List.range n).filter fun i=> !listed.getD i true
theorem zd7(hm0:B.m≤1000)(hN:B.N≤1000)(hG:g.G B.w0)(hX:∀d b,B.X d b→g.n≤b){fps:Nat→Option Nat}(htr:z4e P B.N H fps ops 0 ops.toList=some sops)(hok:z34 ops true sops=true){sf:FS}{Q:Exit→Act→World→Prop}(hQ:∀a w E,Sim B sf a w E→Q .normal a w):
  ∀(fuel:Nat) (listed:Array Bool) (s:FS) (a:Act) (w:World) (E:Env),listed.size=ops.size→zcw ops listed→Sim B s a w E→z28 sops (zy ops.size listed) s→z42 P g sops (zy ops.size listed) s sf→(zy ops.size listed).length≤fuel→
   wpAny P .any ops Q fuel listed a w:=by
 obtain⟨hlen,hspec⟩:=z1a htr;have hlen':ops.size=sops.length:=by simpa using hlen
 have hmk:=z4Z hok;have hback:∀(i:Nat) o,ops[i]?=some o→∀e∈o.after,Region.binds .any e=true→e.on<i:=by
  intro i o hi e he hb;unfold z34 at hok;rw[Bool.and_eq_true]at hok;have hil:i<sops.length:=by rw[←hlen'];exact(gA hi).1
  have h2:=hok.2;simp only[Bool.not_true,Bool.false_or]at h2;have:=List.all_eq_true.1 h2 i (by simpa using hil);rw[hi]at this;have:=Array.all_eq_true_iff_forall_mem.1 this e he;simp only[hb,Bool.not_true,Bool.false_or]at this;rw[Nat.blt_eq]at this;exact this
 have hrest:∀(listed:Array Bool) i,i∈zy ops.size listed ↔ i<ops.size∧listed.getD i true=false:=by
  intro listed i;simp[zy]
 have hready:∀(listed:Array Bool) i,i∈Region.ready .any ops listed ↔ i∈zy ops.size listed∧∀o,ops[i]?=some o→∀e∈o.after,Region.binds .any e=true→listed.getD e.on false=true:=by
  intro listed i;rw[hrest];unfold Region.ready;simp only[List.mem_filter,List.mem_range,Bool.and_eq_true,Bool.not_eq_true'];constructor
  ·rintro⟨h1,h2,h3⟩;refine⟨⟨h1,h2⟩,fun o ho e he hb=> ?_⟩;rw[ho]at h3;simp only[Option.map_some,Option.getD_some]at h3;have:=Array.all_eq_true_iff_forall_mem.1 h3 e he;simpa [hb]using this
  ·rintro⟨⟨h1,h2⟩,h3⟩;refine⟨h1,h2,?_⟩;obtain⟨o,ho⟩:∃o,ops[i]?=some o:=⟨_,Array.getElem?_eq_getElem h1⟩
   rw[ho];simp only[Option.map_some,Option.getD_some];refine Array.all_eq_true_iff_forall_mem.2 fun e he=> ?_;cases hb:Region.binds .any e
   ·rfl
   ·simp[h3 o ho e he hb]
 have hnil:∀(listed:Array Bool),listed.size=ops.size→Region.ready .any ops listed=[]→zy ops.size listed=[]:=by
  intro listed hsz hr;cases hrl:zy ops.size listed with
  |nil=>rfl
  |cons i l=>
   exfalso;have hi:i∈zy ops.size listed:=by rw[hrl];exact List.mem_cons_self ..
   have hmin:∀j,j<i→j∉zy ops.size listed:=by
    intro j hj hjm;have hp:(zy ops.size listed).Pairwise (·<·):=List.Pairwise.filter _ List.pairwise_lt_range;rw[hrl]at hp hjm;rcases List.mem_cons.1 hjm with rfl|hjm
    ·omega
    ·have:=(List.pairwise_cons.1 hp).1 j hjm;omega
   have:i∈Region.ready .any ops listed:=by
    rw[hready];refine⟨hi,fun o ho e he hb=> ?_⟩;have hlt:=hback i o ho e he hb;have hil:=((hrest listed i).1 hi).1;have hnm:=hmin e.on hlt;rw[hrest]at hnm;have hel:e.on<listed.size:=by omega
    have:listed.getD e.on true≠false:=fun h=>hnm ⟨by omega,h⟩;simpa [Array.getD,hel]using this
   rw[hr]at this;cases this
 intro fuel
 induction fuel with
 |zero=>
  intro listed s a w E hsz hcl hS hf hrun hle;have hr0:zy ops.size listed=[]:=List.eq_nil_of_length_eq_zero (by omega);rw[hr0]at hrun;have hrun:s=sf:=hrun;subst hrun;refine⟨?_,hQ a w E hS⟩;cases hrd:Region.ready .any ops listed with
  |nil=>rfl
  |cons i l=>
   have:=((hready listed i).1 (by rw[hrd];exact List.mem_cons_self ..)).1;rw[hr0]at this;cases this
 |succ fuel ih=>
  intro listed s a w E hsz hcl hS hf hrun hle;refine⟨fun hr=> ?_,fun i hi=> ?_⟩
  ·have hr0:=hnil listed hsz hr;rw[hr0]at hrun;have hrun:s=sf:=hrun;subst hrun;exact hQ a w E hS
  ·obtain⟨hir,hipre⟩:=(hready listed i).1 hi;obtain⟨hin,hil⟩:=(hrest listed i).1 hir;obtain⟨o,ho⟩:∃o,ops[i]?=some o:=⟨_,Array.getElem?_eq_getElem hin⟩
   obtain⟨so,hso,hto⟩:=hspec i o (by simpa using ho);obtain⟨A,Bl,hAB⟩:=List.append_of_mem hir;have hp:(zy ops.size listed).Pairwise (·<·):=List.Pairwise.filter _ List.pairwise_lt_range;have hnd:(zy ops.size listed).Nodup:=hp.imp (fun h=>Nat.ne_of_lt h);rw[hAB]at hp hnd hf hrun;have hA:∀j∈A,j<i:=fun j hj=>(List.pairwise_append.1 hp).2.2 j hj i (List.mem_cons_self ..);obtain⟨s1,hs1,hrun1⟩:=z89 hmk hso A s hnd (fun j hj oa hoa=>by
    have hji:=hA j hj;have hjr:j∈zy ops.size listed:=by rw[hAB];exact List.mem_append_left _ hj
    have hjl:=((hrest listed j).1 hjr)
    unfold z34 at hok;rw[Bool.and_eq_true]at hok;have:=List.all_eq_true.1 (List.all_eq_true.1 hok.1 i (by simp;omega)) j (by simpa using hji);unfold zbV at this;rw[hoa,hso]at this;simp only[Bool.and_eq_true,Bool.not_true,Bool.false_or,Bool.or_eq_true]at this;rcases this.2 with h1|h1
    ·exact h1
    ·have:=z4v hcl hsz 4 j i hipre h1;have hlt:j<listed.size:=by omega
     have h2:=hjl.2;simp[Array.getD,hlt]at this h2;rw[this]at h2;cases h2) hf hrun
   obtain⟨C1,hC1,hst1⟩:=hs1;have hs1:Stp P g so s s1:=⟨C1,hC1,hst1⟩
   refine z58 hm0 hN hG hX hC1 hS ho hto (hf i (List.mem_append_right _ (List.mem_cons_self ..)) so hso) hst1 (fun a' w' E' hS'=> ?_);have hiAB:i∉A++Bl:=by
    have:=List.nodup_append.1 hnd;intro hm;rcases List.mem_append.1 hm with h1|h1
    ·exact this.2.2 i h1 i (List.mem_cons_self ..) rfl
    ·exact(List.nodup_cons.1 this.2.1).1 h1
   have hilt:i<listed.size:=by omega
   have hrest':zy ops.size (listed.setIfInBounds i true)=A++Bl:=by
    have h1:zy ops.size (listed.setIfInBounds i true)=(zy ops.size listed).filter (fun j=>j !=i):=by
     unfold zy;rw[List.filter_filter];apply List.filter_congr;intro j hj;have hjn:j<ops.size:=by simpa using hj
     have hjl:j<listed.size:=by omega
     by_cases hji:j=i
     ·subst hji;simp[Array.getD,hjl]
     ·simp[Array.getD,hjl,hji,Array.getElem_setIfInBounds,Ne.symm hji]
    rw[h1,hAB,List.filter_append,List.filter_cons];simp only[bne_self_eq_false,Bool.false_eq_true,if_false];rw[List.filter_eq_self.2,List.filter_eq_self.2]
    ·intro j hj;simp;rintro rfl;exact hiAB (List.mem_append_right _ hj)
    ·intro j hj;simp;rintro rfl;exact hiAB (List.mem_append_left _ hj)
   refine ih (listed.setIfInBounds i true) s1 a' w' E' (by simpa using hsz) ?_ hS' ?_ (by rw[hrest'];exact hrun1) ?_
   ·intro j oj hj hjl e he hb;have hset:∀k,listed.getD k false=true→(listed.setIfInBounds i true).getD k false=true:=by
     intro k hk;have hkl:k<listed.size:=by
      rcases Nat.lt_or_ge k listed.size with h1|h1
      ·exact h1
      ·simp[Array.getD,Nat.not_lt.2 h1]at hk
     by_cases hki:i=k
     ·subst hki;simp[Array.getD,hkl]
     ·rw[Array.getD_eq_getD_getElem?,Array.getElem?_setIfInBounds_ne hki,←Array.getD_eq_getD_getElem?];exact hk
    by_cases hji:j=i
    ·subst hji;exact hset _ (hipre oj hj e he hb)
    ·refine hset _ (hcl j oj hj ?_ e he hb);have hjn:j<listed.size:=by rw[hsz];exact(gA hj).1
     simp[Array.getD,hjn,Array.getElem_setIfInBounds,Ne.symm hji]at hjl;simp[Array.getD,hjn,hjl]
   ·rw[hrest'];refine z2w hmk hso hiAB (fun j hj=>hf j ?_) hs1;rcases List.mem_append.1 hj with h1|h1
    ·exact List.mem_append_left _ h1
    ·exact List.mem_append_right _ (List.mem_cons_of_mem _ h1)
   ·rw[hrest'];rw[hAB]at hle;simp at hle ⊢;omega
end
end
section
def z8o(P:Program)(g:Glob)(f:Nat)(xs:List TV)(os:List MO)(z:Value)(os':List MO):Prop:=
 z4Y P f∧∀(w:World) (E:Env) (vs:List Value),g.G w→MSim (start w E os 0) (z0q os) (zA os) w E→(∀d b,z2j E os d b→g.n≤b)→xs.length=vs.length→
  (∀(j:Nat) x v,xs[j]?=some x→vs[j]?=some v→RelT w E (zA os) x v)→
  Calls P f vs.toArray w fun e w'=>∃E',e=.panicked [{ v:=z,recovered:=false }]∧MSim (start w E os 0) (z0q os') (zA os') w' E'∧Left E os E' os'
def zfO(P:Program)(g:Glob)(s:FS)(k f mode:Nat)(xs:List TV)(z:Value)(u:Upd):Prop:=
 ∃xs' os os' us,seqO (TV.ren2 (rhoIn (handI s mode xs))) xs=some xs'∧seqO (fun d=>(s.mo d).bind (MO.ren (rhoIn (handI s mode xs)))) (handI s mode xs)=some os∧z8o P g f xs' os z os'∧moOk os os'=true∧outs (rhoOut (handI s mode xs) k) 0 os'=some us∧u=.mem us
section
variable{B:Base}{s:FS}{a:Act}{w w':World}{E E':Env}{r:Rows}{P:Program}{C:z0m}{g:Glob}
theorem zoV(h:Sim B s a w E)(hG:g.G B.w0)(hX:∀d b,B.X d b→g.n≤b){o:Oper}{f mode:Nat}{xs:List TV}{vs:List Value}(hmx:∀x∈xs,∀d,Ment d x→s.ment d)(hl:xs.length=vs.length)(hxs:∀(j:Nat) x v,xs[j]?=some x→vs[j]?=some v→RelT w E s.r x v)
  (hop:z4Y P f→(execOp a.eval o).run P w=.ok (.enter f vs.toArray) w) (hm0:B.m≤1000) (hf:∀q<4,z0y s (newId (dstId o.dst) q))
  {z:Value} {u:Upd} (he:zfO P g s (dstId o.dst) f mode xs z u) {next:Act→World→Prop} {Q:Exit→Act→World→Prop}
  (hn:∀w' E',Sim B (s.upd o.dst u) a w' E'→Q (.panic [{ v:=z,recovered:=false }]) a w'):o.wp P a w next Q:=by
 obtain⟨xs',os,os',us,h1,h2,⟨hbody,hcall⟩,h4,h6,rfl⟩:=he;obtain⟨hI,_⟩:=z7K mode hmx;have hn0:=g.le _ hG;have hw0:=h.mem.low.size;have hGw:g.G w:=g.st _ _ hG (fun k hk=>h.mem.low.block k (by omega) (fun d hd=>by have:=hX d k hd;omega));have hrho:RenOk E s.r (rhoIn (handI s mode xs)) (zw E (handI s mode xs)) (zA os):=za1 h2;obtain⟨l1,q1⟩:=zb9 (w:=w) (fun _ _ _=>z56 hrho (fun _ _ _ h _=>h)) hl hxs h1;have hblk:∀d b,z2j (zw E (handI s mode xs)) os d b→g.n≤b:=by
  intro d b hx;obtain⟨hlen,hB,hR⟩:=z4E h2;rcases hx with⟨cs,e1,e2⟩|⟨⟨e,W,n⟩,cap,e1,e2⟩
  ·obtain⟨j,rfl,hj⟩:=z2x e1;obtain⟨i,c,b1,b2,_⟩:=hB j cs hj;have e3:E.β i=b:=by grind [only,zw,getD_of]
   rcases(h.mem.box i c b2).2 with e4|e4<;>grind
  ·obtain⟨j,rfl,hj⟩:=z0V e1;obtain⟨i,b1,b2,b3⟩:=hR j e W n hj;have e3:E.γ i=some (b,cap):=by grind [only,zw,getD_of]
   rcases h.mem.row i e W n b3 with⟨e4,_⟩|⟨b',c',e4,e5,_⟩<;>grind
 have hcalls:=hcall w (zw E (handI s mode xs)) vs hGw (z4T h hI h2) hblk l1 q1;unfold Oper.wp;rw[hop hbody];refine hcalls.mono ?_;rintro e w' ⟨E',rfl,hm,hleft⟩;obtain⟨hS,_⟩:=z6q h hI hm0 hf h2 h4 h6 hm hleft o.dst
 grind
def zaA(P:Program)(g:Glob)(o:SOper)(s:FS)(z:Value)(u:Upd):Prop:=
 o.guard=none∧match o.op with
 | .pan x=>x.get s=some (.pv (.v z))∧(∃t v,z=.iface t v)∧u=.no
 | .call f m xs=>∃args,seqO (fun x:Arg=>x.get s) xs=some args∧zfO P g s (dstId o.dst) f m args z u
 |_=>False
def zI:SOp→Bool
 | .pan _=>true
 | .call _ m _=>Nat.beq m 3
 |_=>false
def zbZ(o:SOper):Bool:= !o.op.wb&& !o.op.wr&& !o.op.wi&&o.news.isEmpty
theorem zh3{o:SOper}(hq:zbZ o=true){s:FS}{e:TV×Upd}(he:effG P C o s=some e):(s.after o e).b=s.b∧(s.after o e).r=s.r∧(s.after o e).i=s.i∧∀k,o.dst≠some k→(s.after o e).t k=s.t k:=by
  unfold zbZ at hq
  simp only[Bool.and_eq_true,Bool.not_eq_true',List.isEmpty_iff]at hq
  obtain⟨⟨⟨h1,h2⟩,h3⟩,h4⟩:=hq
  have h4:o.op.news o.dst=[]:=h4
  have hS:=z3w he
  refine⟨funext fun d=> ?_,funext fun d=> ?_,funext fun d=> ?_,fun k hk=> ?_⟩
  · unfold FS.after
    rw[z9W,z6L]
    cases ho:ovB o.dst e.2 d with
    |none=>rfl
    | some cs => exact (by rcases hS.b d cs ho with h | ⟨h, _⟩; · rw [h4] at h; cases h
                           · rw[h1]at h;cases h)
  · unfold FS.after
    rw[zew,za8]
    cases ho:ovR e.2 d with
    |none=>rfl
    | some cs => exact (by rcases hS.r d cs ho with h | ⟨h, _⟩; · rw [h4] at h; cases h
                           · rw[h2]at h;cases h)
  · unfold FS.after
    rw[zev,za7]
    cases ho:ovI e.2 d with
    |none=>rfl
    | some cs => exact (by rcases hS.i d cs ho with h | ⟨h, _⟩; · rw [h4] at h; cases h
                           · rw[h3]at h;cases h)
  · unfold FS.after
    rw[zex,za9,if_neg hk]
theorem zc4{s s':FS}{rows:Bool}(hb:s'.b=s.b)(hr:s'.r=s.r):∀(n:Nat) (l seen:List Nat),zx s' rows n l seen=zx s rows n l seen
 |0,l,seen=>by simp only[zx]
 |n+1,[],seen=>by simp only[zx]
 |n+1,d::l,seen=>by
  simp only[zx,hb,hr,zc4 hb hr n]
theorem zjy{o:SOper}{s s':FS}{z:Value}{u:Upd}(hb:s'.b=s.b)(hr:s'.r=s.r)(ht:∀k∈o.reads,s'.t k=s.t k)(h:zaA P g o s' z u):zaA P g o s z u:=by
 obtain⟨hg,h⟩:=h;refine⟨hg,?_⟩;have hrd:∀k∈o.op.reads,s'.t k=s.t k:=fun k hk=>ht k (by simp[SOper.reads,hk]);cases hop:o.op with
 |pan x=>
  rw[hop]at h hrd;simp only at h ⊢;rw[z08 (x:=x) (s:=s) (s':=s') hrd]at h;exact h
 |call f m xs=>
  rw[hop]at h hrd;simp only at h ⊢;obtain⟨args,h1,h2⟩:=h;rw[z3B (s:=s) (s':=s') hrd]at h1
  grind [handI,zc4,zfO,z3I,only,FS.mo]
 |_=>grind
theorem zmv{o:Oper}{h:Nat}{x:Arg}(hop:zo P o h=some (.pan x)):∃y,o.op=.panic y∧x=.of y:=by
 unfold zo at hop
 repeat' (split at hop)
 all_goals first|(exact⟨_,by assumption,by cases hop;rfl⟩)|(cases hop;done)|(obtain⟨_,_,hx⟩:=gO hop;cases hx)
theorem zkf{o:Oper}{h f m:Nat}{xs:List Arg}(hop:zo P o h=some (.call f m xs)):∃ars ats,o.op=.call { callee:=.value (.func f),args:=ars,argTypes:=ats }∧xs=ars.toList.map Arg.of:=by
 unfold zo at hop
 repeat' (split at hop)
 all_goals first|(cases hop;exact⟨_,_,by assumption,rfl⟩)|(cases hop;done)|(obtain⟨_,_,hx⟩:=gO hop;cases hx)
variable{H:Option Nat→Nat}{ops:Array Oper}{sops:List SOper}
theorem zi7(hm0:B.m≤1000)(hG:g.G B.w0)(hX:∀d b,B.X d b→g.n≤b){s:FS}(h:Sim B s a w E){i:Nat}{o:Oper}{so:SOper}{fp:Option Nat}(hi:ops[i]?=some o)(ht:z1o P B.N H fp ops o=some so)(hf:z3N so s){z:Value}{u:Upd}(hp:zaA P g so s z u)
  {K:Act→World→Prop} {Q:Exit→Act→World→Prop} (hQ:∀w' E',Sim B (s.upd so.dst u) a w' E'→Q (.panic [{ v:=z,recovered:=false }]) a w'):wpOp P ops Q i K a w:=by
 unfold z1o at ht;split at ht<;>try(cases ht;done)
 rename_i gd op hg hop;split at ht<;>try(cases ht;done)
 rename_i hd;cases ht;obtain⟨hgn,hp⟩:=hp;have hgo:o.guard=none:=by
  cases hgo:o.guard<;>grind [only,z3L]
 unfold wpOp;simp only[hi];rw[if_pos (by simp[Region.wanted,hgo])];refine .inl ?_;cases hoo:op with
 |pan x=>
  subst hoo;simp only at hp;obtain⟨h1,⟨t,v,rfl⟩,rfl⟩:=hp;have hpo:=zmv ((z1w hop).resolve_right fun h=>by cases h.1);obtain⟨y,hy,rfl⟩:=hpo;have hv:=val_rel (y:=.iface t v) (zh h h1) rfl;unfold Oper.wp;have hrun:(execOp a.eval o).run P w=.halt (.panic (.iface t v)) w:=by
   simp only[execOp,hy,hv,Instr.panic];rfl
  rw[hrun];exact hQ w E h
 |call f m xs=>
  subst hoo;simp only at hp;obtain⟨args,h1,h2⟩:=hp;have hpo:=zkf ((z1w hop).resolve_right fun h=>by cases h.1);obtain⟨ars,ats,hq,rfl⟩:=hpo;obtain⟨a1,a2,a3⟩:=z4X h h1;have harr:(ars.toList.map a.eval).toArray=ars.map a.eval:=by grind
  refine zoV h hG hX a3 a1 a2 (fun hbody=> ?_) hm0 (fun q hq=>hf _ (by simp only[SOper.news,SOp.news];match q,hq with|0,_=>simp|1,_=>simp|2,_=>simp|3,_=>simp)) h2 (fun w' E' hS=>hQ w' E' hS);obtain⟨fn',body,b1,b2,b3⟩:=hbody;have hex:execOp a.eval o=callFunc f (#[]++ars.map a.eval++ #[]):=by
   obtain⟨dst,op,type,pos,after,guard⟩:=o
   dsimp only at hq
   subst hq;rfl
  rw[hex,harr];simp[callFunc,b1,b2,b3]
 |_=>grind
theorem beq_false'{a b:Nat}(h:a≠b):Nat.beq a b=false:=by grind [Nat.beq,Nat.eq_of_beq_eq_true]
def zbX(ops:Array Oper)(sops:List SOper):Bool:=(List.range sops.length).all fun k=>match sops[k]? with
 |some o=> !zI o.op||(List.range sops.length).all fun i=>Nat.beq i k||(if Nat.blt i k then(match sops[i]? with|some p=>zbZ p|none=>true)||z6n ops 4 i k else z6n ops 4 k i)
 |none=>true
theorem zdJ{o:SOper}{sk:FS}:∀(A:List Nat) (s:FS),(∀j∈A,∀oa,sops[j]?=some oa→zbZ oa=true∧z2A oa o=true)→z42 P g sops A s sk→
  sk.b=s.b∧sk.r=s.r∧sk.i=s.i∧(∀j∈o.reads,sk.t j=s.t j)∧(∀j,(∀o'∈sops,o'.dst≠some j)→sk.t j=s.t j)
 |[],s,_,h=>by have h:s=sk:=h;subst h;exact⟨rfl,rfl,rfl,fun _ _=>rfl,fun _ _=>rfl⟩
 |x::A,s,hA,h=>by
  obtain⟨oa,s1,hoa,⟨C,hC,hst⟩,h2⟩:=h;obtain⟨i1,i2,i3,i4,i5⟩:=zdJ A s1 (fun j hj=>hA j (List.mem_cons_of_mem _ hj)) h2;obtain⟨hq,hap⟩:=hA x (List.mem_cons_self ..) oa hoa;obtain⟨e,he,rfl⟩:=gO hst
  grind [zh3,List.mem_of_getElem?,z2A]
theorem zpA(hm0:B.m≤1000)(hN:B.N≤1000)(hG:g.G B.w0)(hX:∀d b,B.X d b→g.n≤b){fps:Nat→Option Nat}(htr:z4e P B.N H fps ops 0 ops.toList=some sops)(hok:z34 ops true sops=true)(hpo:zbX ops sops=true){kk:Nat}{ok:SOper}(hkk:sops[kk]?=some ok)(hmay:zI ok.op=true)
  {z:Value} {u:Upd} {sk:FS} (hp:zaA P g ok sk z u) {Q:Exit→Act→World→Prop}
  (hQ:∀(s1:FS) a w E,s1.b=sk.b→s1.r=sk.r→s1.i=sk.i→(∀j,(∀o'∈sops,o'.dst≠some j)→s1.t j=sk.t j)→Sim B (s1.upd ok.dst u) a w E→Q (.panic [{ v:=z,recovered:=false }]) a w):
  ∀(fuel:Nat) (listed:Array Bool) (s:FS) (a:Act) (w:World) (E:Env),listed.size=ops.size→zcw ops listed→Sim B s a w E→z28 sops (zy ops.size listed) s→listed.getD kk true=false→z42 P g sops ((zy ops.size listed).filter (fun i=>decide (i<kk))) s sk→(zy ops.size listed).length≤fuel→
   wpAny P .any ops Q fuel listed a w:=by
 obtain⟨hlen,hspec⟩:=z1a htr;have hlen':ops.size=sops.length:=by simpa using hlen
 have hmk:=z4Z hok;have hback:∀(i:Nat) o,ops[i]?=some o→∀e∈o.after,Region.binds .any e=true→e.on<i:=by
  intro i o hi e he hb;unfold z34 at hok;rw[Bool.and_eq_true]at hok;have hil:i<sops.length:=by rw[←hlen'];exact(gA hi).1
  have h2:=hok.2;simp only[Bool.not_true,Bool.false_or]at h2;have:=List.all_eq_true.1 h2 i (by simpa using hil);rw[hi]at this;have:=Array.all_eq_true_iff_forall_mem.1 this e he;simp only[hb,Bool.not_true,Bool.false_or]at this;rw[Nat.blt_eq]at this;exact this
 have hrest:∀(listed:Array Bool) i,i∈zy ops.size listed ↔ i<ops.size∧listed.getD i true=false:=by
  intro listed i;simp[zy]
 have hready:∀(listed:Array Bool) i,i∈Region.ready .any ops listed ↔ i∈zy ops.size listed∧∀o,ops[i]?=some o→∀e∈o.after,Region.binds .any e=true→listed.getD e.on false=true:=by
  intro listed i;rw[hrest];unfold Region.ready;simp only[List.mem_filter,List.mem_range,Bool.and_eq_true,Bool.not_eq_true'];constructor
  ·rintro⟨h1,h2,h3⟩;refine⟨⟨h1,h2⟩,fun o ho e he hb=> ?_⟩;rw[ho]at h3;simp only[Option.map_some,Option.getD_some]at h3;have:=Array.all_eq_true_iff_forall_mem.1 h3 e he;simpa [hb]using this
  ·rintro⟨⟨h1,h2⟩,h3⟩;refine⟨h1,h2,?_⟩;obtain⟨o,ho⟩:∃o,ops[i]?=some o:=⟨_,Array.getElem?_eq_getElem h1⟩
   rw[ho];simp only[Option.map_some,Option.getD_some];refine Array.all_eq_true_iff_forall_mem.2 fun e he=> ?_;cases hb:Region.binds .any e
   ·rfl
   ·simp[h3 o ho e he hb]
 have hnil:∀(listed:Array Bool),listed.size=ops.size→Region.ready .any ops listed=[]→zy ops.size listed=[]:=by
  intro listed hsz hr;cases hrl:zy ops.size listed with
  |nil=>rfl
  |cons i l=>
   exfalso;have hi:i∈zy ops.size listed:=by rw[hrl];exact List.mem_cons_self ..
   have hmin:∀j,j<i→j∉zy ops.size listed:=by
    intro j hj hjm;have hp:(zy ops.size listed).Pairwise (·<·):=List.Pairwise.filter _ List.pairwise_lt_range;rw[hrl]at hp hjm;rcases List.mem_cons.1 hjm with rfl|hjm
    ·omega
    ·have:=(List.pairwise_cons.1 hp).1 j hjm;omega
   have:i∈Region.ready .any ops listed:=by
    rw[hready];refine⟨hi,fun o ho e he hb=> ?_⟩;have hlt:=hback i o ho e he hb;have hil:=((hrest listed i).1 hi).1;have hnm:=hmin e.on hlt;rw[hrest]at hnm;have hel:e.on<listed.size:=by omega
    have:listed.getD e.on true≠false:=fun h=>hnm ⟨by omega,h⟩;simpa [Array.getD,hel]using this
   rw[hr]at this;cases this
 have hkkn:kk<ops.size:=by rw[hlen'];exact(gJ hkk).1
 have hpk:∀i,i<ops.size→i≠kk→(i<kk→(∀p,sops[i]?=some p→zbZ p=true)∨z6n ops 4 i kk=true)∧(kk<i→z6n ops 4 kk i=true):=by
  intro i hi hne;unfold zbX at hpo;have h1:=List.all_eq_true.1 hpo kk (by rw[←hlen'];simpa using hkkn);simp only[hkk,hmay,Bool.not_true,Bool.false_or]at h1;have h2:=List.all_eq_true.1 h1 i (by rw[←hlen'];simpa using hi);rw[beq_false' hne,Bool.false_or]at h2;refine⟨fun hlt=> ?_,fun hgt=> ?_⟩
  ·rw[if_pos (by rw[Nat.blt_eq];exact hlt)]at h2;rw[Bool.or_eq_true]at h2;rcases h2 with h2|h2
   ·exact .inl (fun p hp=>by rw[hp]at h2;exact h2)
   ·exact .inr h2
  ·rw[if_neg (by rw[Nat.blt_eq];omega)]at h2;exact h2
 intro fuel
 induction fuel with
 |zero=>
  intro listed s a w E hsz hcl hS hf hun hrun hle;exfalso;have hr0:zy ops.size listed=[]:=List.eq_nil_of_length_eq_zero (by omega);have:=(hrest listed kk).2 ⟨hkkn,hun⟩;rw[hr0]at this;cases this
 |succ fuel ih=>
  intro listed s a w E hsz hcl hS hf hun hrun hle;have hkr:kk∈zy ops.size listed:=(hrest listed kk).2 ⟨hkkn,hun⟩;refine⟨fun hr=> ?_,fun i hi=> ?_⟩
  ·exfalso;have hr0:=hnil listed hsz hr;rw[hr0]at hkr;cases hkr
  ·obtain⟨hir,hipre⟩:=(hready listed i).1 hi;obtain⟨hin,hil⟩:=(hrest listed i).1 hir;obtain⟨o,ho⟩:∃o,ops[i]?=some o:=⟨_,Array.getElem?_eq_getElem hin⟩
   obtain⟨so,hso,hto⟩:=hspec i o (by simpa using ho);have hp0:(zy ops.size listed).Pairwise (·<·):=List.Pairwise.filter _ List.pairwise_lt_range;have hnl:∀j,j<ops.size→listed.getD j true=false→listed.getD j false=true→False:=by
    intro j hj h1 h2;have hlt:j<listed.size:=by omega
    simp[Array.getD,hlt]at h1 h2;rw[h1]at h2;cases h2
   have hapart:∀j,j<i→listed.getD j true=false→∀oa,sops[j]?=some oa→z2A oa so=true:=by
    intro j hji hjl oa hoa;have hjn:j<ops.size:=by omega
    have hok2:=hok;unfold z34 at hok2;rw[Bool.and_eq_true]at hok2;have:=List.all_eq_true.1 (List.all_eq_true.1 hok2.1 i (by simp;omega)) j (by simpa using hji);unfold zbV at this;rw[hoa,hso]at this;simp only[Bool.and_eq_true,Bool.not_true,Bool.false_or,Bool.or_eq_true]at this;rcases this.2 with h1|h1
    ·exact h1
    ·exact(hnl j hjn hjl (z4v hcl hsz 4 j i hipre h1)).elim
   rcases Nat.lt_trichotomy i kk with hlt|heq|hgt
   ·
    have hiA:i∈(zy ops.size listed).filter (fun i=>decide (i<kk)):=by simp[hir,hlt]
    obtain⟨A,Bl,hAB⟩:=List.append_of_mem hiA;have hpA:((zy ops.size listed).filter (fun i=>decide (i<kk))).Pairwise (·<·):=List.Pairwise.filter _ hp0;have hfA:z28 sops ((zy ops.size listed).filter (fun i=>decide (i<kk))) s:=fun j hj=>hf j ((List.mem_filter.1 hj).1);have hnd:((zy ops.size listed).filter (fun i=>decide (i<kk))).Nodup:=hpA.imp (fun h=>Nat.ne_of_lt h);rw[hAB]at hpA hnd hfA hrun;have hA:∀j∈A,j<i:=fun j hj=>(List.pairwise_append.1 hpA).2.2 j hj i (List.mem_cons_self ..);obtain⟨s1,hs1,hrun1⟩:=z89 hmk hso A s hnd (fun j hj oa hoa=>by
     have hjr:j∈(zy ops.size listed).filter (fun i=>decide (i<kk)):=by rw[hAB];exact List.mem_append_left _ hj
     exact hapart j (hA j hj) ((hrest listed j).1 ((List.mem_filter.1 hjr).1)).2 oa hoa) hfA hrun
    obtain⟨C1,hC1,hst1⟩:=hs1;have hs1:Stp P g so s s1:=⟨C1,hC1,hst1⟩
    refine z58 hm0 hN hG hX hC1 hS ho hto (hf i hir so hso) hst1 (fun a' w' E' hS'=> ?_);have hilt:i<listed.size:=by omega
    have hrest':zy ops.size (listed.setIfInBounds i true)=(zy ops.size listed).filter (fun j=>j !=i):=by
     unfold zy;rw[List.filter_filter];apply List.filter_congr;intro j hj;have hjn:j<ops.size:=by simpa using hj
     have hjl:j<listed.size:=by omega
     by_cases hji:j=i
     ·subst hji;simp[Array.getD,hjl]
     ·simp[Array.getD,hjl,hji,Array.getElem_setIfInBounds,Ne.symm hji]
    have hiAB:i∉A++Bl:=by
     have:=List.nodup_append.1 hnd;intro hm;rcases List.mem_append.1 hm with h1|h1
     ·exact this.2.2 i h1 i (List.mem_cons_self ..) rfl
     ·exact(List.nodup_cons.1 this.2.1).1 h1
    have hfil:((zy ops.size listed).filter (fun j=>j !=i)).filter (fun i=>decide (i<kk))=A++Bl:=by
     rw[List.filter_filter];have:(zy ops.size listed).filter (fun a=>decide (a<kk)&&(a !=i))=((zy ops.size listed).filter (fun i=>decide (i<kk))).filter (fun j=>j !=i):=by
      rw[List.filter_filter];apply List.filter_congr;intro j _;exact Bool.and_comm _ _
     rw[this,hAB,List.filter_append,List.filter_cons];simp only[bne_self_eq_false,Bool.false_eq_true,if_false];rw[List.filter_eq_self.2,List.filter_eq_self.2]
     ·intro j hj;simp;rintro rfl;exact hiAB (List.mem_append_right _ hj)
     ·intro j hj;simp;rintro rfl;exact hiAB (List.mem_append_left _ hj)
    refine ih (listed.setIfInBounds i true) s1 a' w' E' (by simpa using hsz) ?_ hS' ?_ ?_ (by rw[hrest',hfil];exact hrun1) ?_
    ·intro j oj hj hjl e he hb;have hset:∀k,listed.getD k false=true→(listed.setIfInBounds i true).getD k false=true:=by
      intro k hk;have hkl:k<listed.size:=by
       rcases Nat.lt_or_ge k listed.size with h1|h1
       ·exact h1
       ·simp[Array.getD,Nat.not_lt.2 h1]at hk
      by_cases hki:i=k
      ·subst hki;simp[Array.getD,hkl]
      ·rw[Array.getD_eq_getD_getElem?,Array.getElem?_setIfInBounds_ne hki,←Array.getD_eq_getD_getElem?];exact hk
     by_cases hji:j=i
     ·subst hji;exact hset _ (hipre oj hj e he hb)
     ·refine hset _ (hcl j oj hj ?_ e he hb);have hjn:j<listed.size:=by rw[hsz];exact(gA hj).1
      simp[Array.getD,hjn,Array.getElem_setIfInBounds,Ne.symm hji]at hjl;simp[Array.getD,hjn,hjl]
    ·rw[hrest'];refine z2w hmk hso (by simp) (fun j hj=>hf j ((List.mem_filter.1 hj).1)) hs1
    ·have hkl:kk<listed.size:=by omega
     have hne:i≠kk:=by omega
     rw[Array.getD_eq_getD_getElem?,Array.getElem?_setIfInBounds_ne hne,←Array.getD_eq_getD_getElem?];exact hun
    ·rw[hrest'];have h1:((zy ops.size listed).filter (fun j=>j !=i)).length<(zy ops.size listed).length:=by
      refine List.length_filter_lt_length_iff_exists.2 ⟨i,hir,by simp⟩
     omega
   ·
    subst heq;rw[hkk]at hso;cases hso;obtain⟨q1,q2,q3,q4,q5⟩:=zdJ (o:=ok) _ s (fun j hj oa hoa=>by
     have hjr:=(List.mem_filter.1 hj).1;have hji:j<i:=by simpa using(List.mem_filter.1 hj).2
     obtain⟨hjn,hjl⟩:=(hrest listed j).1 hjr;refine⟨?_,hapart j hji hjl oa hoa⟩;rcases(hpk j hjn (by omega)).1 hji with h1|h1
     ·exact h1 oa hoa
     ·exact(hnl j hjn hjl (z4v hcl hsz 4 j i hipre h1)).elim) hrun
    have hp':zaA P g ok s z u:=zjy q1 q2 q4 hp;exact zi7 hm0 hG hX hS ho hto (hf i hir ok hkk) hp' (fun w' E' hS'=>hQ s a w' E' q1.symm q2.symm q3.symm (fun j hj=>(q5 j hj).symm) hS')
   ·exact(hnl kk hkkn hun (z4v hcl hsz 4 kk i hipre ((hpk i hin (by omega)).2 hgt))).elim
end
end
end Go.Sh
end
