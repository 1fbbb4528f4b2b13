/- Merged texts: S13 S13p S14 S15 S16 Base Glb Shelf Pr0 S17 S18 Plain Pcm Dt By PWire PWire2 PWire3 PClass S19 S20 Cd1 Vc1 Zv1 Zv2 Px1. No statement of the program is proved here. -/
import Derived.Test.YtcpaleaajdilgaaGreatDoorM1
import Derived.WalkSpells
import Derived.WalkLawsBesides
import Derived.Lib.Hide
import Derived.Deep.Draws
import Derived.Lib.LaidU8
import Derived.Test.YtcpaleaajdilgaaGreatDoorProg
import Derived.Shelf.LaysM
import Derived.Shelf.Strconv.Itoa3
import Derived.Shelf.Strings.Replace
import Derived.Shelf.Strings.OnBuilder
import Derived.Shelf.Strings.Search3
import Derived.Shelf.Small.Utf8
import Derived.Shelf.LaysC
import Derived.Shelf.Unicode.DecodeAny
import Derived.Shelf.Unicode.ValidAny
import Derived.Shelf.Small.Wraps
import Derived.Laws.StructEq
import Derived.Lib.ValidU
import Derived.Lib.TrimUEq
import Derived.Lib.ValidLaws
import Derived.KernelRfl
import Derived.Lib.ItoaNum
import Derived.Lib.Join
set_option linter.unusedSimpArgs false
set_option linter.unusedVariables false
section
namespace Go.Sh
open Go Go.RowKit
set_option maxHeartbeats 4000000
section
variable{P:Program}{C C':Oracle}{s s':FS}
def isK:Option Nat→Nat→Bool
 |some k,d=>Nat.beq k d
 |none,_=>false
theorem isK_eq{x:Option Nat}{d:Nat}(h:isK x d=true):x=some d:=by
 cases x with
 |none=>cases h
 |some k=>rw[Nat.eq_of_beq_eq_true h]
def footOk(o:SOper)(s:FS):Bool:=match o.fp with
 |none=>true
 |some d=>isK (o.op.foot s) d
def effF(P:Program)(C:Oracle)(o:SOper)(s:FS):Option (TV×Upd):=match footOk o s with|true=>eff P C o.dst o.op s|false=>none
theorem effF_eff{o:SOper}{e:TV×Upd}(h:effF P C o s=some e):eff P C o.dst o.op s=some e∧∀d,o.fp=some d→o.op.foot s=some d:=by
 unfold effF at h;split at h
 ·rename_i hf;refine⟨h,fun d hd=> ?_⟩;unfold footOk at hf;rw[hd]at hf;exact isK_eq hf
 ·cases h
def effG(P:Program)(C:Oracle)(o:SOper)(s:FS):Option (TV×Upd):=
 match o.guard with
 |some (g,want)=>match s.t g with
  |some (.pv (.v (.bool b)))=>if b==want then effF P C o s else some (.pv (.v undef),.no)
  |some (.pv (.v _))=>some (.pv (.v undef),.no)
  |_=>none
 |none=>effF P C o s
def FS.after(s:FS)(o:SOper)(e:TV×Upd):FS:=(s.upd o.dst e.2).put o.dst e.1
def step(P:Program)(C:Oracle)(o:SOper)(s:FS):Option FS:=(effG P C o s).map (s.after o)
def SOper.news(o:SOper):List Nat:=o.op.news o.dst
def unlike:Option Nat→Option Nat→Bool
 |some a,some b=> !Nat.beq a b
 |_,_=>false
def noClash(o p:SOper):Bool:=(unlike o.fp p.fp||(!(o.op.wb&&p.op.rb)&& !(p.op.wb&&o.op.rb)))&& !(o.op.wr&&p.op.wr)&& !(o.op.wi&&p.op.wi)
def apart(o p:SOper):Bool:=
 (match o.dst with|some d=> !p.reads.contains d&&p.dst !=some d|none=>true)&&(match p.dst with|some d=> !o.reads.contains d&&o.dst !=some d|none=>true)&&noClash o p
theorem apart_symm{o p:SOper}(h:apart o p=true):apart p o=true:=by
 unfold apart noClash at*;simp only[Bool.and_eq_true,Bool.or_eq_true]at h ⊢;obtain⟨⟨h1,h2⟩,⟨h3,h5⟩,h6⟩:=h;refine⟨⟨h2,h1⟩,⟨?_,?_⟩,?_⟩
 ·rcases h3 with h3|⟨h3,h4⟩
  ·left;cases ho:o.fp with
   |none=>rw[ho]at h3;cases h3
   |some a=>
    cases hp:p.fp with
    |none=>rw[ho,hp]at h3;cases h3
    |some b=>
     rw[ho,hp]at h3;simp only[unlike,Bool.not_eq_true']at h3 ⊢;cases hb:Nat.beq b a with
     |false=>rfl
     |true=>rw[Nat.eq_of_beq_eq_true hb,Nat.beq_refl]at h3;cases h3
  ·exact .inr ⟨h4,h3⟩
 ·rw[Bool.and_comm];exact h5
 ·rw[Bool.and_comm];exact h6
theorem unlike_spec{a b:Option Nat}(h:unlike a b=true):∃x y,a=some x∧b=some y∧x≠y:=by
 cases a with
 |none=>cases h
 |some x=>
  cases b with
  |none=>cases h
  |some y=>
   simp only[unlike,Bool.not_eq_true']at h;exact⟨x,y,rfl,rfl,by rintro rfl;rw[Nat.beq_refl]at h;cases h⟩
def FreshO(o:SOper)(s:FS):Prop:=∀d∈o.news,Fresh s d
theorem effG_cases{o:SOper}{e:TV×Upd}(h:effG P C o s=some e):e=(.pv (.v undef),.no)∨effF P C o s=some e:=by
 unfold effG at h;split at h
 ·split at h
  ·split at h
   ·exact .inr h
   ·cases h;exact .inl rfl
  ·cases h;exact .inl rfl
  ·cases h
 ·exact .inr h
theorem z115{o:SOper}{e:TV×Upd}(h:effG P C o s=some e):Shape s o.dst o.op e.1 e.2:=by
 rcases effG_cases h with rfl|h
 ·exact .no (fun d hd=>by cases hd)
 ·exact eff_shape (x:=e.1) (u:=e.2) (effF_eff h).1
theorem foot_at(I:List Nat)(k:Nat):isK (only I) k=true ↔ I=[k]:=by
 match I with
 |[]=>simp[only,isK]
 |[d]=>exact⟨fun h=>by rw[Nat.eq_of_beq_eq_true h],fun h=>by cases h;exact Nat.beq_refl k⟩
 |_::_::_=>simp[only,isK]
theorem footOk_congr{o:SOper}(h:∀k∈o.op.reads,s'.t k=s.t k)(hb:o.op.rb=true→∀d,s.ment d→(∀k,o.fp=some k→d=k)→s'.b d=s.b d)(hb2:o.op.rb=true→∀d,s.ment d→(s'.b d=none ↔ s.b d=none))(hr:o.op.wr=true→∀d,s.ment d→s'.r d=s.r d):footOk o s'=footOk o s:=by
 unfold footOk;cases hfp:o.fp with
 |none=>rfl
 |some k=>
  cases hop:o.op with
  |ld a n x=>rw[hop]at h;simp only[SOp.foot,z27 (x:=x) h]
  |st n x y=>rw[hop]at h;simp only[SOp.reads,List.mem_append]at h;simp only[SOp.foot,z27 (x:=x) fun k hk=>h k (.inl hk)]
  |call f m xs=>
   rw[hop]at h hb hb2 hr;simp only[SOp.foot,z117 (xs:=xs) h];cases hx:seqO (fun x:Arg=>x.get s) xs with
   |none=>rfl
   |some args=>
    simp only;rw[Bool.eq_iff_iff,foot_at,foot_at];cases h0:Nat.beq m 0 with
    |true=>simp[handI,h0]
    |false=>
     have hrb:(SOp.call f m xs).rb=true:=by simp[SOp.rb,h0]
     have hwr:(SOp.call f m xs).wr=true:=by simp[SOp.wr,h0]
     have hids:∀d∈args.flatMap TV.ids2,s.ment d:=fun d hd=>by
      obtain⟨x,hx',hd⟩:=List.mem_flatMap.1 hd;exact seq_ment hx x hx' d (ids2_ment hd)
     have key:((∀d∈handI s m args,d∈[k])∨(∀d∈handI s' m args,d∈[k]))→handI s' m args=handI s m args:=by
      intro hk;simp only[handI,h0,Bool.false_eq_true,if_false]at hk ⊢;exact z101 (R:=[k]) (fun d hd hdk=>hb hrb d hd (fun k' hk'=>by rw[hfp]at hk';cases hk';simpa using hdk)) (hb2 hrb) (hr hwr) 64 _ [] hids hk
     constructor
     ·intro he;rw[←key (.inr fun d hd=>by rw[he]at hd;exact hd)];exact he
     ·intro he;rw[key (.inl fun d hd=>by rw[he]at hd;exact hd)];exact he
  |_=>rfl
theorem effG_congr{o:SOper}(h:∀k∈o.reads,s'.t k=s.t k)(hb:o.op.rb=true→∀d,s.ment d→(∀k,o.fp=some k→d=k)→s'.b d=s.b d)(hb2:o.op.rb=true→∀d,s.ment d→(s'.b d=none ↔ s.b d=none))(hr:o.op.wr=true→∀d,s.ment d→s'.r d=s.r d)(hi:o.op.wi=true→∀d,s.ment d→s'.i d=s.i d):effG P C o s'=effG P C o s:=by
 have hrd:∀k∈o.op.reads,s'.t k=s.t k:=fun k hk=>h k (by simp[SOper.reads,hk]);have hft:footOk o s'=footOk o s:=footOk_congr hrd hb hb2 hr;have he:effF P C o s'=effF P C o s:=by
  unfold effF;rw[hft];cases hf:footOk o s with
  |false=>rfl
  |true=>
   refine eff_congr hrd (fun h0 d hd hk=>hb h0 d hd (fun k hk'=> ?_)) hb2 hr hi;unfold footOk at hf;rw[hk']at hf;exact hk k (isK_eq hf)
 unfold effG;cases hg:o.guard with
 |none=>simp only[he]
 |some gw=>
  obtain⟨g,want⟩:=gw;simp only[he,h g (by simp[SOper.reads,hg])]
theorem effG_apart{o p:SOper}(hap:apart o p=true)(hf:FreshO o s){e:TV×Upd}(he:effG P C o s=some e):effG P C' p (s.after o e)=effG P C' p s:=by
 unfold apart noClash at hap;simp only[Bool.and_eq_true,Bool.not_eq_true',Bool.or_eq_true]at hap;obtain⟨⟨h1,h2⟩,⟨h34,h5⟩,h6⟩:=hap;have hS:=z115 he;have hfo:∀d cs,ovB o.dst e.2 d=some cs→d∈o.op.news o.dst∨(o.op.wb=true∧(∀k,o.fp=some k→d=k)∧∃c0,s.b d=some c0):=by
  intro d cs hd;rcases effG_cases he with rfl|he'
  ·cases hd
  ·rcases hS.b d cs hd with h|⟨h,_,h',h''⟩
   ·exact .inl h
   ·exact .inr ⟨h,fun k hk=>h' k ((effF_eff he').2 k hk),h''⟩
 have hne:∀d,s.ment d→d∉o.op.news o.dst:=fun d hd hn=>(hf d hn).1 hd;refine effG_congr (fun k hk=> ?_) (fun hb d hd hdk=> ?_) (fun hb d hd=> ?_) (fun hr d hd=> ?_) (fun hi d hd=> ?_)
 ·unfold FS.after;rw[put_t,upd_t,if_neg];intro hd;rw[hd]at h1;simp at h1;exact h1.1 hk
 ·unfold FS.after;rw[put_b,upd_b];cases ho:ovB o.dst e.2 d with
  |none=>rfl
  |some cs=>
   rcases hfo d cs ho with h|⟨h,h',_⟩
   ·exact absurd h (hne d hd)
   ·rcases h34 with hu|⟨h3,_⟩
    ·obtain⟨x,y,e1,e2,e3⟩:=unlike_spec hu;exact absurd ((h' x e1).symm.trans (hdk y e2)) e3
    ·simp[h,hb]at h3
 ·unfold FS.after;rw[put_b,upd_b];cases ho:ovB o.dst e.2 d with
  |none=>exact Iff.rfl
  |some cs=>
   rcases hfo d cs ho with h|⟨_,_,c0,h⟩
   ·exact absurd h (hne d hd)
   ·simp[h]
 ·unfold FS.after;rw[put_r,upd_r];cases ho:ovR e.2 d with
  |none=>rfl
  |some cs=>
   rcases hS.r d cs ho with h|⟨h,_⟩
   ·exact absurd h (hne d hd)
   ·simp[h,hr]at h5
 ·unfold FS.after;rw[put_i,upd_i];cases ho:ovI e.2 d with
  |none=>rfl
  |some cs=>
   rcases hS.i d cs ho with h|⟨h,_⟩
   ·exact absurd h (hne d hd)
   ·simp[h,hi]at h6
theorem FS.ext'{a b:FS}(h1:∀k,a.t k=b.t k)(h2:∀k,a.b k=b.b k)(h3:∀k,a.r k=b.r k)(h4:∀k,a.i k=b.i k):a=b:=by
 cases a;cases b;simp only[FS.mk.injEq];exact⟨funext h1,funext h2,funext h3,funext h4⟩
def mkOk(a b:SOper):Bool:=a.news.all fun d=> !b.news.contains d
theorem mkOk_spec{a b:SOper}(h:mkOk a b=true){d:Nat}(h1:d∈a.news)(h2:d∈b.news):False:=by
 have:=List.all_eq_true.1 h d h1;simp[h2]at this
theorem after_comm{o p:SOper}(hap:apart o p=true)(hmk:mkOk o p=true)(hfo:FreshO o s)(hfp:FreshO p s){e f:TV×Upd}(he:effG P C o s=some e)(hf:effG P C' p s=some f):(s.after o e).after p f=(s.after p f).after o e:=by
 unfold apart noClash at hap;simp only[Bool.and_eq_true,Bool.not_eq_true',Bool.or_eq_true]at hap;obtain⟨⟨h1,h2⟩,⟨h34,h5⟩,h6⟩:=hap;have hdd:∀k,o.dst=some k→p.dst≠some k:=by
  intro k hk hp;rw[hk]at h1;simp[hp]at h1
 have hSo:=z115 he;have hSp:=z115 hf;have clash:∀{d:Nat} {A Bo:Bool},(d∈o.op.news o.dst∨(A=true∧s.ment d))→(d∈p.op.news p.dst∨(Bo=true∧s.ment d))→(A&&Bo)=false→False:=by
  intro d A Bo q1 q2 hq;rcases q1 with q1|⟨q1,q1'⟩<;>rcases q2 with q2|⟨q2,q2'⟩
  ·exact mkOk_spec hmk q1 q2
  ·exact(hfo d q1).1 q2'
  ·exact(hfp d q2).1 q1'
  ·simp[q1,q2]at hq
 refine FS.ext' (fun k=> ?_) (fun k=> ?_) (fun k=> ?_) (fun k=> ?_)
 ·unfold FS.after;simp only[put_t,upd_t];by_cases q1:o.dst=some k
  ·have:=hdd k q1;simp[q1,this]
  ·simp[q1]
 ·unfold FS.after;simp only[put_b,upd_b];cases q1:ovB o.dst e.2 k with
  |none=>rfl
  |some x=>
   cases q2:ovB p.dst f.2 k with
   |none=>rfl
   |some y=>
    exfalso;rcases h34 with hu|⟨h3,_⟩
    ·obtain⟨x',y',e1,e2,e3⟩:=unlike_spec hu;have k1:∀(o:SOper) (C:Oracle) (e:TV×Upd),effG P C o s=some e→∀cs,ovB o.dst e.2 k=some cs→∀z,o.fp=some z→k∈o.op.news o.dst∨(k=z∧s.ment k):=by
      intro o C e he cs hd z hz;rcases effG_cases he with rfl|he'
      ·cases hd
      ·rcases(z115 he).b k cs hd with h|⟨_,h0,h',_⟩
       ·exact .inl h
       ·exact .inr ⟨h' z ((effF_eff he').2 z hz),h0⟩
     rcases k1 o C e he _ q1 x' e1 with a1|a1
     ·rcases k1 p C' f hf _ q2 y' e2 with a2|a2
      ·exact mkOk_spec hmk a1 a2
      ·exact(hfo k a1).1 a2.2
     ·rcases k1 p C' f hf _ q2 y' e2 with a2|a2
      ·exact(hfp k a2).1 a1.2
      ·exact e3 (a1.1.symm.trans a2.1)
    ·refine clash ((hSo.b k _ q1).imp id (fun h=>⟨h.1,h.2.1⟩)) ((hSp.b k _ q2).imp id (fun h=>⟨h.1,h.2.1⟩)) ?_;cases hw:p.op.wb with
     |false=>simp
     |true=>have:=wb_rb hw;simp[this]at h3;simp[h3]
 ·unfold FS.after;simp only[put_r,upd_r];cases q1:ovR e.2 k with
  |none=>rfl
  |some x=>
   cases q2:ovR f.2 k with
   |none=>rfl
   |some y=>exact(clash (hSo.r k _ q1) (hSp.r k _ q2) h5).elim
 ·unfold FS.after;simp only[put_i,upd_i];cases q1:ovI e.2 k with
  |none=>rfl
  |some x=>
   cases q2:ovI f.2 k with
   |none=>rfl
   |some y=>exact(clash (hSo.i k _ q1) (hSp.i k _ q2) h6).elim
theorem step_comm{o p:SOper}(hap:apart o p=true)(hmk:mkOk o p=true)(hfo:FreshO o s)(hfp:FreshO p s){s1 s2:FS}(h1:step P C o s=some s1)(h2:step P C' p s1=some s2):∃s1',step P C' p s=some s1'∧step P C o s1'=some s2:=by
 obtain⟨e,he,rfl⟩:=gO h1;obtain⟨f,hf,rfl⟩:=gO h2;rw[effG_apart hap hfo he]at hf;refine⟨s.after p f,by unfold step;rw[hf];rfl,?_⟩;unfold step;rw[effG_apart (apart_symm hap) hfp hf,he,after_comm hap hmk hfo hfp he hf];rfl
theorem fresh_after{o p:SOper}(hf:FreshO p s)(hmk:mkOk o p=true){s1:FS}(h:step P C o s=some s1):FreshO p s1:=by
 obtain⟨e,he,rfl⟩:=gO h;have hS:=z115 he;intro d hd;obtain⟨f1,f2,f3,f4⟩:=hf d hd;have hno:d∉o.op.news o.dst:=fun h=>mkOk_spec hmk h hd;have hm:∀{A:Prop},(s.ment d∨d∈o.op.news o.dst)→A:=fun h=>h.elim (fun h=>absurd h f1) (fun h=>absurd h hno);refine⟨?_,?_,?_,?_⟩
 ·rintro(⟨k,y,hk,hy⟩|⟨k,cs,c,hk,hc,hy⟩)
  ·unfold FS.after at hk;rw[put_t,upd_t]at hk;split at hk
   ·cases hk;exact hm (hS.x d hy)
   ·exact f1 (.inl ⟨k,y,hk,hy⟩)
  ·unfold FS.after at hk;rw[put_b,upd_b]at hk;cases ho:ovB o.dst e.2 k with
   |none=>rw[ho]at hk;exact f1 (.inr ⟨k,cs,c,hk,hc,hy⟩)
   |some x=>rw[ho]at hk;cases hk;exact hm (hS.m d k cs c ho hc hy)
 ·unfold FS.after;rw[put_b,upd_b];cases ho:ovB o.dst e.2 d with
  |none=>exact f2
  |some x=>exact hm ((hS.b d x ho).elim .inr (fun h=> .inl h.2.1))
 ·unfold FS.after;rw[put_r,upd_r];cases ho:ovR e.2 d with
  |none=>exact f3
  |some x=>exact hm ((hS.r d x ho).elim .inr (fun h=> .inl h.2))
 ·unfold FS.after;rw[put_i,upd_i];cases ho:ovI e.2 d with
  |none=>exact f4
  |some x=>exact hm ((hS.i d x ho).elim .inr (fun h=> .inl h.2))
end
def dstOk(N:Nat):Option Nat→Bool
 |some d=>Nat.blt d N
 |none=>true
def z147(ops:Array Oper):Option (Nat×Bool)→Option (Option (Nat×Bool))
 |none=>some none
 |some (j,want)=>match(ops[j]?).bind (·.dst)with
  |some d=>some (some (d,want))
  |none=>none
def z72(P:Program)(N:Nat)(H:Option Nat→Nat)(fp:Option Nat)(ops:Array Oper)(o:Oper):Option SOper:=
 match z147 ops o.guard,z16 P o (H o.dst)with
 |some g,some op=>if dstOk N o.dst then some ⟨o.dst,g,fp,op⟩ else none
 |_,_=>none
def direct(ops:Array Oper)(a i:Nat):Bool:=match ops[i]? with
 |some o=>o.after.any fun e=>Region.binds .any e&&Nat.beq e.on a
 |none=>false
def ahead(ops:Array Oper):Nat→Nat→Nat→Bool
 |0,a,i=>direct ops a i
 |f+1,a,i=>direct ops a i||(match ops[i]? with
  |some o=>o.after.any fun e=>Region.binds .any e&&ahead ops f a e.on
  |none=>false)
def pairOk(ops:Array Oper)(draw:Bool)(sops:List SOper)(i j:Nat):Bool:=
 match sops[i]?,sops[j]? with
 |some a,some b=>mkOk a b&&(!draw||apart a b||ahead ops 4 i j)
 |_,_=>false
def z103(ops:Array Oper)(draw:Bool)(sops:List SOper):Bool:=
 ((List.range sops.length).all fun j=>(List.range j).all fun i=>pairOk ops draw sops i j)&&
 (!draw||(List.range sops.length).all fun i=>match ops[i]? with|some o=>o.after.all fun e=> !Region.binds .any e||Nat.blt e.on i|none=>true)
def z130(P:Program)(N:Nat)(H:Option Nat→Nat)(fps:Nat→Option Nat)(ops:Array Oper):Nat→List Oper→Option (List SOper)
 |_,[]=>some []
 |j,o::l=>match z72 P N H (fps j) ops o,z130 P N H fps ops (j+1) l with
  |some x,some r=>some (x::r)
  |_,_=>none
theorem z68{P:Program}{N:Nat}{H:Option Nat→Nat}{fps:Nat→Option Nat}{ops:Array Oper}:∀{l:List Oper} {j:Nat} {sops:List SOper},z130 P N H fps ops j l=some sops→l.length=sops.length∧∀(i:Nat) o,l[i]?=some o→∃so,sops[i]?=some so∧z72 P N H (fps (j+i)) ops o=some so
 |[],j,sops,h=>by simp[z130]at h;subst h;simp
 |o::l,j,sops,h=>by
  simp only[z130]at h;split at h
  ·rename_i x r h1 h2;cases h;obtain⟨a1,a2⟩:=z68 h2;refine⟨by simp[a1],fun i p hp=> ?_⟩;cases i with
   |zero=>simp at hp;subst hp;exact⟨x,rfl,h1⟩
   |succ i=>
    obtain⟨so,b1,b2⟩:=a2 i p (by simpa using hp);exact⟨so,by simpa using b1,by rw[←b2];congr 2;omega⟩
  ·cases h
def z34(P:Program)(N:Nat)(H:Option Nat→Nat)(fps:Nat→Option Nat)(ops:Array Oper)(draw:Bool):Option (List SOper):=
 match z130 P N H fps ops 0 ops.toList with
 |some sops=>if z103 ops draw sops then some sops else none
 |none=>none
section
variable{P:Program}{H:Option Nat→Nat}{ops:Array Oper}{B:Base}{C:Oracle}{sops:List SOper}{g:Glob}
def SoundC(P:Program)(g:Glob)(C:Oracle):Prop:=∀f xs os y os',C f xs os=some (y,os')→SCalls P g f xs os y os'
def Stp(P:Program)(g:Glob)(o:SOper)(s s':FS):Prop:=∃C,SoundC P g C∧step P C o s=some s'
theorem sim_step(hm0:B.m≤1000)(hN:B.N≤1000)(hG:g.G B.w0)(hX:∀d b,B.X d b→g.n≤b)(hC:SoundC P g C){s s':FS}{a:Act}{w:World}{E:Env}(h:Sim B s a w E){i:Nat}{o:Oper}{so:SOper}{fp:Option Nat}(hi:ops[i]?=some o)(ht:z72 P B.N H fp ops o=some so)(hf:FreshO so s)(hs:step P C so s=some s')
  {K:Act→World→Prop} {Q:Exit→Act→World→Prop} (hK:∀a' w' E',Sim B s' a' w' E'→K a' w'):wpOp P ops Q i K a w:=by
 unfold z72 at ht;split at ht<;>try(cases ht;done)
 rename_i gd op hg hop;split at ht<;>try(cases ht;done)
 rename_i hd;cases ht;have hdst:∀k,o.dst=some k→k<B.N:=by
  intro k hk;rw[hk]at hd;simp only[dstOk,Nat.blt_eq]at hd;exact hd
 obtain⟨e,he,rfl⟩:=gO hs;have hdo:effF P C ⟨o.dst,gd,fp,op⟩ s=some e→o.wp P a w K Q:=fun he'=>
  sim_op (C:=C) h hm0 hN hG hX hop hdst hf hC (x:=e.1) (u:=e.2) (effF_eff he').1 (fun v w' E' hS=>hK _ _ _ hS)
 unfold wpOp;simp only[hi];unfold effG at he;cases hgo:o.guard with
 |none=>
  rw[hgo]at hg;simp only[z147,Option.some.injEq]at hg;subst hg;simp only at he;rw[if_pos (by simp[Region.wanted,hgo])];exact .inl (hdo he)
 |some jw=>
  obtain⟨j,want⟩:=jw;rw[hgo]at hg;simp only[z147]at hg;split at hg<;>try(cases hg;done)
  rename_i d hjd;cases hg;simp only at he;have hskip:∀v,a.tmps[d]?=some v→(∀b,v=.bool b→(b==want)=false)→e=(.pv (.v undef),.no)→(if Region.wanted o (yielded ops a.tmps)=true then o.wp P a w K Q∨(o.asks P a w∧LetsOut Q)else K (a.put o.dst undef) w):=by
   intro v hv hb he';rw[if_neg]
   ·rw[he']at hK;exact hK _ _ E (h.put hdst (.pv (.v undef)))
   ·simp only[Region.wanted,hgo,yielded,hjd,Option.bind_some,hv];cases v<;>simp
    rename_i b;intro hbw;have:=hb b rfl;simp[hbw]at this
  have hval:∀v,s.t d=some (.pv (.v v))→a.tmps[d]?=some v:=by
   intro v hv;obtain⟨h1,h2⟩:=h.tmp d _ hv;have h3:=val_rel (y:=v) h2 rfl;have hlt:d<a.tmps.size:=by rw[h.size];exact h1
   rw[Array.getD_eq_getD_getElem?,Array.getElem?_eq_getElem hlt]at h3;rw[Array.getElem?_eq_getElem hlt];exact congrArg some h3
  split at he
  ·rename_i b hb;have hv:=hval _ hb;split at he
   ·rename_i hbw;rw[if_pos]
    ·exact .inl (hdo he)
    ·simp only[Region.wanted,hgo,yielded,hjd,Option.bind_some,hv];simpa using hbw
   ·rename_i hbw;cases he;exact hskip _ hv (fun b' hb'=>by cases hb';simpa using hbw) rfl
  ·rename_i v hnb hv;cases he;exact hskip _ (hval _ hv) (fun b' hb'=>absurd hb' (fun h=>hnb b' h)) rfl
  ·cases he
def RunI(P:Program)(g:Glob)(sops:List SOper):List Nat→FS→FS→Prop
 |[],s,sf=>s=sf
 |i::l,s,sf=>∃o s1,sops[i]?=some o∧Stp P g o s s1∧RunI P g sops l s1 sf
def MkAll(sops:List SOper):Prop:=∀(i j:Nat) a b,i≠j→sops[i]?=some a→sops[j]?=some b→mkOk a b=true
theorem mkOk_symm{a b:SOper}(h:mkOk a b=true):mkOk b a=true:=by
 unfold mkOk;refine List.all_eq_true.2 fun d hd=> ?_;cases hc:a.news.contains d with
 |false=>rfl
 |true=>exact(mkOk_spec h (by simpa using hc) hd).elim
theorem mkAll_of{draw:Bool}(h:z103 ops draw sops=true):MkAll sops:=by
 unfold z103 at h;rw[Bool.and_eq_true]at h;have key:∀(i j:Nat) a b,i<j→sops[i]?=some a→sops[j]?=some b→mkOk a b=true:=by
  intro i j a b hij ha hb;have hj:j<sops.length:=(gJ hb).1;have:=List.all_eq_true.1 (List.all_eq_true.1 h.1 j (by simpa using hj)) i (by simpa using hij);unfold pairOk at this;rw[ha,hb]at this;simp only[Bool.and_eq_true]at this;exact this.1
 intro i j a b hne ha hb;rcases Nat.lt_or_gt_of_ne hne with hlt|hlt
 ·exact key i j a b hlt ha hb
 ·exact mkOk_symm (key j i b a hlt hb ha)
def FreshI(sops:List SOper)(l:List Nat)(s:FS):Prop:=∀i∈l,∀o,sops[i]?=some o→FreshO o s
theorem z90(hmk:MkAll sops){l:List Nat}{i:Nat}{o:SOper}{s s1:FS}(hi:sops[i]?=some o)(hl:i∉l)(hf:FreshI sops l s)(hs:Stp P g o s s1):FreshI sops l s1:=by
 intro j hj p hp;obtain⟨C,_,hs⟩:=hs;exact fresh_after (hf j hj p hp) (hmk i j o p (by rintro rfl;exact hl hj) hi hp) hs
theorem swap_front(hmk:MkAll sops){i:Nat}{o:SOper}(hi:sops[i]?=some o){Bl:List Nat}{sf:FS}:∀(A:List Nat) (s:FS),(A++i::Bl).Nodup→(∀a∈A,∀oa,sops[a]?=some oa→apart oa o=true)→FreshI sops (A++i::Bl) s→
  RunI P g sops (A++i::Bl) s sf→∃s1,Stp P g o s s1∧RunI P g sops (A++Bl) s1 sf
 |[],s,_,_,_,h=>by
  obtain⟨o',s1,h0,h1,h2⟩:=h;rw[hi]at h0;cases h0;exact⟨s1,h1,h2⟩
 |a::A,s,hnd,hap,hf,h=>by
  obtain⟨oa,sa,hoa,h1,h2⟩:=h;simp only[List.cons_append,List.nodup_cons]at hnd;have hfa:FreshI sops (A++i::Bl) sa:=z90 hmk hoa hnd.1 (fun j hj=>hf j (List.mem_cons_of_mem _ hj)) h1;obtain⟨s1',h3,h4⟩:=swap_front hmk hi A sa hnd.2 (fun b hb=>hap b (List.mem_cons_of_mem _ hb)) hfa h2;obtain⟨C1,c1,h1⟩:=h1;obtain⟨C2,c2,h3⟩:=h3;obtain⟨s1,h5,h6⟩:=step_comm (hap a (List.mem_cons_self ..) oa hoa) (hmk a i oa o (by rintro rfl;exact hnd.1 (List.mem_append_right _ (List.mem_cons_self ..))) hoa hi) (hf a (List.mem_cons_self ..) oa hoa) (hf i (List.mem_cons_of_mem _ (List.mem_append_right _ (List.mem_cons_self ..))) o hi) h1 h3;exact⟨s1,⟨C2,c2,h5⟩,oa,s1',hoa,⟨C1,c1,h6⟩,h4⟩
def ClosedL(ops:Array Oper)(listed:Array Bool):Prop:=∀i o,ops[i]?=some o→listed.getD i true=true→∀e∈o.after,Region.binds .any e=true→listed.getD e.on false=true
theorem z137{listed:Array Bool}(hcl:ClosedL ops listed)(hsz:listed.size=ops.size):∀(f a i:Nat),(∀o,ops[i]?=some o→∀e∈o.after,Region.binds .any e=true→listed.getD e.on false=true)→ahead ops f a i=true→listed.getD a false=true:=by
 have hdir:∀a i,(∀o,ops[i]?=some o→∀e∈o.after,Region.binds .any e=true→listed.getD e.on false=true)→direct ops a i=true→listed.getD a false=true:=by
  intro a i h hd;unfold direct at hd;split at hd
  ·rename_i o ho;obtain⟨e,he1,he2⟩:=Array.any_eq_true'.1 hd;rw[Bool.and_eq_true]at he2;have:=h o ho e he1 he2.1
   rwa [Nat.eq_of_beq_eq_true he2.2]at this
  ·cases hd
 intro f
 induction f with
 |zero=>exact hdir
 |succ f ih=>
  intro a i h hr;simp only[ahead,Bool.or_eq_true]at hr;rcases hr with hr|hr
  ·exact hdir a i h hr
  ·split at hr
   ·rename_i o ho;obtain⟨e,he1,he2⟩:=Array.any_eq_true'.1 hr;rw[Bool.and_eq_true]at he2;have hl:=h o ho e he1 he2.1;refine ih a e.on (fun o' ho' e' he' hb'=>hcl e.on o' ho' ?_ e' he' hb') he2.2;have hlt:e.on<listed.size:=by
     rcases Nat.lt_or_ge e.on listed.size with h1|h1
     ·exact h1
     ·simp[Array.getD,Nat.not_lt.2 h1]at hl
    simpa [Array.getD,hlt]using hl
   ·cases hr
def rest(n:Nat)(listed:Array Bool):List Nat:=(List.range n).filter fun i=> !listed.getD i true
theorem any_sound(hm0:B.m≤1000)(hN:B.N≤1000)(hG:g.G B.w0)(hX:∀d b,B.X d b→g.n≤b){fps:Nat→Option Nat}(htr:z130 P B.N H fps ops 0 ops.toList=some sops)(hok:z103 ops true sops=true){sf:FS}{Q:Exit→Act→World→Prop}(hQ:∀a w E,Sim B sf a w E→Q .normal a w):
  ∀(fuel:Nat) (listed:Array Bool) (s:FS) (a:Act) (w:World) (E:Env),listed.size=ops.size→ClosedL ops listed→Sim B s a w E→FreshI sops (rest ops.size listed) s→RunI P g sops (rest ops.size listed) s sf→(rest ops.size listed).length≤fuel→
   wpAny P .any ops Q fuel listed a w:=by
 obtain⟨hlen,hspec⟩:=z68 htr;have hlen':ops.size=sops.length:=by simpa using hlen
 have hmk:=mkAll_of hok;have hback:∀(i:Nat) o,ops[i]?=some o→∀e∈o.after,Region.binds .any e=true→e.on<i:=by
  intro i o hi e he hb;unfold z103 at hok;rw[Bool.and_eq_true]at hok;have hil:i<sops.length:=by rw[←hlen'];exact(gA hi).1
  have h2:=hok.2;simp only[Bool.not_true,Bool.false_or]at h2;have:=List.all_eq_true.1 h2 i (by simpa using hil);rw[hi]at this;have:=Array.all_eq_true_iff_forall_mem.1 this e he;simp only[hb,Bool.not_true,Bool.false_or]at this;rw[Nat.blt_eq]at this;exact this
 have hrest:∀(listed:Array Bool) i,i∈rest ops.size listed ↔ i<ops.size∧listed.getD i true=false:=by
  intro listed i;simp[rest]
 have hready:∀(listed:Array Bool) i,i∈Region.ready .any ops listed ↔ i∈rest ops.size listed∧∀o,ops[i]?=some o→∀e∈o.after,Region.binds .any e=true→listed.getD e.on false=true:=by
  intro listed i;rw[hrest];unfold Region.ready;simp only[List.mem_filter,List.mem_range,Bool.and_eq_true,Bool.not_eq_true'];constructor
  ·rintro⟨h1,h2,h3⟩;refine⟨⟨h1,h2⟩,fun o ho e he hb=> ?_⟩;rw[ho]at h3;simp only[Option.map_some,Option.getD_some]at h3;have:=Array.all_eq_true_iff_forall_mem.1 h3 e he;simpa [hb]using this
  ·rintro⟨⟨h1,h2⟩,h3⟩;refine⟨h1,h2,?_⟩;obtain⟨o,ho⟩:∃o,ops[i]?=some o:=⟨_,Array.getElem?_eq_getElem h1⟩
   rw[ho];simp only[Option.map_some,Option.getD_some];refine Array.all_eq_true_iff_forall_mem.2 fun e he=> ?_;cases hb:Region.binds .any e
   ·rfl
   ·simp[h3 o ho e he hb]
 have hnil:∀(listed:Array Bool),listed.size=ops.size→Region.ready .any ops listed=[]→rest ops.size listed=[]:=by
  intro listed hsz hr;cases hrl:rest ops.size listed with
  |nil=>rfl
  |cons i l=>
   exfalso;have hi:i∈rest ops.size listed:=by rw[hrl];exact List.mem_cons_self ..
   have hmin:∀j,j<i→j∉rest ops.size listed:=by
    intro j hj hjm;have hp:(rest ops.size listed).Pairwise (·<·):=List.Pairwise.filter _ List.pairwise_lt_range;rw[hrl]at hp hjm;rcases List.mem_cons.1 hjm with rfl|hjm
    ·omega
    ·have:=(List.pairwise_cons.1 hp).1 j hjm;omega
   have:i∈Region.ready .any ops listed:=by
    rw[hready];refine⟨hi,fun o ho e he hb=> ?_⟩;have hlt:=hback i o ho e he hb;have hil:=((hrest listed i).1 hi).1;have hnm:=hmin e.on hlt;rw[hrest]at hnm;have hel:e.on<listed.size:=by omega
    have:listed.getD e.on true≠false:=fun h=>hnm ⟨by omega,h⟩;simpa [Array.getD,hel]using this
   rw[hr]at this;cases this
 intro fuel
 induction fuel with
 |zero=>
  intro listed s a w E hsz hcl hS hf hrun hle;have hr0:rest ops.size listed=[]:=List.eq_nil_of_length_eq_zero (by omega);rw[hr0]at hrun;have hrun:s=sf:=hrun;subst hrun;refine⟨?_,hQ a w E hS⟩;cases hrd:Region.ready .any ops listed with
  |nil=>rfl
  |cons i l=>
   have:=((hready listed i).1 (by rw[hrd];exact List.mem_cons_self ..)).1;rw[hr0]at this;cases this
 |succ fuel ih=>
  intro listed s a w E hsz hcl hS hf hrun hle;refine⟨fun hr=> ?_,fun i hi=> ?_⟩
  ·have hr0:=hnil listed hsz hr;rw[hr0]at hrun;have hrun:s=sf:=hrun;subst hrun;exact hQ a w E hS
  ·obtain⟨hir,hipre⟩:=(hready listed i).1 hi;obtain⟨hin,hil⟩:=(hrest listed i).1 hir;obtain⟨o,ho⟩:∃o,ops[i]?=some o:=⟨_,Array.getElem?_eq_getElem hin⟩
   obtain⟨so,hso,hto⟩:=hspec i o (by simpa using ho);obtain⟨A,Bl,hAB⟩:=List.append_of_mem hir;have hp:(rest ops.size listed).Pairwise (·<·):=List.Pairwise.filter _ List.pairwise_lt_range;have hnd:(rest ops.size listed).Nodup:=hp.imp (fun h=>Nat.ne_of_lt h);rw[hAB]at hp hnd hf hrun;have hA:∀j∈A,j<i:=fun j hj=>(List.pairwise_append.1 hp).2.2 j hj i (List.mem_cons_self ..);obtain⟨s1,hs1,hrun1⟩:=swap_front hmk hso A s hnd (fun j hj oa hoa=>by
    have hji:=hA j hj;have hjr:j∈rest ops.size listed:=by rw[hAB];exact List.mem_append_left _ hj
    have hjl:=((hrest listed j).1 hjr)
    unfold z103 at hok;rw[Bool.and_eq_true]at hok;have:=List.all_eq_true.1 (List.all_eq_true.1 hok.1 i (by simp;omega)) j (by simpa using hji);unfold pairOk at this;rw[hoa,hso]at this;simp only[Bool.and_eq_true,Bool.not_true,Bool.false_or,Bool.or_eq_true]at this;rcases this.2 with h1|h1
    ·exact h1
    ·have:=z137 hcl hsz 4 j i hipre h1;have hlt:j<listed.size:=by omega
     have h2:=hjl.2;simp[Array.getD,hlt]at this h2;rw[this]at h2;cases h2) hf hrun
   obtain⟨C1,hC1,hst1⟩:=hs1;have hs1:Stp P g so s s1:=⟨C1,hC1,hst1⟩
   refine sim_step hm0 hN hG hX hC1 hS ho hto (hf i (List.mem_append_right _ (List.mem_cons_self ..)) so hso) hst1 (fun a' w' E' hS'=> ?_);have hiAB:i∉A++Bl:=by
    have:=List.nodup_append.1 hnd;intro hm;rcases List.mem_append.1 hm with h1|h1
    ·exact this.2.2 i h1 i (List.mem_cons_self ..) rfl
    ·exact(List.nodup_cons.1 this.2.1).1 h1
   have hilt:i<listed.size:=by omega
   have hrest':rest ops.size (listed.setIfInBounds i true)=A++Bl:=by
    have h1:rest ops.size (listed.setIfInBounds i true)=(rest ops.size listed).filter (fun j=>j !=i):=by
     unfold rest;rw[List.filter_filter];apply List.filter_congr;intro j hj;have hjn:j<ops.size:=by simpa using hj
     have hjl:j<listed.size:=by omega
     by_cases hji:j=i
     ·subst hji;simp[Array.getD,hjl]
     ·simp[Array.getD,hjl,hji,Array.getElem_setIfInBounds,Ne.symm hji]
    rw[h1,hAB,List.filter_append,List.filter_cons];simp only[bne_self_eq_false,Bool.false_eq_true,if_false];rw[List.filter_eq_self.2,List.filter_eq_self.2]
    ·intro j hj;simp;rintro rfl;exact hiAB (List.mem_append_right _ hj)
    ·intro j hj;simp;rintro rfl;exact hiAB (List.mem_append_left _ hj)
   refine ih (listed.setIfInBounds i true) s1 a' w' E' (by simpa using hsz) ?_ hS' ?_ (by rw[hrest'];exact hrun1) ?_
   ·intro j oj hj hjl e he hb;have hset:∀k,listed.getD k false=true→(listed.setIfInBounds i true).getD k false=true:=by
     intro k hk;have hkl:k<listed.size:=by
      rcases Nat.lt_or_ge k listed.size with h1|h1
      ·exact h1
      ·simp[Array.getD,Nat.not_lt.2 h1]at hk
     by_cases hki:i=k
     ·subst hki;simp[Array.getD,hkl]
     ·rw[Array.getD_eq_getD_getElem?,Array.getElem?_setIfInBounds_ne hki,←Array.getD_eq_getD_getElem?];exact hk
    by_cases hji:j=i
    ·subst hji;exact hset _ (hipre oj hj e he hb)
    ·refine hset _ (hcl j oj hj ?_ e he hb);have hjn:j<listed.size:=by rw[hsz];exact(gA hj).1
     simp[Array.getD,hjn,Array.getElem_setIfInBounds,Ne.symm hji]at hjl;simp[Array.getD,hjn,hjl]
   ·rw[hrest'];refine z90 hmk hso hiAB (fun j hj=>hf j ?_) hs1;rcases List.mem_append.1 hj with h1|h1
    ·exact List.mem_append_left _ h1
    ·exact List.mem_append_right _ (List.mem_cons_of_mem _ h1)
   ·rw[hrest'];rw[hAB]at hle;simp at hle ⊢;omega
end
def SPan(P:Program)(g:Glob)(f:Nat)(xs:List TV)(os:List MO)(z:Value)(os':List MO):Prop:=
 hasBody P f∧∀(w:World) (E:Env) (vs:List Value),g.G w→MSim (start w E os 0) (objB os) (objR os) w E→(∀d b,objX E os d b→g.n≤b)→xs.length=vs.length→
  (∀(j:Nat) x v,xs[j]?=some x→vs[j]?=some v→RelT w E (objR os) x v)→
  Calls P f vs.toArray w fun e w'=>∃E',e=.panicked [{ v:=z,recovered:=false }]∧MSim (start w E os 0) (objB os') (objR os') w' E'∧Left E os E' os'
def panEff(P:Program)(g:Glob)(s:FS)(k f mode:Nat)(xs:List TV)(z:Value)(u:Upd):Prop:=
 ∃xs' os os' us,seqO (TV.ren2 (rhoIn (handI s mode xs))) xs=some xs'∧seqO (fun d=>(s.mo d).bind (MO.ren (rhoIn (handI s mode xs)))) (handI s mode xs)=some os∧SPan P g f xs' os z os'∧moOk os os'=true∧outs (rhoOut (handI s mode xs) k) 0 os'=some us∧u=.mem us
section
variable{B:Base}{s:FS}{a:Act}{w w':World}{E E':Env}{r:Rows}{P:Program}{C:Oracle}{g:Glob}
theorem wp_panAt(h:Sim B s a w E)(hG:g.G B.w0)(hX:∀d b,B.X d b→g.n≤b){o:Oper}{f mode:Nat}{xs:List TV}{vs:List Value}(hmx:∀x∈xs,∀d,Ment d x→s.ment d)(hl:xs.length=vs.length)(hxs:∀(j:Nat) x v,xs[j]?=some x→vs[j]?=some v→RelT w E s.r x v)
  (hop:hasBody P f→(execOp a.eval o).run P w=.ok (.enter f vs.toArray) w) (hm0:B.m≤1000) (hf:∀q<4,Fresh s (newId (dstId o.dst) q))
  {z:Value} {u:Upd} (he:panEff P g s (dstId o.dst) f mode xs z u) {next:Act→World→Prop} {Q:Exit→Act→World→Prop}
  (hn:∀w' E',Sim B (s.upd o.dst u) a w' E'→Q (.panic [{ v:=z,recovered:=false }]) a w'):o.wp P a w next Q:=by
 obtain⟨xs',os,os',us,h1,h2,⟨hbody,hcall⟩,h4,h6,rfl⟩:=he;obtain⟨hI,hIm⟩:=handI_spec mode hmx;have hn0:=g.le _ hG;have hw0:=h.mem.low.size;have hGw:g.G w:=g.st _ _ hG (fun k hk=>h.mem.low.block k (by omega) (fun d hd=>by have:=hX d k hd;omega));have hrho:RenOk E s.r (rhoIn (handI s mode xs)) (envIn E (handI s mode xs)) (objR os):=renIn h2;obtain⟨l1,q1⟩:=seqR (w:=w) (fun _ _ _=>ren2_rel hrho (fun _ _ _ h _=>h)) hl hxs h1;have hblk:∀d b,objX (envIn E (handI s mode xs)) os d b→g.n≤b:=by
  intro d b hx;obtain⟨hlen,hB,hR⟩:=handed h2;rcases hx with⟨cs,e1,e2⟩|⟨⟨e,W,n⟩,cap,e1,e2⟩
  ·obtain⟨j,rfl,hj⟩:=z38 e1;obtain⟨i,c,b1,b2,_⟩:=hB j cs hj;have e3:E.β i=b:=by rw[←e2];simp only[envIn];rw[z30 b1]
   rcases(h.mem.box i c b2).2 with e4|e4
   ·omega
   ·have:=hX _ _ e4;omega
  ·obtain⟨j,rfl,hj⟩:=z24 e1;obtain⟨i,b1,b2,b3⟩:=hR j e W n hj;have e3:E.γ i=some (b,cap):=by rw[←e2];simp only[envIn];rw[z30 b1]
   rcases h.mem.row i e W n b3 with⟨e4,_⟩|⟨b',c',e4,e5,_⟩
   ·rw[e4]at e3;cases e3
   ·rw[e4]at e3;cases e3;rcases e5 with e5|e5
    ·omega
    ·exact hX _ _ e5
 have hcalls:=hcall w (envIn E (handI s mode xs)) vs hGw (z100 h hI h2) hblk l1 q1;unfold Oper.wp;rw[hop hbody];refine hcalls.mono ?_;rintro e w' ⟨E',rfl,hm,hleft⟩;obtain⟨hS,_⟩:=z153 h hI hIm hm0 hf h2 h4 h6 hm hleft o.dst;exact hn w' _ hS
def PanG(P:Program)(g:Glob)(o:SOper)(s:FS)(z:Value)(u:Upd):Prop:=
 o.guard=none∧match o.op with
 | .pan x=>x.get s=some (.pv (.v z))∧(∃t v,z=.iface t v)∧u=.no
 | .call f m xs=>∃args,seqO (fun x:Arg=>x.get s) xs=some args∧panEff P g s (dstId o.dst) f m args z u
 |_=>False
def mayPan:SOp→Bool
 | .pan _=>true
 | .call _ m _=>Nat.beq m 3
 |_=>false
def quiet(o:SOper):Bool:= !o.op.wb&& !o.op.wr&& !o.op.wi&&o.news.isEmpty
theorem quiet_after{o:SOper}(hq:quiet o=true){s:FS}{e:TV×Upd}(he:effG P C o s=some e):(s.after o e).b=s.b∧(s.after o e).r=s.r∧(s.after o e).i=s.i∧∀k,o.dst≠some k→(s.after o e).t k=s.t k:=by
  unfold quiet at hq
  simp only[Bool.and_eq_true,Bool.not_eq_true',List.isEmpty_iff]at hq
  obtain⟨⟨⟨h1,h2⟩,h3⟩,h4⟩:=hq
  have h4:o.op.news o.dst=[]:=h4
  have hS:=z115 he
  refine⟨funext fun d=> ?_,funext fun d=> ?_,funext fun d=> ?_,fun k hk=> ?_⟩
  · unfold FS.after
    rw[put_b,upd_b]
    cases ho:ovB o.dst e.2 d with
    |none=>rfl
    | some cs => exact (by rcases hS.b d cs ho with h | ⟨h, _⟩; · rw [h4] at h; cases h
                           · rw[h1]at h;cases h)
  · unfold FS.after
    rw[put_r,upd_r]
    cases ho:ovR e.2 d with
    |none=>rfl
    | some cs => exact (by rcases hS.r d cs ho with h | ⟨h, _⟩; · rw [h4] at h; cases h
                           · rw[h2]at h;cases h)
  · unfold FS.after
    rw[put_i,upd_i]
    cases ho:ovI e.2 d with
    |none=>rfl
    | some cs => exact (by rcases hS.i d cs ho with h | ⟨h, _⟩; · rw [h4] at h; cases h
                           · rw[h3]at h;cases h)
  · unfold FS.after
    rw[put_t,upd_t,if_neg hk]
theorem reach_same{s s':FS}{rows:Bool}(hb:s'.b=s.b)(hr:s'.r=s.r):∀(n:Nat) (l seen:List Nat),reach s' rows n l seen=reach s rows n l seen
 |0,l,seen=>by simp only[reach]
 |n+1,[],seen=>by simp only[reach]
 |n+1,d::l,seen=>by
  simp only[reach,hb,hr,reach_same hb hr n]
theorem panG_congr{o:SOper}{s s':FS}{z:Value}{u:Upd}(hb:s'.b=s.b)(hr:s'.r=s.r)(ht:∀k∈o.reads,s'.t k=s.t k)(h:PanG P g o s' z u):PanG P g o s z u:=by
 obtain⟨hg,h⟩:=h;refine⟨hg,?_⟩;have hrd:∀k∈o.op.reads,s'.t k=s.t k:=fun k hk=>ht k (by simp[SOper.reads,hk]);cases hop:o.op with
 |pan x=>
  rw[hop]at h hrd;simp only at h ⊢;rw[z27 (x:=x) (s:=s) (s':=s') hrd]at h;exact h
 |call f m xs=>
  rw[hop]at h hrd;simp only at h ⊢;obtain⟨args,h1,h2⟩:=h;rw[z117 (s:=s) (s':=s') hrd]at h1;refine⟨args,h1,?_⟩;have hI:handI s' m args=handI s m args:=by unfold handI;rw[reach_same hb hr]
  unfold panEff at h2 ⊢;rw[hI]at h2;obtain⟨xs',os,os',us,a1,a2,a3⟩:=h2;refine⟨xs',os,os',us,a1,?_,a3⟩;rw[←a2];refine z121 fun d _=> ?_;simp only[FS.mo,hb,hr]
 |_=>rw[hop]at h;exact h.elim
theorem trans_pan{o:Oper}{h:Nat}{x:Arg}(hop:z16 P o h=some (.pan x)):∃y,o.op=.panic y∧x=.of y:=by
 unfold z16 at hop
 repeat' (split at hop)
 all_goals first|(exact⟨_,by assumption,by cases hop;rfl⟩)|(cases hop;done)|(obtain⟨_,_,hx⟩:=gO hop;cases hx)
theorem trans_call{o:Oper}{h f m:Nat}{xs:List Arg}(hop:z16 P o h=some (.call f m xs)):∃ars ats,o.op=.call { callee:=.value (.func f),args:=ars,argTypes:=ats }∧xs=ars.toList.map Arg.of:=by
 unfold z16 at hop
 repeat' (split at hop)
 all_goals first|(cases hop;exact⟨_,_,by assumption,rfl⟩)|(cases hop;done)|(obtain⟨_,_,hx⟩:=gO hop;cases hx)
variable{H:Option Nat→Nat}{ops:Array Oper}{sops:List SOper}
theorem sim_pan(hm0:B.m≤1000)(hG:g.G B.w0)(hX:∀d b,B.X d b→g.n≤b){s:FS}(h:Sim B s a w E){i:Nat}{o:Oper}{so:SOper}{fp:Option Nat}(hi:ops[i]?=some o)(ht:z72 P B.N H fp ops o=some so)(hf:FreshO so s){z:Value}{u:Upd}(hp:PanG P g so s z u)
  {K:Act→World→Prop} {Q:Exit→Act→World→Prop} (hQ:∀w' E',Sim B (s.upd so.dst u) a w' E'→Q (.panic [{ v:=z,recovered:=false }]) a w'):wpOp P ops Q i K a w:=by
 unfold z72 at ht;split at ht<;>try(cases ht;done)
 rename_i gd op hg hop;split at ht<;>try(cases ht;done)
 rename_i hd;cases ht;obtain⟨hgn,hp⟩:=hp;have hgo:o.guard=none:=by
  cases hgo:o.guard with
  |none=>rfl
  |some jw=>
   obtain⟨j,want⟩:=jw;rw[hgo]at hg;simp only[z147]at hg;simp only at hgn;subst hgn;split at hg<;>cases hg
 unfold wpOp;simp only[hi];rw[if_pos (by simp[Region.wanted,hgo])];refine .inl ?_;cases hoo:op with
 |pan x=>
  subst hoo;simp only at hp;obtain⟨h1,⟨t,v,rfl⟩,rfl⟩:=hp;have hpo:=trans_pan hop;obtain⟨y,hy,rfl⟩:=hpo;have hv:=val_rel (y:=.iface t v) (z11 h h1) rfl;unfold Oper.wp;have hrun:(execOp a.eval o).run P w=.halt (.panic (.iface t v)) w:=by
   simp only[execOp,hy,hv,Instr.panic];rfl
  rw[hrun];exact hQ w E h
 |call f m xs=>
  subst hoo;simp only at hp;obtain⟨args,h1,h2⟩:=hp;have hpo:=trans_call hop;obtain⟨ars,ats,hq,rfl⟩:=hpo;obtain⟨a1,a2,a3⟩:=get_list h h1;have harr:(ars.toList.map a.eval).toArray=ars.map a.eval:=by rw[←Array.toList_map,Array.toArray_toList]
  refine wp_panAt h hG hX a3 a1 a2 (fun hbody=> ?_) hm0 (fun q hq=>hf _ (by simp only[SOper.news,SOp.news];match q,hq with|0,_=>simp|1,_=>simp|2,_=>simp|3,_=>simp)) h2 (fun w' E' hS=>hQ w' E' hS);obtain⟨fn',body,b1,b2,b3⟩:=hbody;have hex:execOp a.eval o=callFunc f (#[]++ars.map a.eval++ #[]):=by
   obtain⟨dst,op,type,pos,after,guard⟩:=o
   dsimp only at hq
   subst hq;rfl
  rw[hex,harr];simp[callFunc,b1,b2,b3]
 |_=>subst hoo;exact hp.elim
theorem beq_false'{a b:Nat}(h:a≠b):Nat.beq a b=false:=by cases hb:Nat.beq a b with|false=>rfl|true=>exact absurd (Nat.eq_of_beq_eq_true hb) h
def panOk(ops:Array Oper)(sops:List SOper):Bool:=(List.range sops.length).all fun k=>match sops[k]? with
 |some o=> !mayPan o.op||(List.range sops.length).all fun i=>Nat.beq i k||(if Nat.blt i k then(match sops[i]? with|some p=>quiet p|none=>true)||ahead ops 4 i k else ahead ops 4 k i)
 |none=>true
theorem quiet_run{o:SOper}{sk:FS}:∀(A:List Nat) (s:FS),(∀j∈A,∀oa,sops[j]?=some oa→quiet oa=true∧apart oa o=true)→RunI P g sops A s sk→
  sk.b=s.b∧sk.r=s.r∧sk.i=s.i∧(∀j∈o.reads,sk.t j=s.t j)∧(∀j,(∀o'∈sops,o'.dst≠some j)→sk.t j=s.t j)
 |[],s,_,h=>by have h:s=sk:=h;subst h;exact⟨rfl,rfl,rfl,fun _ _=>rfl,fun _ _=>rfl⟩
 |x::A,s,hA,h=>by
  obtain⟨oa,s1,hoa,⟨C,hC,hst⟩,h2⟩:=h;obtain⟨i1,i2,i3,i4,i5⟩:=quiet_run A s1 (fun j hj=>hA j (List.mem_cons_of_mem _ hj)) h2;obtain⟨hq,hap⟩:=hA x (List.mem_cons_self ..) oa hoa;obtain⟨e,he,rfl⟩:=gO hst;obtain⟨q1,q2,q3,q4⟩:=quiet_after hq he;refine⟨i1.trans q1,i2.trans q2,i3.trans q3,fun j hj=>(i4 j hj).trans (q4 j (fun hd=> ?_)),fun j hj=>(i5 j hj).trans (q4 j (hj oa (gM hoa)))⟩;unfold apart at hap;simp only[Bool.and_eq_true]at hap;have h1:=hap.1.1;rw[hd]at h1;simp at h1;exact h1.1 hj
theorem any_pan(hm0:B.m≤1000)(hN:B.N≤1000)(hG:g.G B.w0)(hX:∀d b,B.X d b→g.n≤b){fps:Nat→Option Nat}(htr:z130 P B.N H fps ops 0 ops.toList=some sops)(hok:z103 ops true sops=true)(hpo:panOk ops sops=true){kk:Nat}{ok:SOper}(hkk:sops[kk]?=some ok)(hmay:mayPan ok.op=true)
  {z:Value} {u:Upd} {sk:FS} (hp:PanG P g ok sk z u) {Q:Exit→Act→World→Prop}
  (hQ:∀(s1:FS) a w E,s1.b=sk.b→s1.r=sk.r→s1.i=sk.i→(∀j,(∀o'∈sops,o'.dst≠some j)→s1.t j=sk.t j)→Sim B (s1.upd ok.dst u) a w E→Q (.panic [{ v:=z,recovered:=false }]) a w):
  ∀(fuel:Nat) (listed:Array Bool) (s:FS) (a:Act) (w:World) (E:Env),listed.size=ops.size→ClosedL ops listed→Sim B s a w E→FreshI sops (rest ops.size listed) s→listed.getD kk true=false→RunI P g sops ((rest ops.size listed).filter (fun i=>decide (i<kk))) s sk→(rest ops.size listed).length≤fuel→
   wpAny P .any ops Q fuel listed a w:=by
 obtain⟨hlen,hspec⟩:=z68 htr;have hlen':ops.size=sops.length:=by simpa using hlen
 have hmk:=mkAll_of hok;have hback:∀(i:Nat) o,ops[i]?=some o→∀e∈o.after,Region.binds .any e=true→e.on<i:=by
  intro i o hi e he hb;unfold z103 at hok;rw[Bool.and_eq_true]at hok;have hil:i<sops.length:=by rw[←hlen'];exact(gA hi).1
  have h2:=hok.2;simp only[Bool.not_true,Bool.false_or]at h2;have:=List.all_eq_true.1 h2 i (by simpa using hil);rw[hi]at this;have:=Array.all_eq_true_iff_forall_mem.1 this e he;simp only[hb,Bool.not_true,Bool.false_or]at this;rw[Nat.blt_eq]at this;exact this
 have hrest:∀(listed:Array Bool) i,i∈rest ops.size listed ↔ i<ops.size∧listed.getD i true=false:=by
  intro listed i;simp[rest]
 have hready:∀(listed:Array Bool) i,i∈Region.ready .any ops listed ↔ i∈rest ops.size listed∧∀o,ops[i]?=some o→∀e∈o.after,Region.binds .any e=true→listed.getD e.on false=true:=by
  intro listed i;rw[hrest];unfold Region.ready;simp only[List.mem_filter,List.mem_range,Bool.and_eq_true,Bool.not_eq_true'];constructor
  ·rintro⟨h1,h2,h3⟩;refine⟨⟨h1,h2⟩,fun o ho e he hb=> ?_⟩;rw[ho]at h3;simp only[Option.map_some,Option.getD_some]at h3;have:=Array.all_eq_true_iff_forall_mem.1 h3 e he;simpa [hb]using this
  ·rintro⟨⟨h1,h2⟩,h3⟩;refine⟨h1,h2,?_⟩;obtain⟨o,ho⟩:∃o,ops[i]?=some o:=⟨_,Array.getElem?_eq_getElem h1⟩
   rw[ho];simp only[Option.map_some,Option.getD_some];refine Array.all_eq_true_iff_forall_mem.2 fun e he=> ?_;cases hb:Region.binds .any e
   ·rfl
   ·simp[h3 o ho e he hb]
 have hnil:∀(listed:Array Bool),listed.size=ops.size→Region.ready .any ops listed=[]→rest ops.size listed=[]:=by
  intro listed hsz hr;cases hrl:rest ops.size listed with
  |nil=>rfl
  |cons i l=>
   exfalso;have hi:i∈rest ops.size listed:=by rw[hrl];exact List.mem_cons_self ..
   have hmin:∀j,j<i→j∉rest ops.size listed:=by
    intro j hj hjm;have hp:(rest ops.size listed).Pairwise (·<·):=List.Pairwise.filter _ List.pairwise_lt_range;rw[hrl]at hp hjm;rcases List.mem_cons.1 hjm with rfl|hjm
    ·omega
    ·have:=(List.pairwise_cons.1 hp).1 j hjm;omega
   have:i∈Region.ready .any ops listed:=by
    rw[hready];refine⟨hi,fun o ho e he hb=> ?_⟩;have hlt:=hback i o ho e he hb;have hil:=((hrest listed i).1 hi).1;have hnm:=hmin e.on hlt;rw[hrest]at hnm;have hel:e.on<listed.size:=by omega
    have:listed.getD e.on true≠false:=fun h=>hnm ⟨by omega,h⟩;simpa [Array.getD,hel]using this
   rw[hr]at this;cases this
 have hkkn:kk<ops.size:=by rw[hlen'];exact(gJ hkk).1
 have hpk:∀i,i<ops.size→i≠kk→(i<kk→(∀p,sops[i]?=some p→quiet p=true)∨ahead ops 4 i kk=true)∧(kk<i→ahead ops 4 kk i=true):=by
  intro i hi hne;unfold panOk at hpo;have h1:=List.all_eq_true.1 hpo kk (by rw[←hlen'];simpa using hkkn);simp only[hkk,hmay,Bool.not_true,Bool.false_or]at h1;have h2:=List.all_eq_true.1 h1 i (by rw[←hlen'];simpa using hi);rw[beq_false' hne,Bool.false_or]at h2;refine⟨fun hlt=> ?_,fun hgt=> ?_⟩
  ·rw[if_pos (by rw[Nat.blt_eq];exact hlt)]at h2;rw[Bool.or_eq_true]at h2;rcases h2 with h2|h2
   ·exact .inl (fun p hp=>by rw[hp]at h2;exact h2)
   ·exact .inr h2
  ·rw[if_neg (by rw[Nat.blt_eq];omega)]at h2;exact h2
 intro fuel
 induction fuel with
 |zero=>
  intro listed s a w E hsz hcl hS hf hun hrun hle;exfalso;have hr0:rest ops.size listed=[]:=List.eq_nil_of_length_eq_zero (by omega);have:=(hrest listed kk).2 ⟨hkkn,hun⟩;rw[hr0]at this;cases this
 |succ fuel ih=>
  intro listed s a w E hsz hcl hS hf hun hrun hle;have hkr:kk∈rest ops.size listed:=(hrest listed kk).2 ⟨hkkn,hun⟩;refine⟨fun hr=> ?_,fun i hi=> ?_⟩
  ·exfalso;have hr0:=hnil listed hsz hr;rw[hr0]at hkr;cases hkr
  ·obtain⟨hir,hipre⟩:=(hready listed i).1 hi;obtain⟨hin,hil⟩:=(hrest listed i).1 hir;obtain⟨o,ho⟩:∃o,ops[i]?=some o:=⟨_,Array.getElem?_eq_getElem hin⟩
   obtain⟨so,hso,hto⟩:=hspec i o (by simpa using ho);have hp0:(rest ops.size listed).Pairwise (·<·):=List.Pairwise.filter _ List.pairwise_lt_range;have hnl:∀j,j<ops.size→listed.getD j true=false→listed.getD j false=true→False:=by
    intro j hj h1 h2;have hlt:j<listed.size:=by omega
    simp[Array.getD,hlt]at h1 h2;rw[h1]at h2;cases h2
   have hapart:∀j,j<i→listed.getD j true=false→∀oa,sops[j]?=some oa→apart oa so=true:=by
    intro j hji hjl oa hoa;have hjn:j<ops.size:=by omega
    have hok2:=hok;unfold z103 at hok2;rw[Bool.and_eq_true]at hok2;have:=List.all_eq_true.1 (List.all_eq_true.1 hok2.1 i (by simp;omega)) j (by simpa using hji);unfold pairOk at this;rw[hoa,hso]at this;simp only[Bool.and_eq_true,Bool.not_true,Bool.false_or,Bool.or_eq_true]at this;rcases this.2 with h1|h1
    ·exact h1
    ·exact(hnl j hjn hjl (z137 hcl hsz 4 j i hipre h1)).elim
   rcases Nat.lt_trichotomy i kk with hlt|heq|hgt
   ·
    have hiA:i∈(rest ops.size listed).filter (fun i=>decide (i<kk)):=by simp[hir,hlt]
    obtain⟨A,Bl,hAB⟩:=List.append_of_mem hiA;have hpA:((rest ops.size listed).filter (fun i=>decide (i<kk))).Pairwise (·<·):=List.Pairwise.filter _ hp0;have hfA:FreshI sops ((rest ops.size listed).filter (fun i=>decide (i<kk))) s:=fun j hj=>hf j ((List.mem_filter.1 hj).1);have hnd:((rest ops.size listed).filter (fun i=>decide (i<kk))).Nodup:=hpA.imp (fun h=>Nat.ne_of_lt h);rw[hAB]at hpA hnd hfA hrun;have hA:∀j∈A,j<i:=fun j hj=>(List.pairwise_append.1 hpA).2.2 j hj i (List.mem_cons_self ..);obtain⟨s1,hs1,hrun1⟩:=swap_front hmk hso A s hnd (fun j hj oa hoa=>by
     have hjr:j∈(rest ops.size listed).filter (fun i=>decide (i<kk)):=by rw[hAB];exact List.mem_append_left _ hj
     exact hapart j (hA j hj) ((hrest listed j).1 ((List.mem_filter.1 hjr).1)).2 oa hoa) hfA hrun
    obtain⟨C1,hC1,hst1⟩:=hs1;have hs1:Stp P g so s s1:=⟨C1,hC1,hst1⟩
    refine sim_step hm0 hN hG hX hC1 hS ho hto (hf i hir so hso) hst1 (fun a' w' E' hS'=> ?_);have hilt:i<listed.size:=by omega
    have hrest':rest ops.size (listed.setIfInBounds i true)=(rest ops.size listed).filter (fun j=>j !=i):=by
     unfold rest;rw[List.filter_filter];apply List.filter_congr;intro j hj;have hjn:j<ops.size:=by simpa using hj
     have hjl:j<listed.size:=by omega
     by_cases hji:j=i
     ·subst hji;simp[Array.getD,hjl]
     ·simp[Array.getD,hjl,hji,Array.getElem_setIfInBounds,Ne.symm hji]
    have hiAB:i∉A++Bl:=by
     have:=List.nodup_append.1 hnd;intro hm;rcases List.mem_append.1 hm with h1|h1
     ·exact this.2.2 i h1 i (List.mem_cons_self ..) rfl
     ·exact(List.nodup_cons.1 this.2.1).1 h1
    have hfil:((rest ops.size listed).filter (fun j=>j !=i)).filter (fun i=>decide (i<kk))=A++Bl:=by
     rw[List.filter_filter];have:(rest ops.size listed).filter (fun a=>decide (a<kk)&&(a !=i))=((rest ops.size listed).filter (fun i=>decide (i<kk))).filter (fun j=>j !=i):=by
      rw[List.filter_filter];apply List.filter_congr;intro j _;exact Bool.and_comm _ _
     rw[this,hAB,List.filter_append,List.filter_cons];simp only[bne_self_eq_false,Bool.false_eq_true,if_false];rw[List.filter_eq_self.2,List.filter_eq_self.2]
     ·intro j hj;simp;rintro rfl;exact hiAB (List.mem_append_right _ hj)
     ·intro j hj;simp;rintro rfl;exact hiAB (List.mem_append_left _ hj)
    refine ih (listed.setIfInBounds i true) s1 a' w' E' (by simpa using hsz) ?_ hS' ?_ ?_ (by rw[hrest',hfil];exact hrun1) ?_
    ·intro j oj hj hjl e he hb;have hset:∀k,listed.getD k false=true→(listed.setIfInBounds i true).getD k false=true:=by
      intro k hk;have hkl:k<listed.size:=by
       rcases Nat.lt_or_ge k listed.size with h1|h1
       ·exact h1
       ·simp[Array.getD,Nat.not_lt.2 h1]at hk
      by_cases hki:i=k
      ·subst hki;simp[Array.getD,hkl]
      ·rw[Array.getD_eq_getD_getElem?,Array.getElem?_setIfInBounds_ne hki,←Array.getD_eq_getD_getElem?];exact hk
     by_cases hji:j=i
     ·subst hji;exact hset _ (hipre oj hj e he hb)
     ·refine hset _ (hcl j oj hj ?_ e he hb);have hjn:j<listed.size:=by rw[hsz];exact(gA hj).1
      simp[Array.getD,hjn,Array.getElem_setIfInBounds,Ne.symm hji]at hjl;simp[Array.getD,hjn,hjl]
    ·rw[hrest'];refine z90 hmk hso (by simp) (fun j hj=>hf j ((List.mem_filter.1 hj).1)) hs1
    ·have hkl:kk<listed.size:=by omega
     have hne:i≠kk:=by omega
     rw[Array.getD_eq_getD_getElem?,Array.getElem?_setIfInBounds_ne hne,←Array.getD_eq_getD_getElem?];exact hun
    ·rw[hrest'];have h1:((rest ops.size listed).filter (fun j=>j !=i)).length<(rest ops.size listed).length:=by
      refine List.length_filter_lt_length_iff_exists.2 ⟨i,hir,by simp⟩
     omega
   ·
    subst heq;rw[hkk]at hso;cases hso;obtain⟨q1,q2,q3,q4,q5⟩:=quiet_run (o:=ok) _ s (fun j hj oa hoa=>by
     have hjr:=(List.mem_filter.1 hj).1;have hji:j<i:=by simpa using(List.mem_filter.1 hj).2
     obtain⟨hjn,hjl⟩:=(hrest listed j).1 hjr;refine⟨?_,hapart j hji hjl oa hoa⟩;rcases(hpk j hjn (by omega)).1 hji with h1|h1
     ·exact h1 oa hoa
     ·exact(hnl j hjn hjl (z137 hcl hsz 4 j i hipre h1)).elim) hrun
    have hp':PanG P g ok s z u:=panG_congr q1 q2 q4 hp;exact sim_pan hm0 hG hX hS ho hto (hf i hir ok hkk) hp' (fun w' E' hS'=>hQ s a w' E' q1.symm q2.symm q3.symm (fun j hj=>(q5 j hj).symm) hS')
   ·exact(hnl kk hkkn hun (z137 hcl hsz 4 kk i hipre ((hpk i hin (by omega)).2 hgt))).elim
end
def lk{α:Type}:List (Nat×α)→Nat→Option α
 |[],_=>none
 |(k,x)::l,d=>match Nat.beq k d with|true=>some x|false=>lk l d
def sv{α:Type}:List (Nat×α)→Nat→α→List (Nat×α)
 |[],k,x=>[(k,x)]
 |(j,y)::l,k,x=>match Nat.beq j k with|true=>(k,x)::l|false=>(j,y)::sv l k x
def has:List Nat→Nat→Bool
 |[],_=>false
 |k::l,d=>match Nat.beq k d with|true=>true|false=>has l d
def drp{α:Type}(ids:List Nat):List (Nat×α)→List (Nat×α)
 |[]=>[]
 |(k,x)::l=>match has ids k with|true=>drp ids l|false=>(k,x)::drp ids l
theorem lk_sv{α:Type}(k:Nat)(x:α):∀l:List (Nat×α),lk (sv l k x)=setF (lk l) k x
 |[]=>by
  funext d;simp only[sv,lk,setF];by_cases h:d=k
  ·subst h;simp[Nat.beq_refl]
  ·have:Nat.beq k d=false:=by cases hb:Nat.beq k d with|false=>rfl|true=>exact absurd (Nat.eq_of_beq_eq_true hb).symm h
   simp[this,h]
 |(j,y)::l=>by
  have ih:=lk_sv k x l;funext d;simp only[sv];cases hj:Nat.beq j k with
  |true=>
   obtain rfl:=Nat.eq_of_beq_eq_true hj;simp only[lk,setF];by_cases h:d=j
   ·subst h;simp[Nat.beq_refl]
   ·have:Nat.beq j d=false:=by cases hb:Nat.beq j d with|false=>rfl|true=>exact absurd (Nat.eq_of_beq_eq_true hb).symm h
    simp[this,h]
  |false=>
   have hne:j≠k:=by rintro rfl;simp[Nat.beq_refl]at hj
   simp only[lk,ih,setF];by_cases h:d=k
   ·subst h;simp[hj]
   ·simp[h]
theorem has_mem:∀{l:List Nat} {d:Nat},has l d=true ↔ d∈l
 |[],d=>by simp[has]
 |k::l,d=>by
  simp only[has];cases hb:Nat.beq k d with
  |true=>simp[Nat.eq_of_beq_eq_true hb]
  |false=>
   have:d≠k:=by rintro rfl;simp[Nat.beq_refl]at hb
   simp[this,has_mem]
theorem lk_drp{α:Type}{ids:List Nat}:∀(l:List (Nat×α)) (d:Nat),lk (drp ids l) d=if has ids d then none else lk l d
 |[],d=>by simp[drp,lk]
 |(k,x)::l,d=>by
  have ih:=lk_drp (ids:=ids) l d;simp only[drp];cases hk:has ids k with
  |true=>
   simp only[ih,lk];cases hb:Nat.beq k d with
   |true=>obtain rfl:=Nat.eq_of_beq_eq_true hb;simp[hk]
   |false=>rfl
  |false=>
   simp only[lk,ih];cases hb:Nat.beq k d with
   |true=>obtain rfl:=Nat.eq_of_beq_eq_true hb;simp[hk]
   |false=>rfl
theorem lk_map{α:Type}(f:α→α):∀(l:List (Nat×α)) (d:Nat),lk (l.map fun e=>(e.1,f e.2)) d=(lk l d).map f
 |[],d=>rfl
 |(k,x)::l,d=>by
  simp only[List.map_cons,lk];cases Nat.beq k d with
  |true=>rfl
  |false=>exact lk_map f l d
structure ES where
 t:List (Nat×TV)
 b:List (Nat×List TV)
 r:List (Nat×(Nat×Nat×Nat))
 i:List (Nat×(ByteArray×Nat))
def ES.fs(s:ES):FS:=⟨lk s.t,lk s.b,lk s.r,lk s.i⟩
def putMem(us:List (Nat×MO))(s:ES):List Nat→ES
 |[]=>s
 |i::l=>match us.lookup i with
  |some (.box cs)=>let s':=putMem us s l;{ s' with b:=sv s'.b i cs }
  |some (.row e W n)=>let s':=putMem us s l;{ s' with r:=sv s'.r i (e,W,n) }
  |none=>putMem us s l
def ES.upd(s:ES)(dst:Option Nat):Upd→ES
 | .no=>s
 | .box cs=>match dst with|some d=>{ s with b:=sv s.b d cs }|none=>s
 | .wr d cs=>{ s with b:=sv s.b d cs }
 | .row d q=>{ s with r:=sv s.r d q }
 | .mem us=>putMem us s (us.map (·.1))
 | .it d q=>{ s with i:=sv s.i d q }
def ES.put(s:ES)(dst:Option Nat)(x:TV):ES:=match dst with|some k=>{ s with t:=sv s.t k x }|none=>s
def ES.after(s:ES)(o:SOper)(e:TV×Upd):ES:=(s.upd o.dst e.2).put o.dst e.1
theorem putMem_spec(us:List (Nat×MO))(s:ES):∀l:List Nat,(putMem us s l).t=s.t∧(putMem us s l).i=s.i∧(∀d,lk (putMem us s l).b d=if d∈l then memB us (lk s.b) d else lk s.b d)∧(∀d,lk (putMem us s l).r d=if d∈l then memR us (lk s.r) d else lk s.r d)
 |[]=>by simp[putMem]
 |i::l=>by
  obtain⟨h1,h2,h3,h4⟩:=putMem_spec us s l;simp only[putMem];cases hm:us.lookup i with
  |none=>
   refine⟨h1,h2,fun d=> ?_,fun d=> ?_⟩
   ·rw[h3];by_cases hd:d=i
    ·subst hd;simp[memB,hm]
    ·simp[hd]
   ·rw[h4];by_cases hd:d=i
    ·subst hd;simp[memR,hm]
    ·simp[hd]
  |some m=>
   cases m with
   |box cs=>
    refine⟨h1,h2,fun d=> ?_,fun d=> ?_⟩
    ·simp only[lk_sv,setF,h3];by_cases hd:d=i
     ·subst hd;simp[memB,hm]
     ·simp[hd]
    ·simp only[h4];by_cases hd:d=i
     ·subst hd;simp[memR,hm]
     ·simp[hd]
   |row e W n=>
    refine⟨h1,h2,fun d=> ?_,fun d=> ?_⟩
    ·simp only[h3];by_cases hd:d=i
     ·subst hd;simp[memB,hm]
     ·simp[hd]
    ·simp only[lk_sv,setF,h4];by_cases hd:d=i
     ·subst hd;simp[memR,hm]
     ·simp[hd]
theorem lookup_none{us:List (Nat×MO)}{d:Nat}(h:d∉us.map (·.1)):us.lookup d=none:=by
  cases hl:us.lookup d with
  |none=>rfl
  |some m=>
    exfalso
    apply h
    induction us with
    |nil=>simp at hl
    |cons p l ih=>
      obtain⟨x,y⟩:=p
      simp only[List.lookup]at hl
      cases he:(d==x)with
      | true => have : d = x := by simpa using he
                simp[this]
      |false=>
        rw[he]at hl
        have:=ih (by intro hh;exact h (by simp at hh ⊢;exact .inr hh)) hl
        simp at this ⊢;exact .inr this
theorem ES.upd_fs(s:ES)(dst:Option Nat)(u:Upd):(s.upd dst u).fs=s.fs.upd dst u:=by
 cases u with
 |no=>rfl
 |box cs=>
  cases dst with
  |none=>rfl
  |some d=>simp only[ES.upd,ES.fs,FS.upd,FS.setB,lk_sv]
 |wr d cs=>simp only[ES.upd,ES.fs,FS.upd,FS.setB,lk_sv]
 |row d q=>simp only[ES.upd,ES.fs,FS.upd,FS.setR,lk_sv]
 |it d q=>simp only[ES.upd,ES.fs,FS.upd,FS.setI,lk_sv]
 |mem us=>
  obtain⟨h1,h2,h3,h4⟩:=putMem_spec us s (us.map (·.1));simp only[ES.upd,ES.fs,FS.upd];refine FS.ext' (fun k=> ?_) (fun k=> ?_) (fun k=> ?_) (fun k=> ?_)
  ·simp[h1]
  ·simp only[h3];split
   ·rfl
   ·rename_i hk;simp[memB,lookup_none hk]
  ·simp only[h4];split
   ·rfl
   ·rename_i hk;simp[memR,lookup_none hk]
  ·simp[h2]
theorem ES.put_fs(s:ES)(dst:Option Nat)(x:TV):(s.put dst x).fs=s.fs.put dst x:=by
 cases dst with
 |none=>rfl
 |some k=>simp only[ES.put,ES.fs,FS.put,FS.setT,lk_sv]
theorem ES.after_fs(s:ES)(o:SOper)(e:TV×Upd):(s.after o e).fs=s.fs.after o e:=by
 unfold ES.after FS.after;rw[ES.put_fs,ES.upd_fs]
def TV.m0(ids:List Nat):TV→Bool
 | .pv _| .unk=>false
 | .ptr d _| .own d _ _| .bs d _ _ _| .it d=>has ids d
 |_=>true
def TV.mF(ids:List Nat):TV→Bool
 | .fn _ a b=>a.any (TV.m0 ids)||b.any (TV.m0 ids)
 |t=>t.m0 ids
def TV.mE(ids:List Nat):TV→Bool
 | .agg cs=>cs.any (TV.mF ids)
 |t=>t.mF ids
def TV.m1(ids:List Nat):TV→Bool
 | .mp _ xs=>xs.any (TV.mE ids)
 |t=>t.mF ids
def TV.m2(ids:List Nat):TV→Bool
 | .agg cs=>cs.any (TV.m1 ids)
 |t=>t.m1 ids
def TV.m3(ids:List Nat):TV→Bool
 | .tuple cs=>cs.any (TV.m2 ids)
 |t=>t.m2 ids
theorem m0_ment{ids:List Nat}{t:TV}{d:Nat}(h:t.m0 ids=false)(hd:d∈ids):¬Ment d t:=by
 intro hm;cases hm<;>simp only[TV.m0]at h
 all_goals first|(rw[has_mem.2 hd]at h;cases h)|cases h
theorem mF_ment{ids:List Nat}{t:TV}{d:Nat}(h:t.mF ids=false)(hd:d∈ids):¬Ment d t:=by
 cases t with
 |fn f a b=>
  intro hm;simp only[TV.mF,Bool.or_eq_false_iff,List.any_eq_false]at h;cases hm with
  |fn1 hc hm=>exact m0_ment (by simpa using h.1 _ hc) hd hm
  |fn2 hc hm=>exact m0_ment (by simpa using h.2 _ hc) hd hm
 |_=>exact m0_ment h hd
theorem mE_ment{ids:List Nat}{t:TV}{d:Nat}(h:t.mE ids=false)(hd:d∈ids):¬Ment d t:=by
 cases t with
 |agg cs=>
  intro hm;simp only[TV.mE,List.any_eq_false]at h;cases hm with
  |agg hc hm=>exact mF_ment (by simpa using h _ hc) hd hm
 |_=>exact mF_ment h hd
theorem m1_ment{ids:List Nat}{t:TV}{d:Nat}(h:t.m1 ids=false)(hd:d∈ids):¬Ment d t:=by
 cases t with
 |mp ks xs=>
  intro hm;simp only[TV.m1,List.any_eq_false]at h;cases hm with
  |mp hc hm=>exact mE_ment (by simpa using h _ hc) hd hm
 |_=>exact mF_ment h hd
theorem m2_ment{ids:List Nat}{t:TV}{d:Nat}(h:t.m2 ids=false)(hd:d∈ids):¬Ment d t:=by
 cases t with
 |agg cs=>
  intro hm;simp only[TV.m2,List.any_eq_false]at h;cases hm with
  |agg hc hm=>exact m1_ment (by simpa using h _ hc) hd hm
 |_=>exact m1_ment h hd
theorem m3_ment{ids:List Nat}{t:TV}{d:Nat}(h:t.m3 ids=false)(hd:d∈ids):¬Ment d t:=by
 cases t with
 |tuple cs=>
  intro hm;simp only[TV.m3,List.any_eq_false]at h;cases hm with
  |tuple hc hm=>exact m2_ment (by simpa using h _ hc) hd hm
 |_=>exact m2_ment h hd
def fgt3(ids:List Nat)(x:TV):TV:=match x.m3 ids with|true=> .unk|false=>x
def ES.fgt(s:ES)(ids:List Nat):ES:=
 ⟨s.t.map fun e=>(e.1,fgt3 ids e.2),(drp ids s.b).map fun e=>(e.1,e.2.map (fgt3 ids)),drp ids s.r,drp ids s.i⟩
theorem fgt3_cases(ids:List Nat)(x:TV):fgt3 ids x=x∨fgt3 ids x=.unk:=by
 unfold fgt3;cases x.m3 ids<;>simp
theorem fgt3_ment{ids:List Nat}{x:TV}{d:Nat}(hd:d∈ids):¬Ment d (fgt3 ids x):=by
 unfold fgt3;cases h:x.m3 ids with
 |true=>intro hm;cases hm
 |false=>exact m3_ment h hd
theorem fgt_b(s:ES)(ids:List Nat)(d:Nat):(s.fgt ids).fs.b d=if has ids d then none else(lk s.b d).map fun cs=>cs.map (fgt3 ids):=by
 show lk ((drp ids s.b).map fun e=>(e.1,e.2.map (fgt3 ids))) d=_;rw[lk_map (fun cs:List TV=>cs.map (fgt3 ids)) (drp ids s.b) d,lk_drp];split<;>rfl
theorem z70{B:Base}{s:ES}{a:Act}{w:World}{E:Env}(h:Sim B s.fs a w E)(ids:List Nat):Sim B (s.fgt ids).fs a w E:=by
 refine h.less (fun k x hx=> ?_) (fun d cs' hd=> ?_) (fun d q hd=> ?_) (fun d q hd=> ?_)
 ·have hx:lk (s.t.map fun e=>(e.1,fgt3 ids e.2)) k=some x:=hx;rw[lk_map (fgt3 ids)]at hx;obtain⟨y,h1,rfl⟩:=gO hx;rcases fgt3_cases ids y with e|e
  ·rw[e];exact .inl h1
  ·exact .inr ⟨e,y,h1⟩
 ·rw[fgt_b]at hd;split at hd
  ·cases hd
  ·obtain⟨cs,h1,rfl⟩:=gO hd;refine⟨cs,h1,fun j c hc=> ?_⟩;rw[List.getElem?_map]at hc;obtain⟨y,h2,rfl⟩:=gO hc;rcases fgt3_cases ids y with e|e
   ·rw[e];exact .inl h2
   ·exact .inr ⟨e,y,h2⟩
 ·have hd:lk (drp ids s.r) d=some q:=hd;rw[lk_drp]at hd;split at hd
  ·cases hd
  ·exact hd
 ·have hd:lk (drp ids s.i) d=some q:=hd;rw[lk_drp]at hd;split at hd
  ·cases hd
  ·exact hd
theorem z47(s:ES){ids:List Nat}{d:Nat}(hd:d∈ids):Fresh (s.fgt ids).fs d:=by
 have hh:=has_mem.2 hd;refine⟨?_,by rw[fgt_b,hh];rfl,by show lk (drp ids s.r) d=none;rw[lk_drp,hh];rfl,by show lk (drp ids s.i) d=none;rw[lk_drp,hh];rfl⟩;rintro(⟨k,x,hx,hm⟩|⟨e,cs,c,he,hc,hm⟩)
 ·have hx:lk (s.t.map fun e=>(e.1,fgt3 ids e.2)) k=some x:=hx;rw[lk_map (fgt3 ids)]at hx;obtain⟨y,h1,rfl⟩:=gO hx;exact fgt3_ment hd hm
 ·rw[fgt_b]at he;split at he
  ·cases he
  ·obtain⟨cs0,h1,rfl⟩:=gO he;obtain⟨y,_,rfl⟩:=List.mem_map.1 hc;exact fgt3_ment hd hm
def ES.kill(s:ES)(ks:List Nat):ES:=match ks with|[]=>s|_=>{ s with t:=drp ks s.t }
theorem z165{B:Base}{s:ES}{a:Act}{w:World}{E:Env}(h:Sim B s.fs a w E)(ks:List Nat):Sim B (s.kill ks).fs a w E:=by
 unfold ES.kill;split
 ·exact h
 ·refine h.less (fun k x hx=> .inl ?_) (fun d cs hd=>⟨cs,hd,fun j c hc=> .inl hc⟩) (fun d q hd=>hd) (fun d q hd=>hd);have hx:lk (drp ks s.t) k=some x:=hx;rw[lk_drp]at hx;split at hx
  ·cases hx
  ·exact hx
def runE(P:Program)(C:Oracle):List SOper→ES→Option ES
 |[],s=>some s
 |o::l,s=>match effG P C o s.fs with
  |some e=>runE P C l (s.after o e)
  |none=>none
def opsW(P:Program)(g:Glob):List SOper→(ES→Prop)→ES→Prop
 |[],K,s=>K s
 |o::l,K,s=>∃C,SoundC P g C∧∃e,effG P C o s.fs=some e∧opsW P g l K (s.after o e)
theorem z169{P:Program}{g:Glob}{sops:List SOper}{K:ES→Prop}:∀{l:List SOper} {j:Nat} {s:ES},sops.drop j=l→opsW P g l K s→∃s',RunI P g sops (List.range' j l.length) s.fs s'.fs∧K s'
 |[],j,s,_,h=>⟨s,rfl,h⟩
 |o::l,j,s,hd,h=>by
  obtain⟨C,hC,e,he,h⟩:=h;have hj:sops[j]?=some o:=by
   have:=congrArg (·[0]?) hd;simpa using this
  have hd':sops.drop (j+1)=l:=by
   have:=congrArg (List.drop 1) hd;simpa [List.drop_drop,Nat.add_comm]using this
  obtain⟨s',h1,h2⟩:=z169 hd' h;refine⟨s',⟨o,s.fs.after o e,hj,⟨C,hC,by unfold step;rw[he];rfl⟩,?_⟩,h2⟩;rw[←ES.after_fs];exact h1
section
variable{P:Program}{H:Option Nat→Nat}{ops:Array Oper}{B:Base}{sops:List SOper}{g:Glob}{draw:Bool}{id:Nat}
theorem region_sound(hmix:P.follows .mixedOrders=true)(hm0:B.m≤1000)(hN:B.N≤1000)(hG:g.G B.w0)(hX:∀d b,B.X d b→g.n≤b){fps:Nat→Option Nat}(htr:z34 P B.N H fps ops draw=some sops){s:ES}{K:ES→Prop}
  (hf:∀d∈sops.flatMap SOper.news,Fresh s.fs d) (h:opsW P g sops K s) {a:Act} {w:World} {E:Env} (hS:Sim B s.fs a w E) {Q:Exit→Act→World→Prop} (hQ:∀s' a' w' E',K s'→Sim B s'.fs a' w' E'→Q .normal a' w'):
  (Code.region id ops draw).wp P Q a w:=by
 unfold z34 at htr;split at htr<;>try(cases htr;done)
 rename_i sops' hseq;split at htr<;>try(cases htr;done)
 rename_i hok;cases htr;obtain⟨s',hrun,hK⟩:=z169 (sops:=sops) (l:=sops) (j:=0) rfl h;obtain⟨hlen,hspec⟩:=z68 hseq;have hlen':ops.size=sops.length:=by simpa using hlen
 have hfi:∀l,FreshI sops l s.fs:=fun l i _ o ho d hd=>hf d (List.mem_flatMap.2 ⟨o,gM ho,hd⟩);have hmk:=mkAll_of hok;rw[←List.range_eq_range',←hlen']at hrun;cases draw with
 |false=>
  refine wp_region ?_;have key:∀(l:List Nat) (s:FS) (a:Act) (w:World) (E:Env),l.Nodup→Sim B s a w E→FreshI sops l s→RunI P g sops l s s'.fs→wpOps P ops Q l a w:=by
   intro l
   induction l with
   |nil=>intro s a w E _ hS _ hr;have hr:s=s'.fs:=hr;subst hr;exact hQ s' a w E hK hS
   |cons i l ih=>
    intro s a w E hnd hS hf hr;obtain⟨o,s1,ho,⟨C,hC,hst⟩,hr⟩:=hr;have hil:i<ops.size:=by rw[hlen'];exact(gJ ho).1
    have hoi:ops[i]?=some ops[i]:=Array.getElem?_eq_getElem hil;obtain⟨so,hso,hto⟩:=hspec i ops[i] (by simp[hil]);rw[ho]at hso;cases hso;rw[wpOps_cons];refine sim_step hm0 hN hG hX hC hS hoi hto (hf i (List.mem_cons_self ..) o ho) hst (fun a' w' E' hS'=> ?_);exact ih s1 a' w' E' (List.nodup_cons.1 hnd).2 hS' (z90 hmk ho (List.nodup_cons.1 hnd).1 (fun j hj=>hf j (List.mem_cons_of_mem _ hj)) ⟨C,hC,hst⟩) hr
  exact key _ s.fs a w E List.nodup_range hS (hfi _) hrun
 |true=>
  refine wp_region_any hmix ?_;have hrest:rest ops.size (Array.replicate ops.size false)=List.range ops.size:=by
   unfold rest;rw[List.filter_eq_self];intro i hi;have:i<ops.size:=by simpa using hi
   simp[Array.getD,this]
  refine any_sound hm0 hN hG hX hseq hok (sf:=s'.fs) (fun a w E hS=>hQ s' a w E hK hS) ops.size _ s.fs a _ E (by simp) (fun i o ho hl=> ?_) (hS.same (Below.refl _ _).drew) (hfi _) (by rw[hrest];exact hrun) (by rw[hrest];simp);have hil:=(gA ho).1;simp[Array.getD,hil]at hl
end
def opsP(P:Program)(g:Glob)(D:List Nat):List SOper→(Value→ES→Prop)→ES→Prop
 |[],_,_=>False
 |o::l,R,s=>(mayPan o.op=true∧∃z u,PanG P g o s.fs z u∧R z ((s.upd o.dst u).kill D))∨∃C,SoundC P g C∧∃e,effG P C o s.fs=some e∧opsP P g D l R (s.after o e)
theorem runI_of_opsP{P:Program}{g:Glob}{D:List Nat}{sops:List SOper}{R:Value→ES→Prop}:∀{l:List SOper} {j:Nat} {s:ES},sops.drop j=l→opsP P g D l R s→
  ∃(k:Nat) (o:SOper) (sk:ES) (z:Value) (u:Upd),j≤k∧sops[k]?=some o∧mayPan o.op=true∧RunI P g sops (List.range' j (k-j)) s.fs sk.fs∧PanG P g o sk.fs z u∧R z ((sk.upd o.dst u).kill D)
 |[],j,s,_,h=>h.elim
 |o::l,j,s,hd,h=>by
  have hj:sops[j]?=some o:=by
   have:=congrArg (·[0]?) hd;simpa using this
  rcases h with⟨h1,z,u,h2,h3⟩|⟨C,hC,e,he,h⟩
  ·exact⟨j,o,s,z,u,Nat.le_refl _,hj,h1,by rw[Nat.sub_self];exact rfl,h2,h3⟩
  ·have hd':sops.drop (j+1)=l:=by
    have:=congrArg (List.drop 1) hd;simpa [List.drop_drop,Nat.add_comm]using this
   obtain⟨k,o',sk,z,u,a1,a2,a3,a4,a5,a6⟩:=runI_of_opsP hd' h;refine⟨k,o',sk,z,u,by omega,a2,a3,?_,a5,a6⟩;have:k-j=(k-(j+1))+1:=by omega
   rw[this,List.range'_succ];exact⟨o,s.fs.after o e,hj,⟨C,hC,by unfold step;rw[he];rfl⟩,by rw[←ES.after_fs];exact a4⟩
theorem kill_t{s:ES}{ks:List Nat}{k:Nat}{x:TV}(h:lk (s.kill ks).t k=some x):k∉ks∧lk s.t k=some x:=by
 unfold ES.kill at h;split at h
 ·exact⟨by simp,h⟩
 ·have h:lk (drp ks s.t) k=some x:=h;rw[lk_drp]at h;split at h
  ·cases h
  ·rename_i hh;refine⟨fun hm=>hh (has_mem.2 hm),h⟩
theorem kill_bri(s:ES)(ks:List Nat):(s.kill ks).b=s.b∧(s.kill ks).r=s.r∧(s.kill ks).i=s.i:=by
 unfold ES.kill;split<;>exact⟨rfl,rfl,rfl⟩
def dstOps(l:List SOper):List Nat:=l.filterMap (·.dst)
section
variable{P:Program}{H:Option Nat→Nat}{ops:Array Oper}{B:Base}{sops:List SOper}{g:Glob}{draw:Bool}{id:Nat}
theorem upd_of_eq{s1 sk:FS}(hb:s1.b=sk.b)(hr:s1.r=sk.r)(hi:s1.i=sk.i)(dst:Option Nat)(u:Upd):(s1.upd dst u).b=(sk.upd dst u).b∧(s1.upd dst u).r=(sk.upd dst u).r∧(s1.upd dst u).i=(sk.upd dst u).i:=
 ⟨funext fun d=>by rw[upd_b,upd_b,hb],funext fun d=>by rw[upd_r,upd_r,hr],funext fun d=>by rw[upd_i,upd_i,hi]⟩
theorem region_pan(hmix:P.follows .mixedOrders=true)(hm0:B.m≤1000)(hN:B.N≤1000)(hG:g.G B.w0)(hX:∀d b,B.X d b→g.n≤b){fps:Nat→Option Nat}(htr:z34 P B.N H fps ops draw=some sops)(hpo:draw=true→panOk ops sops=true){s:ES}{R:Value→ES→Prop}
  (hf:∀d∈sops.flatMap SOper.news,Fresh s.fs d) (h:opsP P g (dstOps sops) sops R s) {a:Act} {w:World} {E:Env} (hS:Sim B s.fs a w E) {Q:Exit→Act→World→Prop} (hQ:∀z s' a' w' E',R z s'→Sim B s'.fs a' w' E'→Q (.panic [{ v:=z,recovered:=false }]) a' w'):
  (Code.region id ops draw).wp P Q a w:=by
 unfold z34 at htr;split at htr<;>try(cases htr;done)
 rename_i sops' hseq;split at htr<;>try(cases htr;done)
 rename_i hok;cases htr;obtain⟨k,o,sk,z,u,_,hk,hmay,hrun,hp,hR⟩:=runI_of_opsP (sops:=sops) (l:=sops) (j:=0) rfl h;obtain⟨hlen,hspec⟩:=z68 hseq;have hlen':ops.size=sops.length:=by simpa using hlen
 have hkn:k<sops.length:=(gJ hk).1;have hfi:∀l,FreshI sops l s.fs:=fun l i _ o ho d hd=>hf d (List.mem_flatMap.2 ⟨o,gM ho,hd⟩);have hmk:=mkAll_of hok;rw[Nat.sub_zero,←List.range_eq_range']at hrun;have fin:∀(s1:FS) a w E,s1.b=sk.fs.b→s1.r=sk.fs.r→s1.i=sk.fs.i→(∀j,(∀o'∈sops,o'.dst≠some j)→s1.t j=sk.fs.t j)→Sim B (s1.upd o.dst u) a w E→Q (.panic [{ v:=z,recovered:=false }]) a w:=by
  intro s1 a w E e1 e2 e3 e4 hS1;refine hQ z _ a w E hR ?_;obtain⟨u1,u2,u3⟩:=upd_of_eq e1 e2 e3 o.dst u;obtain⟨k1,k2,k3⟩:=kill_bri (sk.upd o.dst u) (dstOps sops);have hfs:(sk.upd o.dst u).fs=sk.fs.upd o.dst u:=ES.upd_fs _ _ _;refine hS1.less (fun j x hx=> .inl ?_) (fun d cs hd=>⟨cs,?_,fun j c hc=> .inl hc⟩) (fun d q hd=> ?_) (fun d q hd=> ?_)
  ·obtain⟨h1,h2⟩:=kill_t hx;have h2:(sk.upd o.dst u).fs.t j=some x:=h2;rw[hfs,upd_t]at h2;rw[upd_t,e4 j (fun o' ho' hd=>h1 (List.mem_filterMap.2 ⟨o',ho',hd⟩))];exact h2
  ·have hd:lk ((sk.upd o.dst u).kill (dstOps sops)).b d=some cs:=hd;rw[k1]at hd;have hd:(sk.upd o.dst u).fs.b d=some cs:=hd;rw[hfs]at hd;rw[u1];exact hd
  ·have hd:lk ((sk.upd o.dst u).kill (dstOps sops)).r d=some q:=hd;rw[k2]at hd;have hd:(sk.upd o.dst u).fs.r d=some q:=hd;rw[hfs]at hd;rw[u2];exact hd
  ·have hd:lk ((sk.upd o.dst u).kill (dstOps sops)).i d=some q:=hd;rw[k3]at hd;have hd:(sk.upd o.dst u).fs.i d=some q:=hd;rw[hfs]at hd;rw[u3];exact hd
 cases draw with
 |false=>
  refine wp_region ?_;have key:∀(l:List Nat) (s:FS) (a:Act) (w:World) (E:Env) (r:List Nat),(l++k::r).Nodup→Sim B s a w E→FreshI sops (l++k::r) s→RunI P g sops l s sk.fs→wpOps P ops Q (l++k::r) a w:=by
   intro l
   induction l with
   |nil=>
    intro s a w E r hnd hS hf hr;have hr:s=sk.fs:=hr;subst hr;have hil:k<ops.size:=by rw[hlen'];exact hkn
    have hoi:ops[k]?=some ops[k]:=Array.getElem?_eq_getElem hil;obtain⟨so,hso,hto⟩:=hspec k ops[k] (by simp[hil]);rw[hk]at hso;cases hso;rw[List.nil_append,wpOps_cons];exact sim_pan hm0 hG hX hS hoi hto (hf k (by simp) o hk) hp (fun w' E' hS'=>fin sk.fs a w' E' rfl rfl rfl (fun _ _=>rfl) hS')
   |cons i l ih=>
    intro s a w E r hnd hS hf hr;obtain⟨oi,s1,ho,⟨C,hC,hst⟩,hr⟩:=hr;have hil:i<ops.size:=by rw[hlen'];exact(gJ ho).1
    have hoi:ops[i]?=some ops[i]:=Array.getElem?_eq_getElem hil;obtain⟨so,hso,hto⟩:=hspec i ops[i] (by simp[hil]);rw[ho]at hso;cases hso;rw[List.cons_append]at hnd hf ⊢;rw[wpOps_cons];refine sim_step hm0 hN hG hX hC hS hoi hto (hf i (List.mem_cons_self ..) oi ho) hst (fun a' w' E' hS'=> ?_);exact ih s1 a' w' E' r (List.nodup_cons.1 hnd).2 hS' (z90 hmk ho (List.nodup_cons.1 hnd).1 (fun j hj=>hf j (List.mem_cons_of_mem _ hj)) ⟨C,hC,hst⟩) hr
  have hsplit:List.range ops.size=List.range k++k::List.range' (k+1) (ops.size-(k+1)):=by
   have:ops.size=k+1+(ops.size-(k+1)):=by omega
   conv=>lhs;rw[this]
   rw[List.range_add,List.range_succ,List.append_assoc];congr 1;rw[List.singleton_append,List.range'_eq_map_range]
  rw[hsplit];exact key _ s.fs a w E _ (by rw[←hsplit];exact List.nodup_range) hS (hfi _) hrun
 |true=>
  refine wp_region_any hmix ?_;have hrest:rest ops.size (Array.replicate ops.size false)=List.range ops.size:=by
   unfold rest;rw[List.filter_eq_self];intro i hi;have:i<ops.size:=by simpa using hi
   simp[Array.getD,this]
  have hfil:(List.range ops.size).filter (fun i=>decide (i<k))=List.range k:=by
   have:ops.size=k+(ops.size-k):=by omega
   rw[this,List.range_add,List.filter_append,List.filter_eq_self.2 (by intro i hi;simpa using hi),List.filter_eq_nil_iff.2,List.append_nil];intro i hi;obtain⟨j,_,rfl⟩:=List.mem_map.1 hi;simp
  refine any_pan hm0 hN hG hX hseq hok (hpo rfl) hk hmay hp fin ops.size _ s.fs a _ E (by simp) (fun i o ho hl=> ?_) (hS.same (Below.refl _ _).drew) (hfi _) ?_ (by rw[hrest,hfil];exact hrun) (by rw[hrest];simp)
  ·have hil:=(gA ho).1;simp[Array.getD,hil]at hl
  ·have:k<ops.size:=by rw[hlen'];exact hkn
   simp[Array.getD,this]
end
inductive SCode where
 |skip
 |regq (alts:List (List Nat×List SOper)) (kill:List Nat)
 |raw (N:Nat) (c:Code)
 |reg (alts:List (List Nat×List SOper)) (kill:List Nat)
 |seq (a b:SCode)
 |cond (c:Arg) (a b:SCode)
 |block (id:Nat) (a:SCode)
 |loop (a:SCode)
 |exit (id:Nat)
 |ret
inductive SExit where
 |normal
 |exit (id:Nat)
 |ret
 |pan (z:Value)
def SExit.to:SExit→Exit
 | .normal=> .normal
 | .exit id=> .exit id
 | .ret=> .ret
 | .pan z=> .panic [{ v:=z,recovered:=false }]
def hasApp(ops:Array Oper):Bool:=ops.any fun o=>match o.op with| .call { callee:=.builtin .append, .. }=>true|_=>false
def z88(P:Program)(N:Nat)(ops:Array Oper)(draw:Bool):List ((Option Nat→Nat)×(Nat→Option Nat))→List (List Nat×List SOper)
 |[]=>[]
 |H::r=>match z34 P N H.1 H.2 ops draw with
  |some l=>(l.flatMap SOper.news,l)::z88 P N ops draw r
  |none=>z88 P N ops draw r
def z104(P:Program)(N:Nat)(ops:Array Oper)(draw:Bool):List ((Option Nat→Nat)×(Nat→Option Nat))→List (List Nat×List SOper)
 |[]=>[]
 |H::r=>match z34 P N H.1 H.2 ops draw with
  |some l=>if !draw||panOk ops l then(l.flatMap SOper.news,l)::z104 P N ops draw r else z104 P N ops draw r
  |none=>z104 P N ops draw r
def altsOf(H:Nat→Option Nat→Nat)(Fs:List (Nat→Option Nat))(app:Bool):List ((Option Nat→Nat)×(Nat→Option Nat)):=
 Fs.flatMap fun F=>if app then [(H 0,F),(H 1,F)] else [(H 0,F)]
def z8(P:Program)(N:Nat)(H:Nat→Option Nat→Nat)(Fp:Nat→List (Nat→Option Nat))(K:Nat→List Nat):Code→Option SCode
 | .skip=>some .skip
 | .region id ops draw=>match has (K id) 9999 with
  |true=>some (.regq (z104 P N ops draw (altsOf H (Fp id) (hasApp ops))) (K id))
  |false=>match has (K id) 9998 with
   |true=>some (.raw N (.region id ops draw))
   |false=>some (.reg (z88 P N ops draw (altsOf H (Fp id) (hasApp ops))) (K id))
 | .rangeFunc a b c d=>some (.raw N (.rangeFunc a b c d))
 | .seq a b=>match z8 P N H Fp K a,z8 P N H Fp K b with
  |some a',some b'=>some (.seq a' b')
  |_,_=>none
 | .cond c a b=>match z8 P N H Fp K a,z8 P N H Fp K b with
  |some a',some b'=>some (.cond (Arg.of c) a' b')
  |_,_=>none
 | .block id a=>(z8 P N H Fp K a).map (.block id)
 | .loop a=>(z8 P N H Fp K a).map .loop
 | .exit id=>some (.exit id)
 | .ret=>some .ret
 |_=>none
def leL{α:Type}:List (Nat×α)→List (Nat×α)→Prop
 |[],_=>True
 |(k,x)::r,l=>lk l k=some x∧leL r l
structure ES.Le(s0 s:ES):Prop where
 t:∀k x,lk s0.t k=some x→lk s.t k=some x
 b:∀k x,lk s0.b k=some x→lk s.b k=some x
 r:∀k x,lk s0.r k=some x→lk s.r k=some x
 i:∀k x,lk s0.i k=some x→lk s.i k=some x
theorem ES.Le.refl(s:ES):s.Le s:=⟨fun _ _ h=>h,fun _ _ h=>h,fun _ _ h=>h,fun _ _ h=>h⟩
theorem leL_lk{α:Type}{l:List (Nat×α)}:∀{l0:List (Nat×α)},leL l0 l→∀{k:Nat} {x:α},lk l0 k=some x→lk l k=some x
 |[],_,k,x,h=>by simp[lk]at h
 |(j,y)::r,⟨h1,h2⟩,k,x,h=>by
  simp only[lk]at h;split at h
  ·rename_i hb;obtain rfl:=Nat.eq_of_beq_eq_true hb;cases h;exact h1
  ·exact leL_lk h2 h
theorem le_of{s0 s:ES}(h1:leL s0.t s.t)(h2:leL s0.b s.b)(h3:leL s0.r s.r)(h4:leL s0.i s.i):s0.Le s:=⟨fun _ _ h=>leL_lk h1 h,fun _ _ h=>leL_lk h2 h,fun _ _ h=>leL_lk h3 h,fun _ _ h=>leL_lk h4 h⟩
theorem le_sound{B:Base}{s0 s:ES}{a:Act}{w:World}{E:Env}(hle:s0.Le s)(h:Sim B s.fs a w E):Sim B s0.fs a w E:=
 h.less (fun k x hx=> .inl (hle.t k x hx)) (fun d cs hd=>⟨cs,hle.b d cs hd,fun j c hc=> .inl hc⟩) (fun d q hd=>hle.r d q hd) (fun d q hd=>hle.i d q hd)
def ES.Lw(s0 s:ES):Prop:=∀(B:Base) (a:Act) (w:World) (E:Env),B.m≤1000→B.N≤1000→Sim B s.fs a w E→∃E',Sim B s0.fs a w E'
theorem ES.Lw.refl(s:ES):s.Lw s:=fun _ _ _ E _ _ h=>⟨E,h⟩
theorem ES.Lw.trans{a b c:ES}(h1:a.Lw b)(h2:b.Lw c):a.Lw c:=fun B x w E hm hn h=>by
 obtain⟨E1,h3⟩:=h2 B x w E hm hn h;exact h1 B x w E1 hm hn h3
theorem ES.Le.lw{s0 s:ES}(h:s0.Le s):s0.Lw s:=fun _ _ _ E _ _ hS=>⟨E,le_sound h hS⟩
def regW(P:Program)(g:Glob)(alts:List (List Nat×List SOper))(kill:List Nat)(K:ES→Prop)(s:ES):Prop:=
 ∃a∈alts,opsW P g a.2 (fun s'=>K (s'.kill kill)) (s.fgt a.1)
def condW(c:Arg)(s:ES)(A B:Prop):Prop:=∃t,c.get s.fs=some (.pv (.v (.bool t)))∧(if t then A else B)
def thenW(K:ES→Prop)(Q:SExit→ES→Prop):SExit→ES→Prop
 | .normal,s=>K s
 |e,s=>Q e s
def blockW(id:Nat)(Q:SExit→ES→Prop):SExit→ES→Prop
 | .exit j,s=>if j=id then Q .normal s else Q (.exit j) s
 |e,s=>Q e s
def regP(P:Program)(g:Glob)(alts:List (List Nat×List SOper))(Q:SExit→ES→Prop)(s:ES):Prop:=
 ∃a∈alts,opsP P g (dstOps a.2) a.2 (fun z s'=>Q (.pan z) s') (s.fgt a.1)
def RawW(P:Program)(g:Glob)(N:Nat)(c:Code)(Q:SExit→ES→Prop)(s:ES):Prop:=
 ∀(B:Base) (a:Act) (w:World) (E:Env),B.N=N→B.m≤1000→B.N≤1000→g.G B.w0→(∀d b,B.X d b→g.n≤b)→Sim B s.fs a w E→
  c.wp P (fun x a' w'=>∃e s' E',x=SExit.to e∧Q e s'∧Sim B s'.fs a' w' E') a w
def swp(P:Program)(g:Glob):SCode→(SExit→ES→Prop)→ES→Prop
 | .skip,Q,s=>Q .normal s
 | .reg alts kill,Q,s=>regW P g alts kill (Q .normal) s
 | .regq alts kill,Q,s=>regW P g alts kill (Q .normal) s∨regP P g alts Q s
 | .raw N c,Q,s=>RawW P g N c Q s
 | .seq a b,Q,s=>swp P g a (thenW (swp P g b Q) Q) s
 | .cond c a b,Q,s=>condW c s (swp P g a Q s) (swp P g b Q s)
 | .block id a,Q,s=>swp P g a (blockW id Q) s
 | .loop a,Q,s=>∃(I:Nat→ES→Prop) (n:Nat),(∃s0,s0.Lw s∧I n s0)∧∀n s,I n s→swp P g a (thenW (fun s'=>∃m,m<n∧∃s0,s0.Lw s'∧I m s0) Q) s
 | .exit id,Q,s=>Q (.exit id) s
 | .ret,Q,s=>Q .ret s
theorem opsP_mono{P:Program}{g:Glob}{D:List Nat}{R R':Value→ES→Prop}(hq:∀z s,R z s→R' z s):∀(l:List SOper) (s:ES),opsP P g D l R s→opsP P g D l R' s
 |[],_,h=>h
 |o::l,s,h=>by
  rcases h with⟨h1,z,u,h2,h3⟩|⟨C,hC,e,he,h⟩
  ·exact .inl ⟨h1,z,u,h2,hq _ _ h3⟩
  ·exact .inr ⟨C,hC,e,he,opsP_mono hq l _ h⟩
theorem regW_mono{P:Program}{g:Glob}{alts:List (List Nat×List SOper)}{kill:List Nat}{K K':ES→Prop}{s:ES}(hq:∀s,K s→K' s)(h:regW P g alts kill K s):regW P g alts kill K' s:=by
 obtain⟨a,ha,h⟩:=h;refine⟨a,ha,?_⟩;have key:∀(l:List SOper) (s:ES),opsW P g l (fun s'=>K (s'.kill kill)) s→opsW P g l (fun s'=>K' (s'.kill kill)) s:=by
  intro l
  induction l with
  |nil=>exact fun s h=>hq _ h
  |cons o l ih=>rintro s ⟨C,hC,e,he,h⟩;exact⟨C,hC,e,he,ih _ h⟩
 exact key _ _ h
theorem z48{P:Program}{g:Glob}:∀{c:SCode} {Q Q':SExit→ES→Prop} {s:ES},swp P g c Q s→(∀e s,Q e s→Q' e s)→swp P g c Q' s
 | .skip,Q,Q',s,h,hq=>hq _ _ h
 | .reg alts kill,Q,Q',s,h,hq=>regW_mono (fun _ h=>hq _ _ h) h
 | .regq alts kill,Q,Q',s,h,hq=>by
  rcases h with h|⟨a,ha,h⟩
  ·exact .inl (regW_mono (fun _ h=>hq _ _ h) h)
  ·exact .inr ⟨a,ha,opsP_mono (fun _ _ h=>hq _ _ h) _ _ h⟩
 | .raw N c,Q,Q',s,h,hq=>fun B a w E e1 e2 e3 e4 e5 e6=>wp_mono (h B a w E e1 e2 e3 e4 e5 e6) (by
  rintro x a' w' ⟨e,s',E',h1,h2,h3⟩;exact⟨e,s',E',h1,hq _ _ h2,h3⟩)
 | .seq a b,Q,Q',s,h,hq=>z48 (c:=a) h fun e s he=>by
  cases e with
  |normal=>exact z48 (c:=b) he hq
  |exit id=>exact hq _ _ he
  |ret=>exact hq _ _ he
  |pan z=>exact hq _ _ he
 | .cond c a b,Q,Q',s,h,hq=>by
  obtain⟨t,h1,h2⟩:=h;refine⟨t,h1,?_⟩;cases t with
  |true=>exact z48 (c:=a) h2 hq
  |false=>exact z48 (c:=b) h2 hq
 | .block id a,Q,Q',s,h,hq=>z48 (c:=a) h fun e s he=>by
  cases e with
  |exit j=>simp only[blockW]at he ⊢;split at he<;>rename_i hj<;>simp[hj,hq _ _ he]
  |normal=>exact hq _ _ he
  |ret=>exact hq _ _ he
  |pan z=>exact hq _ _ he
 | .loop a,Q,Q',s,h,hq=>by
  obtain⟨I,n,h0,h1⟩:=h;refine⟨I,n,h0,fun n s hI=>z48 (c:=a) (h1 n s hI) fun e s he=> ?_⟩;cases e with
  |normal=>exact he
  |exit id=>exact hq _ _ he
  |ret=>exact hq _ _ he
  |pan z=>exact hq _ _ he
 | .exit id,Q,Q',s,h,hq=>hq _ _ h
 | .ret,Q,Q',s,h,hq=>hq _ _ h
theorem least{p:Nat→Prop}(h:∃n,p n):∃n,p n∧∀m,p m→n≤m:=by
 obtain⟨n,hn⟩:=h
 induction n using Nat.strongRecOn with
 |_ n ih=>
  by_cases hl:∃m,m<n∧p m
  ·obtain⟨m,hm,hp⟩:=hl;exact ih m hm hp
  ·exact⟨n,hn,fun m hp=>Nat.le_of_not_lt fun hlt=>hl ⟨m,hlt,hp⟩⟩
open Classical in
noncomputable def leastOf(p:Act→World→Nat→Prop)(a:Act)(w:World):Nat:=if h:∃n,p a w n then Classical.choose (least h)else 0
theorem leastOf_spec{p:Act→World→Nat→Prop}{a:Act}{w:World}(h:∃n,p a w n):p a w (leastOf p a w)∧∀m,p a w m→leastOf p a w≤m:=by
 unfold leastOf;rw[dif_pos h];exact Classical.choose_spec (least h)
section
variable{P:Program}{H:Nat→Option Nat→Nat}{Fp:Nat→List (Nat→Option Nat)}{K:Nat→List Nat}{B:Base}{g:Glob}
theorem z36(hmix:P.follows .mixedOrders=true)(hm0:B.m≤1000)(hN:B.N≤1000)(hG:g.G B.w0)(hX:∀d b,B.X d b→g.n≤b):∀{c:Code} {sc:SCode},z8 P B.N H Fp K c=some sc→∀{Q:SExit→ES→Prop} {s:ES},swp P g sc Q s→∀{a:Act} {w:World} {E:Env},Sim B s.fs a w E→
  c.wp P (fun x a' w'=>∃e s' E',x=SExit.to e∧Q e s'∧Sim B s'.fs a' w' E') a w:=by
 intro c
 induction c with
 |skip=>
  intro sc h Q s hs a w E hS;simp only[z8]at h;cases h;exact wp_skip ⟨.normal,s,E,rfl,hs,hS⟩
 |exit id=>
  intro sc h Q s hs a w E hS;simp only[z8]at h;cases h;exact wp_exit ⟨.exit id,s,E,rfl,hs,hS⟩
 |ret=>
  intro sc h Q s hs a w E hS;simp only[z8]at h;cases h;exact wp_ret ⟨.ret,s,E,rfl,hs,hS⟩
 |region id ops draw=>
  intro sc h Q s hs a w E hS;simp only[z8]at h;split at h
  ·
   cases h;have key:∀(Hs:List ((Option Nat→Nat)×(Nat→Option Nat))) (al:List Nat×List SOper),al∈z104 P B.N ops draw Hs→∃H,∃F:Nat→Option Nat,z34 P B.N H F ops draw=some al.2∧al.1=al.2.flatMap SOper.news∧(draw=true→panOk ops al.2=true):=by
    intro Hs
    induction Hs with
    |nil=>simp[z104]
    |cons H r ih=>
     intro al hm;simp only[z104]at hm;split at hm
     ·rename_i l hl;split at hm
      ·rename_i hp;rcases List.mem_cons.1 hm with rfl|hm
       ·exact⟨H.1,H.2,hl,rfl,fun hd=>by simpa [hd]using hp⟩
       ·exact ih al hm
      ·exact ih al hm
     ·exact ih al hm
   rcases hs with⟨al,hal,hs⟩|⟨al,hal,hs⟩
   ·obtain⟨H',F',htr,hn,_⟩:=key _ al hal;refine region_sound hmix hm0 hN hG hX htr (s:=s.fgt al.1) (fun d hd=>z47 s (by rw[hn];exact hd)) hs (z70 hS al.1) (fun s' a' w' E' hK hS'=>⟨.normal,s'.kill _,E',rfl,hK,z165 hS' _⟩)
   ·obtain⟨H',F',htr,hn,hpo⟩:=key _ al hal;exact region_pan hmix hm0 hN hG hX htr hpo (s:=s.fgt al.1) (fun d hd=>z47 s (by rw[hn];exact hd)) hs (z70 hS al.1) (fun z s' a' w' E' hR hS'=>⟨.pan z,s',E',rfl,hR,hS'⟩)
  ·split at h
   ·cases h;exact hs B a w E rfl hm0 hN hG hX hS
   cases h;obtain⟨al,hal,hs⟩:=hs;have key:∀(Hs:List ((Option Nat→Nat)×(Nat→Option Nat))),al∈z88 P B.N ops draw Hs→∃H,∃F:Nat→Option Nat,z34 P B.N H F ops draw=some al.2∧al.1=al.2.flatMap SOper.news:=by
    intro Hs
    induction Hs with
    |nil=>simp[z88]
    |cons H r ih=>
     intro hm;simp only[z88]at hm;split at hm
     ·rename_i l hl;rcases List.mem_cons.1 hm with rfl|hm
      ·exact⟨H.1,H.2,hl,rfl⟩
      ·exact ih hm
     ·exact ih hm
   obtain⟨H',F',htr,hn⟩:=key _ hal;refine region_sound hmix hm0 hN hG hX htr (s:=s.fgt al.1) (fun d hd=>z47 s (by rw[hn];exact hd)) hs (z70 hS al.1) (fun s' a' w' E' hK hS'=>⟨.normal,s'.kill _,E',rfl,hK,z165 hS' _⟩)
 |seq a b iha ihb=>
  intro sc h Q s hs ac w E hS;simp only[z8]at h;split at h<;>try(cases h;done)
  rename_i a' b' ha hb;cases h;refine wp_seq (wp_mono (iha ha hs hS) ?_);rintro x a2 w2 ⟨e,s2,E2,rfl,hq,hS2⟩;cases e with
  |normal=>exact ihb hb hq hS2
  |exit id=>exact⟨.exit id,s2,E2,rfl,hq,hS2⟩
  |ret=>exact⟨.ret,s2,E2,rfl,hq,hS2⟩
  |pan z=>exact⟨.pan z,s2,E2,rfl,hq,hS2⟩
 |cond cnd a b iha ihb=>
  intro sc h Q s hs ac w E hS;simp only[z8]at h;split at h<;>try(cases h;done)
  rename_i a' b' ha hb;cases h;obtain⟨t,h1,h2⟩:=hs;have hv:=val_rel (y:=.bool t) (z11 hS h1) rfl;refine wp_cond hv ?_;cases t with
  |true=>exact iha ha h2 hS
  |false=>exact ihb hb h2 hS
 |block id a ih=>
  intro sc h Q s hs ac w E hS;simp only[z8]at h;obtain⟨a',ha,rfl⟩:=gO h;refine wp_block (wp_mono (ih ha hs hS) ?_);rintro x a2 w2 ⟨e,s2,E2,rfl,hq,hS2⟩;cases e with
  |normal=>exact⟨.normal,s2,E2,rfl,hq,hS2⟩
  |ret=>exact⟨.ret,s2,E2,rfl,hq,hS2⟩
  |pan z=>exact⟨.pan z,s2,E2,rfl,hq,hS2⟩
  |exit j=>
   simp only[SExit.to,Exit.inBlock];simp only[blockW]at hq;split
   ·rename_i hj;simp only[hj,if_true]at hq;exact⟨.normal,s2,E2,rfl,hq,hS2⟩
   ·rename_i hj;simp only[hj,if_false]at hq;exact⟨.exit j,s2,E2,rfl,hq,hS2⟩
 |loop a ih=>
  intro sc h Q s hs ac w E hS;simp only[z8]at h;obtain⟨a',ha,rfl⟩:=gO h;obtain⟨I,n,⟨s0,hle,h0⟩,hround⟩:=hs;obtain⟨E0,hS0⟩:=hle B ac w E hm0 hN hS;have hex:∃n,∃s E,I n s∧Sim B s.fs ac w E:=⟨n,s0,E0,h0,hS0⟩
  let J:Act→World→Prop:=fun a w=>∃n s E,I n s∧Sim B s.fs a w E
  refine wp_loop J (leastOf fun a w n=>∃s E,I n s∧Sim B s.fs a w E) hex (fun a1 w1 hJ=> ?_);obtain⟨⟨s1,E1,hI1,hS1⟩,_⟩:=leastOf_spec (p:=fun a w n=>∃s E,I n s∧Sim B s.fs a w E) hJ;refine wp_mono (ih ha (hround _ s1 hI1) hS1) ?_;rintro x a2 w2 ⟨e,s2,E2,rfl,hq,hS2⟩;cases e with
  |normal=>
   obtain⟨m,hm,s3,hle,hI2⟩:=hq;obtain⟨E3,hS3⟩:=hle B a2 w2 E2 hm0 hN hS2;have hJ2:∃n,∃s E,I n s∧Sim B s.fs a2 w2 E:=⟨m,s3,E3,hI2,hS3⟩
   exact⟨hJ2,Nat.lt_of_le_of_lt ((leastOf_spec (p:=fun a w n=>∃s E,I n s∧Sim B s.fs a w E) hJ2).2 m ⟨s3,E3,hI2,hS3⟩) hm⟩
  |exit id=>exact⟨.exit id,s2,E2,rfl,hq,hS2⟩
  |ret=>exact⟨.ret,s2,E2,rfl,hq,hS2⟩
  |pan z=>exact⟨.pan z,s2,E2,rfl,hq,hS2⟩
 |rangeFunc x y c d ih1 ih2=>
  intro sc h Q s hs ac w E hS;simp only[z8]at h;cases h;exact hs B ac w E rfl hm0 hN hG hX hS
 |_=>intro sc h;simp[z8]at h
def SemW(P:Program)(g:Glob)(N:Nat)(c:SCode)(Q:SExit→ES→Prop)(s:ES):Prop:=
 ∀(H:Nat→Option Nat→Nat) (Fp:Nat→List (Nat→Option Nat)) (K:Nat→List Nat) (code:Code),z8 P N H Fp K code=some c→RawW P g N code Q s
theorem sem_swp{N:Nat}{c:SCode}{Q:SExit→ES→Prop}{s:ES}(hmix:P.follows .mixedOrders=true)(h:swp P g c Q s):SemW P g N c Q s:=by
 intro H Fp K code ht B a w E hN hm hn hG hX hS;subst hN;exact z36 hmix hm hn hG hX ht h hS
end
def rawsOf:Code→List Code
 | .seq a b=>rawsOf a++rawsOf b
 | .cond _ a b=>rawsOf a++rawsOf b
 | .block _ a=>rawsOf a
 | .loop a=>rawsOf a
 | .rangeFunc a b c d=>[.rangeFunc a b c d]
 |_=>[]
def rawOf(P:Program)(f k:Nat):Code:=match P.funcs[f]? with
 |some fn=>match fn.body with
  |some c=>(rawsOf c).getD k .skip
  |none=> .skip
 |none=> .skip
inductive SRes where
 |tmp (t:Nat)
 |cell (agg:Bool) (size:Nat) (t:Nat)
structure SFunc where
 N:Nat
 code:SCode
 res:List SRes
 keep:Bool
def SRes.get(s:FS):SRes→Option TV
 | .tmp t=>s.t t
 | .cell agg size t=>match s.t t with
  |some (.ptr d o)=>(s.b d).bind fun cs=>if agg then(if o+size≤cs.length then some (.agg ((cs.drop o).take size))else none)else cs[o]?
  |_=>none
def resT(s:FS):List SRes→Option TV
 |[r]=>r.get s
 |rs=>(seqO (SRes.get s) rs).map .tuple
def z60(P:Program):ResultVar→Option SRes
 | .tmp t=>some (.tmp t)
 | .cell a t=>match P.underlying t,P.info? t with
  |some d,some i=>some (if d.isRow then .cell true i.size a else .cell false 1 a)
  |_,_=>none
def z6(P:Program)(f:Nat)(H:Nat→Option Nat→Nat)(Fp:Nat→List (Nat→Option Nat))(K:Nat→List Nat)(keep:Bool):Option SFunc:=
 match P.funcs[f]? with
 |some fn=>match fn.body with
  |some c=>if fn.name != "runtime.NumGoroutine" &&Nat.ble fn.ntmps 1000 then match z8 P fn.ntmps H Fp K c,seqO (z60 P) fn.results.toList with
    |some sc,some rs=>some ⟨fn.ntmps,sc,rs,keep⟩
    |_,_=>none
   else none
  |none=>none
 |none=>none
def TV.ids3:TV→List Nat
 | .tuple cs=>cs.flatMap TV.ids2
 |t=>t.ids2
def idsFrom:Nat→Nat→List Nat
 |_,0=>[]
 |k,n+1=>k::idsFrom (k+1) n
def exitF(F:SFunc)(n:Nat)(s:ES):Option (TV×List MO):=
 match resT s.fs F.res with
 |some y0=>
  let I0:=idsFrom 1000 n
  let al:=reach s.fs F.keep 64 (y0.ids3++I0.flatMap fun d=>match s.fs.b d with|some cs=>cs.flatMap TV.ids1|none=>[]) I0
  match y0.ren3 (rhoIn al),seqO (fun d=>(s.fs.mo d).bind (MO.ren (rhoIn al))) al with
  |some y,some os'=>some (y,os')
  |_,_=>none
 |none=>none
def numT:Nat→List TV→List (Nat×TV)
 |_,[]=>[]
 |k,x::l=>(k,x)::numT (k+1) l
def numB:Nat→List MO→List (Nat×List TV)
 |_,[]=>[]
 |k,.box cs::l=>(k,cs)::numB (k+1) l
 |k,.row _ _ _::l=>numB (k+1) l
def numR:Nat→List MO→List (Nat×(Nat×Nat×Nat))
 |_,[]=>[]
 |k,.box _::l=>numR (k+1) l
 |k,.row e W n::l=>(k,(e,W,n))::numR (k+1) l
def startE(xs:List TV)(os:List MO):ES:=⟨numT 0 xs,numB 1000 os,numR 1000 os,[]⟩
theorem z131{a b:Nat}(h:a≠b):Nat.beq a b=false:=by cases hb:Nat.beq a b with|false=>rfl|true=>exact absurd (Nat.eq_of_beq_eq_true hb) h
theorem lk_numT:∀(xs:List TV) (k d:Nat),lk (numT k xs) d=if k≤d then xs[d-k]? else none
 |[],k,d=>by simp[numT,lk]
 |x::l,k,d=>by
  simp only[numT,lk];by_cases h:k=d
  ·subst h;simp[Nat.beq_refl]
  ·rw[z131 h];simp only[lk_numT l];by_cases h1:k≤d
   ·have h2:k+1≤d:=by omega
    rw[if_pos h1,if_pos h2,show d-k=(d-(k+1))+1 by omega];simp
   ·rw[if_neg h1,if_neg (by omega)]
theorem lk_numB:∀(os:List MO) (k d:Nat),lk (numB k os) d=if k≤d then(match os[d-k]? with|some (.box cs)=>some cs|_=>none)else none
 |[],k,d=>by simp[numB,lk]
 |m::l,k,d=>by
  have ih:=lk_numB l (k+1) d;by_cases h:k=d
  ·subst h;cases m with
   |box cs=>simp[numB,lk,Nat.beq_refl]
   |row e W n=>simp only[numB];rw[ih,if_neg (by omega)];simp
  ·have:lk (numB k (m::l)) d=lk (numB (k+1) l) d:=by cases m with|box cs=>simp only[numB,lk,z131 h]|row e W n=>simp only[numB]
   rw[this,ih];by_cases h1:k≤d
   ·rw[if_pos h1,if_pos (by omega),show d-k=(d-(k+1))+1 by omega];simp
   ·rw[if_neg h1,if_neg (by omega)]
theorem lk_numR:∀(os:List MO) (k d:Nat),lk (numR k os) d=if k≤d then(match os[d-k]? with|some (.row e W n)=>some (e,W,n)|_=>none)else none
 |[],k,d=>by simp[numR,lk]
 |m::l,k,d=>by
  have ih:=lk_numR l (k+1) d;by_cases h:k=d
  ·subst h;cases m with
   |box cs=>simp only[numR];rw[ih,if_neg (by omega)];simp
   |row e W n=>simp[numR,lk,Nat.beq_refl]
  ·have:lk (numR k (m::l)) d=lk (numR (k+1) l) d:=by cases m with|box cs=>simp only[numR]|row e W n=>simp only[numR,lk,z131 h]
   rw[this,ih];by_cases h1:k≤d
   ·rw[if_pos h1,if_pos (by omega),show d-k=(d-(k+1))+1 by omega];simp
   ·rw[if_neg h1,if_neg (by omega)]
theorem z123:∀(n k j:Nat),(idsFrom k n)[j]?=if j<n then some (k+j)else none
 |0,k,j=>by simp[idsFrom]
 |n+1,k,j=>by
  simp only[idsFrom];cases j with
  |zero=>simp
  |succ j=>
   simp only[List.getElem?_cons_succ,z123 n (k+1) j];by_cases h:j<n
   ·rw[if_pos h,if_pos (by omega)];congr 1;omega
   ·rw[if_neg h,if_neg (by omega)]
theorem z124(n k:Nat):(idsFrom k n).Nodup∧(idsFrom k n).length=n∧∀d∈idsFrom k n,k≤d:=by
 induction n generalizing k with
 |zero=>simp[idsFrom]
 |succ n ih=>
  obtain⟨h1,h2,h3⟩:=ih (k+1);simp only[idsFrom];refine⟨List.nodup_cons.2 ⟨fun h=>by have:=h3 k h;omega,h1⟩,by simp[h2],fun d hd=> ?_⟩;rcases List.mem_cons.1 hd with rfl|hd
  ·exact Nat.le_refl _
  ·have:=h3 d hd;omega
theorem z64{s:FS}{rows:Bool}:∀(n:Nat) (l seen:List Nat),seen.Nodup→(reach s rows n l seen).Nodup∧∃t,reach s rows n l seen=seen++t
 |0,l,seen,h=>by simp only[reach];exact⟨h,[],by simp⟩
 |n+1,[],seen,h=>by simp only[reach];exact⟨h,[],by simp⟩
 |n+1,d::l,seen,h=>by
  simp only[reach];cases hp:pos seen d with
  |some j=>exact z64 n l seen h
  |none=>
   have hnd:(seen++[d]).Nodup:=List.nodup_append.2 ⟨h,by simp,by
    intro x hx y hy;simp at hy;subst hy;rintro rfl;exact pos_none hp hx⟩
   have key:∀l',(reach s rows n l' (seen++[d])).Nodup∧∃t,reach s rows n l' (seen++[d])=seen++t:=fun l'=>by
    obtain⟨h1,t,h2⟩:=z64 (s:=s) (rows:=rows) n l' (seen++[d]) hnd;exact⟨h1,[d]++t,by rw[h2];simp⟩
   cases s.b d with
   |some cs=>exact key _
   |none=>
    cases s.r d with
    |none=>exact z64 n l seen h
    |some q=>
     cases rows with
     |true=>exact key _
     |false=>exact z64 n l seen h
section
variable{P:Program}{g:Glob}{s:FS}{a:Act}{w:World}{E:Env}{B:Base}
theorem res_run{rv:ResultVar}{sr:SRes}(htr:z60 P rv=some sr)(h:Sim B s a w E){y:TV}(hy:sr.get s=some y):
  ∃v,(match rv with| .tmp t=>(pure (a.tmps.getD t undef):Sem Value)| .cell q t=>do loadVar t (←asAddr (a.tmps.getD q undef))).run P w=.ok v w∧RelT w E s.r y v:=by
 cases rv with
 |tmp t=>
  simp only[z60]at htr;cases htr;exact⟨_,rfl,(h.tmp t y hy).2⟩
 |cell q t=>
  simp only[z60]at htr;split at htr<;>try(cases htr;done)
  rename_i d i hu hi;cases htr;have fin:∀(dd off:Nat) (cs:List TV),s.t q=some (.ptr dd off)→s.b dd=some cs→(if d.isRow then(off+i.size≤cs.length∧y=.agg ((cs.drop off).take i.size))else cs[off]?=some y)→
    ∃v,(do loadVar t (←asAddr (a.tmps.getD q undef)):Sem Value).run P w=.ok v w∧RelT w E s.r y v:=by
   intro dd off cs hq hb hy;have hx:=(h.tmp q _ hq).2;generalize hv:a.tmps.getD q undef=v at hx;cases hx;obtain⟨hbox,_⟩:=h.mem.box dd cs hb;cases hd:d.isRow with
   |true=>
    simp only[hd,if_true]at hy;obtain⟨vs,hrel,hcell⟩:=box_rel hbox;have hl:((vs.drop off).take i.size).length=i.size:=by have:=hrel.len;simp;omega
    have hrun:=z142 (P:=P) (w:=w) (E.β dd) off t d i ((vs.drop off).take i.size) hu hi (fun j v hv'=>by
     have hj:j<i.size:=by have:=(gJ hv').1;omega
     simp[hj]at hv';exact hcell _ _ hv') (by simp only[hd,if_true];exact hl)
    simp only[hd,if_true]at hrun;exact⟨.agg ((vs.drop off).take i.size).toArray,by simp[asAddr,hrun,Result.andThen],by rw[hy.2];exact((hrel.drop off).take _).agg⟩
   |false=>
    simp only[hd,Bool.false_eq_true,if_false]at hy;obtain⟨v,c1,c2,c3⟩:=hbox.cell off y hy;have hrun:=z142 (P:=P) (w:=w) (E.β dd) off t d i [v] hu hi (fun j u hu'=>by
     cases j with
     |zero=>simp at hu';subst hu';exact c1
     |succ j=>simp at hu') (by simp[hd])
    simp only[hd,Bool.false_eq_true,if_false]at hrun;exact⟨v,by simp[asAddr,hrun,Result.andThen],c3⟩
  cases hd:d.isRow with
  |true=>
   simp only[hd,if_true,SRes.get]at hy;split at hy
   ·rename_i dd off hq;obtain⟨cs,hb,hy⟩:=gB hy;split at hy
    ·rename_i hle;cases hy;exact fin dd off cs hq hb (by rw[if_pos hd];exact⟨hle,rfl⟩)
    ·cases hy
   ·cases hy
  |false=>
   simp only[hd,Bool.false_eq_true,if_false,SRes.get]at hy;split at hy
   ·rename_i dd off hq;obtain⟨cs,hb,hy⟩:=gB hy;exact fin dd off cs hq hb (by simp only[hd,Bool.false_eq_true,if_false];exact hy)
   ·cases hy
def resSem(a:Act):ResultVar→Sem Value
 | .tmp t=>pure (a.tmps.getD t undef)
 | .cell q t=>do loadVar t (←asAddr (a.tmps.getD q undef))
theorem mapM_run{α:Type}(F:α→Sem Value):∀(l:List α) (vs:List Value),l.length=vs.length→(∀(j:Nat) x v,l[j]?=some x→vs[j]?=some v→(F x).run P w=.ok v w)→(l.mapM F).run P w=.ok vs w
 |[],[],_,_=>rfl
 |x::l,v::vs,hl,h=>by
  have h1:=h 0 x v rfl rfl;have h2:=mapM_run F l vs (by simpa using hl) (fun j x v hx hv=>h (j+1) x v (by simpa using hx) (by simpa using hv));simp[List.mapM_cons,h1,h2,Result.andThen]
 |[],_::_,hl,_=>by simp at hl
 |_::_,[],hl,_=>by simp at hl
theorem results_run{fn:Func}{rs:List SRes}(htr:seqO (z60 P) fn.results.toList=some rs)(h:Sim B s a w E){y:TV}(hy:resT s rs=some y):∃v,(results fn a.tmps).run P w=.ok v w∧RelT w E s.r y v:=by
 have key:∀(l:List ResultVar) (rs:List SRes),seqO (z60 P) l=some rs→∀(ys:List TV),seqO (SRes.get s) rs=some ys→∃vs:List Value,l.length=vs.length∧(∀(j:Nat) x v,l[j]?=some x→vs[j]?=some v→(resSem a x).run P w=.ok v w)∧ys.length=vs.length∧∀(j:Nat) c v,ys[j]?=some c→vs[j]?=some v→RelT w E s.r c v:=by
  intro l
  induction l with
  |nil=>intro rs h1 ys h2;simp[seqO]at h1;subst h1;simp[seqO]at h2;subst h2;exact⟨[],rfl,by simp,rfl,by simp⟩
  |cons rv l ih=>
   intro rs h1 ys h2;obtain⟨sr,rs',h3,h4,rfl⟩:=seqO_cons h1;obtain⟨y,ys',h5,h6,rfl⟩:=seqO_cons h2;obtain⟨vs,a0,a1,a2,a3⟩:=ih rs' h4 ys' h6;obtain⟨v,b1,b2⟩:=res_run h3 h h5;have b1':(resSem a rv).run P w=.ok v w:=by cases rv<;>exact b1
   refine⟨v::vs,by simp[a0],fun j x u hx hu=> ?_,by simp[a2],fun j c u hc hu=> ?_⟩
   ·cases j with
    |zero=>simp at hx hu;subst hx;subst hu;exact b1'
    |succ j=>exact a1 j x u (by simpa using hx) (by simpa using hu)
   ·cases j with
    |zero=>simp at hc hu;subst hc;subst hu;exact b2
    |succ j=>exact a3 j c u (by simpa using hc) (by simpa using hu)
 have hres:∀vs:List Value,(fn.results.toList.mapM (resSem a)).run P w=.ok vs w→(results fn a.tmps).run P w=.ok (if h:vs.length=1 then vs[0] else .tuple vs.toArray) w:=by
  intro vs hvs;have harr:(fn.results.mapM (resSem a)).run P w=.ok vs.toArray w:=by
   rw[←Array.toArray_toList (xs:=fn.results),List.mapM_toArray];simp[hvs,Result.andThen]
  have e:results fn a.tmps=(fn.results.mapM (resSem a))>>=fun vs=>pure (if h:vs.size=1 then vs[0] else .tuple vs):=by
   unfold results;congr 1
  rw[e,Sem.run_bind,harr];rfl
 have hmany:∀ys,seqO (SRes.get s) rs=some ys→(rs.length=1→ys=[y])→(rs.length≠1→y=.tuple ys)→∃v,(results fn a.tmps).run P w=.ok v w∧RelT w E s.r y v:=by
  intro ys hys h1 h2;obtain⟨vs,a0,a1,a2,a3⟩:=key _ rs htr ys hys;have hl1:=(z33 htr).1;refine⟨_,hres vs (mapM_run _ _ _ a0 a1),?_⟩;by_cases hone:vs.length=1
  ·rw[dif_pos hone];have hr1:rs.length=1:=by omega
   rw[h1 hr1]at a3;exact a3 0 y _ rfl (gE (by omega))
  ·rw[dif_neg hone];have hr1:rs.length≠1:=by omega
   rw[h2 hr1];exact .tuple ys vs a2 a3
 match rs,hy,hmany with
 |[],hy,hmany=>simp[resT,seqO]at hy;exact hmany [] rfl (by simp) (fun _=>hy.symm)
 |[r],hy,hmany=>exact hmany [y] (by simp only[resT]at hy;simp[seqO,hy]) (fun _=>rfl) (by simp)
 |r::r2::rr,hy,hmany=>
  simp only[resT]at hy;obtain⟨ys,h1,h2⟩:=gO hy;exact hmany ys h1 (by simp) (fun _=>h2.symm)
theorem call_of_sem{f:Nat}{H:Nat→Option Nat→Nat}{Fp:Nat→List (Nat→Option Nat)}{K:Nat→List Nat}{keep:Bool}{F:SFunc}(hmix:P.follows .mixedOrders=true)(hF:z6 P f H Fp K keep=some F){xs:List TV}{os os':List MO}{y:TV}(hn:xs.length≤F.N)(hos:os.length≤1000)(hmo:moOk os os'=true)
  (h:SemW P g F.N F.code (fun e s=>(e=.ret∨e=.normal)∧exitF F os.length s=some (y,os')) (startE xs os)):SCalls P g f xs os y os':=by
 unfold z6 at hF;split at hF<;>try(cases hF;done)
 rename_i fn hfn;split at hF<;>try(cases hF;done)
 rename_i c hc;split at hF<;>try(cases hF;done)
 rename_i hname;split at hF<;>try(cases hF;done)
 rename_i sc rs hsc hrs;cases hF;rw[Bool.and_eq_true]at hname;have hnm:¬fn.name= "runtime.NumGoroutine" :=by simpa using hname.1
 have hN:fn.ntmps≤1000:=Nat.le_of_ble_eq_true hname.2;refine⟨⟨fn,c,hfn,hc,hnm⟩,fun w E vs hG hm hX hl hxs=> ?_⟩;let B:Base:=start w E os fn.ntmps
 have hmB:MSim B (objB os) (objR os) w E:=⟨hm.box,hm.row,hm.bb,hm.br,hm.rr,hm.lt,hm.low,hm.keep,hm.knew,⟨hm.pas.β,hm.pas.γ,hm.pas.row⟩⟩
 have hfs:(startE xs os).fs=⟨fun k=>xs[k]?,objB os,objR os,fun _=>none⟩:=by
  refine FS.ext' (fun k=> ?_) (fun k=> ?_) (fun k=> ?_) (fun k=>rfl)
  ·show lk (numT 0 xs) k=_;rw[lk_numT];simp
  ·show lk (numB 1000 os) k=_;rw[lk_numB];rfl
  ·show lk (numR 1000 os) k=_;rw[lk_numR];rfl
 have hsize:(vs.toArray++Array.replicate (fn.ntmps-vs.toArray.size) undef).size=fn.ntmps:=by
  have:xs.length≤fn.ntmps:=hn;simp;omega
 have hS:Sim B (startE xs os).fs { tmps:=vs.toArray++Array.replicate (fn.ntmps-vs.toArray.size) undef,defers:=[] } w E:=by
  rw[hfs];refine⟨rfl,hsize,fun k x hx=> ?_,hmB,fun d z p hd=>(by cases hd),fun d d' q q' hd=>(by cases hd)⟩;have hk:k<xs.length:=(gJ hx).1;refine⟨Nat.lt_of_lt_of_le hk hn,?_⟩;have hkv:k<vs.length:=by omega
  have hv:(vs.toArray++Array.replicate (fn.ntmps-vs.toArray.size) undef).getD k undef=vs[k]:=by
   rw[Array.getD_eq_getD_getElem?,Array.getElem?_append_left (by simpa using hkv)];simp[hkv]
  show RelT w E (objR os) x ((vs.toArray++Array.replicate (fn.ntmps-vs.toArray.size) undef).getD k undef);rw[hv];exact hxs k x _ hx (gE hkv)
 refine calls_of_wp hfn hc (wp_mono (h _ _ _ c hsc B _ _ _ rfl hos hN hG hX hS) ?_);rintro x a' w' ⟨e,s',E',rfl,⟨he,hex⟩,hS'⟩;have fin:a'.defers=[]∧∃v,(results fn a'.tmps).run P w'=.ok v w'∧(∃v_1 E'_1,Ending.returned v=Ending.returned v_1∧MSim (start w E os 0) (objB os') (objR os') w' E'_1∧RelT w' E'_1 (objR os') y v_1∧Left E os E'_1 os'):=by
  refine⟨hS'.defers,?_⟩;unfold exitF at hex;split at hex<;>try(cases hex;done)
  rename_i y0 hy0;obtain⟨v,hrun,hrel⟩:=results_run (fn:=fn) hrs hS' hy0;refine⟨v,hrun,v,?_⟩;simp only[]at hex;obtain⟨i1,i2,i3⟩:=z124 os.length 1000;generalize hal:reach s'.fs keep 64 (y0.ids3++(idsFrom 1000 os.length).flatMap fun d=>match s'.fs.b d with|some cs=>cs.flatMap TV.ids1|none=>[]) (idsFrom 1000 os.length)=al at hex;obtain⟨hnd,t,hpre⟩:=z64 (s:=s'.fs) (rows:=keep) 64 (y0.ids3++(idsFrom 1000 os.length).flatMap fun d=>match s'.fs.b d with|some cs=>cs.flatMap TV.ids1|none=>[]) _ i1;rw[hal]at hnd hpre;split at hex<;>try(cases hex;done)
  rename_i y1 os1 hren hmos;cases hex;have hpas:∀j,j<os.length→al[j]?=some (1000+j):=fun j hj=>by
   rw[hpre,List.getElem?_append_left (by omega),z123,if_pos hj]
  have hM:=z100 hS' hnd hmos;obtain⟨hlen,hBx,hRx⟩:=handed hmos;have hβ:∀{i j},al[j]?=some i→(envIn E' al).β (1000+j)=E'.β i:=fun hj=>by simp only[envIn];rw[z30 hj]
  have hγ:∀{i j},al[j]?=some i→(envIn E' al).γ (1000+j)=E'.γ i:=fun hj=>by simp only[envIn];rw[z30 hj]
  have hXs:∀{i j b},al[j]?=some i→objX E os i b→objX E os (1000+j) b:=by
   intro i j b hj hx;have hi:∃q,i=1000+q∧q<os.length:=by
    rcases hx with⟨cs,h1,_⟩|⟨⟨e,W,n⟩,cap,h1,_⟩
    ·obtain⟨q,rfl,hq⟩:=z38 h1;exact⟨q,rfl,(gJ hq).1⟩
    ·obtain⟨q,rfl,hq⟩:=z24 h1;exact⟨q,rfl,(gJ hq).1⟩
   obtain⟨q,rfl,hq⟩:=hi;have a1:=z66 hnd hj;have a2:=z66 hnd (hpas q hq);rw[a1]at a2;obtain rfl:j=q:=Option.some.inj a2;exact hx
  have hM':MSim (start w E os 0) (objB os') (objR os') w' (envIn E' al):=by
   refine⟨fun d cs' hd=> ?_,fun d e W n hd=> ?_,hM.bb,hM.br,hM.rr,hM.lt,hS'.mem.low,hS'.mem.keep,hS'.mem.knew,⟨fun d ho=> ?_,fun d ho h0=> ?_,fun d e W n ho hd=> ?_⟩⟩
   ·refine⟨(hM.box d cs' hd).1,?_⟩;obtain⟨j,rfl,hj⟩:=z38 hd;obtain⟨i,cs,q1,q2,_⟩:=hBx j cs' hj;rw[hβ q1];rcases(hS'.mem.box i cs q2).2 with h1|h1
    ·exact .inl h1
    ·exact .inr (hXs q1 h1)
   ·obtain⟨j,rfl,hj⟩:=z24 hd;obtain⟨i,q1,q2,q3⟩:=hRx j e W n hj;rw[hγ q1];rcases hS'.mem.row i e W n q3 with h1|⟨k,cap,h1,h2,h3⟩
    ·exact .inl h1
    ·exact .inr ⟨k,cap,h1,h2.imp id (hXs q1),h3.cells,h3.le,h3.max,h3.out⟩
   ·obtain⟨q,rfl⟩:∃q,d=1000+q:=⟨d-1000,by have:=ho.1;omega⟩
    have hq:q<os.length:=by have:=ho.2;have h2:1000+q<1000+os.length:=this;omega
    rw[hβ (hpas q hq)];exact hS'.mem.pas.β _ ho
   ·obtain⟨q,rfl⟩:∃q,d=1000+q:=⟨d-1000,by have:=ho.1;omega⟩
    have hq:q<os.length:=by have:=ho.2;have h2:1000+q<1000+os.length:=this;omega
    rw[hγ (hpas q hq)];exact hS'.mem.pas.γ _ ho h0
   ·obtain⟨q,rfl⟩:∃q,d=1000+q:=⟨d-1000,by have:=ho.1;omega⟩
    have hq:q<os.length:=by have:=ho.2;have h2:1000+q<1000+os.length:=this;omega
    obtain⟨j,hj0,hj⟩:=z24 hd;obtain rfl:q=j:=by omega
    obtain⟨i,q1,q2,q3⟩:=hRx q e W n hj;rw[hpas q hq]at q1;cases q1;rw[hγ (hpas q hq)];exact hS'.mem.pas.row _ e W n ho q3
  refine⟨envIn E' al,rfl,hM',z129 (renIn hmos) (fun _ _ _ h _=>h) hrel hren,⟨fun d h1 h2=>hM'.pas.β d ⟨h1,h2⟩,fun d h1 h2 h0=>hM'.pas.γ d ⟨h1,h2⟩ h0,fun d e W n hd=> ?_⟩⟩;obtain⟨q,rfl,hq⟩:=z24 hd;have hql:q<os.length:=(gJ hq).1;obtain⟨n',h1,h2⟩:=(z99 hmo).2.2.2 q e W n hq;obtain⟨n0,h3,h4,h5⟩:=hM'.pas.row (1000+q) e W n' ⟨by omega,by show 1000+q<1000+os.length;omega⟩ (z42 h1);have h3:objR os (1000+q)=some (e,W,n0):=h3;rw[hd]at h3;cases h3;exact⟨n',z42 h1,h4,h5⟩
 rcases he with rfl|rfl
 ·exact fin
 ·exact fin
theorem pan_of_swp{f:Nat}{H:Nat→Option Nat→Nat}{Fp:Nat→List (Nat→Option Nat)}{K:Nat→List Nat}{keep:Bool}{F:SFunc}(hmix:P.follows .mixedOrders=true)(hF:z6 P f H Fp K keep=some F){xs:List TV}{os os':List MO}{z:Value}(hn:xs.length≤F.N)(hos:os.length≤1000)(hmo:moOk os os'=true)
  (h:swp P g F.code (fun e s=>e=.pan z∧exitF ⟨0,.skip,[],keep⟩ os.length s=some (.tuple [],os')) (startE xs os)):SPan P g f xs os z os':=by
 unfold z6 at hF;split at hF<;>try(cases hF;done)
 rename_i fn hfn;split at hF<;>try(cases hF;done)
 rename_i c hc;split at hF<;>try(cases hF;done)
 rename_i hname;split at hF<;>try(cases hF;done)
 rename_i sc rs hsc hrs;cases hF;rw[Bool.and_eq_true]at hname;have hnm:¬fn.name= "runtime.NumGoroutine" :=by simpa using hname.1
 have hN:fn.ntmps≤1000:=Nat.le_of_ble_eq_true hname.2;refine⟨⟨fn,c,hfn,hc,hnm⟩,fun w E vs hG hm hX hl hxs=> ?_⟩;let B:Base:=start w E os fn.ntmps
 have hmB:MSim B (objB os) (objR os) w E:=⟨hm.box,hm.row,hm.bb,hm.br,hm.rr,hm.lt,hm.low,hm.keep,hm.knew,⟨hm.pas.β,hm.pas.γ,hm.pas.row⟩⟩
 have hfs:(startE xs os).fs=⟨fun k=>xs[k]?,objB os,objR os,fun _=>none⟩:=by
  refine FS.ext' (fun k=> ?_) (fun k=> ?_) (fun k=> ?_) (fun k=>rfl)
  ·show lk (numT 0 xs) k=_;rw[lk_numT];simp
  ·show lk (numB 1000 os) k=_;rw[lk_numB];rfl
  ·show lk (numR 1000 os) k=_;rw[lk_numR];rfl
 have hsize:(vs.toArray++Array.replicate (fn.ntmps-vs.toArray.size) undef).size=fn.ntmps:=by
  have:xs.length≤fn.ntmps:=hn;simp;omega
 have hS:Sim B (startE xs os).fs { tmps:=vs.toArray++Array.replicate (fn.ntmps-vs.toArray.size) undef,defers:=[] } w E:=by
  rw[hfs];refine⟨rfl,hsize,fun k x hx=> ?_,hmB,fun d z p hd=>(by cases hd),fun d d' q q' hd=>(by cases hd)⟩;have hk:k<xs.length:=(gJ hx).1;refine⟨Nat.lt_of_lt_of_le hk hn,?_⟩;have hkv:k<vs.length:=by omega
  have hv:(vs.toArray++Array.replicate (fn.ntmps-vs.toArray.size) undef).getD k undef=vs[k]:=by
   rw[Array.getD_eq_getD_getElem?,Array.getElem?_append_left (by simpa using hkv)];simp[hkv]
  show RelT w E (objR os) x ((vs.toArray++Array.replicate (fn.ntmps-vs.toArray.size) undef).getD k undef);rw[hv];exact hxs k x _ hx (gE hkv)
 refine calls_of_wp hfn hc (wp_mono (z36 (B:=B) hmix hos hN hG hX hsc h hS) ?_);rintro x a' w' ⟨e,s',E',rfl,⟨rfl,hex⟩,hS'⟩;have fin:a'.defers=[]∧(∃E'_1,Ending.panicked [{ v:=z,recovered:=false }]=Ending.panicked [{ v:=z,recovered:=false }]∧MSim (start w E os 0) (objB os') (objR os') w' E'_1∧Left E os E'_1 os'):=by
  refine⟨hS'.defers,?_⟩;unfold exitF at hex;split at hex<;>try(cases hex;done)
  rename_i y0 hy0;simp only[]at hex;obtain⟨i1,i2,i3⟩:=z124 os.length 1000;generalize hal:reach s'.fs keep 64 (y0.ids3++(idsFrom 1000 os.length).flatMap fun d=>match s'.fs.b d with|some cs=>cs.flatMap TV.ids1|none=>[]) (idsFrom 1000 os.length)=al at hex;obtain⟨hnd,t,hpre⟩:=z64 (s:=s'.fs) (rows:=keep) 64 (y0.ids3++(idsFrom 1000 os.length).flatMap fun d=>match s'.fs.b d with|some cs=>cs.flatMap TV.ids1|none=>[]) _ i1;rw[hal]at hnd hpre;split at hex<;>try(cases hex;done)
  rename_i y1 os1 hren hmos;cases hex;have hpas:∀j,j<os.length→al[j]?=some (1000+j):=fun j hj=>by
   rw[hpre,List.getElem?_append_left (by omega),z123,if_pos hj]
  have hM:=z100 hS' hnd hmos;obtain⟨hlen,hBx,hRx⟩:=handed hmos;have hβ:∀{i j},al[j]?=some i→(envIn E' al).β (1000+j)=E'.β i:=fun hj=>by simp only[envIn];rw[z30 hj]
  have hγ:∀{i j},al[j]?=some i→(envIn E' al).γ (1000+j)=E'.γ i:=fun hj=>by simp only[envIn];rw[z30 hj]
  have hXs:∀{i j b},al[j]?=some i→objX E os i b→objX E os (1000+j) b:=by
   intro i j b hj hx;have hi:∃q,i=1000+q∧q<os.length:=by
    rcases hx with⟨cs,h1,_⟩|⟨⟨e,W,n⟩,cap,h1,_⟩
    ·obtain⟨q,rfl,hq⟩:=z38 h1;exact⟨q,rfl,(gJ hq).1⟩
    ·obtain⟨q,rfl,hq⟩:=z24 h1;exact⟨q,rfl,(gJ hq).1⟩
   obtain⟨q,rfl,hq⟩:=hi;have a1:=z66 hnd hj;have a2:=z66 hnd (hpas q hq);rw[a1]at a2;obtain rfl:j=q:=Option.some.inj a2;exact hx
  have hM':MSim (start w E os 0) (objB os') (objR os') w' (envIn E' al):=by
   refine⟨fun d cs' hd=> ?_,fun d e W n hd=> ?_,hM.bb,hM.br,hM.rr,hM.lt,hS'.mem.low,hS'.mem.keep,hS'.mem.knew,⟨fun d ho=> ?_,fun d ho h0=> ?_,fun d e W n ho hd=> ?_⟩⟩
   ·refine⟨(hM.box d cs' hd).1,?_⟩;obtain⟨j,rfl,hj⟩:=z38 hd;obtain⟨i,cs,q1,q2,_⟩:=hBx j cs' hj;rw[hβ q1];rcases(hS'.mem.box i cs q2).2 with h1|h1
    ·exact .inl h1
    ·exact .inr (hXs q1 h1)
   ·obtain⟨j,rfl,hj⟩:=z24 hd;obtain⟨i,q1,q2,q3⟩:=hRx j e W n hj;rw[hγ q1];rcases hS'.mem.row i e W n q3 with h1|⟨k,cap,h1,h2,h3⟩
    ·exact .inl h1
    ·exact .inr ⟨k,cap,h1,h2.imp id (hXs q1),h3.cells,h3.le,h3.max,h3.out⟩
   ·obtain⟨q,rfl⟩:∃q,d=1000+q:=⟨d-1000,by have:=ho.1;omega⟩
    have hq:q<os.length:=by have:=ho.2;have h2:1000+q<1000+os.length:=this;omega
    rw[hβ (hpas q hq)];exact hS'.mem.pas.β _ ho
   ·obtain⟨q,rfl⟩:∃q,d=1000+q:=⟨d-1000,by have:=ho.1;omega⟩
    have hq:q<os.length:=by have:=ho.2;have h2:1000+q<1000+os.length:=this;omega
    rw[hγ (hpas q hq)];exact hS'.mem.pas.γ _ ho h0
   ·obtain⟨q,rfl⟩:∃q,d=1000+q:=⟨d-1000,by have:=ho.1;omega⟩
    have hq:q<os.length:=by have:=ho.2;have h2:1000+q<1000+os.length:=this;omega
    obtain⟨j,hj0,hj⟩:=z24 hd;obtain rfl:q=j:=by omega
    obtain⟨i,q1,q2,q3⟩:=hRx q e W n hj;rw[hpas q hq]at q1;cases q1;rw[hγ (hpas q hq)];exact hS'.mem.pas.row _ e W n ho q3
  refine⟨envIn E' al,rfl,hM',⟨fun d h1 h2=>hM'.pas.β d ⟨h1,h2⟩,fun d h1 h2 h0=>hM'.pas.γ d ⟨h1,h2⟩ h0,fun d e W n hd=> ?_⟩⟩;obtain⟨q,rfl,hq⟩:=z24 hd;have hql:q<os.length:=(gJ hq).1;obtain⟨n',h1,h2⟩:=(z99 hmo).2.2.2 q e W n hq;obtain⟨n0,h3,h4,h5⟩:=hM'.pas.row (1000+q) e W n' ⟨by omega,by show 1000+q<1000+os.length;omega⟩ (z42 h1);have h3:objR os (1000+q)=some (e,W,n0):=h3;rw[hd]at h3;cases h3;exact⟨n',z42 h1,h4,h5⟩
 exact fin
theorem call_of_swp{f:Nat}{H:Nat→Option Nat→Nat}{Fp:Nat→List (Nat→Option Nat)}{K:Nat→List Nat}{keep:Bool}{F:SFunc}(hmix:P.follows .mixedOrders=true)(hF:z6 P f H Fp K keep=some F){xs:List TV}{os os':List MO}{y:TV}(hn:xs.length≤F.N)(hos:os.length≤1000)(hmo:moOk os os'=true)
  (h:swp P g F.code (fun e s=>(e=.ret∨e=.normal)∧exitF F os.length s=some (y,os')) (startE xs os)):SCalls P g f xs os y os':=call_of_sem hmix hF hn hos hmo (sem_swp hmix h)
end
def hintT(T:List (Nat×Nat))(j:Nat)(d:Option Nat):Nat:=match lk T (dstId d)with|some m=>m|none=>j
def killT(T:List (Nat×List Nat))(id:Nat):List Nat:=match lk T id with|some l=>l|none=>[]
def fpT(T:List (Nat×List (List (Nat×Nat))))(id:Nat):List (Nat→Option Nat):=match lk T id with|some ls=>ls.map lk|none=>[fun _=>none]
def altsE(P:Program)(C:Oracle)(kill:List Nat):List (List Nat×List SOper)→ES→Option ES
 |[],_=>none
 |(n,l)::r,s=>match runE P C l (s.fgt n)with
  |some s'=>some (s'.kill kill)
  |none=>altsE P C kill r s
def iter(f:ES→Option (SExit×ES)):Nat→ES→Option (SExit×ES)
 |0,_=>none
 |n+1,s=>match f s with
  |some (.normal,s')=>iter f n s'
  |r=>r
def exec(P:Program)(C:Oracle)(L:Nat):SCode→ES→Option (SExit×ES)
 | .skip,s=>some (.normal,s)
 | .reg alts kill,s=>match altsE P C kill alts s with
  |some s'=>some (.normal,s')
  |none=>none
 | .regq alts kill,s=>match altsE P C kill alts s with
  |some s'=>some (.normal,s')
  |none=>none
 | .raw _ _,_=>none
 | .seq a b,s=>match exec P C L a s with
  |some (.normal,s')=>exec P C L b s'
  |r=>r
 | .cond c a b,s=>match c.get s.fs with
  |some (.pv (.v (.bool true)))=>exec P C L a s
  |some (.pv (.v (.bool false)))=>exec P C L b s
  |_=>none
 | .block id a,s=>match exec P C L a s with
  |some (.exit j,s')=>match Nat.beq j id with
   |true=>some (.normal,s')
   |false=>some (.exit j,s')
  |r=>r
 | .loop a,s=>iter (fun s=>exec P C L a s) L s
 | .exit id,s=>some (.exit id,s)
 | .ret,s=>some (.ret,s)
def callF(P:Program)(F:Nat→Option SFunc)(prim:Oracle)(L:Nat):Nat→Oracle
 |0=>fun _ _ _=>none
 |n+1=>fun f xs os=>match prim f xs os with
  |some r=>some r
  |none=>match F f with
   |some G=>match Nat.ble xs.length G.N,Nat.ble os.length 1000 with
    |true,true=>match exec P (callF P F prim L n) L G.code (startE xs os)with
     |some (.ret,s)=>match exitF G os.length s with
      |some (y,os')=>match moOk os os' with|true=>some (y,os')|false=>none
      |none=>none
     |some (.normal,s)=>match exitF G os.length s with
      |some (y,os')=>match moOk os os' with|true=>some (y,os')|false=>none
      |none=>none
     |_=>none
    |_,_=>none
   |none=>none
section
variable{P:Program}{g:Glob}{C:Oracle}{L:Nat}
end
end Go.Sh
end

section
namespace Go.Mor
open Go Go.RowKit
def str(l:List UInt8):ByteArray:=⟨l.toArray⟩
theorem str_toList(l:List UInt8):(str l).data.toList=l:=by simp[str]
theorem str_size(l:List UInt8):(str l).size=l.length:=by simp[str,ByteArray.size]
@[go_sem,simp] theorem str_list (l:List UInt8):(str l).toList=l:=ByteArray.toList_mk l
@[go_sem,simp] theorem str_size' (l:List UInt8):(str l).size=l.length:=str_size l
@[go_sem,simp] theorem str_extract (l:List UInt8) (a b:Nat):(str l).extract a b=str ((l.drop a).take (b-a)):=ByteArray.extract_mk l a b
@[go_sem,simp] theorem str_append (a b:List UInt8):str a++str b=str (a++b):=ByteArray.mk_append_mk a b
@[go_sem,simp] theorem str_get (l:List UInt8) (i:Nat) (h:i<(str l).size):(str l)[i]=l[i]'(by simpa using h):=by
 simp[str,ByteArray.getElem_eq_getElem_data]
inductive V where
 |mk (k n:Int) (s:List UInt8) (l:List V)
def V.k:V→Int| .mk k _ _ _=>k
def V.n:V→Int| .mk _ n _ _=>n
def V.s:V→List UInt8| .mk _ _ s _=>s
def V.l:V→List V| .mk _ _ _ l=>l
theorem V.eta(x:V):V.mk x.k x.n x.s x.l=x:=by cases x;rfl
def V.nil:V:=.mk 0 0 [] []
theorem V.size_lt{x:V}{l:List V}(h:x∈l)(k n:Int)(s:List UInt8):SizeOf.sizeOf x<SizeOf.sizeOf (V.mk k n s l):=by
 have:=List.sizeOf_lt_of_mem h;simp;omega
def V.val(x:V)(c:Value):Value:=.agg #[.int .i64 x.k,.int .i64 x.n,.string (str x.s),c]
inductive IsL(ok:Nat→Prop)(w:World):List V→Value→Prop where
 |mk (l:List V) (b off cap:Nat) (p:Option Addr) (sub:Nat→Value) (hcap:l.length≤cap) (hmax:cap≤maxLen)
   (hp:l≠[]→p=some ⟨b,off,none⟩∧ok b)
   (hc:∀(i:Nat) (x:V),l[i]?=some x→w.cell? ⟨b,off+i*4,none⟩=some (.int .i64 x.k)∧w.cell? ⟨b,off+i*4+1,none⟩=some (.int .i64 x.n)
    ∧w.cell? ⟨b,off+i*4+2,none⟩=some (.string (str x.s))∧w.cell? ⟨b,off+i*4+3,none⟩=some (sub i))
   (hs:∀(i:Nat) (x:V),l[i]?=some x→IsL ok w x.l (sub i)):IsL ok w l (.slice p l.length cap)
theorem z55{w:World}{a:Addr}{v:Value}(h:w.cell? a=some v):a.block<w.heap.size:=by
 rcases Nat.lt_or_ge a.block w.heap.size with hlt|hge
 ·exact hlt
 ·simp[World.cell?,Array.getElem?_eq_none hge]at h
theorem IsL.keepBy{ok:Nat→Prop}{w w':World}{l:List V}{c:Value}(h:IsL ok w l c)
  (hk:∀a v,ok a.block→w.cell? a=some v→w'.cell? a=some v):IsL ok w' l c:=by
 induction h with
 |mk l b off cap p sub hcap hmax hp hc hs ih=>
  refine .mk l b off cap p sub hcap hmax hp (fun i x hx=> ?_) ih;have hb:ok b:=(hp (by rintro rfl;simp at hx)).2;obtain⟨h0,h1,h2,h3⟩:=hc i x hx;exact⟨hk _ _ hb h0,hk _ _ hb h1,hk _ _ hb h2,hk _ _ hb h3⟩
theorem IsL.keep{ok:Nat→Prop}{w w':World}{l:List V}{c:Value}(h:IsL ok w l c)(hk:∀b,ok b→w'.heap[b]?=w.heap[b]?):IsL ok w' l c:=
 h.keepBy fun a _ ho hv=>(World.cell?_of_block (w:=w) (hk a.block ho)).trans hv
theorem IsL.ext{ok:Nat→Prop}{w w':World}{l:List V}{c:Value}(h:IsL ok w l c)(hb:Below w.heap.size w w'):IsL ok w' l c:=
 h.keepBy fun _ _ _ hv=>(hb.cell (z55 hv)).trans hv
theorem IsL.nil{ok:Nat→Prop}{w:World}(p:Option Addr)(cap:Nat)(h:cap≤maxLen):IsL ok w [] (.slice p 0 cap):=
 .mk [] 0 0 cap p (fun _=> .slice none 0 0) (by simp) h (by simp) (by simp) (by simp)
theorem IsL.drew{ok:Nat→Prop}{w:World}{l:List V}{c:Value}(h:IsL ok w l c):IsL ok w.drew l c:=h.keepBy fun _ _ _ hv=>hv
def Enters(P:Program)(f:FuncId):Prop:=∀(args:Array Value) (w:World),(callFunc f args).run P w=.ok (.enter f args) w
theorem enters_mk{P:Program}{f:FuncId}{fn:Func}{c:Code}(hf:P.funcs[f]?=some fn)(hname:(fn.name== "runtime.NumGoroutine")=false)(hb:fn.body=some c):Enters P f:=by
 intro args w;have hn:¬fn.name= "runtime.NumGoroutine" :=by simpa using hname
 simp[callFunc,hf,hn,hb]
def z49{α:Type}(p:α→Bool)(l:List α):Int:=match l.findIdx? p with|some i=>i|none=> -1
end Go.Mor
end

section
namespace Go.Proofs.YtcpaleaajdilgaaGreatDoor
open Go Go.RowKit Go.Mor
structure GlobU(w:World):Prop where
 tabs:Lib.Utf8Tabs 0 1 w
theorem GlobU.ext{w w':World}(h:GlobU w)(hb:Below w.heap.size w w'):GlobU w' where
 tabs:=Utf8Tabs_below h.tabs hb
end Go.Proofs.YtcpaleaajdilgaaGreatDoor
end

section
namespace Go.Proofs
open Go.Shelf
def Tryz.laysValid_ren:Go.Shelf.Ren:=⟨fun|196=>158|259=>220|n=>n,fun|9=>9|4=>4|3=>3|5=>5|12=>12|119=>266|0=>0|46=>270|139=>269|138=>268|53=>247|n=>n,fun|3=>0|4=>1|n=>n⟩
theorem Tryz.laysValid:Go.Proofs.Lays.n196 Tryz.prog Tryz.laysValid_ren:={
 mixed:=by kernel_rfl
 f196:=Tryz.func158.trans (congrArg some (by kernel_rfl))
 f259:=Tryz.func220.trans (congrArg some (by kernel_rfl))
 t0:=Tryz.underlying0
 a0:=Tryz.isAgg0
 z0:=Tryz.sizeOf0
 v0:=Tryz.zeroValue0
 t3:=Tryz.underlying3
 a3:=Tryz.isAgg3
 z3:=Tryz.sizeOf3
 v3:=Tryz.zeroValue3
 t4:=Tryz.underlying4
 a4:=Tryz.isAgg4
 z4:=Tryz.sizeOf4
 v4:=Tryz.zeroValue4
 t5:=Tryz.underlying5
 a5:=Tryz.isAgg5
 z5:=Tryz.sizeOf5
 v5:=Tryz.zeroValue5
 t9:=Tryz.underlying9
 a9:=Tryz.isAgg9
 z9:=Tryz.sizeOf9
 v9:=Tryz.zeroValue9
 t12:=Tryz.underlying12
 a12:=Tryz.isAgg12
 z12:=Tryz.sizeOf12
 v12:=Tryz.zeroValue12
 t46:=Tryz.underlying270
 a46:=Tryz.isAgg270
 z46:=Tryz.sizeOf270
 v46:=Tryz.zeroValue270
 t53:=Tryz.underlying247
 a53:=Tryz.isAgg247
 z53:=Tryz.sizeOf247
 v53:=Tryz.zeroValue247
 t119:=Tryz.underlying266
 a119:=Tryz.isAgg266
 z119:=Tryz.sizeOf266
 t138:=Tryz.underlying268
 a138:=Tryz.isAgg268
 z138:=Tryz.sizeOf268
 v138:=Tryz.zeroValue268
 t139:=Tryz.underlying269
 a139:=Tryz.isAgg269
 z139:=Tryz.sizeOf269
 v139:=Tryz.zeroValue269
 g3:=by kernel_rfl
 g4:=by kernel_rfl }
open Go.RowKit Go.Lib in
theorem Tryz.utf8_ValidString(s:ByteArray)(w:World)(hs:s.size≤9223372036854775807)(hT:Lib.Utf8Tabs 0 1 w):
  Calls Tryz.prog 158 #[.string s] w fun e w'=>e=.returned (.bool (Lib.validD s.data.toList))∧Below w.heap.size w w':=Any.utf8_ValidString Tryz.laysValid s w hs hT
def Tryz.laysDecode_ren:Go.Shelf.Ren:=⟨fun|197=>166|260=>225|n=>n,fun|9=>9|21=>21|3=>3|4=>4|5=>5|105=>245|119=>266|0=>0|46=>270|139=>269|138=>268|n=>n,fun|3=>0|4=>1|n=>n⟩
theorem Tryz.laysDecode:Go.Proofs.Lays.n197 Tryz.prog Tryz.laysDecode_ren:={
 mixed:=by kernel_rfl
 f197:=Tryz.func166.trans (congrArg some (by kernel_rfl))
 f260:=Tryz.func225.trans (congrArg some (by kernel_rfl))
 t0:=Tryz.underlying0
 a0:=Tryz.isAgg0
 z0:=Tryz.sizeOf0
 v0:=Tryz.zeroValue0
 t3:=Tryz.underlying3
 a3:=Tryz.isAgg3
 z3:=Tryz.sizeOf3
 v3:=Tryz.zeroValue3
 t4:=Tryz.underlying4
 a4:=Tryz.isAgg4
 z4:=Tryz.sizeOf4
 v4:=Tryz.zeroValue4
 t5:=Tryz.underlying5
 a5:=Tryz.isAgg5
 z5:=Tryz.sizeOf5
 v5:=Tryz.zeroValue5
 t9:=Tryz.underlying9
 a9:=Tryz.isAgg9
 z9:=Tryz.sizeOf9
 v9:=Tryz.zeroValue9
 t21:=Tryz.underlying21
 a21:=Tryz.isAgg21
 z21:=Tryz.sizeOf21
 v21:=Tryz.zeroValue21
 t46:=Tryz.underlying270
 a46:=Tryz.isAgg270
 z46:=Tryz.sizeOf270
 v46:=Tryz.zeroValue270
 t105:=Tryz.underlying245
 a105:=Tryz.isAgg245
 z105:=Tryz.sizeOf245
 v105:=Tryz.zeroValue245
 t119:=Tryz.underlying266
 a119:=Tryz.isAgg266
 z119:=Tryz.sizeOf266
 t138:=Tryz.underlying268
 a138:=Tryz.isAgg268
 z138:=Tryz.sizeOf268
 v138:=Tryz.zeroValue268
 t139:=Tryz.underlying269
 a139:=Tryz.isAgg269
 z139:=Tryz.sizeOf269
 v139:=Tryz.zeroValue269
 g3:=by kernel_rfl
 g4:=by kernel_rfl }
open Go.RowKit Go.Lib in
theorem Tryz.utf8_DecodeRuneInString(s:ByteArray)(w:World)(hT:Lib.Utf8Tabs 0 1 w):
  Calls Tryz.prog 166 #[.string s] w fun e w'=>e=.returned (.tuple #[.int .i32 (Lib.decodeGo s).1,.int .i64 (Lib.decodeGo s).2])∧Below w.heap.size w w':=Any.utf8_DecodeRuneInString Tryz.laysDecode s w hT
def Tryz.laysM171_ren:Go.Shelf.Ren:=⟨fun|171=>97|243=>161|246=>221|283=>255|284=>256|285=>257|286=>258|129=>293|317=>292|318=>294|319=>295|320=>296|337=>315|338=>316|n=>n,fun|3=>3|9=>9|2=>2|4=>4|171=>296|0=>0|53=>247|37=>98|5=>5|173=>299|212=>326|51=>327|20=>20|213=>328|46=>270|232=>355|233=>356|n=>n,fun|17=>5|18=>8|19=>9|n=>n⟩
theorem Tryz.laysM171:Go.Proofs.LaysM.n171 Tryz.prog Tryz.laysM171_ren:={
 mixed:=by kernel_rfl
 f129:=Tryz.func293.trans (congrArg some (by kernel_rfl))
 f171:=Tryz.func97.trans (congrArg some (by kernel_rfl))
 f243:=Tryz.func161.trans (congrArg some (by kernel_rfl))
 f246:=Tryz.func221.trans (congrArg some (by kernel_rfl))
 f283:=Tryz.func255.trans (congrArg some (by kernel_rfl))
 f284:=Tryz.func256.trans (congrArg some (by kernel_rfl))
 f285:=Tryz.func257.trans (congrArg some (by kernel_rfl))
 f286:=Tryz.func258.trans (congrArg some (by kernel_rfl))
 f317:=Tryz.func292.trans (congrArg some (by kernel_rfl))
 f318:=Tryz.func294.trans (congrArg some (by kernel_rfl))
 f319:=Tryz.func295.trans (congrArg some (by kernel_rfl))
 f320:=Tryz.func296.trans (congrArg some (by kernel_rfl))
 f337:=Tryz.func315.trans (congrArg some (by kernel_rfl))
 f338:=Tryz.func316.trans (congrArg some (by kernel_rfl))
 t0:=Tryz.underlying0
 a0:=Tryz.isAgg0
 z0:=Tryz.sizeOf0
 v0:=Tryz.zeroValue0
 t2:=Tryz.underlying2
 a2:=Tryz.isAgg2
 z2:=Tryz.sizeOf2
 v2:=Tryz.zeroValue2
 t3:=Tryz.underlying3
 a3:=Tryz.isAgg3
 z3:=Tryz.sizeOf3
 v3:=Tryz.zeroValue3
 t4:=Tryz.underlying4
 a4:=Tryz.isAgg4
 z4:=Tryz.sizeOf4
 v4:=Tryz.zeroValue4
 t5:=Tryz.underlying5
 a5:=Tryz.isAgg5
 z5:=Tryz.sizeOf5
 v5:=Tryz.zeroValue5
 t9:=Tryz.underlying9
 a9:=Tryz.isAgg9
 z9:=Tryz.sizeOf9
 v9:=Tryz.zeroValue9
 t20:=Tryz.underlying20
 a20:=Tryz.isAgg20
 z20:=Tryz.sizeOf20
 v20:=Tryz.zeroValue20
 t37:=Tryz.underlying98
 a37:=Tryz.isAgg98
 z37:=Tryz.sizeOf98
 v37:=Tryz.zeroValue98
 t46:=Tryz.underlying270
 a46:=Tryz.isAgg270
 z46:=Tryz.sizeOf270
 v46:=Tryz.zeroValue270
 t51:=Tryz.underlying327
 a51:=Tryz.isAgg327
 z51:=Tryz.sizeOf327
 v51:=Tryz.zeroValue327
 t53:=Tryz.underlying247
 a53:=Tryz.isAgg247
 z53:=Tryz.sizeOf247
 v53:=Tryz.zeroValue247
 t171:=Tryz.underlying296
 a171:=Tryz.isAgg296
 z171:=Tryz.sizeOf296
 v171:=Tryz.zeroValue296
 t173:=Tryz.underlying299
 a173:=Tryz.isAgg299
 z173:=Tryz.sizeOf299
 v173:=Tryz.zeroValue299
 t212:=Tryz.underlying326
 a212:=Tryz.isAgg326
 z212:=Tryz.sizeOf326
 v212:=Tryz.zeroValue326
 t213:=Tryz.underlying328
 a213:=Tryz.isAgg328
 z213:=Tryz.sizeOf328
 t232:=Tryz.underlying355
 a232:=Tryz.isAgg355
 z232:=Tryz.sizeOf355
 v232:=Tryz.zeroValue355
 t233:=Tryz.underlying356
 a233:=Tryz.isAgg356
 z233:=Tryz.sizeOf356
 v233:=Tryz.zeroValue356
 g17:=by kernel_rfl
 g18:=by kernel_rfl
 g19:=by kernel_rfl
 i0:=by kernel_rfl
 i2:=by kernel_rfl
 i3:=by kernel_rfl
 i4:=by kernel_rfl
 i5:=by kernel_rfl
 i9:=by kernel_rfl
 i20:=by kernel_rfl
 i37:=by kernel_rfl
 i46:=by kernel_rfl
 i51:=by kernel_rfl
 i53:=by kernel_rfl
 i171:=by kernel_rfl
 i173:=by kernel_rfl
 i212:=by kernel_rfl
 i232:=by kernel_rfl
 i233:=by kernel_rfl
 m17:=by kernel_rfl
 m18:=by kernel_rfl
 m19:=by kernel_rfl }
open Go.RowKit Go.Lib in
theorem Tryz.strconv_Itoa(n:Int)(h0: -9223372036854775808≤n)(h1:n≤9223372036854775807)(w:World)(htab:Lib.TabIs Tryz.prog w "internal/strconv.uint64pow10" .u64 Lib.pow10Tab):
  Calls Tryz.prog 97 #[.int .i64 n] w fun e w'=>e=.returned (.string ⟨(Lib.itoa n).toArray⟩)∧∃k os,w'=Go.Sort.grow (w.drewN k) os:=Any.strconv_Itoa Tryz.laysM171 n h0 h1 w htab
def Tryz.lays143_ren:Go.Shelf.Ren:=⟨fun|143=>213|219=>252|217=>283|225=>284|224=>285|267=>286|266=>310|314=>311|n=>n,fun|9=>9|3=>3|4=>4|5=>5|46=>270|146=>343|51=>327|n=>n,fun|1=>4|n=>n⟩
theorem Tryz.lays143:Go.Proofs.Lays.n143 Tryz.prog Tryz.lays143_ren:={
 mixed:=by kernel_rfl
 f143:=Tryz.func213.trans (congrArg some (by kernel_rfl))
 f217:=Tryz.func283.trans (congrArg some (by kernel_rfl))
 f219:=Tryz.func252.trans (congrArg some (by kernel_rfl))
 f224:=Tryz.func285.trans (congrArg some (by kernel_rfl))
 f225:=Tryz.func284.trans (congrArg some (by kernel_rfl))
 f266:=Tryz.func310.trans (congrArg some (by kernel_rfl))
 f267:=Tryz.func286.trans (congrArg some (by kernel_rfl))
 f314:=Tryz.func311.trans (congrArg some (by kernel_rfl))
 t3:=Tryz.underlying3
 a3:=Tryz.isAgg3
 z3:=Tryz.sizeOf3
 v3:=Tryz.zeroValue3
 t4:=Tryz.underlying4
 a4:=Tryz.isAgg4
 z4:=Tryz.sizeOf4
 v4:=Tryz.zeroValue4
 t5:=Tryz.underlying5
 a5:=Tryz.isAgg5
 z5:=Tryz.sizeOf5
 v5:=Tryz.zeroValue5
 t9:=Tryz.underlying9
 a9:=Tryz.isAgg9
 z9:=Tryz.sizeOf9
 v9:=Tryz.zeroValue9
 t46:=Tryz.underlying270
 a46:=Tryz.isAgg270
 z46:=Tryz.sizeOf270
 v46:=Tryz.zeroValue270
 t51:=Tryz.underlying327
 a51:=Tryz.isAgg327
 z51:=Tryz.sizeOf327
 v51:=Tryz.zeroValue327
 t146:=Tryz.underlying343
 a146:=Tryz.isAgg343
 z146:=Tryz.sizeOf343
 v146:=Tryz.zeroValue343
 g1:=by kernel_rfl }
open Go.RowKit Go.Lib in
theorem Tryz.strings_Index(s substr:ByteArray)(m:Int)(w:World)(hs:s.size<4294967281)(hm:w.cell? ⟨4,0,none⟩=some (.int .i64 m)):
  Calls Tryz.prog 213 #[.string s,.string substr] w fun e w'=>e=.returned (.int .i64 (Lib.index s.data.toList substr.data.toList))∧w'=w:=Any.strings_Index Tryz.lays143 s substr m w hs hm
def Tryz.lays118_ren:Go.Shelf.Ren:=⟨fun|118=>212|n=>n,fun|21=>21|3=>3|4=>4|n=>n,fun|n=>n⟩
theorem Tryz.lays118:Go.Proofs.Lays.n118 Tryz.prog Tryz.lays118_ren:={
 mixed:=by kernel_rfl
 f118:=Tryz.func212.trans (congrArg some (by kernel_rfl))
 t3:=Tryz.underlying3
 a3:=Tryz.isAgg3
 z3:=Tryz.sizeOf3
 v3:=Tryz.zeroValue3
 t4:=Tryz.underlying4
 a4:=Tryz.isAgg4
 z4:=Tryz.sizeOf4
 v4:=Tryz.zeroValue4
 t21:=Tryz.underlying21
 a21:=Tryz.isAgg21
 z21:=Tryz.sizeOf21
 v21:=Tryz.zeroValue21 }
open Go.RowKit Go.Lib in
theorem Tryz.utf8_RuneLen(r:Int)(w:World):
  Calls Tryz.prog 212 #[.int .i32 r] w fun e w'=>e=.returned (.int .i64 (Lib.runeLen r))∧w'=w:=Any.utf8_RuneLen Tryz.lays118 r w
def Tryz.laysC172_ren:Go.Shelf.Ren:=⟨fun|172=>214|244=>253|245=>254|247=>287|279=>288|280=>289|281=>290|282=>291|287=>312|316=>313|171=>97|205=>314|321=>318|322=>319|243=>161|246=>221|283=>255|284=>256|285=>257|286=>258|129=>293|317=>292|318=>294|319=>295|320=>296|337=>315|338=>316|n=>n,fun|9=>9|3=>3|75=>242|76=>243|4=>4|5=>5|167=>319|37=>98|0=>0|85=>320|2=>2|168=>322|53=>247|175=>345|46=>270|210=>348|127=>272|145=>354|143=>352|21=>21|171=>296|173=>299|212=>326|51=>327|20=>20|213=>328|232=>355|233=>356|80=>120|n=>n,fun|15=>6|16=>7|17=>5|18=>8|19=>9|n=>n⟩
theorem Tryz.laysC172:Go.Proofs.LaysC.n172 Tryz.prog Tryz.laysC172_ren:={
 mixed:=by kernel_rfl
 f129:=Tryz.func293.trans (congrArg some (by kernel_rfl))
 f171:=Tryz.func97.trans (congrArg some (by kernel_rfl))
 f172:=Tryz.func214.trans (congrArg some (by kernel_rfl))
 f205:=Tryz.func314.trans (congrArg some (by kernel_rfl))
 f243:=Tryz.func161.trans (congrArg some (by kernel_rfl))
 f244:=Tryz.func253.trans (congrArg some (by kernel_rfl))
 f245:=Tryz.func254.trans (congrArg some (by kernel_rfl))
 f246:=Tryz.func221.trans (congrArg some (by kernel_rfl))
 f247:=Tryz.func287.trans (congrArg some (by kernel_rfl))
 f279:=Tryz.func288.trans (congrArg some (by kernel_rfl))
 f280:=Tryz.func289.trans (congrArg some (by kernel_rfl))
 f281:=Tryz.func290.trans (congrArg some (by kernel_rfl))
 f282:=Tryz.func291.trans (congrArg some (by kernel_rfl))
 f283:=Tryz.func255.trans (congrArg some (by kernel_rfl))
 f284:=Tryz.func256.trans (congrArg some (by kernel_rfl))
 f285:=Tryz.func257.trans (congrArg some (by kernel_rfl))
 f286:=Tryz.func258.trans (congrArg some (by kernel_rfl))
 f287:=Tryz.func312.trans (congrArg some (by kernel_rfl))
 f316:=Tryz.func313.trans (congrArg some (by kernel_rfl))
 f317:=Tryz.func292.trans (congrArg some (by kernel_rfl))
 f318:=Tryz.func294.trans (congrArg some (by kernel_rfl))
 f319:=Tryz.func295.trans (congrArg some (by kernel_rfl))
 f320:=Tryz.func296.trans (congrArg some (by kernel_rfl))
 f321:=Tryz.func318.trans (congrArg some (by kernel_rfl))
 f322:=Tryz.func319.trans (congrArg some (by kernel_rfl))
 f337:=Tryz.func315.trans (congrArg some (by kernel_rfl))
 f338:=Tryz.func316.trans (congrArg some (by kernel_rfl))
 t0:=Tryz.underlying0
 a0:=Tryz.isAgg0
 z0:=Tryz.sizeOf0
 v0:=Tryz.zeroValue0
 t2:=Tryz.underlying2
 a2:=Tryz.isAgg2
 z2:=Tryz.sizeOf2
 v2:=Tryz.zeroValue2
 t3:=Tryz.underlying3
 a3:=Tryz.isAgg3
 z3:=Tryz.sizeOf3
 v3:=Tryz.zeroValue3
 t4:=Tryz.underlying4
 a4:=Tryz.isAgg4
 z4:=Tryz.sizeOf4
 v4:=Tryz.zeroValue4
 t5:=Tryz.underlying5
 a5:=Tryz.isAgg5
 z5:=Tryz.sizeOf5
 v5:=Tryz.zeroValue5
 t9:=Tryz.underlying9
 a9:=Tryz.isAgg9
 z9:=Tryz.sizeOf9
 v9:=Tryz.zeroValue9
 t20:=Tryz.underlying20
 a20:=Tryz.isAgg20
 z20:=Tryz.sizeOf20
 v20:=Tryz.zeroValue20
 t21:=Tryz.underlying21
 a21:=Tryz.isAgg21
 z21:=Tryz.sizeOf21
 v21:=Tryz.zeroValue21
 t37:=Tryz.underlying98
 a37:=Tryz.isAgg98
 z37:=Tryz.sizeOf98
 v37:=Tryz.zeroValue98
 t46:=Tryz.underlying270
 a46:=Tryz.isAgg270
 z46:=Tryz.sizeOf270
 v46:=Tryz.zeroValue270
 t51:=Tryz.underlying327
 a51:=Tryz.isAgg327
 z51:=Tryz.sizeOf327
 v51:=Tryz.zeroValue327
 t53:=Tryz.underlying247
 a53:=Tryz.isAgg247
 z53:=Tryz.sizeOf247
 v53:=Tryz.zeroValue247
 t75:=Tryz.underlying242
 a75:=Tryz.isAgg242
 z75:=Tryz.sizeOf242
 v75:=Tryz.zeroValue242
 t76:=Tryz.underlying243
 a76:=Tryz.isAgg243
 z76:=Tryz.sizeOf243
 v76:=Tryz.zeroValue243
 t85:=Tryz.underlying320
 a85:=Tryz.isAgg320
 z85:=Tryz.sizeOf320
 v85:=Tryz.zeroValue320
 t127:=Tryz.underlying272
 a127:=Tryz.isAgg272
 z127:=Tryz.sizeOf272
 v127:=Tryz.zeroValue272
 t143:=Tryz.underlying352
 a143:=Tryz.isAgg352
 z143:=Tryz.sizeOf352
 v143:=Tryz.zeroValue352
 t145:=Tryz.underlying354
 a145:=Tryz.isAgg354
 z145:=Tryz.sizeOf354
 v145:=Tryz.zeroValue354
 t167:=Tryz.underlying319
 a167:=Tryz.isAgg319
 z167:=Tryz.sizeOf319
 v167:=Tryz.zeroValue319
 t168:=Tryz.underlying322
 a168:=Tryz.isAgg322
 z168:=Tryz.sizeOf322
 v168:=Tryz.zeroValue322
 t171:=Tryz.underlying296
 a171:=Tryz.isAgg296
 z171:=Tryz.sizeOf296
 v171:=Tryz.zeroValue296
 t173:=Tryz.underlying299
 a173:=Tryz.isAgg299
 z173:=Tryz.sizeOf299
 v173:=Tryz.zeroValue299
 t175:=Tryz.underlying345
 a175:=Tryz.isAgg345
 z175:=Tryz.sizeOf345
 v175:=Tryz.zeroValue345
 t210:=Tryz.underlying348
 a210:=Tryz.isAgg348
 z210:=Tryz.sizeOf348
 v210:=Tryz.zeroValue348
 t212:=Tryz.underlying326
 a212:=Tryz.isAgg326
 z212:=Tryz.sizeOf326
 v212:=Tryz.zeroValue326
 t213:=Tryz.underlying328
 a213:=Tryz.isAgg328
 z213:=Tryz.sizeOf328
 t232:=Tryz.underlying355
 a232:=Tryz.isAgg355
 z232:=Tryz.sizeOf355
 v232:=Tryz.zeroValue355
 t233:=Tryz.underlying356
 a233:=Tryz.isAgg356
 z233:=Tryz.sizeOf356
 v233:=Tryz.zeroValue356
 g15:=by kernel_rfl
 g16:=by kernel_rfl
 g17:=by kernel_rfl
 g18:=by kernel_rfl
 g19:=by kernel_rfl
 t80:=Tryz.underlying120
 a80:=Tryz.isAgg120
 z80:=Tryz.sizeOf120
 v80:=Tryz.zeroValue120
 i0:=by kernel_rfl
 i2:=by kernel_rfl
 i3:=by kernel_rfl
 i4:=by kernel_rfl
 i5:=by kernel_rfl
 i9:=by kernel_rfl
 i20:=by kernel_rfl
 i21:=by kernel_rfl
 i37:=by kernel_rfl
 i46:=by kernel_rfl
 i51:=by kernel_rfl
 i53:=by kernel_rfl
 i75:=by kernel_rfl
 i76:=by kernel_rfl
 i80:=by kernel_rfl
 i85:=by kernel_rfl
 i127:=by kernel_rfl
 i143:=by kernel_rfl
 i145:=by kernel_rfl
 i167:=by kernel_rfl
 i168:=by kernel_rfl
 i171:=by kernel_rfl
 i173:=by kernel_rfl
 i175:=by kernel_rfl
 i210:=by kernel_rfl
 i212:=by kernel_rfl
 i232:=by kernel_rfl
 i233:=by kernel_rfl
 m15:=by kernel_rfl
 m16:=by kernel_rfl
 m17:=by kernel_rfl
 m18:=by kernel_rfl
 m19:=by kernel_rfl
 c0:=by kernel_rfl
 c2:=by kernel_rfl
 c3:=by kernel_rfl
 c4:=by kernel_rfl
 c5:=by kernel_rfl
 c9:=by kernel_rfl
 c20:=by kernel_rfl
 c21:=by kernel_rfl
 c37:=by kernel_rfl
 c46:=by kernel_rfl
 c51:=by kernel_rfl
 c53:=by kernel_rfl
 c75:=by kernel_rfl
 c76:=by kernel_rfl
 c80:=by kernel_rfl
 c85:=by kernel_rfl
 c127:=by kernel_rfl
 c143:=by kernel_rfl
 c145:=by kernel_rfl
 c167:=by kernel_rfl
 c168:=by kernel_rfl
 c171:=by kernel_rfl
 c173:=by kernel_rfl
 c175:=by kernel_rfl
 c210:=by kernel_rfl
 c212:=by kernel_rfl
 c213:=by kernel_rfl
 c232:=by kernel_rfl
 c233:=by kernel_rfl }
end Go.Proofs
end

section
namespace Go.Proofs.YtcpaleaajdilgaaGreatDoor
open Go Go.RowKit Go.Mor Go.Sh
theorem hmix:Tryz.prog.follows .mixedOrders=true:=by kernel_rfl
structure GlobN0(n:Nat)(w:World):Prop where
 u:GlobU w
 sz:n≤w.heap.size
 hv:10≤n
theorem tabs_st{w w':World}{n:Nat}(hn:10≤n)(h:Lib.Utf8Tabs 0 1 w)(hk:∀k,k<n→w'.heap[k]?=w.heap[k]?):Lib.Utf8Tabs 0 1 w':=by
 have hc:∀b o,b<n→w'.cell? ⟨b,o,none⟩=w.cell? ⟨b,o,none⟩:=fun b o hb=>World.cell?_of_block (w:=w) (a:=⟨b,o,none⟩) (hk b hb);refine⟨fun c hcc=> ?_,fun i hi=> ?_⟩
 ·rw[hc _ _ (by omega)];exact h.1 c hcc
 ·obtain⟨h1,h2⟩:=h.2 i hi;exact⟨by rw[hc _ _ (by omega)];exact h1,by rw[hc _ _ (by omega)];exact h2⟩
theorem globU_st{w w':World}{n:Nat}(hv:10≤n)(h:GlobU w)(hk:∀k,k<n→w'.heap[k]?=w.heap[k]?):GlobU w':=by
 exact⟨tabs_st hv h.tabs hk⟩
theorem size_st{w w':World}{n:Nat}(hsz:n≤w.heap.size)(hk:∀k,k<n→w'.heap[k]?=w.heap[k]?):n≤w'.heap.size:=by
 rcases Nat.eq_zero_or_pos n with h0|h0
 ·omega
 ·have:=hk (n-1) (by omega);rw[Array.getElem?_eq_getElem (show n-1<w.heap.size by omega)]at this;have:=(gA this).1;omega
def gl0(n:Nat):Sh.Glob where
 G:=GlobN0 n
 n:=n
 st:=fun w w' h hk=>⟨globU_st h.hv h.u hk,size_st h.sz hk,h.hv⟩
 le:=fun w h=>h.sz
theorem sc_of{P:Program}{g g':Sh.Glob}{f:Nat}{xs:List TV}{os:List MO}{y:TV}{os':List MO}(hn:g'.n=g.n)(hG:∀w,g'.G w→g.G w)(h:SCalls P g f xs os y os'):SCalls P g' f xs os y os':=
 ⟨h.1,fun w E vs h1 h2 h3 h4 h5=>h.2 w E vs (hG w h1) h2 (fun d b hb=>hn▸h3 d b hb) h4 h5⟩
theorem z135{w:World}{E:Env}{r:Sh.Rows}(vs:List Value):RelT w E r (.tuple (vs.map fun v=> .pv (.v v))) (.tuple vs.toArray):=
 .tuple _ vs (by simp) (fun j c v hc hv=>by simp[hv]at hc;subst hc;exact .pv (.v v))
theorem z71{P:Program}{g:Sh.Glob}{f:Nat}{vs:List Value}{y:TV}{v:Value}(hb:hasBody P f)(hy:∀w E r,RelT w E r y v)(h:∀w,g.G w→Calls P f vs.toArray w fun e w'=>e=.returned v∧Below w.heap.size w w'):SCalls P g f (vs.map fun v=> .pv (.v v)) [] y []:=by
 refine⟨hb,fun w E us hG hm hX hl hr=> ?_⟩;have hus:us=vs:=by
  apply List.ext_getElem?;intro j;rcases Nat.lt_or_ge j us.length with hj|hj
  ·have hj':j<vs.length:=by simpa [←hl]using hj
   have:=hr j (.pv (.v vs[j])) us[j] (by simp[hj']) (gE hj);rw[gE hj,gE hj'];exact congrArg some (val_rel (y:=vs[j]) this rfl)
  ·rw[List.getElem?_eq_none hj,List.getElem?_eq_none (by simpa [←hl]using hj)]
 subst hus;refine(h w hG).mono ?_;rintro e w' ⟨rfl,hb⟩;refine⟨v,E,rfl,?_,hy _ _ _,⟨fun _ _ _=>rfl,fun _ _ _ _=>rfl,fun d e W n hd=>by obtain⟨j,_,hj⟩:=z24 hd;simp at hj⟩⟩;exact MSim.ext (s:=⟨fun _=>none,objB [],objR [],fun _=>none⟩) hm hb E (fun _ _ h=>h) (fun _ _ h=> .inl h) (fun _ _=>⟨rfl,rfl⟩) (fun _ _ _=>rfl) (fun _ _=>⟨rfl,rfl⟩)
def in64(x:Int):Bool:=decide (-9223372036854775808≤x)&&decide (x≤9223372036854775807)
def I(x:Int):TV:=.pv (.v (.int .i64 x))
def S(s:ByteArray):TV:=.pv (.v (.string s))
def bl(s:ByteArray):List UInt8:=s.data.toList
theorem str_bl(s:ByteArray):str (bl s)=s:=by cases s;simp[str,bl]
theorem z40{f:Nat}(h:(match Tryz.prog.funcs[f]? with|some fn=>fn.body.isSome&&fn.name != "runtime.NumGoroutine" |none=>false)=true):hasBody Tryz.prog f:=by
 split at h
 ·rename_i fn hfn;rw[Bool.and_eq_true]at h;obtain⟨b,hb⟩:=Option.isSome_iff_exists.1 h.1;exact⟨fn,b,hfn,hb,by simpa using h.2⟩
 ·cases h
theorem in64_spec{x:Int}(h:in64 x=true): -9223372036854775808≤x∧x≤9223372036854775807:=by
 unfold in64 at h;simpa using h
def prim0:Oracle:=fun f xs os=>
 if Nat.beq f 158 then match xs,os with
  |[.pv (.v (.string s))],[]=>if decide (s.size≤9223372036854775807)then some (.pv (.v (.bool (Lib.validD s.data.toList))),[])else none
  |_,_=>none
 else if Nat.beq f 166 then match xs,os with
  |[.pv (.v (.string s))],[]=>some (.tuple [.pv (.v (.int .i32 (Lib.decodeGo s).1)),I (Lib.decodeGo s).2],[])
  |_,_=>none
 else none
theorem prim0_sound(n:Nat):SoundC Tryz.prog (gl0 n) prim0:=by
 intro f xs os y os' h;unfold prim0 at h;split at h
 ·rename_i hf;obtain rfl:=Nat.eq_of_beq_eq_true hf;split at h<;>try(cases h;done)
  rename_i s;split at h<;>try(cases h;done)
  rename_i hx;cases h;exact z71 (vs:=[.string s]) (z40 (by kernel_rfl)) (fun w E r=> .pv (.v _)) (fun w hG=>Tryz.utf8_ValidString s w (by simpa using hx) hG.u.tabs)
 split at h
 ·rename_i hf;obtain rfl:=Nat.eq_of_beq_eq_true hf;split at h<;>try(cases h;done)
  rename_i s;cases h;exact z71 (vs:=[.string s]) (v:=.tuple #[.int .i32 (Lib.decodeGo s).1,.int .i64 (Lib.decodeGo s).2]) (z40 (by kernel_rfl)) (fun w E r=>z135 [_,_]) (fun w hG=>Tryz.utf8_DecodeRuneInString s w hG.u.tabs)
 ·cases h
end Go.Proofs.YtcpaleaajdilgaaGreatDoor
end

section
namespace Go.Sh
open Go Go.RowKit
set_option maxHeartbeats 4000000
def noC:Oracle:=fun _ _ _=>none
theorem noC_sound(P:Program)(g:Glob):SoundC P g noC:=fun f xs os y os' h=>by cases h
def SOp.isCall:SOp→Bool| .call .. | .callv .. =>true|_=>false
theorem eff_noC{P:Program}{C:Oracle}{dst:Option Nat}{o:SOp}(h:o.isCall=false)(s:FS):eff P C dst o s=eff P noC dst o s:=by
 cases o<;>first|rfl|cases h
theorem effG_noC{P:Program}{C:Oracle}{o:SOper}(h:o.op.isCall=false)(s:FS):effG P C o s=effG P noC o s:=by
 unfold effG effF;rw[eff_noC h]
def stepW(P:Program)(o:SOper)(K:ES→Prop)(s:ES):Option (TV×Upd)→Prop
 |some e=>K (s.after o e)
 |none=>False
section
variable{P:Program}{g:Glob}{o:SOper}{l:List SOper}{K:ES→Prop}{s:ES}
theorem opsW_nc(h:o.op.isCall=false):opsW P g (o::l) K s ↔ stepW P o (opsW P g l K) s (effG P noC o s.fs):=by
 constructor
 ·rintro⟨C,hC,e,he,hk⟩;rw[effG_noC h]at he;rw[he];exact hk
 ·intro hk;cases he:effG P noC o s.fs with
  |none=>rw[he]at hk;exact hk.elim
  |some e=>rw[he]at hk;exact⟨noC,noC_sound P g,e,he,hk⟩
def callK(P:Program)(g:Glob)(k f m:Nat)(s:FS)(K:TV→Upd→Prop):Option (List TV)→Prop
 |none=>False
 |some args=>∃I,I=handI s m args∧∃xs' os,seqO (TV.ren2 (rhoIn I)) args=some xs'∧seqO (fun d=>(s.mo d).bind (MO.ren (rhoIn I))) I=some os∧
   ∃y os',SCalls P g f xs' os y os'∧moOk os os'=true∧∃y' us,y.ren3 (rhoOut I k)=some y'∧outs (rhoOut I k) 0 os'=some us∧K y' (.mem us)
open Classical in
noncomputable def theC(f:Nat)(xs:List TV)(os:List MO)(r:TV×List MO):Oracle:=fun f' xs' os'=>if f'=f∧xs'=xs∧os'=os then some r else none
theorem theC_sound{f:Nat}{xs:List TV}{os os':List MO}{y:TV}(h:SCalls P g f xs os y os'):SoundC P g (theC f xs os (y,os')):=by
 intro f' xs' os2 y' os3 h';unfold theC at h';split at h'
 ·rename_i hc;obtain⟨rfl,rfl,rfl⟩:=hc;cases h';exact h
 ·cases h'
theorem callEff_of{k f m:Nat}{s:FS}{K:TV→Upd→Prop}{args:List TV}(h:callK P g k f m s K (some args)):∃C,SoundC P g C∧∃y' u,z94 C s k f m args=some (y',u)∧K y' u:=by
 obtain⟨I,rfl,xs',os,h1,h2,y,os',hc,hmo,y',us,h3,h4,hk⟩:=h;refine⟨theC f xs' os (y,os'),theC_sound hc,y',.mem us,?_,hk⟩;unfold z94;unfold handI at h1 h2 h3 h4;simp only[];rw[h1,h2];simp only[theC,and_self,if_true,hmo,h3,h4]
theorem opsW_call{dst:Option Nat}{f m:Nat}{xs:List Arg}(h:callK P g (dstId dst) f m s.fs (fun y u=>opsW P g l K (s.after ⟨dst,none,none,.call f m xs⟩ (y,u))) (seqO (fun x:Arg=>x.get s.fs) xs)):opsW P g (⟨dst,none,none,.call f m xs⟩::l) K s:=by
 cases hx:seqO (fun x:Arg=>x.get s.fs) xs with
 |none=>rw[hx]at h;exact h.elim
 |some args=>
  rw[hx]at h;obtain⟨C,hC,y',u,he,hk⟩:=callEff_of h;exact⟨C,hC,(y',u),by simp only[effG,effF,footOk,eff,hx,Option.bind_some,he],hk⟩
def callvK(P:Program)(g:Glob)(k m:Nat)(s:FS)(K:TV→Upd→Prop):Option (Nat×List TV×List TV)→Option (List TV)→Prop
 |some (f,fa,fb),some vs=>callK P g k f m s K (some (fa++vs++fb))
 |_,_=>False
theorem opsW_callv{dst:Option Nat}{m:Nat}{x:Arg}{xs:List Arg}(h:callvK P g (dstId dst) m s.fs (fun y u=>opsW P g l K (s.after ⟨dst,none,none,.callv x m xs⟩ (y,u))) ((x.get s.fs).bind TV.callee) (seqO (fun x:Arg=>x.get s.fs) xs)):opsW P g (⟨dst,none,none,.callv x m xs⟩::l) K s:=by
 cases hc:(x.get s.fs).bind TV.callee with
 |none=>rw[hc]at h;exact h.elim
 |some c=>
  obtain⟨f,fa,fb⟩:=c;cases hx:seqO (fun x:Arg=>x.get s.fs) xs with
  |none=>rw[hc,hx]at h;exact h.elim
  |some vs=>
   rw[hc,hx]at h;have h':callK P g (dstId dst) f m s.fs (fun y u=>opsW P g l K (s.after ⟨dst,none,none,.callv x m xs⟩ (y,u))) (some (fa++vs++fb)):=h;obtain⟨C,hC,y',u,he,hk⟩:=callEff_of h';exact⟨C,hC,(y',u),by simp only[effG,effF,footOk,eff,hc,hx,he],hk⟩
end
def exitR(res:List SRes)(keep:Bool)(n:Nat)(s:ES):Option (TV×List MO):=exitF ⟨0,.skip,res,keep⟩ n s
theorem exitF_R(F:SFunc)(n:Nat)(s:ES):exitF F n s=exitR F.res F.keep n s:=rfl
def PostR(res:List SRes)(keep:Bool)(n:Nat)(y:TV)(os':List MO):SExit→ES→Prop
 | .ret,s| .normal,s=>exitR res keep n s=some (y,os')
 | .exit _,_| .pan _,_=>False
theorem z17{P:Program}{g:Glob}{f:Nat}{H:Nat→Option Nat→Nat}{Fp:Nat→List (Nat→Option Nat)}{K:Nat→List Nat}{keep:Bool}{F:SFunc}(hmix:P.follows .mixedOrders=true)(hF:z6 P f H Fp K keep=some F){xs:List TV}{os os':List MO}{y:TV}(hn:Nat.ble xs.length F.N=true)(hos:Nat.ble os.length 1000=true)(hmo:moOk os os'=true)
  (h:swp P g F.code (PostR F.res F.keep os.length y os') (startE xs os)):SCalls P g f xs os y os':=
 call_of_swp hmix hF (Nat.le_of_ble_eq_true hn) (Nat.le_of_ble_eq_true hos) hmo (z48 h fun e s he=>by
  cases e with
  |normal=>exact⟨.inr rfl,by rw[exitF_R];exact he⟩
  |ret=>exact⟨.inl rfl,by rw[exitF_R];exact he⟩
  |exit id=>exact he.elim
  |pan z=>exact he.elim)
def ansW(y:TV):Option TV→Prop
 |some y0=>y0.ids3=[]∧y0.ren3 (rhoIn [])=some y
 |none=>False
def Post0(res:List SRes)(y:TV):SExit→ES→Prop
 | .ret,s| .normal,s=>ansW y (resT s.fs res)
 | .exit _,_| .pan _,_=>False
theorem z7{P:Program}{g:Glob}{f:Nat}{H:Nat→Option Nat→Nat}{Fp:Nat→List (Nat→Option Nat)}{K:Nat→List Nat}{keep:Bool}{F:SFunc}(hmix:P.follows .mixedOrders=true)(hF:z6 P f H Fp K keep=some F){xs:List TV}{y:TV}(hn:Nat.ble xs.length F.N=true)
  (h:swp P g F.code (Post0 F.res y) (startE xs [])):SCalls P g f xs [] y []:=by
 have key:∀s,ansW y (resT s.fs F.res)→exitR F.res F.keep 0 s=some (y,[]):=by
  intro s he;cases hr:resT s.fs F.res with
  |none=>rw[hr]at he;exact he.elim
  |some y0=>
   rw[hr]at he;obtain⟨h1,h2⟩:=he;simp[exitR,exitF,hr,idsFrom,h1,reach,h2,seqO]
 refine z17 hmix hF hn rfl rfl (z48 h fun e s he=> ?_);cases e with
 |normal=>exact key s he
 |ret=>exact key s he
 |exit id=>exact he.elim
 |pan z=>exact he.elim
section
variable(P:Program)(t:TypeId)(k:IntKind)(a b:Int)(x y:ByteArray)
theorem bin_lss:scal P (do eqGuard .lss t (.const (.int k a)) (.const (.int k b)) (.int k a) (.int k b);binOp .lss t (.int k a) (.int k b))=some (.pv (.v (.bool (decide (a<b)))),.no):=by simp[scal,eqGuard,binOp,Op.intCmp];rfl
theorem bin_gtr:scal P (do eqGuard .gtr t (.const (.int k a)) (.const (.int k b)) (.int k a) (.int k b);binOp .gtr t (.int k a) (.int k b))=some (.pv (.v (.bool (decide (b<a)))),.no):=by simp[scal,eqGuard,binOp,Op.intCmp];rfl
theorem bin_leq:scal P (do eqGuard .leq t (.const (.int k a)) (.const (.int k b)) (.int k a) (.int k b);binOp .leq t (.int k a) (.int k b))=some (.pv (.v (.bool (decide (a≤b)))),.no):=by simp[scal,eqGuard,binOp,Op.intCmp];rfl
theorem bin_geq:scal P (do eqGuard .geq t (.const (.int k a)) (.const (.int k b)) (.int k a) (.int k b);binOp .geq t (.int k a) (.int k b))=some (.pv (.v (.bool (decide (b≤a)))),.no):=by simp[scal,eqGuard,binOp,Op.intCmp];rfl
theorem bin_eql:scal P (do eqGuard .eql t (.const (.int k a)) (.const (.int k b)) (.int k a) (.int k b);binOp .eql t (.int k a) (.int k b))=some (.pv (.v (.bool (decide (a=b)))),.no):=by
 have:(a==b)=decide (a=b):=by rfl
 simp[scal,eqGuard,binOp,Op.intCmp];rfl
theorem bin_neq:scal P (do eqGuard .neq t (.const (.int k a)) (.const (.int k b)) (.int k a) (.int k b);binOp .neq t (.int k a) (.int k b))=some (.pv (.v (.bool (!decide (a=b)))),.no):=by simp[scal,eqGuard,binOp,Op.intCmp];rfl
theorem bin_add:scal P (do eqGuard .add t (.const (.int k a)) (.const (.int k b)) (.int k a) (.int k b);binOp .add t (.int k a) (.int k b))=some (.pv (.v (.int k (k.wrap (a+b)))),.no):=by simp[scal,eqGuard,binOp,Op.intArith];rfl
theorem bin_sub:scal P (do eqGuard .sub t (.const (.int k a)) (.const (.int k b)) (.int k a) (.int k b);binOp .sub t (.int k a) (.int k b))=some (.pv (.v (.int k (k.wrap (a-b)))),.no):=by simp[scal,eqGuard,binOp,Op.intArith];rfl
theorem bin_mul:scal P (do eqGuard .mul t (.const (.int k a)) (.const (.int k b)) (.int k a) (.int k b);binOp .mul t (.int k a) (.int k b))=some (.pv (.v (.int k (k.wrap (a*b)))),.no):=by simp[scal,eqGuard,binOp,Op.intArith];rfl
theorem bin_quo(hb:b≠0):scal P (do eqGuard .quo t (.const (.int k a)) (.const (.int k b)) (.int k a) (.int k b);binOp .quo t (.int k a) (.int k b))=some (.pv (.v (.int k (k.wrap (a.tdiv b)))),.no):=by simp[scal,eqGuard,binOp,Op.intDiv,hb];rfl
theorem bin_rem(hb:b≠0):scal P (do eqGuard .rem t (.const (.int k a)) (.const (.int k b)) (.int k a) (.int k b);binOp .rem t (.int k a) (.int k b))=some (.pv (.v (.int k (a.tmod b))),.no):=by simp[scal,eqGuard,binOp,Op.intDiv,hb];rfl
theorem sbin_eql:scal P (do eqGuard .eql t (.const (.string x)) (.const (.string y)) (.string x) (.string y);binOp .eql t (.string x) (.string y))=some (.pv (.v (.bool (x.toList==y.toList))),.no):=by simp[scal,eqGuard,binOp,Op.stringOp];rfl
theorem sbin_neq:scal P (do eqGuard .neq t (.const (.string x)) (.const (.string y)) (.string x) (.string y);binOp .neq t (.string x) (.string y))=some (.pv (.v (.bool (!(x.toList==y.toList)))),.no):=by simp[scal,eqGuard,binOp,Op.stringOp];rfl
theorem sbin_lss:scal P (do eqGuard .lss t (.const (.string x)) (.const (.string y)) (.string x) (.string y);binOp .lss t (.string x) (.string y))=some (.pv (.v (.bool (Op.bytesLess x.toList y.toList))),.no):=by simp[scal,eqGuard,binOp,Op.stringOp];rfl
theorem sbin_gtr:scal P (do eqGuard .gtr t (.const (.string x)) (.const (.string y)) (.string x) (.string y);binOp .gtr t (.string x) (.string y))=some (.pv (.v (.bool (!(Op.bytesLess x.toList y.toList||x.toList==y.toList)))),.no):=by simp[scal,eqGuard,binOp,Op.stringOp];rfl
theorem sbin_add(h:x.size+y.size≤9223372036854775807):scal P (do eqGuard .add t (.const (.string x)) (.const (.string y)) (.string x) (.string y);binOp .add t (.string x) (.string y))=some (.pv (.v (.string (x++y))),.no):=by
 have hm:IntKind.i64.max=9223372036854775807:=by rfl
 have h':¬(((x.size+y.size:Nat):Int)>IntKind.i64.max):=by rw[hm];omega
 simp only[scal,eqGuard,binOp,Op.stringOp,h',if_false];rfl
theorem un_neg:scal P (Op.unary .neg (.int k a))=some (.pv (.v (.int k (k.wrap (0-a)))),.no):=rfl
theorem un_not(q:Bool):scal P (Op.unary .not (.bool q))=some (.pv (.v (.bool (!q))),.no):=rfl
end
theorem nbeq(a b:Nat):Nat.beq a b=(a==b):=by
  cases h:Nat.beq a b with
  |true=>simp[Nat.eq_of_beq_eq_true h]
  | false => have : a ≠ b := by rintro rfl; rw [Nat.beq_refl] at h; cases h
             simp[this]
theorem nble(a b:Nat):Nat.ble a b=decide (a≤b):=by
  cases h:Nat.ble a b with
  |true=>have:=Nat.le_of_ble_eq_true h;simp[this]
  | false => have : ¬ a ≤ b := fun hl => by rw [Nat.ble_eq_true_of_le hl] at h; cases h
             simp[this]
theorem nblt(a b:Nat):Nat.blt a b=decide (a<b):=by unfold Nat.blt;rw[nble];rfl
theorem bFT:(false==true)=false:=rfl
theorem bTF:(true==false)=false:=rfl
theorem wrap64{x:Int}(h0: -9223372036854775808≤x)(h1:x≤9223372036854775807):IntKind.i64.wrap x=x:=by rw[IntKind.wrap_i64];omega
section
variable{P:Program}{g:Glob}{a b c:SCode}{Q:SExit→ES→Prop}{s s':ES}{n kill:List Nat}{l:List SOper}{r:List (List Nat×List SOper)}
theorem w_call{K:ES→Prop}{dst:Option Nat}{f m:Nat}{xs:List Arg}{args xs':List TV}{I:List Nat}{os os':List MO}{y y':TV}{us:List (Nat×MO)}(hx:seqO (fun x:Arg=>x.get s.fs) xs=some args)(hI:handI s.fs m args=I)(h1:seqO (TV.ren2 (rhoIn I)) args=some xs')
  (h2:seqO (fun d=>(s.fs.mo d).bind (MO.ren (rhoIn I))) I=some os) (hc:SCalls P g f xs' os y os') (hmo:moOk os os'=true) (h3:y.ren3 (rhoOut I (dstId dst))=some y') (h4:outs (rhoOut I (dstId dst)) 0 os'=some us) (hs:s.after ⟨dst,none,none,.call f m xs⟩ (y',.mem us)=s') (hk:opsW P g l K s'):
  opsW P g (⟨dst,none,none,.call f m xs⟩::l) K s:=by
 refine opsW_call ?_;rw[hx];exact⟨I,hI.symm,xs',os,h1,h2,y,os',hc,hmo,y',us,h3,h4,by rw[←hs]at hk;exact hk⟩
end
end Go.Sh
end

section
namespace Go.Sh
open Go Go.RowKit
section
variable{P:Program}{g:Glob}{b:SCode}{Q:SExit→ES→Prop}{s s':ES}{n kill:List Nat}{l:List SOper}{r:List (List Nat×List SOper)}
end
def Wk(x y:TV):Prop:=∀w E r v,RelT w E r x v→RelT w E r y v
theorem Wk.refl(x:TV):Wk x x:=fun _ _ _ _ h=>h
theorem Wk.trans{x y z:TV}(h:Wk x y)(h':Wk y z):Wk x z:=fun w E r v hr=>h' w E r v (h w E r v hr)
theorem wk_nil(W:Nat):Wk (.pv (.v (.slice none 0 0))) (.pv (.sl W [])):=by
 intro w E r v h;cases h with
 |pv h=>
  cases h with
  |v x=>exact .pv (.sl W [] 0 0 0 none (fun _ _=>undef) (by simp) (by simp) (by simp) (by simp) (by simp) (by simp))
theorem wk_agg{cs ds:List TV}(hl:cs.length=ds.length)(h:∀(j:Nat) c d,cs[j]?=some c→ds[j]?=some d→Wk c d):Wk (.agg cs) (.agg ds):=by
 intro w E r v hr;cases hr with
 |agg cs vs hl' hv ho=>
  refine .agg ds vs (hl▸hl') (fun j d v hd hv'=> ?_) ho;have hj:j<cs.length:=by
   rcases Nat.lt_or_ge j ds.length with h|h
   ·omega
   ·rw[List.getElem?_eq_none h]at hd;cases hd
  exact h j _ d (gE hj) hd w E r v (hv j _ v (gE hj) hv')
theorem SCalls.out{P:Program}{g:Glob}{f:Nat}{xs:List TV}{os os':List MO}{y y':TV}(h:SCalls P g f xs os y os')(hw:Wk y y'):SCalls P g f xs os y' os':=
 ⟨h.1,fun w E vs hG hm hX hl hr=>(h.2 w E vs hG hm hX hl hr).mono (by
  rintro e w' ⟨v,E',h1,h2,h3,h4⟩;exact⟨v,E',h1,h2,hw _ _ _ _ h3,h4⟩)⟩
theorem SCalls.inp{P:Program}{g:Glob}{f:Nat}{xs xs':List TV}{os os':List MO}{y:TV}(h:SCalls P g f xs' os y os')(hl:xs.length=xs'.length)(hw:∀(j:Nat) c d,xs[j]?=some c→xs'[j]?=some d→Wk c d):SCalls P g f xs os y os':=
 ⟨h.1,fun w E vs hG hm hX hl' hr=>h.2 w E vs hG hm hX (hl▸hl') (fun j d v hd hv=>by
  have hj:j<xs.length:=by
   rcases Nat.lt_or_ge j xs'.length with h|h
   ·omega
   ·rw[List.getElem?_eq_none h]at hd;cases hd
  exact hw j _ d (gE hj) hd w E _ v (hr j _ v (gE hj) hv))⟩
end Go.Sh
namespace Go.Sh
open Go Go.RowKit
theorem reach_none{s:FS}:∀(f:Nat) (l:List Nat),(∀d∈l,s.b d=none)→reach s false f l []=[]
 |0,_,_=>by simp[reach]
 |_+1,[],_=>by simp[reach]
 |f+1,d::l,h=>by
  have h1:=h d (by simp);simp only[reach,pos,h1];have ih:=reach_none f l (fun e he=>h e (by simp[he]));cases s.r d<;>exact ih
def ansW1(s:ES)(y:TV):Option TV→Prop
 |some y0=>(y0.ids3.all fun d=>(s.fs.b d).isNone)=true∧y0.ren3 (rhoIn [])=some y
 |none=>False
def Post1(res:List SRes)(y:TV):SExit→ES→Prop
 | .ret,s| .normal,s=>ansW1 s y (resT s.fs res)
 | .exit _,_| .pan _,_=>False
theorem z54{P:Program}{g:Glob}{f:Nat}{H:Nat→Option Nat→Nat}{Fp:Nat→List (Nat→Option Nat)}{K:Nat→List Nat}{F:SFunc}(hmix:P.follows .mixedOrders=true)(hF:z6 P f H Fp K false=some F)(hk:F.keep=false){xs:List TV}{y:TV}(hn:Nat.ble xs.length F.N=true)
  (h:swp P g F.code (Post1 F.res y) (startE xs [])):SCalls P g f xs [] y []:=by
 have key:∀s,ansW1 s y (resT s.fs F.res)→exitR F.res F.keep 0 s=some (y,[]):=by
  intro s he;cases hr:resT s.fs F.res with
  |none=>rw[hr]at he;exact he.elim
  |some y0=>
   rw[hr]at he;obtain⟨h1,h2⟩:=he;have h3:reach s.fs false 64 y0.ids3 []=[]:=reach_none 64 _ (fun d hd=>by simpa using List.all_eq_true.1 h1 d hd);simp[exitR,exitF,hr,idsFrom,hk,h3,h2,seqO]
 refine z17 hmix hF hn rfl rfl (z48 h fun e s he=> ?_);cases e with
 |normal=>exact key s he
 |ret=>exact key s he
 |exit id=>exact he.elim
 |pan z=>exact he.elim
end Go.Sh
namespace Go.Sh
open Go Go.RowKit
theorem pr_ite{α:Type}(P:Program)(c:Prop)[Decidable c](a b:Sem α):z14 P (if c then a else b)=if c then z14 P a else z14 P b:=by split<;>rfl
theorem pr_pure{α:Type}(P:Program)(a:α):z14 P (pure a)=some a:=rfl
theorem pr_program(P:Program):z14 P program=some P:=rfl
theorem z84{P:Program}(d:Nat)(t:TypeId)(xs ys:Array Value)(ht:z14 P (underlying t)=some (.struct (P.fieldsOf t)))(hp:P.stoodInHeld t=false):
  z14 P (Op.equalIn (d+1) t (.agg xs) (.agg ys))=z14 P (Op.eqFields d xs ys (P.fieldsOf t).toList):=by
 simp only[Op.equalIn,z28,ht,Option.bind_some,pr_program,hp,Bool.false_eq_true,if_false];rw[←Array.forIn_toList];generalize(P.fieldsOf t).toList=fs;clear ht
 induction fs with
 |nil=>simp[Op.eqFields,pr_pure]
 |cons f fs ih=>
  simp only[List.forIn_cons,Op.eqFields,z28,pr_ite];split
  ·generalize z14 P (part f.type xs f.offset)=r1;cases r1 with
   |none=>rfl
   |some a=>
    simp only[Option.bind_some];generalize z14 P (part f.type ys f.offset)=r2;cases r2 with
    |none=>rfl
    |some b=>
     simp only[Option.bind_some];generalize z14 P (Op.equalIn d f.type a b)=r3;cases r3 with
     |none=>rfl
     |some r=>
      cases r
      ·simp only[Option.bind_some,Bool.not_false,if_true,pr_pure]
      ·simp only[Option.bind_some,Bool.not_true,Bool.false_eq_true,if_false,pr_pure];exact ih
  ·simp only[pr_pure,Option.bind_some];exact ih
end Go.Sh
end

section
namespace Go.Mor
def plainR(r:Nat):Bool:=decide (32≤r)&&r !=127
def plainGo:Nat→List UInt8→Bool
 |0,_=>true
 |n+1,l=>if l=[] then true else plainR (Lib.decodeL l).1&&plainGo n (l.drop (Lib.decodeL l).2)
def plainD(l:List UInt8):Bool:=plainGo l.length l
theorem plainGo_more:∀(n:Nat) (l:List UInt8),l.length≤n→plainGo n l=plainD l:=by
 intro n
 induction n using Nat.strongRecOn with
 |_ n ih=>
  intro l hl;unfold plainD;cases l with
  |nil=>cases n<;>simp[plainGo]
  |cons b t=>
   obtain⟨m,rfl⟩:∃m,n=m+1:=⟨n-1,by simp at hl;omega⟩
   have hw:=Lib.decodeL_width (b::t);simp only[plainGo,List.length_cons,reduceCtorEq,if_false];have h1:(List.drop (Lib.decodeL (b::t)).2 (b::t)).length≤t.length:=by simp;omega
   simp at hl;rw[ih m (by omega) _ (by omega)];by_cases he:t.length=m
   ·rw[he,ih m (by omega) _ (by omega)]
   ·rw[ih t.length (by omega) _ h1]
theorem plainD_step(l:List UInt8)(hne:l≠[]):plainD l=(plainR (Lib.decodeL l).1&&plainD (l.drop (Lib.decodeL l).2)):=by
 cases l with
 |nil=>exact absurd rfl hne
 |cons b t=>
  have hw:=Lib.decodeL_width (b::t)
  conv=>lhs;unfold plainD
  simp only[plainGo,List.length_cons,reduceCtorEq,if_false];rw[plainGo_more t.length _ (by simp;omega)]
def z15(s:List UInt8):Bool:=decide (s.length≤60)&&(Lib.validD s&&plainD s)
def rightID(n:Int):Bool:=decide (1≤n∧n≤100000∨ -20≤n∧n≤ -1)
def bare(x:V):Bool:=x.s==[]&&x.l.length==0
def right1(x:V):Bool:=
 if x.k=0 then bare x&&x.n==0
 else if x.k=1 then bare x&&decide (-1000000000000000≤x.n)&&decide (x.n≤1000000000000000)
 else if x.k=2 then x.n==0&&x.l.length==0&&z15 x.s
 else if x.k=3∨x.k=4 then bare x&&rightID x.n
 else false
def noItem(x:V):Bool:=x.k==5|| !right1 x
def rightV(x:V):Bool:=
 if x.k=5 then x.n==0&&x.s==[]&&decide (x.l.length≤12)&& !x.l.any noItem else right1 x
structure Ty where
 k:Int
 o:Int
def z19(t:Ty):Bool:=if t.k=5 then decide (1≤t.o∧t.o≤4)else decide (1≤t.k∧t.k≤4∧t.o=0)
def ofKind(x:V)(k:Int):Bool:=x.k==k||(x.k==0&&(k==3||k==4))
def fitsV(x:V)(t:Ty):Bool:=rightV x&&z19 t&&ofKind x t.k&& !x.l.any (fun y=> !ofKind y t.o)
def zeroV(t:Ty):V:=if !z19 t||t.k==3||t.k==4 then V.nil else .mk t.k 0 [] []
end Go.Mor
end

section
namespace Go.Proofs.YtcpaleaajdilgaaGreatDoor
open Go Go.Mor
def I64(c:Int):Prop:= -9223372036854775808≤c∧c≤9223372036854775807
def ordI(a b:Int):Int:=if a<b then -1 else if b<a then 1 else 0
def thenI(c d:Int):Int:=if c=0 then d else c
def ordS(a b:List UInt8):Int:=if Op.bytesLess a b then -1 else if a=b then 0 else 1
mutual
def cmpV:V→V→Int
 | .mk k n s l,y=>thenI (ordI k y.k) (thenI (ordI n y.n) (thenI (ordS s y.s) (cmpL l y.l)))
def cmpL:List V→List V→Int
 |[],[]=>0
 |[],_::_=> -1
 |_::_,[]=>1
 |x::l,y::l'=>thenI (cmpV x y) (cmpL l l')
end
theorem cmpV_eq(x y:V):cmpV x y=thenI (ordI x.k y.k) (thenI (ordI x.n y.n) (thenI (ordS x.s y.s) (cmpL x.l y.l))):=by
 cases x;simp only[cmpV,V.k,V.n,V.s,V.l]
theorem cmpL_drop{l l':List V}{i:Nat}{x y:V}(hx:l[i]?=some x)(hy:l'[i]?=some y):cmpL (l.drop i) (l'.drop i)=thenI (cmpV x y) (cmpL (l.drop (i+1)) (l'.drop (i+1))):=by
 obtain⟨h1,rfl⟩:=gJ hx;obtain⟨h2,rfl⟩:=gJ hy;rw[List.drop_eq_getElem_cons h1,List.drop_eq_getElem_cons h2,cmpL]
theorem cmpL_end{l l':List V}{i:Nat}(h:i=min l.length l'.length):cmpL (l.drop i) (l'.drop i)=ordI l.length l'.length:=by
 unfold ordI;rcases Nat.lt_trichotomy l.length l'.length with h1|h1|h1
 ·rw[List.drop_eq_nil_of_le (by omega:l.length≤i)];obtain⟨y,r,hy⟩:∃y r,l'.drop i=y::r:=⟨_,_,List.drop_eq_getElem_cons (by omega)⟩
  rw[hy,cmpL,if_pos (by omega)]
 ·rw[List.drop_eq_nil_of_le (by omega:l.length≤i),List.drop_eq_nil_of_le (by omega:l'.length≤i),cmpL,if_neg (by omega),if_neg (by omega)]
 ·rw[List.drop_eq_nil_of_le (by omega:l'.length≤i)];obtain⟨y,r,hy⟩:∃y r,l.drop i=y::r:=⟨_,_,List.drop_eq_getElem_cons (by omega)⟩
  rw[hy,cmpL,if_neg (by omega),if_pos (by omega)]
end Go.Proofs.YtcpaleaajdilgaaGreatDoor
end

section
namespace Go.Proofs.YtcpaleaajdilgaaGreatDoor
open Go Go.RowKit Go.Mor Go.Sh
set_option maxRecDepth 100000
set_option maxHeartbeats 8000000
theorem str0:str []=(⟨#[]⟩:ByteArray):=rfl
def tyT(t:Ty):TV:=.agg [I t.k,I t.o]
def nv(x:V):TV:=.agg [I x.k,I x.n,S (str x.s),.pv (.v (.slice none 0 0))]
def V.row:V→List PV
 | .mk k n s l=>[.v (.int .i64 k),.v (.int .i64 n),.v (.string (str s)),.sl 4 (l.attach.map fun x=>V.row x.1)]
termination_by x=>SizeOf.sizeOf x
decreasing_by exact V.size_lt x.2 k n s
def V.rows(l:List V):List (List PV):=l.map V.row
theorem V.row_mk(k n:Int)(s:List UInt8)(l:List V):V.row (.mk k n s l)=[.v (.int .i64 k),.v (.int .i64 n),.v (.string (str s)),.sl 4 (V.rows l)]:=by
 rw[V.row];simp[V.rows]
theorem V.rows_nil:V.rows []=[]:=rfl
theorem z50(l:List V):V.rows l=l.map V.row:=rfl
def tv(x:V):TV:=.agg [I x.k,I x.n,S (str x.s),.pv (.sl 4 (V.rows x.l))]
theorem wk4{a b c x y:TV}(h:Wk x y):Wk (.agg [a,b,c,x]) (.agg [a,b,c,y]):=
 wk_agg rfl (fun j p q hp hq=>by
  match j with
  |0=>simp at hp hq;subst hp;subst hq;exact .refl _
  |1=>simp at hp hq;subst hp;subst hq;exact .refl _
  |2=>simp at hp hq;subst hp;subst hq;exact .refl _
  |3=>simp at hp hq;subst hp;subst hq;exact h
  |j+4=>simp at hp)
theorem nv_tv{x:V}(h:x.l=[]):Wk (nv x) (tv x):=by
 unfold nv tv;rw[h];exact wk4 (wk_nil 4)
structure R1 where
 k:Int
 n:Int
 s:List UInt8
structure RawV where
 k:Int
 n:Int
 s:List UInt8
 l:List R1
def R1.ok(x:R1):Prop:=I64 x.k∧I64 x.n∧x.s.length≤9223372036854775807
def RawV.ok(x:RawV):Prop:=I64 x.k∧I64 x.n∧x.s.length≤9223372036854775807∧(∀y∈x.l,y.ok)∧x.l.length≤9223372036854775807
def R1.row(x:R1):List PV:=[.v (.int .i64 x.k),.v (.int .i64 x.n),.v (.string (str x.s))]
def RawV.tv(x:RawV):TV:=.agg [I x.k,I x.n,S (str x.s),.pv (.sl 3 (x.l.map R1.row))]
theorem row_of_nil{x:V}(h:x.l=[]):V.row x=[.v (.int .i64 x.k),.v (.int .i64 x.n),.v (.string (str x.s)),.sl 4 []]:=by
 cases x with
 |mk k n s l=>simp only[V.l]at h;subst h;simp[V.row_mk,V.rows,V.k,V.n,V.s]
theorem Vk(k n:Int)(s:List UInt8)(l:List V):(V.mk k n s l).k=k:=rfl
theorem Vn(k n:Int)(s:List UInt8)(l:List V):(V.mk k n s l).n=n:=rfl
theorem Vs(k n:Int)(s:List UInt8)(l:List V):(V.mk k n s l).s=s:=rfl
theorem Vl(k n:Int)(s:List UInt8)(l:List V):(V.mk k n s l).l=l:=rfl
theorem rowsGet(l:List V)(k:Nat):(V.rows l)[k]?=(l[k]?).map V.row:=by rw[z50,List.getElem?_map]
theorem z58(l:List V):(V.rows l).length=l.length:=by rw[z50,List.length_map]
theorem row4(y:V):V.row y=[.v (.int .i64 y.k),.v (.int .i64 y.n),.v (.string (str y.s)),.sl 4 (V.rows y.l)]:=by cases y;exact V.row_mk _ _ _ _
inductive VSmall:V→Prop where
 |mk {k n:Int} {s:List UInt8} {l:List V} (h:l.length≤maxLen) (hs:∀y∈l,VSmall y):VSmall (.mk k n s l)
theorem VSmall.len{x:V}(h:VSmall x):x.l.length≤maxLen:=by cases h;assumption
theorem VSmall.sub{x y:V}(h:VSmall x)(hy:y∈x.l):VSmall y:=by cases h with|mk h hs=>exact hs y hy
def z106(x:V):Prop:=x.s.length≤9223372036854775807
theorem rel_I{w:World}{E:Env}{r:Sh.Rows}{x:Int}{v:Value}(h:RelT w E r (I x) v):v=.int .i64 x:=val_rel h rfl
def VOk(x:V):Prop:=z106 x∧∀y∈x.l,z106 y
def pvC(xs:List PV):List TV:=xs.map TV.pv
theorem pvC_fgt(ids:List Nat)(xs:List PV):List.map (fgt3 ids) (pvC xs)=pvC xs:=by
 unfold pvC;rw[List.map_map];exact List.map_congr_left fun x _=>by cases ids<;>rfl
theorem pvC_ids(xs:List PV):List.flatMap TV.ids1 (pvC xs)=[]:=by
 unfold pvC;induction xs with
 |nil=>rfl
 |cons x xs ih=>rw[List.map_cons,List.flatMap_cons,ih];rfl
theorem pvC_ren(ρ:Nat→Option Nat)(xs:List PV):seqO (TV.ren1 ρ) (pvC xs)=some (pvC xs):=by
 unfold pvC;induction xs with
 |nil=>rfl
 |cons x xs ih=>simp only[List.map_cons,seqO,ih];rfl
theorem pvC_len(xs:List PV):(pvC xs).length=xs.length:=by simp[pvC]
theorem pvC_get(xs:List PV)(i:Nat):(pvC xs)[i]?=(xs[i]?).map TV.pv:=by simp[pvC]
theorem pvC_set{xs:List PV}{i:Nat}(h:i<xs.length)(y:PV):List.take i (pvC xs)++[TV.pv y]++List.drop (i+1) (pvC xs)=pvC (xs.set i y):=by
 unfold pvC;rw[List.set_eq_take_append_cons_drop,if_pos h,List.map_append,List.map_cons,List.map_take,List.map_drop,List.append_assoc];rfl
theorem vV:type_of%(wa3 (wa8 @pvC_fgt @pvC_ids @pvC_ren @pvC_len @I.eq_1 @S.eq_1 @tv.eq_1 @nv.eq_1) (wa8 @tyT.eq_1 @RawV.tv.eq_1 @R1.row.eq_1 @rowsGet @z58 @row4 @Vk @Vn) (wa2 @Vs @Vl)):=wa3 (wa8 @pvC_fgt @pvC_ids @pvC_ren @pvC_len @I.eq_1 @S.eq_1 @tv.eq_1 @nv.eq_1) (wa8 @tyT.eq_1 @RawV.tv.eq_1 @R1.row.eq_1 @rowsGet @z58 @row4 @Vk @Vn) (wa2 @Vs @Vl)
end Go.Proofs.YtcpaleaajdilgaaGreatDoor
end

section
namespace Go.Proofs.YtcpaleaajdilgaaGreatDoor
open Go Go.RowKit Go.Mor Go.Sh
def byR(l:List UInt8):List (List PV):=l.map fun u=>[.v (.int .u8 u.toNat)]
theorem byP(l:List UInt8):bytesP (str l)=byR l:=by simp[bytesP,byR,str]
theorem byApp(a b:List UInt8):byR a++byR b=byR (a++b):=by simp[byR]
theorem byLen(a:List UInt8):(byR a).length=a.length:=by simp[byR]
theorem bySeq:∀(a:List UInt8),seqO Sh.byteOf (byR a)=some a
 |[]=>rfl
 |u::a=>by
  have ih:=bySeq a;unfold byR at ih ⊢;simp only[List.map_cons,seqO,ih,Sh.byteOf];simp
theorem strMk(l:List UInt8):(⟨l.toArray⟩:ByteArray)=str l:=rfl
end Go.Proofs.YtcpaleaajdilgaaGreatDoor
end

section
namespace Go.Mor
def mag(n:Int):Nat:=if n<0 then(-1-n).toNat else n.toNat
def sgn(n:Int):Nat:=if n<0 then 1 else 0
def tailN:Nat→Nat→List UInt8
 |0,_=>[]
 |f+1,m=>if m=0 then [] else UInt8.ofNat (m%128)::tailN f (m / 128)
def groups(n:Int):List UInt8:=UInt8.ofNat (mag n%64*2+sgn n)::tailN 9 (mag n / 64)
def bump(l:List UInt8):List UInt8:=l.dropLast++(l.getLast?.map (·+128)).toList
def pack(l:List UInt8):List UInt8:=l.foldl (fun acc g=>bump acc++[g]) []
def num(n:Int):List UInt8:=pack (groups n)
theorem pack_snoc(l:List UInt8)(g:UInt8):pack (l++[g])=bump (pack l)++[g]:=by simp[pack]
theorem bump_length(l:List UInt8):(bump l).length=l.length:=by
 rcases List.eq_nil_or_concat l with rfl|⟨Q,b,rfl⟩
 ·rfl
 ·simp[bump]
theorem foldl_bump_length(l:List UInt8):∀acc:List UInt8,(l.foldl (fun acc g=>bump acc++[g]) acc).length=acc.length+l.length:=by
 induction l with
 |nil=>intro acc;simp
 |cons g l ih=>intro acc;rw[List.foldl_cons,ih];simp[bump_length];omega
theorem z148(l:List UInt8):(pack l).length=l.length:=by rw[pack,foldl_bump_length];simp
theorem tailN_zero(f:Nat):tailN f 0=[]:=by cases f<;>simp[tailN]
theorem tailN_length(f:Nat):∀m,(tailN f m).length≤f:=by
 induction f with
 |zero=>intro m;simp[tailN]
 |succ f ih=>intro m;simp only[tailN];split;simp;simp;exact ih _
theorem groups_length(n:Int):(groups n).length≤10:=by
 have:=tailN_length 9 (mag n / 64);simp[groups];omega
theorem z83(n:Int):(num n).length≤10:=by rw[num,z148];exact groups_length n
theorem num_pos(n:Int):0<(num n).length:=by rw[num,z148];simp[groups]
abbrev Ix:Type:=Fin 1125899906842624
def rdGo:Nat→Nat×Nat→List UInt8→Except Bool (Nat×Nat×Nat)
 |_,_,[]=> .error false
 |k,st,b::r=>
  if k≠0∧(b.toNat=0∨k=9∧1<b.toNat)then .error true else
  let g:=b.toNat%128
  let st':=if k=0 then(g / 2,g%2)else(st.1+g*2 ^ (7*k-1),st.2)
  if b.toNat<128 then .ok (st'.1,st'.2,k+1)else rdGo (k+1) st' r
def stepM(st:Nat×Nat)(x:Ix×UInt8):Nat×Nat:=
 if x.1.val=0 then(x.2.toNat%128 / 2,x.2.toNat%128%2)else(st.1+x.2.toNat%128*2 ^ (7*x.1.val-1),st.2)
def stM(pre:List (Ix×UInt8)):Nat×Nat:=pre.foldl stepM (0,0)
theorem stM_snoc(pre:List (Ix×UInt8))(x:Ix×UInt8):stM (pre++[x])=stepM (stM pre) x:=by simp[stM]
def pairs(s:List UInt8)(a:Nat):List (Ix×UInt8):=(s.drop a).zipIdx.map fun p=>(Fin.ofNat _ p.2,p.1)
theorem z141(s:List UInt8)(a:Nat):(pairs s a).length=s.length-a:=by simp[pairs]
theorem pairs_get(s:List UInt8)(a k:Nat)(h:a+k<s.length):(pairs s a)[k]?=some (Fin.ofNat _ k,s[a+k]):=by
 simp[pairs,List.getElem?_drop,gE h]
theorem pairs_take(s:List UInt8)(a k:Nat)(h:a+k<s.length):(pairs s a).take (k+1)=(pairs s a).take k++[(Fin.ofNat _ k,s[a+k])]:=by
 rw[List.take_add_one,pairs_get s a k h];rfl
def rd(s:List UInt8)(a:Int):Except Bool (Int×Nat):=
 if 0≤a∧a<s.length then
  match rdGo 0 (0,0) (s.drop a.toNat)with
  | .error e=> .error e
  | .ok (m,sg,z)=> .ok (if sg=1 then -1-(m:Int)else m,z)
 else .error false
def Begs(s:List UInt8)(a:Nat)(pre:List (Ix×UInt8)):Prop:=pre<+:pairs s a
theorem Begs.last{s:List UInt8}{a:Nat}{pre:List (Ix×UInt8)}{x:Ix×UInt8}(h:Begs s a (pre++[x]))(hs:s.length<1125899906842624):
  Begs s a pre∧x.1.val=pre.length∧∃hl:a+pre.length<s.length,x.2=s[a+pre.length]:=by
 have hg:Begs s a pre:=(List.prefix_append pre [x]).trans h;have hlen:=h.length_le;rw[z141]at hlen;simp at hlen;have hl:a+pre.length<s.length:=by omega
 have h1:(pre++[x])[pre.length]?=some x:=by simp
 have h2:=List.prefix_iff_getElem?.1 h pre.length (by simp);rw[pairs_get s a pre.length hl]at h2;simp at h2;subst h2;exact⟨hg,by simp[Fin.ofNat];omega,hl,rfl⟩
structure Mid(s:List UInt8)(a:Nat)(pre:List (Ix×UInt8))(m sg:Int):Prop where
 m:m=(stM pre).1
 sg:sg=(stM pre).2
 go:rdGo 0 (0,0) (s.drop a)=rdGo pre.length (stM pre) (s.drop (a+pre.length))
 lt:(stM pre).1<2 ^ (7*pre.length-1)
 le:pre.length≤9
theorem bump_nil:bump []=[]:=rfl
theorem add128(b:UInt8):((b+128).toNat:Int)=((b.toNat:Int)+128)%256:=by
 have h:(128:UInt8).toNat=128:=rfl;rw[UInt8.toNat_add,h];omega
theorem bump_snoc(Q:List UInt8)(b:UInt8):bump (Q++[b])=Q++[b+128]:=by
 simp[bump]
theorem snoc_of{α:Type}(l:List α)(h:l≠[]):∃Q b,l=Q++[b]:=⟨l.dropLast,l.getLast h,(List.dropLast_concat_getLast h).symm⟩
theorem first_neg(x:Int)(h:x<0):((UInt8.ofNat (mag x%64*2+sgn x)).toNat:Int)=(-1-x)%64*2+1:=by
 simp only[mag,sgn,if_pos h,UInt8.toNat_ofNat'];omega
theorem first_pos(x:Int)(h:¬x<0):((UInt8.ofNat (mag x%64*2+sgn x)).toNat:Int)=x%64*2:=by
 simp only[mag,sgn,if_neg h,UInt8.toNat_ofNat'];omega
theorem next_byte(m:Nat):((UInt8.ofNat (m%128)).toNat:Int)=(m:Int)%128:=by
 simp only[UInt8.toNat_ofNat'];omega
theorem mag_eq(x:Int):(mag x:Int)=if x<0 then -1-x else x:=by simp only[mag];split<;>omega
theorem mag_lt(x:Int)(h0: -9223372036854775808≤x)(h1:x≤9223372036854775807):mag x<9223372036854775808:=by
 have:=mag_eq x;split at this<;>omega
end Go.Mor
end

section
namespace Go.Mor
open Go
theorem z82{s:List UInt8}{i:Nat}(h:i<s.length):s.drop i=s[i]::s.drop (i+1):=List.drop_eq_getElem_cons h
theorem Mid.at{s:List UInt8}{a:Nat}{pre:List (Ix×UInt8)}{x:Ix×UInt8}{m sg:Int}(hs:s.length<1125899906842624)(hM:Begs s a pre→Mid s a pre m sg)(hg:Begs s a (pre++[x])):
  Mid s a pre m sg∧x.1.val=pre.length∧rdGo 0 (0,0) (s.drop a)=rdGo pre.length (stM pre) (x.2::s.drop (a+(pre++[x]).length)):=by
 obtain⟨hg',hx,hl,hb⟩:=hg.last hs;have hm:=hM hg';refine⟨hm,hx,?_⟩;rw[hm.go,z82 hl,hb];simp[Nat.add_assoc]
theorem Mid.err{s:List UInt8}{a:Nat}{pre:List (Ix×UInt8)}{x:Ix×UInt8}{m sg:Int}(hs:s.length<1125899906842624)(hM:Begs s a pre→Mid s a pre m sg)(hk:¬x.1.val=0)(hbad:x.2.toNat=0∨x.1.val=9∧1<x.2.toNat)
  (hg:Begs s a (pre++[x])):rdGo 0 (0,0) (s.drop a)=.error true:=by
 obtain⟨hm,hx,hr⟩:=Mid.at hs hM hg;rw[hr,rdGo,if_pos];rw[←hx];exact⟨hk,hbad⟩
theorem Mid.ok{s:List UInt8}{a:Nat}{pre:List (Ix×UInt8)}{x:Ix×UInt8}{m sg:Int}(hs:s.length<1125899906842624)(hM:Begs s a pre→Mid s a pre m sg)(hbad:¬(x.1.val≠0∧(x.2.toNat=0∨x.1.val=9∧1<x.2.toNat)))
  (hlo:x.2.toNat<128) (hg:Begs s a (pre++[x])):rdGo 0 (0,0) (s.drop a)=.ok ((stepM (stM pre) x).1,(stepM (stM pre) x).2,x.1.val+1):=by
 obtain⟨hm,hx,hr⟩:=Mid.at hs hM hg;rw[hr,rdGo,if_neg (by rw[←hx];exact hbad),←hx];simp only[hlo,if_true,stepM]
theorem step_lt{st:Nat×Nat}{x:Ix×UInt8}(h:st.1<2 ^ (7*x.1.val-1)):(stepM st x).1<2 ^ (7*(x.1.val+1) - 1):=by
 unfold stepM;by_cases h0:x.1.val=0
 ·rw[if_pos h0,h0];show x.2.toNat%128 / 2<64;omega
 ·rw[if_neg h0];show st.1+x.2.toNat%128*2 ^ (7*x.1.val-1)<_;have e:7*(x.1.val+1) - 1=7*x.1.val-1+7:=by omega
  rw[e,Nat.pow_add];have h1:x.2.toNat%128<128:=Nat.mod_lt _ (by omega);have h2:x.2.toNat%128*2 ^ (7*x.1.val-1)≤127*2 ^ (7*x.1.val-1):=Nat.mul_le_mul_right _ (by omega);omega
theorem Mid.cont{s:List UInt8}{a:Nat}{pre:List (Ix×UInt8)}{x:Ix×UInt8}{m sg:Int}(hs:s.length<1125899906842624)(hM:Begs s a pre→Mid s a pre m sg)(hbad:¬(x.1.val≠0∧(x.2.toNat=0∨x.1.val=9∧1<x.2.toNat)))
  (hlo:128≤x.2.toNat) (hg:Begs s a (pre++[x])):Mid s a (pre++[x]) ((stepM (stM pre) x).1:Nat) ((stepM (stM pre) x).2:Nat):=by
 obtain⟨hm,hx,hr⟩:=Mid.at hs hM hg;have hlen:(pre++[x]).length=x.1.val+1:=by simp[hx]
 refine⟨by rw[stM_snoc],by rw[stM_snoc],?_,?_,?_⟩
 ·rw[hr,rdGo,if_neg (by rw[←hx];exact hbad),stM_snoc,←hx];have h1:¬x.2.toNat<128:=by omega
  simp only[h1,if_false,hlen];rfl
 ·rw[stM_snoc,hlen];exact step_lt (by rw[hx];exact hm.lt)
 ·have:=hm.le;rw[hlen];by_cases h0:x.1.val=0
  ·omega
  ·have:¬x.1.val=9:=fun h9=>hbad ⟨h0,.inr ⟨h9,by omega⟩⟩;omega
theorem or_add(A g i:Nat)(h:A<2 ^ i):A|||g*2 ^ i=A+g*2 ^ i:=by
 have:=Nat.two_pow_add_eq_or_of_lt h g;rw[Nat.mul_comm g,Nat.or_comm,←this,Nat.add_comm]
theorem or_step{s:List UInt8}{a:Nat}{pre:List (Ix×UInt8)}{x:Ix×UInt8}{m sg G:Int}(hs:s.length<1125899906842624)(hM:Begs s a pre→Mid s a pre m sg)(hk:¬x.1.val=0)(hbad:¬(x.2.toNat=0∨x.1.val=9∧1<x.2.toNat))
  (hG:G=IntKind.u64.wrap ((x.2.toNat:Int)%128*2 ^ min (7*x.1.val-1) 64)) (hg:Begs s a (pre++[x])):
  bits .or .u64 m G=((stepM (stM pre) x).1:Nat)∧sg=((stepM (stM pre) x).2:Nat):=by
 obtain⟨hm,hx,_⟩:=Mid.at hs hM hg;have hle:=hm.le;have hlt:=hm.lt;rw[←hx]at hle hlt;have hmin:min (7*x.1.val-1) 64=7*x.1.val-1:=by omega
 have hpow:2 ^ (7*x.1.val-1)≤2 ^ 62:=Nat.pow_le_pow_right (by omega) (by omega);have hval:x.2.toNat%128*2 ^ (7*x.1.val-1)<18446744073709551616:=by
  by_cases h9:x.1.val=9
  ·have:x.2.toNat%128≤1:=by omega
   have:=Nat.mul_le_mul this hpow;omega
  ·have h8:2 ^ (7*x.1.val-1)≤2 ^ 55:=Nat.pow_le_pow_right (by omega) (by omega);have:x.2.toNat%128≤127:=by omega
   have:=Nat.mul_le_mul this h8;omega
 have hG':G=((x.2.toNat%128*2 ^ (7*x.1.val-1):Nat):Int):=by
  rw[hG,hmin];have e:(x.2.toNat:Int)%128*2 ^ (7*x.1.val-1)=((x.2.toNat%128*2 ^ (7*x.1.val-1):Nat):Int):=by simp
  rw[e,IntKind.wrap_u64];omega
 rw[hG',hm.m,u64_or_nat _ _ (by omega) hval,or_add _ _ _ hlt,hm.sg];simp only[stepM,if_neg hk,true_and]
theorem rdGo_bound:∀(l:List UInt8) (k:Nat) (st:Nat×Nat) {m sg z:Nat},k≤9→st.1<2 ^ (7*k-1)→(k=0∨st.2≤1)→rdGo k st l=.ok (m,sg,z)→
  m<9223372036854775808∧sg≤1∧k<z∧z≤10∧z≤k+l.length
 |[],k,st,m,sg,z,_,_,_,h=>by simp[rdGo]at h
 |b::r,k,st,m,sg,z,hk,hlt,hsg,h=>by
  rw[rdGo]at h;by_cases hbad:k≠0∧(b.toNat=0∨k=9∧1<b.toNat)
  ·rw[if_pos hbad]at h;cases h
  rw[if_neg hbad]at h;have hst:(if k=0 then(b.toNat%128 / 2,b.toNat%128%2)else(st.1+b.toNat%128*2 ^ (7*k-1),st.2)).1<2 ^ (7*(k+1) - 1)∧
    (if k=0 then(b.toNat%128 / 2,b.toNat%128%2)else(st.1+b.toNat%128*2 ^ (7*k-1),st.2)).2≤1∧
    (k=9→(if k=0 then(b.toNat%128 / 2,b.toNat%128%2)else(st.1+b.toNat%128*2 ^ (7*k-1),st.2)).1<9223372036854775808):=by
   by_cases h0:k=0
   ·subst h0;simp only[if_true];refine⟨?_,by omega,by omega⟩;show b.toNat%128 / 2<64;omega
   ·simp only[if_neg h0];have e:7*(k+1) - 1=7*k-1+7:=by omega
    rw[e,Nat.pow_add];have h2:b.toNat%128*2 ^ (7*k-1)≤127*2 ^ (7*k-1):=Nat.mul_le_mul_right _ (by omega);refine⟨by omega,by omega,fun h9=> ?_⟩;subst h9;have h3:b.toNat%128≤1:=by omega
    have h4:b.toNat%128*2 ^ (7*9-1)≤1*2 ^ (7*9-1):=Nat.mul_le_mul_right _ h3;omega
  obtain⟨h1,h2,h3⟩:=hst
  dsimp only at h
  generalize(if k=0 then(b.toNat%128 / 2,b.toNat%128%2)else(st.1+b.toNat%128*2 ^ (7*k-1),st.2))=q at*;by_cases hlo:b.toNat<128
  ·rw[if_pos hlo]at h;simp only[Except.ok.injEq,Prod.mk.injEq]at h;obtain⟨rfl,rfl,rfl⟩:=h;refine⟨?_,h2,by omega,by omega,by simp⟩;by_cases h9:k=9
   ·exact h3 h9
   ·have:2 ^ (7*(k+1) - 1)≤2 ^ 62:=Nat.pow_le_pow_right (by omega) (by omega);omega
  ·rw[if_neg hlo]at h;have hk9:¬k=9:=fun h9=>hbad ⟨by omega,.inr ⟨h9,by omega⟩⟩;have:=rdGo_bound r (k+1) q (by omega) h1 (.inr h2) h;simp only[List.length_cons];omega
end Go.Mor
end

section
namespace Go.Mor
def z31(s:List UInt8)(a:Int):Option (Int×Int):=
 match rd s a with
 | .ok (n,z)=>some (n,a+z)
 | .error _=>none
def rdW(s:List UInt8)(a:Int):Except Bool (List UInt8×Int):=
 match rd s a with
 | .error e=> .error e
 | .ok (n,z)=>if n<0∨10000<n then .error true else if s.length-(a+z)<n then .error false else .ok ((s.drop (a+z).toNat).take n.toNat,a+z+n)
def z25(s:List UInt8)(a:Int):Option (List UInt8×Int):=
 match rdW s a with
 | .ok (t,b)=>some (t,b)
 | .error _=>none
def numRes(r:Option (Int×Int)):Value:=match r with|some (n,b)=> .tuple #[.int .i64 n,.int .i64 b,.int .i64 0]|none=> .tuple #[.int .i64 0,.int .i64 0,.int .i64 10]
def readRes(r:Option (List UInt8×Int)):Value:=match r with|some (t,b)=> .tuple #[.string (str t),.int .i64 b,.int .i64 0]|none=> .tuple #[.string (str []),.int .i64 0,.int .i64 10]
def text(s:List UInt8):List UInt8:=num s.length++s
def textRes(s:List UInt8):Value:=if s.length≤10000 then .tuple #[.string (str (text s)),.int .i64 0] else .tuple #[.string (str []),.int .i64 10]
theorem rd_bound{s:List UInt8}{a:Int}{n:Int}{z:Nat}(h:rd s a=.ok (n,z)):0≤a∧a+z≤s.length∧ -9223372036854775808≤n∧n≤9223372036854775807∧0<z∧z≤10:=by
 unfold rd at h;split at h
 ·rename_i hin;split at h
  ·cases h
  ·rename_i m sg z' he;simp only[Except.ok.injEq,Prod.mk.injEq]at h;obtain⟨rfl,rfl⟩:=h;have:=rdGo_bound _ 0 (0,0) (by omega) (by decide) (.inl rfl) he;simp only[List.length_drop]at this;refine⟨by omega,by omega,?_,?_,by omega,by omega⟩<;>split<;>omega
 ·cases h
theorem readNum_bound{s:List UInt8}{a n b:Int}(h:z31 s a=some (n,b)):0≤a∧a<b∧b≤s.length∧ -9223372036854775808≤n∧n≤9223372036854775807:=by
 unfold z31 at h;split at h
 ·rename_i n' z he;simp only[Option.some.injEq,Prod.mk.injEq]at h;obtain⟨rfl,rfl⟩:=h;have:=rd_bound he;omega
 ·cases h
theorem readText_bound{s t:List UInt8}{a b:Int}(h:z25 s a=some (t,b)):0≤a∧a<b∧b≤s.length∧t.length≤10000:=by
 unfold z25 at h;split at h
 ·rename_i t' b' he;simp only[Option.some.injEq,Prod.mk.injEq]at h;obtain⟨rfl,rfl⟩:=h;unfold rdW at he;split at he
  ·cases he
  ·rename_i n z hr;have:=rd_bound hr;split at he
   ·cases he
   ·split at he
    ·cases he
    ·simp only[Except.ok.injEq,Prod.mk.injEq]at he;obtain⟨rfl,rfl⟩:=he;refine⟨by omega,by omega,by omega,?_⟩;rw[List.length_take];omega
 ·cases h
end Go.Mor
end

section
namespace Go.Mor
open Go Go.RowKit
structure Fld where
 n:List UInt8
 t:Ty
 ix:Bool
structure Cls where
 n:List UInt8
 fs:List Fld
def small(b:UInt8):Bool:=decide (97≤b.toNat∧b.toNat≤122)
def nameB(b:UInt8):Bool:=small b||decide (48≤b.toNat∧b.toNat≤57)||b.toNat==95
def z13(s:List UInt8):Bool:=decide (1≤s.length∧s.length≤20)&&small (s.headD 0)&&s.all nameB
def z26(f:Fld):Bool:=z13 f.n&&z19 f.t&&(!f.ix||decide (f.t.k≤3))
def fieldAt(c:List Fld)(name:List UInt8):Int:=z49 (fun f=>f.n==name) c
def onceGo(all:List Fld):Nat→List Fld→Bool
 |_,[]=>true
 |k,f::r=>z26 f&&fieldAt all f.n==k&&onceGo all (k+1) r
def z18(c:Cls):Bool:=z13 c.n&&decide (c.fs.length≤8)&&onceGo c.fs 0 c.fs
def eqFld(f g:Fld):Bool:=f.n==g.n&&f.t.k==g.t.k&&f.t.o==g.t.o&&f.ix==g.ix
def eqFlds:List Fld→List Fld→Bool
 |[],[]=>true
 |f::r,g::q=>eqFld f g&&eqFlds r q
 |_,_=>false
def z112(a b:Cls):Bool:=a.n==b.n&&eqFlds a.fs b.fs
def z95:Nat→List Fld→List V→Int×Int
 |_,[],_=>(0,0)
 |_,_,[]=>(0,0)
 |k,f::fs,v::vs=>if fitsV v f.t then z95 (k+1) fs vs else(k,42)
def check(c:Cls)(vs:List V):Int×Int:=
 if !z18 c then(0,40)else if vs.length≠c.fs.length then((min vs.length c.fs.length:Nat),42)else z95 0 c.fs vs
def IsF(ok:Nat→Prop)(w:World)(l:List Fld)(c:Value):Prop:=
 ∃(b off cap:Nat) (p:Option Addr),c=.slice p l.length cap∧l.length≤cap∧cap≤maxLen∧(l≠[]→p=some ⟨b,off,none⟩∧ok b)∧
  ∀(i:Nat) (f:Fld),l[i]?=some f→w.cell? ⟨b,off+i*4,none⟩=some (.string (str f.n))∧w.cell? ⟨b,off+i*4+1,none⟩=some (.int .i64 f.t.k)
   ∧w.cell? ⟨b,off+i*4+2,none⟩=some (.int .i64 f.t.o)∧w.cell? ⟨b,off+i*4+3,none⟩=some (.bool f.ix)
theorem IsF.keepBy{ok:Nat→Prop}{w w':World}{l:List Fld}{c:Value}(h:IsF ok w l c)(hk:∀a v,ok a.block→w.cell? a=some v→w'.cell? a=some v):IsF ok w' l c:=by
 obtain⟨b,off,cap,p,h1,h2,h3,h4,h5⟩:=h;refine⟨b,off,cap,p,h1,h2,h3,h4,fun i f hf=> ?_⟩;have hb:ok b:=(h4 (by rintro rfl;simp at hf)).2;obtain⟨q0,q1,q2,q3⟩:=h5 i f hf;exact⟨hk _ _ hb q0,hk _ _ hb q1,hk _ _ hb q2,hk _ _ hb q3⟩
theorem IsF.ext{ok:Nat→Prop}{w w':World}{l:List Fld}{c:Value}(h:IsF ok w l c)(hb:Below w.heap.size w w'):IsF ok w' l c:=
 h.keepBy fun _ _ _ hv=>(hb.cell (z55 hv)).trans hv
theorem IsF.keep{ok:Nat→Prop}{w w':World}{l:List Fld}{c:Value}(h:IsF ok w l c)(hk:∀b,ok b→w'.heap[b]?=w.heap[b]?):IsF ok w' l c:=
 h.keepBy fun a _ ho hv=>(World.cell?_of_block (w:=w) (hk a.block ho)).trans hv
end Go.Mor
end

section
namespace Go.Sh
open Go Go.RowKit
def boolW(t:Bool)(A B:Prop):Prop:=(t=true→A)∧(t=false→B)
def boolK(x:Option TV)(A B:Prop):Prop:=match x with
 |some (.pv (.v (.bool t)))=>boolW t A B
 |_=>False
def guardW(x:Option TV)(want:Bool)(gs:Nat)(A B:ES→Prop)(s:ES):Prop:=match x with
 |some (.pv (.v (.bool t)))=>boolW t ((if want then A else B) (s.put (some gs) (.pv (.v (.bool true))))) ((if want then B else A) (s.put (some gs) (.pv (.v (.bool false)))))
 |some (.pv (.v _))=>B s
 |_=>False
def guardK(t:Bool)(want:Bool)(gs:Nat)(A B:ES→Prop)(s:ES):Prop:=boolW t ((if want then A else B) (s.put (some gs) (.pv (.v (.bool true))))) ((if want then B else A) (s.put (some gs) (.pv (.v (.bool false)))))
section
variable{P:Program}{g:Glob}{a b c:SCode}{Q:SExit→ES→Prop}{K:ES→Prop}{s s':ES}{l:List SOper}{A B:Prop}{o:SOper}
@[congr] theorem boolW_congr {t t':Bool} (h:t=t'):boolW t A B=boolW t' A B:=by rw[h]
@[congr] theorem boolK_congr {t t':Option TV} (h:t=t'):boolK t A B=boolK t' A B:=by rw[h]
@[congr] theorem guardW_congr {t t':Option TV} {w:Bool} {gs:Nat} {A B:ES→Prop} (h:t=t'):guardW t w gs A B s=guardW t' w gs A B s:=by rw[h]
@[congr] theorem guardK_congr {t t':Bool} {w:Bool} {gs:Nat} {A B:ES→Prop} (h:t=t'):guardK t w gs A B s=guardK t' w gs A B s:=by rw[h]
@[congr] theorem swp_congr (h:s=s'):swp P g a Q s=swp P g a Q s':=by rw[h]
@[congr] theorem opsW_congr (h:s=s'):opsW P g l K s=opsW P g l K s':=by rw[h]
@[congr] theorem stepW_congr {e e':Option (TV×Upd)} (h:e=e'):stepW P o K s e=stepW P o K s e':=by rw[h]
@[congr] theorem thenW_congr {e:SExit} (h:s=s'):thenW K Q e s=thenW K Q e s':=by rw[h]
@[congr] theorem blockW_congr {e:SExit} {id:Nat} (h:s=s'):blockW id Q e s=blockW id Q e s':=by rw[h]
theorem bW_T:boolW true A B=A:=by simp[boolW]
theorem bW_F:boolW false A B=B:=by simp[boolW]
theorem bW_d{p:Prop}[Decidable p]:boolW (decide p) A B=((p→A)∧(¬p→B)):=by simp[boolW]
theorem bW_n{t:Bool}:boolW (!t) A B=boolW t B A:=by cases t<;>simp[boolW]
theorem bW_a{t u:Bool}:boolW (t&&u) A B=boolW t (boolW u A B) B:=by cases t<;>simp[boolW]
theorem bW_o{t u:Bool}:boolW (t||u) A B=boolW t A (boolW u A B):=by cases t<;>simp[boolW]
theorem bK{t:Bool}:boolK (some (.pv (.v (.bool t)))) A B=boolW t A B:=rfl
theorem gW{t w:Bool}{gs:Nat}{A B:ES→Prop}:guardW (some (.pv (.v (.bool t)))) w gs A B s=guardK t w gs A B s:=rfl
theorem gW_u{w:Bool}{gs:Nat}{A B:ES→Prop}:guardW (some (.pv (.v (.nilIface)))) w gs A B s=B s:=rfl
theorem gW_i{w:Bool}{k:IntKind}{n:Int}{gs:Nat}{A B:ES→Prop}:guardW (some (.pv (.v (.int k n)))) w gs A B s=B s:=rfl
def regK(Q:SExit→ES→Prop)(kill:List Nat)(s:ES):Prop:=Q .normal (s.kill kill)
def skipK(P:Program)(g:Glob)(l:List SOper)(K:ES→Prop)(dst:Option Nat)(s:ES):Prop:=opsW P g l K (s.put dst (.pv (.v undef)))
@[congr] theorem regK_congr {kill:List Nat} (h:s=s'):regK Q kill s=regK Q kill s':=by rw[h]
theorem v_regK{kill:List Nat}:regK Q kill s=Q .normal (s.kill kill):=rfl
theorem v_skipK{dst:Option Nat}:skipK P g l K dst s=opsW P g l K (s.put dst (.pv (.v undef))):=rfl
theorem sv_same{α:Type}{k:Nat}{x:α}:∀{l:List (Nat×α)},lk l k=some x→sv l k x=l
 |[],h=>by simp[lk]at h
 |(j,y)::l,h=>by
  simp only[lk]at h;simp only[sv];cases hj:Nat.beq j k with
  |true=>
   rw[hj]at h;simp only[Option.some.injEq]at h;rw[Nat.eq_of_beq_eq_true hj,h]
  |false=>rw[hj]at h;simp only[sv_same h]
theorem put_same{gs:Nat}{x:TV}(h:lk s.t gs=some x):s.put (some gs) x=s:=by
 show ES.mk _ _ _ _=_;rw[sv_same h]
theorem boolW_iff{t:Bool}:boolW t A B ↔ (if t then A else B):=by cases t<;>simp[boolW]
theorem v_skip:swp P g .skip Q s=Q .normal s:=rfl
theorem v_seq:swp P g (.seq a b) Q s=swp P g a (thenW (swp P g b Q) Q) s:=rfl
theorem v_exit{id:Nat}:swp P g (.exit id) Q s=Q (.exit id) s:=rfl
theorem v_ret:swp P g .ret Q s=Q .ret s:=rfl
theorem v_block{id:Nat}:swp P g (.block id a) Q s=swp P g a (blockW id Q) s:=rfl
theorem v_cond{x:Arg}:swp P g (.cond x a b) Q s=boolK (x.get s.fs) (swp P g a Q s) (swp P g b Q s):=by
 show condW x s _ _=_;apply propext;constructor
 ·rintro⟨t,h1,h2⟩;rw[h1,bK];exact boolW_iff.2 h2
 ·intro h;unfold boolK at h;split at h
  ·rename_i t ht;exact⟨t,ht,boolW_iff.1 h⟩
  ·exact h.elim
theorem v_reg{n kill:List Nat}:swp P g (.reg [(n,l)] kill) Q s=opsW P g l (regK Q kill) (s.fgt n):=by
 show regW P g _ _ _ _=_;simp[regW];rfl
theorem v_reg2{n kill:List Nat}{x:List Nat×List SOper}{r:List (List Nat×List SOper)}:swp P g (.reg ((n,l)::x::r) kill) Q s=(opsW P g l (regK Q kill) (s.fgt n)∨swp P g (.reg (x::r) kill) Q s):=by
 show regW P g _ _ _ _=(_∨regW P g _ _ _ _)
 simp[regW];rfl
theorem v_nil:opsW P g [] K s=K s:=rfl
theorem v_op{dst fp:Option Nat}{op:SOp}(h:op.isCall=false):opsW P g (⟨dst,none,fp,op⟩::l) K s=stepW P ⟨dst,none,fp,op⟩ (opsW P g l K) s (effG P noC ⟨dst,none,fp,op⟩ s.fs):=propext (opsW_nc h)
theorem v_guard{dst fp:Option Nat}{op:SOp}{gs:Nat}{want:Bool}:opsW P g (⟨dst,some (gs,want),fp,op⟩::l) K s=
  guardW (lk s.t gs) want gs (opsW P g (⟨dst,none,fp,op⟩::l) K) (skipK P g l K dst) s:=by
 have key:∀C,effG P C ⟨dst,some (gs,want),fp,op⟩ s.fs=match lk s.t gs with
  |some (.pv (.v (.bool b)))=>if b==want then effG P C ⟨dst,none,fp,op⟩ s.fs else some (.pv (.v undef),.no)
  |some (.pv (.v _))=>some (.pv (.v undef),.no)
  |_=>none:=fun C=>rfl
 have hA:(∃C,SoundC P g C∧∃e,some (TV.pv (.v undef),Upd.no)=some e∧opsW P g l K (s.after ⟨dst,some (gs,want),fp,op⟩ e))=opsW P g l K (s.put dst (.pv (.v undef))):=by
  apply propext;constructor
  ·rintro⟨C,hC,e,he,hk⟩;cases he;exact hk
  ·intro hk;exact⟨noC,noC_sound P g,_,rfl,hk⟩
 conv=>lhs;unfold opsW
 simp only[key];unfold guardW;cases hx:lk s.t gs with
 |none=>simp
 |some x=>
  cases x with
  |pv p=>
   cases p with
   |v v=>
    cases v with
    |bool t=>
     simp only[];cases t
     ·cases want
      ·simp only[bW_F,if_false,beq_self_eq_true,if_true,put_same hx,Bool.false_eq_true];rfl
      ·simp only[bW_F,if_true,put_same hx,bFT,if_false,Bool.false_eq_true];exact hA
     ·cases want
      ·simp only[bW_T,if_false,put_same hx,bTF,Bool.false_eq_true];exact hA
      ·simp only[bW_T,if_true,beq_self_eq_true,put_same hx];rfl
    |_=>exact hA
   |_=>simp
  |_=>simp
theorem gK_T1{gs:Nat}{A B:ES→Prop}:guardK true true gs A B s=A (s.put (some gs) (.pv (.v (.bool true)))):=by simp[guardK,bW_T]
theorem gK_T0{gs:Nat}{A B:ES→Prop}:guardK true false gs A B s=B (s.put (some gs) (.pv (.v (.bool true)))):=by simp[guardK,bW_T]
theorem gK_F1{gs:Nat}{A B:ES→Prop}:guardK false true gs A B s=B (s.put (some gs) (.pv (.v (.bool false)))):=by simp[guardK,bW_F]
theorem gK_F0{gs:Nat}{A B:ES→Prop}:guardK false false gs A B s=A (s.put (some gs) (.pv (.v (.bool false)))):=by simp[guardK,bW_F]
theorem gK_d1{p:Prop}[Decidable p]{gs:Nat}{A B:ES→Prop}:guardK (decide p) true gs A B s=((p→A (s.put (some gs) (.pv (.v (.bool true)))))∧(¬p→B (s.put (some gs) (.pv (.v (.bool false)))))):=by simp[guardK,bW_d]
theorem gK_d0{p:Prop}[Decidable p]{gs:Nat}{A B:ES→Prop}:guardK (decide p) false gs A B s=((p→B (s.put (some gs) (.pv (.v (.bool true)))))∧(¬p→A (s.put (some gs) (.pv (.v (.bool false)))))):=by simp[guardK,bW_d]
theorem gK_n1{t:Bool}{gs:Nat}{A B:ES→Prop}:guardK (!t) true gs A B s=boolW t (B (s.put (some gs) (.pv (.v (.bool false))))) (A (s.put (some gs) (.pv (.v (.bool true))))):=by simp[guardK,bW_n]
theorem gK_n0{t:Bool}{gs:Nat}{A B:ES→Prop}:guardK (!t) false gs A B s=boolW t (A (s.put (some gs) (.pv (.v (.bool false))))) (B (s.put (some gs) (.pv (.v (.bool true))))):=by simp[guardK,bW_n]
theorem v_then_n{K:ES→Prop}:thenW K Q .normal s=K s:=rfl
theorem v_then_r{K:ES→Prop}:thenW K Q .ret s=Q .ret s:=rfl
theorem v_then_x{K:ES→Prop}{id:Nat}:thenW K Q (.exit id) s=Q (.exit id) s:=rfl
theorem v_blk_n{id:Nat}:blockW id Q .normal s=Q .normal s:=rfl
theorem v_blk_r{id:Nat}:blockW id Q .ret s=Q .ret s:=rfl
theorem v_blk_x{id j:Nat}:blockW id Q (.exit j) s=boolW (Nat.beq j id) (Q .normal s) (Q (.exit j) s):=by
 simp only[blockW];by_cases h:j=id
 ·subst h;simp[Nat.beq_refl,bW_T]
 ·rw[if_neg h,z131 h,bW_F]
theorem s_some{e:TV×Upd}:stepW P o K s (some e)=K (s.after o e):=rfl
theorem s_none:stepW P o K s none=False:=rfl
theorem s_ite{c:Prop}[Decidable c]{x:Option (TV×Upd)}:stepW P o K s (if c then x else none)=(c∧stepW P o K s x):=by
 by_cases h:c<;>simp[h,stepW]
theorem s_get{α:Type}{l:List α}{k:Nat}{f:α→TV×Upd}:stepW P o K s (Option.map f l[k]?)=(k<l.length∧∀b,l[k]?=some b→K (s.after o (f b))):=by
 apply propext;rcases Nat.lt_or_ge k l.length with h|h
 ·rw[gE h];simp[stepW,h]
 ·rw[List.getElem?_eq_none h];simp[stepW,Nat.not_lt.2 h]
def loopK{σ:Type}(st:σ→ES)(μ:σ→Nat)(x:σ)(s:ES):Prop:=∃y,μ y<μ x∧(st y).Lw s
@[congr] theorem loopK_congr {σ:Type} {st:σ→ES} {μ:σ→Nat} {x:σ} (h:s=s'):loopK st μ x s=loopK st μ x s':=by rw[h]
theorem v_loop{σ:Type}(st:σ→ES)(μ:σ→Nat)(x0:σ)(h0:(st x0).Lw s)(hr:∀x,swp P g a (thenW (loopK st μ x) Q) (st x)):swp P g (.loop a) Q s:=by
 refine⟨fun n s=>∃x,μ x=n∧s=st x,μ x0,⟨st x0,h0,x0,rfl,rfl⟩,?_⟩;rintro n s ⟨x,rfl,rfl⟩;refine z48 (hr x) (fun e s he=> ?_);cases e with
 |normal=>obtain⟨y,h1,h2⟩:=he;exact⟨μ y,h1,st y,h2,y,rfl,rfl⟩
 |exit id=>exact he
 |ret=>exact he
 |pan z=>exact he
theorem z10{σ:Type}{st:σ→ES}{μ:σ→Nat}{x:σ}(y:σ)(h1:μ y<μ x)(h2:(st y).Lw s):loopK st μ x s:=⟨y,h1,h2⟩
theorem lw_of{s0 s:ES}(h1:leL s0.t s.t)(h2:leL s0.b s.b)(h3:leL s0.r s.r)(h4:leL s0.i s.i):s0.Lw s:=(le_of h1 h2 h3 h4).lw
theorem lw_eq{s0 s:ES}(h:s0=s):s0.Lw s:=h▸ .refl _
def callIn(s:ES)(m:Nat)(xs:List Arg):Option (List TV×List MO×List Nat):=match seqO (fun x:Arg=>x.get s.fs) xs with
 |some args=>match seqO (TV.ren2 (rhoIn (handI s.fs m args))) args,seqO (fun d=>(s.fs.mo d).bind (MO.ren (rhoIn (handI s.fs m args)))) (handI s.fs m args)with
  |some xs',some os=>some (xs',os,handI s.fs m args)
  |_,_=>none
 |none=>none
def callOut(s:ES)(dst:Option Nat)(I:List Nat)(y:TV)(os':List MO):Option ES:=match y.ren3 (rhoOut I (dstId dst)),outs (rhoOut I (dstId dst)) 0 os' with
 |some y',some us=>some ((s.upd dst (.mem us)).put dst y')
 |_,_=>none
def fpOk:Option Nat→List Nat→Bool
 |none,_=>true
 |some d,I=>isK (only I) d
theorem opsW_callF{dst fp:Option Nat}{f m:Nat}{xs:List Arg}{args:List TV}(ha:seqO (fun x:Arg=>x.get s.fs) xs=some args)(hfp:fpOk fp (handI s.fs m args)=true)(h:opsW P g (⟨dst,none,none,.call f m xs⟩::l) K s):opsW P g (⟨dst,none,fp,.call f m xs⟩::l) K s:=by
 obtain⟨C,hC,e,he,hk⟩:=h;refine⟨C,hC,e,?_,hk⟩;have h1:footOk ⟨dst,none,fp,.call f m xs⟩ s.fs=true:=by
  unfold footOk;cases fp with
  |none=>rfl
  |some d=>
   simp only[SOp.foot,ha];exact hfp
 simp only[effG,effF,h1];simpa only[effG,effF,footOk]using he
theorem v_call{dst fp:Option Nat}{f m:Nat}{xs:List Arg}{xs':List TV}{I:List Nat}{os os':List MO}{y:TV}(hx:callIn s m xs=some (xs',os,I))(hfp:fpOk fp I=true)(hc:SCalls P g f xs' os y os')(hmo:moOk os os'=true)(hs:callOut s dst I y os'=some s')(hk:opsW P g l K s'):
  opsW P g (⟨dst,none,fp,.call f m xs⟩::l) K s:=by
 unfold callIn at hx;split at hx
 ·rename_i args ha;split at hx
  ·rename_i a1 a2 h1 h2;cases hx;unfold callOut at hs;split at hs
   ·rename_i y' us h3 h4;cases hs;exact opsW_callF ha hfp (w_call ha rfl h1 h2 hc hmo h3 h4 rfl hk)
   ·cases hs
  ·cases hx
 ·cases hx
def callvIn(s:ES)(m:Nat)(x:Arg)(xs:List Arg):Option (Nat×List TV×List MO×List Nat):=match(x.get s.fs).bind TV.callee,seqO (fun x:Arg=>x.get s.fs) xs with
 |some (f,fa,fb),some vs=>match seqO (TV.ren2 (rhoIn (handI s.fs m (fa++vs++fb)))) (fa++vs++fb),seqO (fun d=>(s.fs.mo d).bind (MO.ren (rhoIn (handI s.fs m (fa++vs++fb))))) (handI s.fs m (fa++vs++fb))with
  |some xs',some os=>some (f,xs',os,handI s.fs m (fa++vs++fb))
  |_,_=>none
 |_,_=>none
theorem z22{dst:Option Nat}{f m:Nat}{x:Arg}{xs:List Arg}{xs':List TV}{I:List Nat}{os os':List MO}{y:TV}(hx:callvIn s m x xs=some (f,xs',os,I))(hc:SCalls P g f xs' os y os')(hmo:moOk os os'=true)(hs:callOut s dst I y os'=some s')(hk:opsW P g l K s'):
  opsW P g (⟨dst,none,none,.callv x m xs⟩::l) K s:=by
 unfold callvIn at hx;split at hx
 ·rename_i f' fa fb vs h0 h1;split at hx
  ·rename_i a1 a2 h3 h4;cases hx;unfold callOut at hs;split at hs
   ·rename_i y' us h5 h6;cases hs;refine opsW_callv ?_;rw[h0,h1];exact⟨_,rfl,xs',os,h3,h4,y,os',hc,hmo,y',us,h5,h6,hk⟩
   ·cases hs
  ·cases hx
 ·cases hx
end
end Go.Sh
namespace Go.Sh
open Go Go.RowKit
theorem nc_mov(x:Arg):(SOp.mov x).isCall=false:=rfl
theorem nc_pick(c a b:Arg):(SOp.pick c a b).isCall=false:=rfl
theorem nc_bin(op:BinOp)(t:TypeId)(x y:Arg):(SOp.bin op t x y).isCall=false:=rfl
theorem nc_un(op:UnOp)(x:Arg):(SOp.un op x).isCall=false:=rfl
theorem nc_cvi(k:IntKind)(x:Arg):(SOp.cvi k x).isCall=false:=rfl
theorem nc_cvs(x:Arg):(SOp.cvs x).isCall=false:=rfl
theorem nc_b2s(x:Arg):(SOp.b2s x).isCall=false:=rfl
theorem nc_imm(mx:Bool)(x y:Arg):(SOp.imm mx x y).isCall=false:=rfl
theorem nc_sidx(x i:Arg):(SOp.sidx x i).isCall=false:=rfl
theorem nc_ssub(x:Arg)(lo hi:Option Arg):(SOp.ssub x lo hi).isCall=false:=rfl
theorem nc_slen(x:Arg):(SOp.slen x).isCall=false:=rfl
theorem nc_new(z:List Value):(SOp.new z).isCall=false:=rfl
theorem nc_box(x:Arg):(SOp.box x).isCall=false:=rfl
theorem nc_build(z:List Value)(ps:List (Nat×Nat×Arg)):(SOp.build z ps).isCall=false:=rfl
theorem nc_bsl(W:Nat)(xs:List Arg):(SOp.bsl W xs).isCall=false:=rfl
theorem nc_bslO(e W:Nat)(xs:List Arg):(SOp.bslO e W xs).isCall=false:=rfl
theorem nc_fld(a:Bool)(o n:Nat)(x:Arg):(SOp.fld a o n x).isCall=false:=rfl
theorem nc_fldA(o:Nat)(x:Arg):(SOp.fldA o x).isCall=false:=rfl
theorem nc_ld(a:Bool)(n:Nat)(x:Arg):(SOp.ld a n x).isCall=false:=rfl
theorem nc_st(n:Nat)(x y:Arg):(SOp.st n x y).isCall=false:=rfl
theorem nc_len(x:Arg):(SOp.len x).isCall=false:=rfl
theorem nc_idxA(W:Nat)(x i:Arg):(SOp.idxA W x i).isCall=false:=rfl
theorem nc_sub(W:Nat)(x:Arg)(lo hi:Option Arg):(SOp.sub W x lo hi).isCall=false:=rfl
theorem nc_app(e W n:Nat)(x y:Arg):(SOp.app e W n x y).isCall=false:=rfl
theorem nc_appS(e n:Nat)(x y:Arg):(SOp.appS e n x y).isCall=false:=rfl
theorem nc_appN(e W n:Nat)(x y:Arg):(SOp.appN e W n x y).isCall=false:=rfl
theorem nc_appNS(e n:Nat)(x y:Arg):(SOp.appNS e n x y).isCall=false:=rfl
theorem nc_appB(e W n:Nat)(x y:Arg):(SOp.appB e W n x y).isCall=false:=rfl
theorem nc_ext(x:Arg)(i:Nat):(SOp.ext x i).isCall=false:=rfl
theorem nc_nchk(x:Arg):(SOp.nchk x).isCall=false:=rfl
theorem nc_mkf(f:Fn)(a b:List Arg):(SOp.mkf f a b).isCall=false:=rfl
theorem nc_rng(x:Arg):(SOp.rng x).isCall=false:=rfl
theorem nc_nxt(x:Arg):(SOp.nxt x).isCall=false:=rfl
theorem nc_mks(n:Nat)(z:List Value)(x:Arg):(SOp.mks n z x).isCall=false:=rfl
section
variable(P:Program)(t:TypeId)(k:IntKind)(a b:Int)(x y:ByteArray)
theorem bin_quoI:scal P (do eqGuard .quo t (.const (.int k a)) (.const (.int k b)) (.int k a) (.int k b);binOp .quo t (.int k a) (.int k b))=if b≠0 then some (.pv (.v (.int k (k.wrap (a.tdiv b)))),.no)else none:=by
 by_cases hb:b≠0
 ·rw[if_pos hb];exact bin_quo P t k a b hb
 ·have:b=0:=by omega
  subst this;rw[if_neg (by simp)];simp[scal,eqGuard,binOp,Op.intDiv];rfl
theorem bin_remI:scal P (do eqGuard .rem t (.const (.int k a)) (.const (.int k b)) (.int k a) (.int k b);binOp .rem t (.int k a) (.int k b))=if b≠0 then some (.pv (.v (.int k (a.tmod b))),.no)else none:=by
 by_cases hb:b≠0
 ·rw[if_pos hb];exact bin_rem P t k a b hb
 ·have:b=0:=by omega
  subst this;rw[if_neg (by simp)];simp[scal,eqGuard,binOp,Op.intDiv];rfl
theorem sbin_addI:scal P (do eqGuard .add t (.const (.string x)) (.const (.string y)) (.string x) (.string y);binOp .add t (.string x) (.string y))=if x.size+y.size≤9223372036854775807 then some (.pv (.v (.string (x++y))),.no)else none:=by
 by_cases hb:x.size+y.size≤9223372036854775807
 ·rw[if_pos hb];exact sbin_add P t x y hb
 ·rw[if_neg hb];have hm:IntKind.i64.max=9223372036854775807:=by rfl
  have h':(((x.size+y.size:Nat):Int)>IntKind.i64.max):=by rw[hm];omega
  simp only[scal,eqGuard,binOp,Op.stringOp,h',if_true];rfl
end
end Go.Sh
namespace Go.Sh
open Go Go.RowKit
def nilT:TV:=.pv (.v (.slice none 0 0))
def ES.adT(s:ES)(k d e W:Nat):ES:=⟨sv (s.fgt [d]).t k (.own d W []),(s.fgt [d]).b,sv (s.fgt [d]).r d (e,W,0),(s.fgt [d]).i⟩
def ES.adB(s:ES)(x:Nat)(cs:List TV)(j d e W:Nat):ES:=⟨(s.fgt [d]).t,sv (s.fgt [d]).b x (cs.set j (.own d W [])),sv (s.fgt [d]).r d (e,W,0),(s.fgt [d]).i⟩
theorem own_nil{w:World}{E:Env}{r:Rows}{d e W:Nat}{v:Value}(hr:r d=some (e,W,0))(hg:E.γ d=none)(h:RelT w E r nilT v):RelT w E r (.own d W []) v:=by
 have hv:v=.slice none 0 0:=val_rel h rfl;subst hv;refine .own d W [] _ ?_ (fun e' W' n hn=> ?_)
 ·exact .sl W [] 0 0 0 none (fun _ _=>undef) (by simp) (by simp) (by simp) (by simp) (by simp) (by simp)
 ·rw[hr]at hn;cases hn;exact⟨Nat.le_refl _,fun _=>⟨rfl,by rw[hg];rfl⟩⟩
section
variable{B:Base}{s:FS}{a:Act}{w:World}{E:Env}
theorem Sim.reT(h:Sim B s a w E){k:Nat}{x y:TV}(hk:s.t k=some x)(hy:∀v,RelT w E s.r x v→RelT w E s.r y v):Sim B (s.setT k y) a w E:=by
 refine⟨h.defers,h.size,fun j z hz=> ?_,h.mem,h.itr,h.ii⟩;rcases z29 hz with⟨rfl,rfl⟩|⟨hj,hz⟩
 ·exact⟨(h.tmp j x hk).1,hy _ (h.tmp j x hk).2⟩
 ·exact h.tmp j z hz
theorem Sim.reB(h:Sim B s a w E){k:Nat}{cs ds:List TV}(hk:s.b k=some cs)(hy:∀(j:Nat) d,ds[j]?=some d→∃c,cs[j]?=some c∧∀v,RelT w E s.r c v→RelT w E s.r d v):Sim B (s.setB k ds) a w E:=by
 refine⟨h.defers,h.size,h.tmp,⟨fun d ds' hd=> ?_,h.mem.row,fun d d' c c' h1 h2 h3=> ?_,fun d d' c q b cap h1 h2 h3=> ?_,h.mem.rr,h.mem.lt,h.mem.low,h.mem.keep,h.mem.knew,h.mem.pas⟩,h.itr,h.ii⟩
 ·rcases z29 hd with⟨rfl,rfl⟩|⟨_,hd⟩
  ·obtain⟨h1,h2⟩:=h.mem.box d cs hk;refine⟨⟨h1.lt,h1.obj,h1.fz,fun j c hc=> ?_,h1.out⟩,h2⟩;obtain⟨c0,hc0,hw⟩:=hy j c hc;obtain⟨v,q1,q2,q3⟩:=h1.cell j c0 hc0;exact⟨v,q1,q2,hw v q3⟩
  ·exact h.mem.box d ds' hd
 ·have e1:∃c,s.b d=some c:=(z29 h1).elim (fun h=>⟨cs,h.1▸hk⟩) (fun h=>⟨_,h.2⟩);have e2:∃c,s.b d'=some c:=(z29 h2).elim (fun h=>⟨cs,h.1▸hk⟩) (fun h=>⟨_,h.2⟩);obtain⟨c1,e1⟩:=e1;obtain⟨c2,e2⟩:=e2;exact h.mem.bb d d' c1 c2 e1 e2 h3
 ·have e1:∃c,s.b d=some c:=(z29 h1).elim (fun h=>⟨cs,h.1▸hk⟩) (fun h=>⟨_,h.2⟩);obtain⟨c1,e1⟩:=e1;exact h.mem.br d d' c1 q b cap e1 h2 h3
end
theorem adT_lw{s:ES}{k d e W:Nat}(hd:d<1000∨2000≤d)(hk:lk s.t k=some nilT):(s.adT k d e W).Lw s:=by
 intro B a w E hm hN hS;have h1:=z70 hS [d];have hf:Fresh (s.fgt [d]).fs d:=z47 s (by simp);obtain⟨E',e1,e2,e3,h2,h3⟩:=h1.adopt (d:=d) (fun ho=>by have:=ho.1;have:=ho.2;omega) hf e W;refine⟨E',?_⟩;have hk':(s.fgt [d]).fs.t k=some nilT:=by
  show lk ((s.fgt [d]).t) k=_;simp only[ES.fgt,lk_map,hk];rfl
 have:=h2.reT (k:=k) (x:=nilT) (y:=.own d W []) hk' (fun v hv=>own_nil (e:=e) (by simp[FS.setR,setF]) e3 hv);have he:(s.adT k d e W).fs=((s.fgt [d]).fs.setR d (e,W,0)).setT k (.own d W []):=by
  simp only[ES.adT,ES.fs,FS.setR,FS.setT,lk_sv]
 rw[he];exact this
theorem adB_lw{s:ES}{x j d e W:Nat}{cs:List TV}(hd:d<1000∨2000≤d)(hne:x≠d)(hk:lk s.b x=some cs)(hc:cs.map (fgt3 [d])=cs)(hj:cs[j]?=some nilT):(s.adB x cs j d e W).Lw s:=by
 intro B a w E hm hN hS;have h1:=z70 hS [d];have hf:Fresh (s.fgt [d]).fs d:=z47 s (by simp);obtain⟨E',e1,e2,e3,h2,h3⟩:=h1.adopt (d:=d) (fun ho=>by have:=ho.1;have:=ho.2;omega) hf e W;refine⟨E',?_⟩;have hk':(s.fgt [d]).fs.b x=some cs:=by
  rw[fgt_b];have:has [d] x=false:=by simp only[has];rw[z131 (fun h=>hne h.symm)]
  rw[this,hk];simp[hc]
 have:=h2.reB (k:=x) (cs:=cs) (ds:=cs.set j (.own d W [])) hk' (fun i c hi=>by
  by_cases hij:j=i
  ·subst hij;have hl:j<cs.length:=(gJ hj).1;rw[List.getElem?_set_self hl]at hi;cases hi;exact⟨nilT,hj,fun v hv=>own_nil (e:=e) (by simp[FS.setR,setF]) e3 hv⟩
  ·rw[List.getElem?_set_ne hij]at hi;exact⟨c,hi,fun v hv=>hv⟩)
 have he:(s.adB x cs j d e W).fs=((s.fgt [d]).fs.setR d (e,W,0)).setB x (cs.set j (.own d W [])):=by
  simp only[ES.adB,ES.fs,FS.setR,FS.setB,lk_sv]
 rw[he];exact this
end Go.Sh
namespace Go.Sh
open Go
theorem reach_nil{s:FS}{rows:Bool}{n:Nat}{seen:List Nat}:reach s rows n [] seen=seen:=by cases n<;>simp[reach]
def reachM(s:FS)(rows:Bool)(n d:Nat)(l seen:List Nat):Option Nat→Option (List TV)→Option (Nat×Nat×Nat)→List Nat
 |some _,_,_=>reach s rows n l seen
 |none,some cs,_=>reach s rows n (cs.flatMap TV.ids1++l) (seen++[d])
 |none,none,some _=>if rows then reach s rows n l (seen++[d])else reach s rows n l seen
 |none,none,none=>reach s rows n l seen
theorem reach_cons{s:FS}{rows:Bool}{n d:Nat}{l seen:List Nat}:reach s rows (n+1) (d::l) seen=reachM s rows n d l seen (pos seen d) (s.b d) (s.r d):=by
 simp only[reach];cases hp:pos seen d with
 |some j=>rfl
 |none=>
  cases hb:s.b d with
  |some cs=>rfl
  |none=>
   cases hr:s.r d with
   |none=>rfl
   |some q=>cases rows<;>rfl
theorem reach_m1{s:FS}{rows:Bool}{n d j:Nat}{l seen:List Nat}{b:Option (List TV)}{r:Option (Nat×Nat×Nat)}:reachM s rows n d l seen (some j) b r=reach s rows n l seen:=rfl
theorem reach_m2{s:FS}{rows:Bool}{n d:Nat}{l seen:List Nat}{cs:List TV}{r:Option (Nat×Nat×Nat)}:reachM s rows n d l seen none (some cs) r=reach s rows n (cs.flatMap TV.ids1++l) (seen++[d]):=rfl
theorem reach_m3{s:FS}{rows:Bool}{n d:Nat}{l seen:List Nat}{q:Nat×Nat×Nat}:reachM s rows n d l seen none none (some q)=if rows then reach s rows n l (seen++[d])else reach s rows n l seen:=rfl
theorem reach_m4{s:FS}{rows:Bool}{n d:Nat}{l seen:List Nat}:reachM s rows n d l seen none none none=reach s rows n l seen:=rfl
end Go.Sh
namespace Go.Sh
open Go
section
variable{P:Program}{C:Oracle}{d e W n:Nat}{x y:Arg}{s:FS}{z:List Value}
def appNK(d e W n:Nat):Option Bool→Option (List (List PV))→Option (TV×Upd)
 |some true,some es2=>if es2.length*n≤140737488355328∧es2.length≤maxLen then some (.own d W es2,.row d (e,W,es2.length))else none
 |_,_=>none
def appNSK(d e n:Nat):Option Bool→Option ByteArray→Option (TV×Upd)
 |some true,some b=>if b.size*n≤140737488355328∧b.size≤maxLen then some (.own d 1 (bytesP b),.row d (e,1,b.size))else none
 |_,_=>none
theorem e_appN:eff P C (some d) (.appN e W n x y) s=appNK d e W n ((x.get s).map TV.isNil) ((y.get s).bind (TV.elems W)):=by
 simp only[eff];generalize(x.get s).map TV.isNil=a;generalize(y.get s).bind (TV.elems W)=b;cases a with
 |none=>rfl
 |some a=>cases a<;>cases b<;>rfl
theorem e_appN1{es:List (List PV)}:appNK d e W n (some true) (some es)=if es.length*n≤140737488355328∧es.length≤maxLen then some (.own d W es,.row d (e,W,es.length))else none:=rfl
theorem e_appN2{o:Option (List (List PV))}:appNK d e W n (some false) o=none:=by cases o<;>rfl
def appBK(d W n:Nat):Option Bool→Option (List (List PV))→Option (TV×Upd)
 |some true,some es2=>if es2.length*n≤140737488355328∧es2.length≤maxLen then(if es2.isEmpty then some (.pv (.v (.slice none 0 0)),.no)else some (.bs d 0 es2.length es2.length,.box (es2.flatten.map .pv)))else none
 |_,_=>none
theorem e_appB:eff P C (some d) (.appB e W n x y) s=appBK d W n ((x.get s).map TV.isNil) ((y.get s).bind (TV.elems W)):=by
 simp only[eff];generalize(x.get s).map TV.isNil=a;generalize(y.get s).bind (TV.elems W)=b;cases a with
 |none=>rfl
 |some a=>cases a<;>cases b<;>rfl
theorem e_appB1{es:List (List PV)}:appBK d W n (some true) (some es)=if es.length*n≤140737488355328∧es.length≤maxLen then(if es.isEmpty then some (.pv (.v (.slice none 0 0)),.no)else some (.bs d 0 es.length es.length,.box (es.flatten.map .pv)))else none:=rfl
theorem e_appNS:eff P C (some d) (.appNS e n x y) s=appNSK d e n ((x.get s).map TV.isNil) ((y.get s).bind TV.str):=by
 simp only[eff];generalize(x.get s).map TV.isNil=a;generalize(y.get s).bind TV.str=b;cases a with
 |none=>rfl
 |some a=>cases a<;>cases b<;>rfl
theorem e_appNS1{b:ByteArray}:appNSK d e n (some true) (some b)=if b.size*n≤140737488355328∧b.size≤maxLen then some (.own d 1 (bytesP b),.row d (e,1,b.size))else none:=rfl
theorem e_appNS2{o:Option ByteArray}:appNSK d e n (some false) o=none:=by cases o<;>rfl
def bslK(d e W:Nat):Option (List (List PV))→Option (TV×Upd)
 |some es=>if es.all (fun e=>e.length==W)then some (.own d W es,.row d (e,W,es.length))else none
 |none=>none
theorem e_bslO{xs:List Arg}:eff P C (some d) (.bslO e W xs) s=bslK d e W (seqO (fun x:Arg=>(x.get s).bind TV.pvs) xs):=by
 simp only[eff];generalize seqO (fun x:Arg=>(x.get s).bind TV.pvs) xs=b;cases b<;>rfl
theorem e_bslO1{es:List (List PV)}:bslK d e W (some es)=if es.all (fun e=>e.length==W)then some (.own d W es,.row d (e,W,es.length))else none:=rfl
def rngK(d:Nat):Option ByteArray→Option (TV×Upd)
 |some z=>some (.it d,.it d (z,0))
 |none=>none
theorem e_rng:eff P C (some d) (.rng x) s=rngK d ((x.get s).bind TV.str):=by
 simp only[eff];generalize(x.get s).bind TV.str=b;cases b<;>rfl
theorem e_rng1{b:ByteArray}:rngK d (some b)=some (.it d,.it d (b,0)):=rfl
def mksK(d n:Nat)(z:List Value):Option TV→Option (TV×Upd)
 |some (.pv (.v (.int .i64 k)))=>if 0≤k∧n*k≤140737488355328∧k≤maxLen then some (.bs d 0 k.toNat k.toNat,.box ((List.replicate k.toNat (z.map fun v=>TV.pv (.v v))).flatten))else none
 |_=>none
theorem e_mks:eff P C (some d) (.mks n z x) s=mksK d n z (x.get s):=by
 simp only[eff];generalize x.get s=b;unfold mksK;split<;>split<;>simp_all
theorem e_mks1{k:Int}:mksK d n z (some (.pv (.v (.int .i64 k))))=if 0≤k∧n*k≤140737488355328∧k≤maxLen then some (.bs d 0 k.toNat k.toNat,.box ((List.replicate k.toNat (z.map fun v=>TV.pv (.v v))).flatten))else none:=rfl
end
end Go.Sh
namespace Go.Sh
open Go Go.RowKit
def PWk(c d:PV):Prop:=∀w K v,RelV w K c v→RelV w K d v
theorem PWk.refl(c:PV):PWk c c:=fun _ _ _ h=>h
theorem reB_lw{s:ES}{k:Nat}{cs ds:List TV}(hk:lk s.b k=some cs)(hl:cs.length=ds.length)(hw:∀(j:Nat) c d,cs[j]?=some c→ds[j]?=some d→Wk c d):(⟨s.t,sv s.b k ds,s.r,s.i⟩:ES).Lw s:=by
 intro B a w E _ _ hS;refine⟨E,?_⟩;have:=hS.reB (k:=k) (cs:=cs) (ds:=ds) hk (fun j d hd=>by
  have hj:j<cs.length:=by rw[hl];exact(gJ hd).1
  exact⟨_,gE hj,fun v hv=>hw j _ d (gE hj) hd _ _ _ _ hv⟩)
 have he:(⟨s.t,sv s.b k ds,s.r,s.i⟩:ES).fs=s.fs.setB k ds:=by simp only[ES.fs,FS.setB,lk_sv]
 rw[he];exact this
end Go.Sh
namespace Go.Sh
open Go Go.RowKit
end Go.Sh
namespace Go.Sh
open Go
section
variable{P:Program}{C:Oracle}{dst:Option Nat}{W l h:Nat}{x:Arg}{lo hi:Option Arg}{s:FS}{z:ByteArray}{es:List (List PV)}{c:Prop}[Decidable c]{o:Option Nat}
def ssubK(z:ByteArray):Option Nat→Option Nat→Option (TV×Upd)
 |some l,some h=>if l≤h∧h≤z.size then some (.pv (.v (.string (z.extract l h))),.no)else none
 |_,_=>none
def ssubM(s:FS)(lo hi:Option Arg):Option ByteArray→Option (TV×Upd)
 |some z=>ssubK z (bound s 0 lo) (bound s z.size hi)
 |none=>none
theorem e_ssub:eff P C dst (.ssub x lo hi) s=ssubM s lo hi ((x.get s).bind TV.str):=by
 simp only[eff];generalize(x.get s).bind TV.str=a;cases a with
 |none=>rfl
 |some z=>
  unfold ssubM ssubK;simp only[];generalize bound s 0 lo=u;generalize bound s z.size hi=v;cases u<;>cases v<;>rfl
theorem e_ssub1:ssubM s lo hi (some z)=ssubK z (bound s 0 lo) (bound s z.size hi):=rfl
theorem e_ssub2:ssubK z (some l) (some h)=if l≤h∧h≤z.size then some (.pv (.v (.string (z.extract l h))),.no)else none:=rfl
theorem e_ssub3:ssubK z (some l) (if c then some h else none)=if c then ssubK z (some l) (some h)else none:=by split<;>rfl
theorem e_ssub4:ssubK z (if c then some l else none) o=if c then ssubK z (some l) o else none:=by
 split
 ·rfl
 ·cases o<;>rfl
def subK(W:Nat)(es:List (List PV)):Option Nat→Option Nat→Option (TV×Upd)
 |some l,some h=>if l≤h∧h≤es.length then some (.pv (.sl W ((es.take h).drop l)),.no)else none
 |_,_=>none
def subM(s:FS)(W:Nat)(lo hi:Option Arg):Option (List (List PV))→Option (TV×Upd)
 |some es=>subK W es (bound s 0 lo) (bound s es.length hi)
 |none=>none
theorem e_sub1:subM s W lo hi (some es)=subK W es (bound s 0 lo) (bound s es.length hi):=rfl
theorem e_sub2:subK W es (some l) (some h)=if l≤h∧h≤es.length then some (.pv (.sl W ((es.take h).drop l)),.no)else none:=rfl
theorem e_sub3:subK W es (some l) (if c then some h else none)=if c then subK W es (some l) (some h)else none:=by split<;>rfl
theorem e_sub4:subK W es (if c then some l else none) o=if c then subK W es (some l) o else none:=by
 split
 ·rfl
 ·cases o<;>rfl
def subT(s:FS)(W:Nat)(lo hi:Option Arg):Option TV→Option (TV×Upd)
 |some (.bs d off n c)=>match bound s 0 lo,bound s n hi with
   |some l,some h=>if l≤h∧h≤n∧n≤c then some (if c=l then .pv (.sl W [])else .bs d (off+l*W) (h-l) (c-l),.no)else none
   |_,_=>none
 |some t=>subM s W lo hi (t.elems W)
 |none=>none
theorem e_sub:eff P C dst (.sub W x lo hi) s=subT s W lo hi (x.get s):=by
 simp only[eff];generalize x.get s=a;cases a with
 |none=>rfl
 |some t=>
  have key:∀q:Option (List (List PV)),(match q with
    |some es=>match bound s 0 lo,bound s es.length hi with
     |some l,some h=>if l≤h∧h≤es.length then some (TV.pv (.sl W ((es.take h).drop l)),Upd.no)else none
     |_,_=>none
    |none=>none)=subM s W lo hi q:=by
   intro q;cases q with
   |none=>rfl
   |some es=>
    unfold subM subK;generalize bound s 0 lo=u;generalize bound s es.length hi=v;cases u<;>cases v<;>rfl
  cases t with
  |bs d off n c=>rfl
  |pv p=>exact key ((TV.pv p).elems W)
  |own d W' es=>exact key ((TV.own d W' es).elems W)
  |_=>rfl
theorem e_subT1{p:PV}:subT s W lo hi (some (.pv p))=subM s W lo hi ((TV.pv p).elems W):=rfl
theorem e_subT2{d:Nat}{W':Nat}:subT s W lo hi (some (.own d W' es))=subM s W lo hi ((TV.own d W' es).elems W):=rfl
theorem e_subT3 {d off n c : Nat} : subT s W lo hi (some (.bs d off n c)) = (match bound s 0 lo, bound s n hi with
      |some l,some h=>if l≤h∧h≤n∧n≤c then some (if c=l then .pv (.sl W [])else .bs d (off+l*W) (h-l) (c-l),.no)else none
      |_,_=>none):=rfl
end
end Go.Sh
namespace Go.Sh
open Go
theorem gW_undef{w:Bool}{gs:Nat}{A B:ES→Prop}{s:ES}:guardW (some (.pv (.v undef))) w gs A B s=B s:=rfl
end Go.Sh
namespace Go.Sh
open Go
section
variable{P:Program}{C:Oracle}{dst:Option Nat}{x:Arg}{s:FS}{d p:Nat}{z:ByteArray}
def nxtM(d:Nat):Option (ByteArray×Nat)→Option (TV×Upd)
 |some (z,p)=>if p<z.size then some (.tuple [.pv (.v (.bool true)),.pv (.v (.int .i64 (p:Int))),.pv (.v (.int .i32 (Utf8.decode z p).1))],.it d (z,p+(Utf8.decode z p).2))else some (.tuple [.pv (.v (.bool false))],.no)
 |none=>none
def nxtK(s:FS):Option TV→Option (TV×Upd)
 |some (.it d)=>nxtM d (s.i d)
 |_=>none
theorem e_nxt:eff P C dst (.nxt x) s=nxtK s (x.get s):=by
 simp only[eff];generalize x.get s=a;cases a with
 |none=>rfl
 |some t=>
  cases t<;>rfl
theorem e_nxt1:nxtK s (some (.it d))=nxtM d (s.i d):=rfl
theorem e_nxt2:nxtM d (some (z,p))=if p<z.size then some (.tuple [.pv (.v (.bool true)),.pv (.v (.int .i64 (p:Int))),.pv (.v (.int .i32 (Utf8.decode z p).1))],.it d (z,p+(Utf8.decode z p).2))else some (.tuple [.pv (.v (.bool false))],.no):=rfl
end
theorem s_ite2{P:Program}{o:SOper}{K:ES→Prop}{s:ES}{c:Prop}[Decidable c]{a b:TV×Upd}:stepW P o K s (if c then some a else some b)=((c→K (s.after o a))∧(¬c→K (s.after o b))):=by
 by_cases h:c<;>simp[h,stepW]
end Go.Sh
namespace Go.Sh
open Go Go.RowKit
theorem nc_lkp(b:Bool)(z:Value)(x i:Arg):(SOp.lkp b z x i).isCall=false:=rfl
theorem nc_mkI(t:TypeId)(x:Arg):(SOp.mkI t x).isCall=false:=rfl
theorem nc_fnil(b:Bool)(x:Arg):(SOp.fnil b x).isCall=false:=rfl
section
variable{P:Program}{C:Oracle}{dst:Option Nat}{x:Arg}{s:FS}{ne:Bool}
def fnilK(ne:Bool)(x:Option TV):Option (TV×Upd):=(x.bind TV.fnil).map fun b=>(.pv (.v (.bool (b !=ne))),.no)
theorem e_fnil:eff P C dst (.fnil ne x) s=fnilK ne (x.get s):=rfl
theorem e_fnil1{f:Fn}{a b:List TV}:fnilK true (some (.fn f a b))=some (.pv (.v (.bool true)),.no):=rfl
theorem e_fnil2{f:Fn}{a b:List PV}:fnilK true (some (.pv (.fn f a b)))=some (.pv (.v (.bool true)),.no):=rfl
theorem e_fnil3:fnilK true (some (.pv (.v .nilFunc)))=some (.pv (.v (.bool false)),.no):=rfl
theorem e_fnil4{f:Fn}{a b:Array Value}:fnilK true (some (.pv (.v (.func f a b))))=some (.pv (.v (.bool true)),.no):=rfl
end
theorem nc_pan(x:Arg):(SOp.pan x).isCall=false:=rfl
section
variable{P:Program}{C:Oracle}{dst:Option Nat}{x i:Arg}{s:FS}{b:Bool}{z:Value}
def lkpJ(z:Value)(xs:List TV):Option (Option Nat)→Option (TV×Upd)
 |some (some j)=>(xs[j]?).map fun t=>(t,.no)
 |some none=>some (zeroT z,.no)
 |none=>none
def lkpK(b:Bool)(z:Value):Option TV→Option Value→Option (TV×Upd)
 |some (.mp ks xs),some k=>lkpJ z xs (findKs (kdOf b) k ks 0)
 |_,_=>none
theorem e_lkp:eff P C dst (.lkp b z x i) s=lkpK b z (x.get s) ((i.get s).bind TV.val1):=by
 simp only[eff];generalize x.get s=a;generalize(i.get s).bind TV.val1=c;cases a with
 |none=>rfl
 |some t=>
  cases t with
  |mp ks xs=>
   cases c with
   |none=>rfl
   |some k=>
    unfold lkpK lkpJ;simp only[];generalize findKs (kdOf b) k ks 0=q;cases q with
    |none=>rfl
    |some q=>cases q<;>rfl
  |_=>rfl
theorem e_lkp1{ks:List Value}{xs:List TV}{k:Value}:lkpK b z (some (.mp ks xs)) (some k)=lkpJ z xs (findKs (kdOf b) k ks 0):=rfl
theorem e_lkp2{xs:List TV}{j:Nat}:lkpJ z xs (some (some j))=(xs[j]?).map fun t=>(t,.no):=rfl
theorem e_lkp3{xs:List TV}:lkpJ z xs (some none)=some (zeroT z,.no):=rfl
end
section
variable{P:Program}{g:Glob}{Q:SExit→ES→Prop}{K:ES→Prop}{s s':ES}{l:List SOper}{D:List Nat}{R:Value→ES→Prop}
theorem v_then_p{z:Value}:thenW K Q (.pan z) s=Q (.pan z) s:=rfl
theorem v_blk_p{id:Nat}{z:Value}:blockW id Q (.pan z) s=Q (.pan z) s:=rfl
def panK(Q:SExit→ES→Prop)(z:Value)(s:ES):Prop:=Q (.pan z) s
@[congr] theorem panK_congr {z:Value} (h:s=s'):panK Q z s=panK Q z s':=by rw[h]
theorem v_panK{z:Value}:panK Q z s=Q (.pan z) s:=rfl
@[congr] theorem opsP_congr (h:s=s'):opsP P g D l R s=opsP P g D l R s':=by rw[h]
def stepP(P:Program)(g:Glob)(D:List Nat)(l:List SOper)(R:Value→ES→Prop)(o:SOper)(s:ES):Option (TV×Upd)→Prop
 |some e=>opsP P g D l R (s.after o e)
 |none=>False
@[congr] theorem stepP_congr {o:SOper} {e e':Option (TV×Upd)} (h:e=e'):stepP P g D l R o s e=stepP P g D l R o s e':=by rw[h]
theorem sp_some{o:SOper}{e:TV×Upd}:stepP P g D l R o s (some e)=opsP P g D l R (s.after o e):=rfl
theorem sp_get{α:Type}{o:SOper}{xs:List α}{k:Nat}{f:α→TV×Upd}:stepP P g D l R o s (Option.map f xs[k]?)=(k<xs.length∧∀b,xs[k]?=some b→opsP P g D l R (s.after o (f b))):=by
 apply propext;rcases Nat.lt_or_ge k xs.length with h|h
 ·rw[gE h];simp[stepP,h]
 ·rw[List.getElem?_eq_none h];simp[stepP,Nat.not_lt.2 h]
theorem sp_ite{o:SOper}{c:Prop}[Decidable c]{x:Option (TV×Upd)}:stepP P g D l R o s (if c then x else none)=(c∧stepP P g D l R o s x):=by
 by_cases h:c<;>simp[h,stepP]
theorem vq_n{n kill:List Nat}{r:List (List Nat×List SOper)}(h:opsW P g l (regK Q kill) (s.fgt n)):swp P g (.regq ((n,l)::r) kill) Q s:=.inl ⟨_,List.mem_cons_self ..,h⟩
theorem vq_p{n kill:List Nat}{r:List (List Nat×List SOper)}(h:opsP P g (dstOps l) l (panK Q) (s.fgt n)):swp P g (.regq ((n,l)::r) kill) Q s:=.inr ⟨_,List.mem_cons_self ..,h⟩
theorem vp_pan{dst fp:Option Nat}{x:Arg}{t:TypeId}{v:Value}(hx:x.get s.fs=some (.pv (.v (.iface t v))))(hk:R (.iface t v) (s.kill D)):opsP P g D (⟨dst,none,fp,.pan x⟩::l) R s:=
 .inl ⟨rfl,.iface t v,.no,⟨rfl,hx,⟨t,v,rfl⟩,rfl⟩,hk⟩
theorem z97{dst fp:Option Nat}{f m:Nat}{xs:List Arg}{xs':List TV}{I:List Nat}{os os':List MO}{z:Value}{us:List (Nat×MO)}(hm:Nat.beq m 3=true)(hx:callIn s m xs=some (xs',os,I))(hc:SPan P g f xs' os z os')(hmo:moOk os os'=true)(hs:outs (rhoOut I (dstId dst)) 0 os'=some us)(hk:R z ((s.upd dst (.mem us)).kill D)):
  opsP P g D (⟨dst,none,fp,.call f m xs⟩::l) R s:=by
 unfold callIn at hx;split at hx
 ·rename_i args ha;split at hx
  ·rename_i a1 a2 h1 h2;cases hx;exact .inl ⟨hm,z,.mem us,⟨rfl,args,ha,_,_,os',us,h1,h2,hc,hmo,hs,rfl⟩,hk⟩
  ·cases hx
 ·cases hx
theorem vp_ret{dst fp:Option Nat}{f m:Nat}{xs:List Arg}{xs':List TV}{I:List Nat}{os os':List MO}{y:TV}(hx:callIn s m xs=some (xs',os,I))(hfp:fpOk fp I=true)(hc:SCalls P g f xs' os y os')(hmo:moOk os os'=true)(hs:callOut s dst I y os'=some s')(hk:opsP P g D l R s'):
  opsP P g D (⟨dst,none,fp,.call f m xs⟩::l) R s:=by
 have h:opsW P g [⟨dst,none,fp,.call f m xs⟩] (opsP P g D l R) s:=v_call hx hfp hc hmo hs hk;obtain⟨C,hC,e,he,hk⟩:=h;exact .inr ⟨C,hC,e,he,hk⟩
end
def PostP(keep:Bool)(n:Nat)(z:Value)(os':List MO):SExit→ES→Prop
 | .pan z',s=>z'=z∧exitR [] keep n s=some (.tuple [],os')
 |_,_=>False
theorem pan_of{P:Program}{g:Glob}{f:Nat}{H:Nat→Option Nat→Nat}{Fp:Nat→List (Nat→Option Nat)}{K:Nat→List Nat}{keep:Bool}{F:SFunc}(hmix:P.follows .mixedOrders=true)(hF:z6 P f H Fp K keep=some F){xs:List TV}{os os':List MO}{z:Value}(hn:Nat.ble xs.length F.N=true)(hos:Nat.ble os.length 1000=true)(hmo:moOk os os'=true)
  (h:swp P g F.code (PostP keep os.length z os') (startE xs os)):SPan P g f xs os z os':=
 pan_of_swp hmix hF (Nat.le_of_ble_eq_true hn) (Nat.le_of_ble_eq_true hos) hmo (z48 h fun e s he=>by
  cases e with
  |pan z'=>exact⟨by rw[he.1],he.2⟩
  |_=>exact he.elim)
end Go.Sh
namespace Go.Sh
open Go Go.RowKit
theorem np_mov(x:Arg):mayPan (SOp.mov x)=false:=rfl
theorem np_pick(c a b:Arg):mayPan (SOp.pick c a b)=false:=rfl
theorem np_bin(op:BinOp)(t:TypeId)(x y:Arg):mayPan (SOp.bin op t x y)=false:=rfl
theorem np_un(op:UnOp)(x:Arg):mayPan (SOp.un op x)=false:=rfl
theorem np_cvi(k:IntKind)(x:Arg):mayPan (SOp.cvi k x)=false:=rfl
theorem np_cvs(x:Arg):mayPan (SOp.cvs x)=false:=rfl
theorem np_b2s(x:Arg):mayPan (SOp.b2s x)=false:=rfl
theorem np_imm(mx:Bool)(x y:Arg):mayPan (SOp.imm mx x y)=false:=rfl
theorem np_sidx(x i:Arg):mayPan (SOp.sidx x i)=false:=rfl
theorem np_ssub(x:Arg)(lo hi:Option Arg):mayPan (SOp.ssub x lo hi)=false:=rfl
theorem np_slen(x:Arg):mayPan (SOp.slen x)=false:=rfl
theorem np_new(z:List Value):mayPan (SOp.new z)=false:=rfl
theorem np_box(x:Arg):mayPan (SOp.box x)=false:=rfl
theorem np_build(z:List Value)(ps:List (Nat×Nat×Arg)):mayPan (SOp.build z ps)=false:=rfl
theorem np_bsl(W:Nat)(xs:List Arg):mayPan (SOp.bsl W xs)=false:=rfl
theorem np_bslO(e W:Nat)(xs:List Arg):mayPan (SOp.bslO e W xs)=false:=rfl
theorem np_fld(a:Bool)(o n:Nat)(x:Arg):mayPan (SOp.fld a o n x)=false:=rfl
theorem np_fldA(o:Nat)(x:Arg):mayPan (SOp.fldA o x)=false:=rfl
theorem np_ld(a:Bool)(n:Nat)(x:Arg):mayPan (SOp.ld a n x)=false:=rfl
theorem np_st(n:Nat)(x y:Arg):mayPan (SOp.st n x y)=false:=rfl
theorem np_len(x:Arg):mayPan (SOp.len x)=false:=rfl
theorem np_idxA(W:Nat)(x i:Arg):mayPan (SOp.idxA W x i)=false:=rfl
theorem np_sub(W:Nat)(x:Arg)(lo hi:Option Arg):mayPan (SOp.sub W x lo hi)=false:=rfl
theorem np_app(e W n:Nat)(x y:Arg):mayPan (SOp.app e W n x y)=false:=rfl
theorem np_appS(e n:Nat)(x y:Arg):mayPan (SOp.appS e n x y)=false:=rfl
theorem np_appN(e W n:Nat)(x y:Arg):mayPan (SOp.appN e W n x y)=false:=rfl
theorem np_appNS(e n:Nat)(x y:Arg):mayPan (SOp.appNS e n x y)=false:=rfl
theorem np_appB(e W n:Nat)(x y:Arg):mayPan (SOp.appB e W n x y)=false:=rfl
theorem np_ext(x:Arg)(i:Nat):mayPan (SOp.ext x i)=false:=rfl
theorem np_nchk(x:Arg):mayPan (SOp.nchk x)=false:=rfl
theorem np_mkf(f:Fn)(a b:List Arg):mayPan (SOp.mkf f a b)=false:=rfl
theorem np_rng(x:Arg):mayPan (SOp.rng x)=false:=rfl
theorem np_nxt(x:Arg):mayPan (SOp.nxt x)=false:=rfl
theorem np_mks(n:Nat)(z:List Value)(x:Arg):mayPan (SOp.mks n z x)=false:=rfl
theorem np_lkp(b:Bool)(z:Value)(x i:Arg):mayPan (SOp.lkp b z x i)=false:=rfl
theorem np_mkI(t:TypeId)(x:Arg):mayPan (SOp.mkI t x)=false:=rfl
theorem np_fnil(b:Bool)(x:Arg):mayPan (SOp.fnil b x)=false:=rfl
section
variable{P:Program}{g:Glob}{l:List SOper}{D:List Nat}{R:Value→ES→Prop}{s:ES}
theorem vp_opE{dst fp:Option Nat}{op:SOp}(h:op.isCall=false)(hm:mayPan op=false):opsP P g D (⟨dst,none,fp,op⟩::l) R s=stepP P g D l R ⟨dst,none,fp,op⟩ s (effG P noC ⟨dst,none,fp,op⟩ s.fs):=by
 apply propext;constructor
 ·rintro(⟨h1,_⟩|⟨C,hC,e,he,hk⟩)
  ·rw[hm]at h1;cases h1
  ·rw[effG_noC h]at he;rw[he];exact hk
 ·intro hk;cases he:effG P noC ⟨dst,none,fp,op⟩ s.fs with
  |none=>rw[he]at hk;exact hk.elim
  |some e=>rw[he]at hk;exact .inr ⟨noC,noC_sound P g,e,he,hk⟩
def panW(x:Option TV)(D:List Nat)(R:Value→ES→Prop)(s:ES):Prop:=match x with
 |some (.pv (.v (.iface t v)))=>R (.iface t v) (s.kill D)
 |_=>False
@[congr] theorem panW_congr {x x':Option TV} (h:x=x'):panW x D R s=panW x' D R s:=by rw[h]
theorem panW1{t:TypeId}{v:Value}:panW (some (.pv (.v (.iface t v)))) D R s=R (.iface t v) (s.kill D):=rfl
theorem vp_panE{dst fp:Option Nat}{x:Arg}:opsP P g D (⟨dst,none,fp,.pan x⟩::l) R s=panW (x.get s.fs) D R s:=by
 apply propext;constructor
 ·rintro(⟨_,z,u,⟨_,h2,⟨t,v,rfl⟩,rfl⟩,hk⟩|⟨C,hC,e,he,_⟩)
  ·rw[h2];exact hk
  ·simp only[effG,effF]at he;split at he
   ·cases he
   ·cases he
 ·intro h;unfold panW at h;split at h
  ·rename_i t v hx;exact vp_pan hx h
  ·exact h.elim
end
end Go.Sh
end

section
namespace Go.Sh
open Go Go.RowKit
set_option maxHeartbeats 2000000
def insAt(ops:Array Oper)(t m i:Nat):Option (Operand×Operand):=match ops[i]? with
 |some o=>match o.op,o.dst,o.guard with
  | .insert t' (.tmp m') k x,none,none=>if Nat.beq t t'&&Nat.beq m m' then some (k,x)else none
  |_,_,_=>none
 |none=>none
def insAll(ops:Array Oper)(t m:Nat):List Nat→Option (List (Operand×Operand))
 |[]=>some []
 |i::l=>match insAt ops t m i,insAll ops t m l with
  |some p,some r=>some (p::r)
  |_,_=>none
def freshK(kd:TypeDesc):List Value→List Value→Bool
 |_,[]=>true
 |ks,k::l=>(match findKs kd k ks 0 with|some none=>true|_=>false)&&freshK kd (ks++[k]) l
structure MapTurn(b:Nat)(w w':World):Prop where
 os:w'.os=w.os
 tape:w'.tape=w.tape
 output:w'.output=w.output
 size:w'.heap.size=w.heap.size
 block:∀k,k≠b→w'.heap[k]?=w.heap[k]?
theorem MapTurn.refl(b:Nat)(w:World):MapTurn b w w:=⟨rfl,rfl,rfl,rfl,fun _ _=>rfl⟩
theorem MapTurn.trans{b:Nat}{w w' w'':World}(h:MapTurn b w w')(h':MapTurn b w' w''):MapTurn b w w'':=
 ⟨h'.os.trans h.os,h'.tape.trans h.tape,h'.output.trans h.output,h'.size.trans h.size,fun k hk=>(h'.block k hk).trans (h.block k hk)⟩
section
variable{P:Program}{ops:Array Oper}{Q:Exit→Act→World→Prop}{a:Act}{w:World}{t kt et:TypeId}{text:Bool}{m b:Nat}
theorem run_ins{es:Array MapEntry}{clock:Nat}{k v:Value}(ht:P.underlying t=some (.map kt et))(hk:P.underlying kt=some (kdOf text))(hb:w.heap[b]?=some (.map es clock))(hf:findKs (kdOf text) k (es.toList.map MapEntry.key) 0=some none):
  ∃w',(Instr.mapUpdate t (.map (some b)) k v).run P w=.ok () w'∧MapTurn b w w'∧w'.heap[b]?=some (.map (es.push { key:=k,val:=v,born:=clock }) (clock+1)):=by
 have hget:=Go.MapKept.run_getObj_map (P:=P) hb;have h1:=findKs_none _ _ hf;have hset:=fun o=>Go.MapKept.run_setObj_map (P:=P) o hb;refine⟨{ w with heap:=w.heap.setIfInBounds b (.map (es.push { key:=k,val:=v,born:=clock }) (clock+1)) },by simp[Instr.mapUpdate,run_underlying ht,hget,checkKey_kd text _ _ hk,Instr.findKey,run_underlying hk,h1,hset,Result.andThen],⟨rfl,rfl,rfl,by simp,fun j hj=> ?_⟩,?_⟩
 ·simp[Array.getElem?_setIfInBounds,Ne.symm hj]
 ·have hlt:=(gA hb).1;simp[hlt]
theorem wp_insAll(ht:P.underlying t=some (.map kt et))(hk:P.underlying kt=some (kdOf text))(hm:a.eval (.tmp m)=.map (some b)):∀(l:List Nat) (kvs:List (Operand×Operand)) (rest:List Nat) (w:World) (es:Array MapEntry) (clock:Nat),insAll ops t m l=some kvs→w.heap[b]?=some (.map es clock)→freshK (kdOf text) (es.toList.map MapEntry.key) (kvs.map fun p=>a.eval p.1)=true→
  (∀(es':Array MapEntry) (clock':Nat) (w':World),MapTurn b w w'→w'.heap[b]?=some (.map es' clock')→es'.toList.map MapEntry.key=es.toList.map MapEntry.key++(kvs.map fun p=>a.eval p.1)→es'.toList.map MapEntry.val=es.toList.map MapEntry.val++(kvs.map fun p=>a.eval p.2)→wpOps P ops Q rest a w')→
  wpOps P ops Q (l++rest) a w
 |[],kvs,rest,w,es,clock,h,hb,hf,hK=>by
  simp only[insAll,Option.some.injEq]at h;subst h;exact hK es clock w (.refl b w) hb (by simp) (by simp)
 |i::l,kvs,rest,w,es,clock,h,hb,hf,hK=>by
  simp only[insAll]at h;split at h<;>try(cases h;done)
  rename_i p r hp hr;cases h;simp only[List.map_cons,freshK,Bool.and_eq_true]at hf;obtain⟨hf1,hf2⟩:=hf;have hf1:findKs (kdOf text) (a.eval p.1) (es.toList.map MapEntry.key) 0=some none:=by
   split at hf1
   ·rename_i h1;exact h1
   ·cases hf1
  unfold insAt at hp;split at hp<;>try(cases hp;done)
  rename_i o ho;split at hp<;>try(cases hp;done)
  rename_i t' m' k x hop hdst hg;split at hp<;>try(cases hp;done)
  rename_i htm;rw[Bool.and_eq_true]at htm;obtain rfl:=Nat.eq_of_beq_eq_true htm.1;obtain rfl:=Nat.eq_of_beq_eq_true htm.2;cases hp;obtain⟨w1,hrun,hturn,hb1⟩:=run_ins (P:=P) (v:=a.eval x) ht hk hb hf1;rw[List.cons_append,wpOps_cons];unfold wpOp;simp only[ho];rw[if_pos (by simp[Region.wanted,hg])];refine .inl ?_;unfold Oper.wp;have hex:(execOp a.eval o).run P w=.ok .skip w1:=by simp[execOp,hop,hm,hrun,Result.andThen]
  rw[hex];show wpOps P ops Q (l++rest) (a.put o.dst undef) w1;rw[hdst];refine wp_insAll ht hk hm l r rest w1 _ _ hr hb1 (by simpa using hf2) (fun es' clock' w' h1 h2 h3 h4=>hK es' clock' w' (hturn.trans h1) h2 (by rw[h3];simp) (by rw[h4];simp))
theorem z89{i:Nat}{o:Oper}{v:Value}{w':World}{K:Act→World→Prop}(ho:ops[i]?=some o)(hg:o.guard=none)(hr:(execOp a.eval o).run P w=.ok (.value v) w')(hk:K (a.put o.dst v) w'):wpOp P ops Q i K a w:=by
 unfold wpOp;simp only[ho];rw[if_pos (by simp[Region.wanted,hg])];refine .inl ?_;unfold Oper.wp;rw[hr];exact hk
end
end Go.Sh
end

section
namespace Go.Sh
abbrev oD(d:Nat)(x:SOp):SOper:=⟨some d,none,none,x⟩
abbrev oG(d g:Nat)(b:Bool)(x:SOp):SOper:=⟨some d,some (g,b),none,x⟩
abbrev oN(x:SOp):SOper:=⟨none,none,none,x⟩
abbrev vI(n:Int):Arg:=.val (.int .i64 n)
abbrev zV:List Value:=[.int .i64 0,.int .i64 0,.string ⟨#[]⟩,.slice none 0 0]
abbrev oM(d x:Nat):SOper:=⟨some d,none,none,.mov (.tmp x)⟩
abbrev oH(d g:Nat)(b:Bool)(x:Nat):SOper:=⟨some d,some (g,b),none,.mov (.tmp x)⟩
abbrev oP(d x y:Nat)(b:Bool):SOper:=⟨some d,none,none,.pick (.tmp x) (.tmp y) (.val (.bool b))⟩
abbrev oQ(d x y:Nat)(b:Bool):SOper:=⟨some d,none,none,.pick (.tmp x) (.val (.bool b)) (.tmp y)⟩
abbrev oL(d:Nat)(b:Bool)(n x:Nat):SOper:=⟨some d,none,none,.ld b n (.tmp x)⟩
def SCode.kl:SCode→List (List Nat)
  | .reg _ k=>[k]
  | .regq _ k=>[k]
  | .seq a b=>a.kl++b.kl
  | .cond _ a b=>a.kl++b.kl
  | .block _ a=>a.kl
  | .loop a=>a.kl
  |_=>[]
def klN:Nat→List (List Nat)→List (Nat×List Nat)
  |_,[]=>[]
  |n,k::r=>(n,k)::klN (n+1) r
end Go.Sh
namespace Go.Sh
abbrev kA(d o x:Nat):SOper:=⟨some d,none,none,.fldA o (.tmp x)⟩
abbrev kS(n x y:Nat):SOper:=⟨none,none,none,.st n (.tmp x) (.tmp y)⟩
abbrev kK(d:Nat)(o:BinOp)(t x:Nat)(n:Int):SOper:=⟨some d,none,none,.bin o t (.tmp x) (vI n)⟩
abbrev kB(d:Nat)(o:BinOp)(t x y:Nat):SOper:=⟨some d,none,none,.bin o t (.tmp x) (.tmp y)⟩
abbrev kT(d:Nat)(b:Bool):SOper:=⟨some d,none,none,.mov (.val (.bool b))⟩
abbrev kI(d:Nat)(n:Int):SOper:=⟨some d,none,none,.mov (vI n)⟩
abbrev kL(d g:Nat)(b a:Bool)(n x:Nat):SOper:=⟨some d,some (g,b),none,.ld a n (.tmp x)⟩
abbrev kF(d g:Nat)(b:Bool)(o x:Nat):SOper:=⟨some d,some (g,b),none,.fldA o (.tmp x)⟩
abbrev kG(d g:Nat)(b:Bool)(o:BinOp)(t x:Nat)(n:Int):SOper:=⟨some d,some (g,b),none,.bin o t (.tmp x) (vI n)⟩
abbrev kH(d g:Nat)(b:Bool)(o:BinOp)(t x y:Nat):SOper:=⟨some d,some (g,b),none,.bin o t (.tmp x) (.tmp y)⟩
abbrev kC(d f m x:Nat):SOper:=⟨some d,none,none,.call f m [.tmp x]⟩
abbrev kD(d f m x y:Nat):SOper:=⟨some d,none,none,.call f m [.tmp x,.tmp y]⟩
abbrev kE(d f m x y z:Nat):SOper:=⟨some d,none,none,.call f m [.tmp x,.tmp y,.tmp z]⟩
abbrev kX(d w x y:Nat):SOper:=⟨some d,none,none,.idxA w (.tmp x) (.tmp y)⟩
abbrev kY(d x i:Nat):SOper:=⟨some d,none,none,.ext (.tmp x) i⟩
abbrev kZ(d x:Nat):SOper:=⟨some d,none,none,.len (.tmp x)⟩
abbrev kO(d x:Nat):SOper:=⟨some d,none,none,.box (.tmp x)⟩
abbrev kN(d x:Nat):SOper:=⟨some d,none,none,.un .not (.tmp x)⟩
abbrev kQ(d x:Nat):SOper:=⟨some d,none,none,.nchk (.tmp x)⟩
abbrev kR(o:List SOper)(k:List Nat):SCode:=.reg [([],o)] k
abbrev kV(l:List Nat)(o:List SOper)(k:List Nat):SCode:=.reg [(l,o)] k
end Go.Sh
section
namespace Go.Sh
abbrev kU(n:Nat)(h:List (Nat×Nat))(f:List (Nat×List (List (Nat×Nat))))(F:SFunc):Prop:=z6 Go.Proofs.Tryz.prog n (hintT h) (fpT f) (killT (klN 0 F.code.kl)) false=some F
end Go.Sh
end
namespace Go.Sh.Cd1
open Go Go.Sh
set_option maxRecDepth 100000
abbrev c_122_0:=kV [1,2] [kO 1 0,oD 2 (.new zV)] [0]
abbrev c_122_1:=kV [2016,2017,2018,2019] [oL 3 true 2 1,kC 4 73 0 3,kN 5 4,oM 6 5,kF 7 6 false 0 1,kL 8 6 false false 1 7,kG 9 6 false .eql 3 8 3,oQ 10 6 9 true,oM 11 10,kF 12 11 false 0 1,kL 13 11 false false 1 12,kG 14 11 false .eql 3 13 4,oQ 15 11 14 true] [3,4,5,6,7,8,9,10,11,12,13,14]
abbrev c_122_2:=kR [oD 16 (.build zV []),kS 4 2 16] [1,15,16]
abbrev c_122_3:=kR [kA 17 0 1,oL 18 false 1 17,oD 19 (.build zV [(0,1,(.tmp 18))]),kS 4 2 19] [1,15,17,18,19]
abbrev F_122:SFunc:=⟨20,(.seq c_122_0 (.seq (.seq c_122_1 (.cond (.tmp 15) (.seq c_122_2 .ret) .skip)) (.seq c_122_3 .ret))),[.cell true 4 2],false⟩
theorem tf_122:kU 35 [(4,0)] [] F_122:=by unfold kU;kernel_rfl
abbrev c_121_0:=kV [1] [kO 1 0,kT 2 false] [0,2]
abbrev c_121_1:=kR [kA 3 0 1,oL 4 false 1 3] [3]
abbrev c_121_2:=kR [kK 6 .eql 3 4 0,oM 5 6] [6]
abbrev c_121_3:=kV [2032,2033,2034,2035] [oL 7 true 4 1,kC 8 88 0 7,oM 9 8,kF 10 9 true 1 1,kL 11 9 true false 1 10,kG 12 9 true .eql 3 11 0,oP 13 9 12 false,oM 2 13] [1,4,5,7,8,9,10,11,12,13]
abbrev c_121_4:=kR [kK 15 .eql 3 4 1,oM 14 15] [5,15]
abbrev c_121_5:=kV [2068,2069,2070,2071] [oL 16 true 4 1,kC 17 88 0 16,oM 18 17,kF 19 18 true 1 1,kL 20 18 true false 1 19,oG 21 18 true (.bin .geq 3 (.tmp 20) (.val (.int .i64 (-1000000000000000)))),oP 22 18 21 false,oM 23 22,kF 24 23 true 1 1,kL 25 23 true false 1 24,kG 26 23 true .leq 3 25 1000000000000000,oP 27 23 26 false,oM 2 27] [1,4,14,16,17,18,19,20,21,22,23,24,25,26,27]
abbrev c_121_6:=kR [kK 29 .eql 3 4 2,oM 28 29] [14,29]
abbrev c_121_7:=kV [2168,2169,2170,2171] [kA 30 1 1,oL 31 false 1 30,kK 32 .eql 3 31 0,oM 33 32,kF 34 33 true 3 1,kL 35 33 true false 1 34,oG 36 33 true (.len (.tmp 35)),kG 37 33 true .eql 3 36 0,oP 38 33 37 false,oM 39 38,kF 40 39 true 2 1,kL 41 39 true false 1 40,oG 42 39 true (.call 89 0 [.tmp 41]),oP 43 39 42 false,oM 2 43] [1,4,28,30,31,32,33,34,35,36,37,38,39,40,41,42,43]
abbrev c_121_8:=kR [kK 45 .eql 3 4 3,oM 44 45] [28,45]
abbrev c_121_9:=kR [kK 46 .eql 3 4 4,oM 44 46] [46]
abbrev c_121_10:=kV [2192,2193,2194,2195,2208,2209,2210,2211] [oL 47 true 4 1,kC 48 88 0 47,oM 49 48,kF 50 49 true 1 1,kL 51 49 true false 1 50,oG 52 49 true (.call 90 0 [.tmp 51]),oP 53 49 52 false,oM 2 53] [1,4,44,47,48,49,50,51,52,53]
abbrev c_121_11:=kR [kK 55 .eql 3 4 5,oM 54 55] [4,44,55]
abbrev c_121_12:=kV [2292,2293,2294,2295] [kA 56 1 1,oL 57 false 1 56,kK 58 .eql 3 57 0,oM 59 58,kF 60 59 true 2 1,kL 61 59 true false 1 60,oG 62 59 true (.bin .eql 9 (.tmp 61) (.val (.string ⟨#[]⟩))),oP 63 59 62 false,oM 64 63,kF 65 64 true 3 1,kL 66 64 true false 1 65,oG 67 64 true (.len (.tmp 66)),kG 68 64 true .leq 3 67 12,oP 69 64 68 false,oM 70 69,kF 71 70 true 3 1,kL 72 70 true false 1 71,oG 73 70 true (.call 91 1 [.tmp 72,(.val (.func (.func 92) #[] #[]))]),oG 74 70 true (.un .not (.tmp 73)),oP 75 70 74 false,oM 2 75] [1,54,56,57,58,59,60,61,62,63,64,65,66,67,68,69,70,71,72,73,74,75]
abbrev c_121_13:=kR [kT 2 false] [1,54]
abbrev F_121:SFunc:=⟨76,(.seq c_121_0 (.seq (.seq c_121_1 (.block 0 (.seq c_121_2 (.cond (.tmp 5) (.seq c_121_3 .ret) (.seq c_121_4 (.cond (.tmp 14) (.seq c_121_5 .ret) (.seq c_121_6 (.cond (.tmp 28) (.seq c_121_7 .ret) (.seq (.seq c_121_8 (.cond (.tmp 44) .skip c_121_9)) (.cond (.tmp 44) (.seq c_121_10 .ret) (.seq c_121_11 (.cond (.tmp 54) (.seq c_121_12 .ret) .skip)))))))))))) (.seq c_121_13 .ret))),[.tmp 2],false⟩
theorem tf_121:kU 48 [(8,0),(17,0),(42,0),(48,0),(52,0),(73,1)] [] F_121:=by unfold kU;kernel_rfl
abbrev c_118_0:=kV [2,3] [kO 2 0,kO 3 1,kI 4 0] [0,1,4]
abbrev c_118_1:=kV [2048,2049,2050,2051] [kA 8 0 2,oL 9 false 1 8,kA 10 0 3,oL 11 false 1 10,kD 12 106 0 9 11,oM 5 12] [8,9,10,11,12]
abbrev c_118_2:=kR [oM 13 5,kK 14 .neq 3 13 0] [13]
abbrev c_118_3:=kR [oM 15 5,oM 4 15] [2,3,5,14,15]
abbrev c_118_4:=kV [2080,2081,2082,2083] [kA 16 1 2,oL 17 false 1 16,kA 18 1 3,oL 19 false 1 18,kD 20 106 0 17 19,oM 6 20] [4,5,14,16,17,18,19,20]
abbrev c_118_5:=kR [oM 21 6,kK 22 .neq 3 21 0] [21]
abbrev c_118_6:=kR [oM 23 6,oM 4 23] [2,3,6,22,23]
abbrev c_118_7:=kV [2112,2113,2114,2115] [kA 24 2 2,oL 25 false 1 24,kA 26 2 3,oL 27 false 1 26,kD 28 107 0 25 27,oM 7 28] [4,6,22,24,25,26,27,28]
abbrev c_118_8:=kR [oM 29 7,kK 30 .neq 3 29 0] [29]
abbrev c_118_9:=kR [oM 31 7,oM 4 31] [2,3,7,30,31]
abbrev c_118_10:=kV [2144,2145,2146,2147] [kA 32 3 2,oL 33 false 1 32,kA 34 3 3,oL 35 false 1 34,oD 36 (.call 108 1 [.tmp 33,.tmp 35,(.val (.func (.func 55) #[] #[]))]),oM 4 36] [2,3,7,30,32,33,34,35,36]
abbrev F_118:SFunc:=⟨37,(.seq c_118_0 (.seq (.seq c_118_1 (.seq c_118_2 (.cond (.tmp 14) (.seq c_118_3 .ret) .skip))) (.seq (.seq c_118_4 (.seq c_118_5 (.cond (.tmp 22) (.seq c_118_6 .ret) .skip))) (.seq (.seq c_118_7 (.seq c_118_8 (.cond (.tmp 30) (.seq c_118_9 .ret) .skip))) (.seq c_118_10 .ret))))),[.tmp 4],false⟩
theorem tf_118:kU 55 [(12,0),(20,0),(28,0),(36,1)] [] F_118:=by unfold kU;kernel_rfl
abbrev c_119_0:=kV [2,3] [kO 2 0,kO 3 1,kT 4 false] [0,1,4]
abbrev c_119_1:=kV [2024,2025,2026,2027,2040,2041,2042,2043,2068,2069,2070,2071] [oL 5 true 4 2,kC 6 48 0 5,kN 7 6,oM 8 7,kL 9 8 false true 2 3,oG 10 8 false (.call 73 0 [.tmp 9]),oG 11 8 false (.un .not (.tmp 10)),oQ 12 8 11 true,oM 13 12,kL 14 13 false true 4 2,kF 15 13 false 0 3,kL 16 13 false false 1 15,oG 17 13 false (.call 109 0 [.tmp 14,.tmp 16]),oG 18 13 false (.un .not (.tmp 17)),oQ 19 13 18 true] [5,6,7,8,9,10,11,12,13,14,15,16,17,18]
abbrev c_119_2:=kR [kT 4 false] [2,3,19]
abbrev c_119_3:=kV [2092,2093,2094,2095] [kA 20 3 2,oL 21 false 1 20,oD 22 (.mkf (.func 110) [] [.tmp 3]),kD 23 91 1 21 22,kN 24 23,oM 4 24] [2,3,19,20,21,22,23,24]
abbrev F_119:SFunc:=⟨25,(.seq c_119_0 (.seq (.seq c_119_1 (.cond (.tmp 19) (.seq c_119_2 .ret) .skip)) (.seq c_119_3 .ret))),[.tmp 4],false⟩
theorem tf_119:kU 56 [(6,0),(10,0),(17,0),(23,1)] [] F_119:=by unfold kU;kernel_rfl
abbrev c_130_0:=kV [1] [kO 1 0,kT 2 false] [0,2]
abbrev c_130_1:=kR [kA 3 0 1,oL 4 false 1 3,kK 5 .eql 3 4 5] [3,4]
abbrev c_130_2:=kR [kA 6 1 1,oL 7 false 1 6,kK 8 .geq 3 7 1,oM 9 8,kF 10 9 true 1 1,kL 11 9 true false 1 10,kG 12 9 true .leq 3 11 4,oP 13 9 12 false,oM 2 13] [1,5,6,7,8,9,10,11,12,13]
abbrev c_130_3:=kR [kA 14 0 1,oL 15 false 1 14,kK 16 .geq 3 15 1,oM 17 16,kF 18 17 true 0 1,kL 19 17 true false 1 18,kG 20 17 true .leq 3 19 4,oP 21 17 20 false,oM 22 21,kF 23 22 true 1 1,kL 24 22 true false 1 23,kG 25 22 true .eql 3 24 0,oP 26 22 25 false,oM 2 26] [1,5,14,15,16,17,18,19,20,21,22,23,24,25,26]
abbrev F_130:SFunc:=⟨27,(.seq c_130_0 (.seq (.seq c_130_1 (.cond (.tmp 5) (.seq c_130_2 .ret) .skip)) (.seq c_130_3 .ret))),[.tmp 2],false⟩
theorem tf_130:kU 73 [] [] F_130:=by unfold kU;kernel_rfl
abbrev c_107_0:=kV [2,3] [kO 2 0,kO 3 1,kT 4 false] [0,1,4]
abbrev c_107_1:=kV [2028,2029,2030,2031] [oL 5 true 4 2,oL 6 true 4 3,kD 7 156 0 5 6,kK 8 .eql 3 7 0,oM 4 8] [2,3,5,6,7,8]
abbrev F_107:SFunc:=⟨9,(.seq c_107_0 (.seq c_107_1 .ret)),[.tmp 4],false⟩
theorem tf_107:kU 82 [(7,0)] [] F_107:=by unfold kU;kernel_rfl
abbrev c_123_0:=kV [1] [kO 1 0,kT 2 false] [0,2]
abbrev c_123_1:=kR [kA 3 2 1,oL 4 false 1 3,oD 5 (.bin .eql 9 (.tmp 4) (.val (.string ⟨#[]⟩))),oM 6 5,kF 7 6 true 3 1,kL 8 6 true false 1 7,oG 9 6 true (.len (.tmp 8)),kG 10 6 true .eql 3 9 0,oP 11 6 10 false,oM 2 11] [1,3,4,5,6,7,8,9,10,11]
abbrev F_123:SFunc:=⟨12,(.seq c_123_0 (.seq c_123_1 .ret)),[.tmp 2],false⟩
theorem tf_123:kU 88 [] [] F_123:=by unfold kU;kernel_rfl
abbrev c_129_0:=kR [kT 2 false] [2]
abbrev c_129_1:=kV [2040,2041,2042,2043] [oM 5 0,oD 6 (.slen (.tmp 5)),kK 7 .gtr 3 6 60,oM 8 7,oH 9 8 false 0,oG 10 8 false (.call 158 0 [.tmp 9]),oG 11 8 false (.un .not (.tmp 10)),oQ 12 8 11 true] [5,6,7,8,9,10,11]
abbrev c_129_2:=kR [kT 2 false] [0,12]
abbrev c_129_3:=kV [14] [oM 13 0,oD 14 (.rng (.tmp 13))] [0,2,12,13]
abbrev c_129_4:=kR [oD 15 (.nxt (.tmp 14)),kY 16 15 0] []
abbrev c_129_5:=kR [kY 17 15 2,oM 4 17] [15,16,17]
abbrev c_129_6:=kV [2076,2077,2078,2079] [oM 18 4,kC 19 159 0 18,kN 20 19] [4,18,19]
abbrev c_129_7:=kR [kT 2 false] [14,20]
abbrev c_129_8:SCode:=(.seq c_129_4 (.seq (.cond (.tmp 16) .skip (.exit 0)) (.block 1 (.seq c_129_5 (.seq c_129_6 (.cond (.tmp 20) (.seq c_129_7 .ret) .skip))))))
abbrev c_129_9:=kR [kT 2 true] [14]
abbrev F_129:SFunc:=⟨21,(.seq c_129_0 (.seq (.seq c_129_1 (.cond (.tmp 12) (.seq c_129_2 .ret) .skip)) (.seq (.seq c_129_3 (.block 0 (.loop c_129_8))) (.seq c_129_9 .ret)))),[.tmp 2],false⟩
theorem tf_129:kU 89 [(10,0),(19,0)] [] F_129:=by unfold kU;kernel_rfl
abbrev c_128_0:=kR [kT 2 false] [2]
abbrev c_128_1:=kR [oM 3 0,kK 4 .geq 3 3 1,oM 5 4,oH 6 5 true 0,kG 7 5 true .leq 3 6 100000,oP 8 5 7 false,oM 9 8,oH 10 9 false 0,oG 11 9 false (.bin .geq 3 (.tmp 10) (.val (.int .i64 (-20)))),oH 12 9 false 11,oH 13 12 true 0,oG 14 12 true (.bin .leq 3 (.tmp 13) (.val (.int .i64 (-1)))),oG 15 9 false (.pick (.tmp 12) (.tmp 14) (.val (.bool false))),oQ 16 9 15 true,oM 2 16] [0,3,4,5,6,7,8,9,10,11,12,13,14,15,16]
abbrev F_128:SFunc:=⟨17,(.seq c_128_0 (.seq c_128_1 .ret)),[.tmp 2],false⟩
theorem tf_128:kU 90 [] [] F_128:=by unfold kU;kernel_rfl
abbrev c_113_0:=kR [kT 4 false] [4]
abbrev c_113_1:=kV [2028,2029,2030,2031] [oM 5 0,oM 6 1,kD 7 160 1 5 6,kK 8 .geq 3 7 0,oM 4 8] [0,1,5,6,7,8]
abbrev F_113:SFunc:=⟨9,(.seq c_113_0 (.seq c_113_1 .ret)),[.tmp 4],false⟩
theorem tf_113:kU 91 [(7,1)] [] F_113:=by unfold kU;kernel_rfl
abbrev c_125_0:=kV [1] [kO 1 0,kT 2 false] [0,2]
abbrev c_125_1:=kV [2032,2033,2034,2035] [kA 3 0 1,oL 4 false 1 3,kK 5 .eql 3 4 5,oM 6 5,kL 7 6 false true 4 1,oG 8 6 false (.call 48 0 [.tmp 7]),oG 9 6 false (.un .not (.tmp 8)),oQ 10 6 9 true,oM 2 10] [1,3,4,5,6,7,8,9,10]
abbrev F_125:SFunc:=⟨11,(.seq c_125_0 (.seq c_125_1 .ret)),[.tmp 2],false⟩
theorem tf_125:kU 92 [(8,0)] [] F_125:=by unfold kU;kernel_rfl
abbrev c_55_0:=kR [kI 4 0] [4]
abbrev c_55_1:=kV [2032,2033,2034,2035] [oM 7 0,kC 8 168 0 7,oM 5 8] [7,8]
abbrev c_55_2:=kV [2040,2041,2042,2043] [oM 9 1,kC 10 168 0 9,oM 6 10] [9,10]
abbrev c_55_3:=kR [oM 11 5] [5]
abbrev c_55_4:=kR [oM 12 6] [0,1,6,11]
abbrev c_55_5:=kR [kI 4 0] [12]
abbrev c_55_6:=kR [oD 4 (.mov (.val (.int .i64 (-1))))] [12]
abbrev c_55_7:=kR [oM 13 6] [4,6,11]
abbrev c_55_8:=kR [kI 4 1] [0,1,13]
abbrev c_55_9:=kR [oM 14 0,oM 15 1,kB 16 .lss 3 14 15] [4,13,14,15]
abbrev c_55_10:=kR [oD 4 (.mov (.val (.int .i64 (-1))))] [0,1,16]
abbrev c_55_11:=kR [oM 17 0,oM 18 1,kB 19 .gtr 3 17 18] [0,1,4,16,17,18]
abbrev c_55_12:=kR [kI 4 1] [19]
abbrev c_55_13:=kR [kI 4 0] [19]
abbrev F_55:SFunc:=⟨20,(.seq c_55_0 (.seq c_55_1 (.seq c_55_2 (.seq (.seq c_55_3 (.cond (.tmp 11) (.seq (.seq c_55_4 (.cond (.tmp 12) (.seq c_55_5 .ret) .skip)) (.seq c_55_6 .ret)) .skip)) (.seq (.seq c_55_7 (.cond (.tmp 13) (.seq c_55_8 .ret) .skip)) (.seq (.seq c_55_9 (.cond (.tmp 16) (.seq c_55_10 .ret) .skip)) (.seq (.seq c_55_11 (.cond (.tmp 19) (.seq c_55_12 .ret) .skip)) (.seq c_55_13 .ret)))))))),[.tmp 4],false⟩
theorem tf_55:kU 106 [(8,0),(10,0)] [] F_55:=by unfold kU;kernel_rfl
abbrev c_56_0:=kR [kI 4 0] [4]
abbrev c_56_1:=kV [2032,2033,2034,2035] [oM 7 0,kC 8 169 0 7,oM 5 8] [7,8]
abbrev c_56_2:=kV [2040,2041,2042,2043] [oM 9 1,kC 10 169 0 9,oM 6 10] [9,10]
abbrev c_56_3:=kR [oM 11 5] [5]
abbrev c_56_4:=kR [oM 12 6] [0,1,6,11]
abbrev c_56_5:=kR [kI 4 0] [12]
abbrev c_56_6:=kR [oD 4 (.mov (.val (.int .i64 (-1))))] [12]
abbrev c_56_7:=kR [oM 13 6] [4,6,11]
abbrev c_56_8:=kR [kI 4 1] [0,1,13]
abbrev c_56_9:=kR [oM 14 0,oM 15 1,kB 16 .lss 9 14 15] [4,13,14,15]
abbrev c_56_10:=kR [oD 4 (.mov (.val (.int .i64 (-1))))] [0,1,16]
abbrev c_56_11:=kR [oM 17 0,oM 18 1,kB 19 .gtr 9 17 18] [0,1,4,16,17,18]
abbrev c_56_12:=kR [kI 4 1] [19]
abbrev c_56_13:=kR [kI 4 0] [19]
abbrev F_56:SFunc:=⟨20,(.seq c_56_0 (.seq c_56_1 (.seq c_56_2 (.seq (.seq c_56_3 (.cond (.tmp 11) (.seq (.seq c_56_4 (.cond (.tmp 12) (.seq c_56_5 .ret) .skip)) (.seq c_56_6 .ret)) .skip)) (.seq (.seq c_56_7 (.cond (.tmp 13) (.seq c_56_8 .ret) .skip)) (.seq (.seq c_56_9 (.cond (.tmp 16) (.seq c_56_10 .ret) .skip)) (.seq (.seq c_56_11 (.cond (.tmp 19) (.seq c_56_12 .ret) .skip)) (.seq c_56_13 .ret)))))))),[.tmp 4],false⟩
theorem tf_56:kU 107 [(8,0),(10,0)] [] F_56:=by unfold kU;kernel_rfl
abbrev c_124_0:=kR [kI 6 0] [6]
abbrev c_124_1:=kR [oM 9 0,kZ 10 9,oM 11 1,kZ 12 11,oD 13 (.imm false (.tmp 10) (.tmp 12)),kI 14 0] [9,10,11,12]
abbrev c_124_2:=kR [kB 15 .lss 3 14 13] []
abbrev c_124_3:=kR [oM 16 14,oM 7 16] [15,16]
abbrev c_124_4:=kV [2104,2105,2106,2107] [oM 17 2,oM 18 0,oM 19 7,kX 20 4 18 19,oL 21 true 4 20,oM 22 1,oM 23 7,kX 24 4 22 23,oL 25 true 4 24,oD 26 (.callv (.tmp 17) 1 [.tmp 21,.tmp 25]),oM 8 26] [7,17,18,19,20,21,22,23,24,25,26]
abbrev c_124_5:=kR [oM 27 8,kK 28 .neq 3 27 0] [27]
abbrev c_124_6:=kR [oM 29 8,oM 6 29] [0,1,2,8,13,14,28,29]
abbrev c_124_7:=kR [kK 30 .add 3 14 1,oM 14 30] [6,8,28,30]
abbrev c_124_8:SCode:=(.seq c_124_2 (.seq (.cond (.tmp 15) .skip (.exit 0)) (.seq (.block 1 (.seq c_124_3 (.seq c_124_4 (.seq c_124_5 (.cond (.tmp 28) (.seq c_124_6 .ret) .skip))))) c_124_7)))
abbrev c_124_9:=kV [2140,2141,2142,2143] [oM 31 0,kZ 32 31,oM 33 1,kZ 34 33,kD 35 106 0 32 34,oM 6 35] [0,1,2,13,14,31,32,33,34,35]
abbrev F_124:SFunc:=⟨36,(.seq c_124_0 (.seq (.seq c_124_1 (.block 0 (.loop c_124_8))) (.seq c_124_9 .ret))),[.tmp 6],false⟩
theorem tf_124:kU 108 [(26,1),(35,0)] [] F_124:=by unfold kU;kernel_rfl
abbrev c_126_0:=kV [2] [kO 2 0,kT 4 false] [0,4]
abbrev c_126_1:=kR [kA 5 0 2,oL 6 false 1 5,oM 7 1,kB 8 .eql 3 6 7,oM 9 8,kF 10 9 false 0 2,kL 11 9 false false 1 10,kG 12 9 false .eql 3 11 0,oH 13 9 false 12,oH 14 13 true 1,kG 15 13 true .eql 3 14 3,oH 16 13 true 15,oH 17 16 false 1,kG 18 16 false .eql 3 17 4,oG 19 13 true (.pick (.tmp 16) (.val (.bool true)) (.tmp 18)),oG 20 9 false (.pick (.tmp 13) (.tmp 19) (.val (.bool false))),oQ 21 9 20 true,oM 4 21] [1,2,5,6,7,8,9,10,11,12,13,14,15,16,17,18,19,20,21]
abbrev F_126:SFunc:=⟨22,(.seq c_126_0 (.seq c_126_1 .ret)),[.tmp 4],false⟩
theorem tf_126:kU 109 [] [] F_126:=by unfold kU;kernel_rfl
abbrev c_120_0:=kV [2] [kO 2 0,kT 3 false] [0,3]
abbrev c_120_1:=kV [2028,2029,2030,2031] [oL 4 true 4 2,kA 5 1 1,oL 6 false 1 5,kD 7 109 0 4 6,kN 8 7,oM 3 8] [1,2,4,5,6,7,8]
abbrev F_120:SFunc:=⟨9,(.seq c_120_0 (.seq c_120_1 .ret)),[.tmp 3],false⟩
theorem tf_120:kU 110 [(7,0)] [] F_120:=by unfold kU;kernel_rfl
abbrev c_105_0:=kV [2,3] [kO 2 0,kO 3 1,kI 4 0] [0,1,4]
abbrev c_105_1:=kV [2044,2045,2046,2047] [kA 7 0 2,oL 8 false 1 7,kA 9 0 3,oL 10 false 1 9,kD 11 219 0 8 10,oM 5 11] [7,8,9,10,11]
abbrev c_105_2:=kR [oM 12 5,kK 13 .eql 3 12 0] [12]
abbrev c_105_3:=kV [2072,2073,2074,2075] [kA 14 1 2,oL 15 false 1 14,kA 16 1 3,oL 17 false 1 16,kD 18 219 0 15 17,oM 5 18] [13,14,15,16,17,18]
abbrev c_105_4:=kR [oM 19 5,kK 20 .eql 3 19 0,oM 21 20,kF 22 21 true 2 2,kL 23 21 true false 1 22,kF 24 21 true 2 3,kL 25 21 true false 1 24,kH 26 21 true .lss 9 23 25,oP 27 21 26 false] [13,19,20,21,22,23,24,25,26]
abbrev c_105_5:=kR [oD 5 (.mov (.val (.int .i64 (-1))))] [27]
abbrev c_105_6:=kR [oM 28 5,kK 29 .eql 3 28 0,oM 30 29,kF 31 30 true 2 2,kL 32 30 true false 1 31,kF 33 30 true 2 3,kL 34 30 true false 1 33,kH 35 30 true .gtr 9 32 34,oP 36 30 35 false] [27,28,29,30,31,32,33,34,35]
abbrev c_105_7:=kR [kI 5 1] [36]
abbrev c_105_8:=kR [kI 6 0] [36]
abbrev c_105_9:=kR [oM 37 5,kK 38 .eql 3 37 0,oM 39 38,oH 40 39 true 6,kF 41 39 true 3 2,kL 42 39 true false 1 41,oG 43 39 true (.len (.tmp 42)),kH 44 39 true .lss 3 40 43,oP 45 39 44 false,oM 46 45,oH 47 46 true 6,kF 48 46 true 3 3,kL 49 46 true false 1 48,oG 50 46 true (.len (.tmp 49)),kH 51 46 true .lss 3 47 50,oP 52 46 51 false] [37,38,39,40,41,42,43,44,45,46,47,48,49,50,51]
abbrev c_105_10:=kV [2260,2261,2262,2263] [kA 55 3 2,oL 56 false 1 55,oM 57 6,kX 58 4 56 57,oL 59 true 4 58,kA 60 3 3,oL 61 false 1 60,oM 62 6,kX 63 4 61 62,oL 64 true 4 63,kD 65 156 0 59 64,oM 5 65] [52,55,56,57,58,59,60,61,62,63,64,65]
abbrev c_105_11:=kR [oM 53 6,kK 54 .add 3 53 1,oM 6 54] [53,54]
abbrev c_105_12:SCode:=(.seq (.seq c_105_9 (.cond (.tmp 52) .skip (.exit 0))) (.seq (.block 1 c_105_10) c_105_11))
abbrev c_105_13:=kR [oM 66 5,kK 67 .eql 3 66 0] [6,66]
abbrev c_105_14:=kV [2296,2297,2298,2299] [kA 68 3 2,oL 69 false 1 68,kZ 70 69,kA 71 3 3,oL 72 false 1 71,kZ 73 72,kD 74 219 0 70 73,oM 4 74] [2,3,5,67,68,69,70,71,72,73,74]
abbrev c_105_15:=kR [oM 75 5,oM 4 75] [2,3,5,67,75]
abbrev F_105:SFunc:=⟨76,(.seq c_105_0 (.seq c_105_1 (.seq (.seq c_105_2 (.cond (.tmp 13) c_105_3 .skip)) (.seq (.seq c_105_4 (.cond (.tmp 27) c_105_5 .skip)) (.seq (.seq c_105_6 (.cond (.tmp 36) c_105_7 .skip)) (.seq (.seq c_105_8 (.block 0 (.loop c_105_12))) (.seq (.seq c_105_13 (.cond (.tmp 67) (.seq c_105_14 .ret) .skip)) (.seq c_105_15 .ret)))))))),[.tmp 4],false⟩
theorem tf_105:z6 Go.Proofs.Tryz.prog 156 (hintT [(11,0),(18,0),(65,0),(74,0)]) (fpT []) (killT [(0,[0,1,4]),(1,[7,8,9,10,11]),(2,[12]),(3,[13,14,15,16,17,18]),(4,[13,19,20,21,22,23,24,25,26]),(5,[27]),(6,[27,28,29,30,31,32,33,34,35]),(7,[36]),(8,[36]),(9,[37,38,39,40,41,42,43,44,45,46,47,48,49,50,51]),(11,[52,55,56,57,58,59,60,61,62,63,64,65]),(10,[53,54]),(12,[6,66]),(13,[2,3,5,67,68,69,70,71,72,73,74]),(14,[2,3,5,67,75])]) false=some F_105:=by kernel_rfl
abbrev c_127_0:=kR [kT 2 false] [2]
abbrev c_127_1:=kR [oM 3 0,oD 4 (.bin .geq 21 (.tmp 3) (.val (.int .i32 32))),oM 5 4,oH 6 5 true 0,oG 7 5 true (.bin .neq 21 (.tmp 6) (.val (.int .i32 127))),oP 8 5 7 false,oM 2 8] [0,3,4,5,6,7,8]
abbrev F_127:SFunc:=⟨9,(.seq c_127_0 (.seq c_127_1 .ret)),[.tmp 2],false⟩
theorem tf_127:kU 159 [] [] F_127:=by unfold kU;kernel_rfl
abbrev c_116_0:=kR [kI 4 0] [4]
abbrev c_116_1:=kR [oM 6 0,kZ 7 6,kI 8 0] [6]
abbrev c_116_2:=kR [kB 9 .lss 3 8 7] []
abbrev c_116_3:=kR [oM 10 8,oM 5 10] [9,10]
abbrev c_116_4:=kV [2064,2065,2066,2067] [oM 11 1,oM 12 0,oM 13 5,kX 14 4 12 13,oL 15 true 4 14,oD 16 (.callv (.tmp 11) 1 [.tmp 15])] [11,12,13,14,15]
abbrev c_116_5:=kR [oM 17 5,oM 4 17] [0,1,5,7,8,16,17]
abbrev c_116_6:=kR [kK 18 .add 3 8 1,oM 8 18] [4,5,16,18]
abbrev c_116_7:SCode:=(.seq c_116_2 (.seq (.cond (.tmp 9) .skip (.exit 0)) (.seq (.block 1 (.seq c_116_3 (.seq c_116_4 (.cond (.tmp 16) (.seq c_116_5 .ret) .skip)))) c_116_6)))
abbrev c_116_8:=kR [oD 4 (.mov (.val (.int .i64 (-1))))] [0,1,7,8]
abbrev F_116:SFunc:=⟨19,(.seq c_116_0 (.seq (.seq c_116_1 (.block 0 (.loop c_116_7))) (.seq c_116_8 .ret))),[.tmp 4],false⟩
theorem tf_116:kU 160 [(16,1)] [] F_116:=by unfold kU;kernel_rfl
abbrev c_57_0:=kR [kT 2 false] [2]
abbrev c_57_1:=kR [oM 3 0,oM 4 0,kB 5 .neq 3 3 4,oM 2 5] [0,3,4,5]
abbrev F_57:SFunc:=⟨6,(.seq c_57_0 (.seq c_57_1 .ret)),[.tmp 2],false⟩
theorem tf_57:kU 168 [] [] F_57:=by unfold kU;kernel_rfl
abbrev c_58_0:=kR [kT 2 false] [2]
abbrev c_58_1:=kR [oM 3 0,oM 4 0,kB 5 .neq 9 3 4,oM 2 5] [0,3,4,5]
abbrev F_58:SFunc:=⟨6,(.seq c_58_0 (.seq c_58_1 .ret)),[.tmp 2],false⟩
theorem tf_58:kU 169 [] [] F_58:=by unfold kU;kernel_rfl
abbrev c_106_0:=kR [kI 4 0] [4]
abbrev c_106_1:=kR [oM 5 0,oM 6 1,kB 7 .lss 3 5 6] [5,6]
abbrev c_106_2:=kR [oD 4 (.mov (.val (.int .i64 (-1))))] [0,1,7]
abbrev c_106_3:=kR [oM 8 0,oM 9 1,kB 10 .gtr 3 8 9] [0,1,4,7,8,9]
abbrev c_106_4:=kR [kI 4 1] [10]
abbrev c_106_5:=kR [kI 4 0] [10]
abbrev F_106:SFunc:=⟨11,(.seq c_106_0 (.seq (.seq c_106_1 (.cond (.tmp 7) (.seq c_106_2 .ret) .skip)) (.seq (.seq c_106_3 (.cond (.tmp 10) (.seq c_106_4 .ret) .skip)) (.seq c_106_5 .ret)))),[.tmp 4],false⟩
theorem tf_106:kU 219 [] [] F_106:=by unfold kU;kernel_rfl
def funcs:Nat→Option SFunc
 |_=>none
end Go.Sh.Cd1
end

section
namespace Go.Sh
open Go Go.RowKit Go.Mor
set_option maxRecDepth 100000
theorem vcA:type_of%(wa8 (wa8 (wa8 @bFT @bTF @ES.fgt.eq_1 @List.map_cons.{0,0} @List.map_nil.{0,0} @fgt3.eq_1 @TV.m3.eq_1 @TV.m3.eq_2) (wa8 @TV.m2.eq_1 @TV.m2.eq_2 @TV.m1.eq_1 @TV.m1.eq_2 @TV.m0.eq_1 @TV.m0.eq_2 @TV.m0.eq_3 @TV.m0.eq_4) (wa8 @TV.m0.eq_5 @TV.m0.eq_6 @TV.m0.eq_7 @TV.mF.eq_1 @TV.mF.eq_2 @TV.mE.eq_1 @TV.mE.eq_2 @TV.idsF.eq_1) (wa8 @TV.idsF.eq_2 @TV.idsE.eq_1 @TV.idsE.eq_2 @TV.renF.eq_1 @TV.renF.eq_2 @TV.renE.eq_1 @TV.renE.eq_2 @List.any_cons.{0}) (wa8 @List.any_nil.{0} @Bool.or_false @Bool.false_or @drp.eq_1 @drp.eq_2 @effG.eq_1 @effF.eq_1 @footOk.eq_1) (wa8 @SOp.foot.eq_1 @SOp.foot.eq_2 @SOp.foot.eq_3 @SOp.foot.eq_4 @only.eq_1 @only.eq_2 @isK.eq_1 @isK.eq_2) (wa8 @eff.eq_1 @eff.eq_2 @eff.eq_3 @eff.eq_4 @eff.eq_5 @eff.eq_6 @eff.eq_7 @eff.eq_8) (wa8 @eff.eq_9 @eff.eq_11 @eff.eq_12 @eff.eq_13 @eff.eq_14 @eff.eq_15 @eff.eq_16 @eff.eq_17)) (wa8 (wa8 @eff.eq_18 @eff.eq_19 @eff.eq_20 @eff.eq_21 @eff.eq_22 @eff.eq_23 @eff.eq_25 @eff.eq_28) (wa8 @eff.eq_31 @eff.eq_32 @eff.eq_33 @eff.eq_34 @eff.eq_35 @eff.eq_44 @eff.eq_45 @Arg.get.eq_1) (wa8 @Arg.get.eq_2 @ES.fs.eq_1 @lk.eq_1 @lk.eq_2 @Option.map_some.{0,0} @Option.bind_some.{0,0} @ES.after.eq_1 @ES.upd.eq_1) (wa8 @ES.upd.eq_2 @ES.upd.eq_3 @ES.upd.eq_4 @ES.upd.eq_5 @ES.upd.eq_6 @ES.upd.eq_7 @ES.put.eq_1 @ES.put.eq_2) (wa8 @sv.eq_1 @sv.eq_2 @ES.kill.eq_1 @ES.kill.eq_2 @has.eq_1 @has.eq_2 @nbeq @nble) (wa8 @nblt @TV.val.eq_1 @TV.val.eq_2 @TV.val1.eq_1 @TV.val1.eq_2 @TV.int.eq_1 @TV.int.eq_2 @TV.str.eq_1) (wa8 @TV.str.eq_2 @TV.cells.eq_1 @TV.cells.eq_2 @TV.cells.eq_3 @TV.cells.eq_4 @TV.cells.eq_5 @TV.slen.eq_1 @TV.slen.eq_2) (wa8 @TV.slen.eq_3 @TV.slen.eq_4 @TV.slen.eq_5 @TV.toPV.eq_1 @TV.toPV.eq_2 @TV.toPV.eq_3 @TV.pvs.eq_1 @seqO.eq_1)) (wa8 (wa8 @seqO.eq_2 @bin_lss @bin_gtr @bin_leq @bin_geq @bin_eql @bin_neq @bin_add) (wa8 @bin_sub @bin_mul @sbin_eql @sbin_neq @sbin_lss @sbin_gtr @un_neg @un_not) (wa8 @startE.eq_1 @numT.eq_1 @numT.eq_2 @numB.eq_1 @numB.eq_2 @numB.eq_3 @numR.eq_1 @numR.eq_2) (wa8 @numR.eq_3 @ansW.eq_1 @ansW.eq_2 @resT.eq_1 @resT.eq_2 @SRes.get.eq_1 @SRes.get.eq_2 @List.flatMap_nil.{0,0}) (wa8 @List.flatMap_cons.{0,0} @List.append_nil.{0} @List.nil_append.{0} @TV.ids3.eq_1 @TV.ids3.eq_2 @TV.ids2.eq_1 @TV.ids2.eq_2 @TV.ids1.eq_1) (wa8 @TV.ids1.eq_2 @TV.ids0.eq_1 @TV.ids0.eq_2 @TV.ids0.eq_3 @TV.ids0.eq_4 @TV.ren3.eq_1 @TV.ren3.eq_2 @TV.ren2.eq_1) (wa8 @TV.ren2.eq_2 @TV.ren1.eq_1 @TV.ren1.eq_2 @TV.ren0.eq_1 @TV.ren0.eq_2 @TV.ren0.eq_3 @TV.ren0.eq_4 @TV.ren0.eq_5) (wa8 @TV.ren0.eq_6 @bound.eq_1 @bound.eq_2 @if_true.{1} @if_false.{1} @Bool.false_eq_true @partsT.eq_1 @fillT.eq_1)) (wa8 (wa8 @fillT.eq_2 @splice.eq_1 @List.take_zero.{0} @List.take_succ_cons.{0} @List.drop_zero.{0} @List.drop_succ_cons.{0} @List.length_cons.{0} @List.length_nil.{0}) (wa8 @and_self @and_true @true_and @List.cons_append.{0} @List.getElem?_cons_zero.{0} @List.getElem?_cons_succ.{0} @Nat.zero_add @Bool.not_true) (wa8 @Bool.not_false @Go.Value.oneCell'.eq_1 @Go.Value.oneCell'.eq_2 @Go.Value.oneCell'.eq_3 @Go.Mor.str_toList @Go.Mor.str_size' @Int.toNat_natCast @decide_true) (wa8 @decide_false @beq_self_eq_true.{0} @handI.eq_1 @FS.mo.eq_1 @MO.ren.eq_1 @MO.ren.eq_2 @rhoIn.eq_1 @pos.eq_1) (wa8 @pos.eq_2 @rhoOut.eq_1 @outs.eq_1 @outs.eq_2 @newId.eq_1 @dstId.eq_1 @dstId.eq_2 @putMem.eq_1) (wa8 @putMem.eq_2 @List.lookup.eq_1.{0,0} @List.lookup.eq_2.{0,0} @moOk.eq_1 @moOk.eq_2 @moOk.eq_3 @moOk.eq_4 @Nat.le_refl) (wa8 @Int.natCast_nonneg @v_skip @v_seq @v_exit @v_ret @v_block @v_cond @v_reg) (wa8 @v_reg2 @v_nil @v_regK @v_skipK @v_op @v_guard @gW @gW_u)) (wa8 (wa8 @PostR.eq_1 @PostR.eq_2 @PostR.eq_3 @PostR.eq_4 @exitR.eq_1 @exitF.eq_1 @idsFrom.eq_1 @idsFrom.eq_2) (wa8 @gW_undef @Nat.sub_zero @gW_i @gK_T1 @gK_T0 @gK_F1 @gK_F0 @gK_d1) (wa8 @gK_d0 @gK_n1 @gK_n0 @v_then_n @v_then_r @v_then_x @v_blk_n @v_blk_r) (wa8 @v_blk_x @s_some @s_none @s_ite @s_get @bW_T @bW_F @bW_d) (wa8 @bW_n @bW_a @bW_o @bK @callIn.eq_1 @callOut.eq_1 @callvIn.eq_1 @TV.callee.eq_1) (wa8 @TV.callee.eq_2 @TV.callee.eq_3 @TV.callee.eq_4 @Post0.eq_1 @Post0.eq_2 @Post0.eq_3 @Post0.eq_4 @Post1.eq_1) (wa8 @Post1.eq_2 @Post1.eq_3 @Post1.eq_4 @ansW1.eq_1 @ansW1.eq_2 @bin_quoI @bin_remI @sbin_addI) (wa8 @TV.elems.eq_1 @TV.elems.eq_2 @TV.elems.eq_3 @TV.elems.eq_4 @TV.isNil.eq_1 @TV.isNil.eq_2 @List.all_cons.{0} @List.all_nil.{0})) (wa8 (wa8 @Bool.and_true @Bool.true_and @Bool.and_false @Bool.false_and @Bool.and_self @ne_eq.{1} @not_false_eq_true @not_true_eq_false) (wa8 @false_and @and_false @or_false @or_self @false_or @imp_self @forall_const.{0} @Option.isNone_none.{0}) (wa8 @List.getElem?_nil.{0} @decide_eq_true_eq @eq_self.{1} @Go.Mor.str_list @Go.Mor.str_append @Go.Mor.str_extract @List.getElem?_map.{0,0} @Option.map_map.{0,0,0}) (wa8 @List.length_map.{0,0} @Function.comp_apply.{1,1,1} @List.length_append.{0} @List.length_set.{0} @List.set_cons_zero.{0} @List.set_cons_succ.{0} @imp_false @Decidable.not_not) (wa8 @e_ssub @e_ssub1 @e_ssub2 @e_ssub3 @e_ssub4 @e_sub @e_sub1 @e_sub2) (wa8 @e_sub3 @e_sub4 @e_subT1 @e_subT2 @e_subT3 @e_appB @e_appB1 @e_appN) (wa8 @e_appN1 @e_appN2 @e_appNS @e_appNS1 @e_appNS2 @e_rng @e_rng1 @e_mks) (wa8 @e_mks1 @e_bslO @e_bslO1 @e_nxt @e_nxt1 @e_nxt2 @s_ite2 @reach_nil)) (wa8 (wa8 @reach_cons @reach_m1 @reach_m2 @reach_m3 @reach_m4 @Option.map_none.{0,0} @Option.bind_none.{0,0} @nc_mov) (wa8 @nc_pick @nc_bin @nc_un @nc_cvi @nc_cvs @nc_b2s @nc_imm @nc_sidx) (wa8 @nc_ssub @nc_slen @nc_new @nc_box @nc_build @nc_bsl @nc_bslO @nc_fld) (wa8 @nc_fldA @nc_ld @nc_st @nc_len @nc_idxA @nc_sub @nc_app @nc_appS) (wa8 @nc_appN @nc_appNS @nc_appB @nc_ext @nc_nchk @nc_mkf @nc_rng @nc_nxt) (wa8 @nc_mks @nc_lkp @nc_mkI @nc_fnil @e_fnil @e_fnil1 @e_fnil2 @e_fnil3) (wa8 @e_fnil4 @nc_pan @e_lkp @e_lkp1 @e_lkp2 @e_lkp3 @findKs.eq_1 @findKs.eq_2) (wa8 @kdOf.eq_1 @zeroT.eq_1 @zeroT.eq_2 @v_then_p @v_blk_p @v_panK @sp_some @sp_get)) (wa6 (wa8 @sp_ite @dstOps.eq_1 @List.filterMap_cons.{0,0} @List.filterMap_nil.{0,0} @PostP.eq_1 @PostP.eq_2 @vp_opE @vp_panE) (wa8 @panW1 @np_mov @np_pick @np_bin @np_un @np_cvi @np_cvs @np_b2s) (wa8 @np_imm @np_sidx @np_ssub @np_slen @np_new @np_box @np_build @np_bsl) (wa8 @np_bslO @np_fld @np_fldA @np_ld @np_st @np_len @np_idxA @np_sub) (wa8 @np_app @np_appS @np_appN @np_appNS @np_appB @np_ext @np_nchk @np_mkf) (wa6 @np_rng @np_nxt @np_mks @np_lkp @np_mkI @np_fnil))):=wa8 (wa8 (wa8 @bFT @bTF @ES.fgt.eq_1 @List.map_cons.{0,0} @List.map_nil.{0,0} @fgt3.eq_1 @TV.m3.eq_1 @TV.m3.eq_2) (wa8 @TV.m2.eq_1 @TV.m2.eq_2 @TV.m1.eq_1 @TV.m1.eq_2 @TV.m0.eq_1 @TV.m0.eq_2 @TV.m0.eq_3 @TV.m0.eq_4) (wa8 @TV.m0.eq_5 @TV.m0.eq_6 @TV.m0.eq_7 @TV.mF.eq_1 @TV.mF.eq_2 @TV.mE.eq_1 @TV.mE.eq_2 @TV.idsF.eq_1) (wa8 @TV.idsF.eq_2 @TV.idsE.eq_1 @TV.idsE.eq_2 @TV.renF.eq_1 @TV.renF.eq_2 @TV.renE.eq_1 @TV.renE.eq_2 @List.any_cons.{0}) (wa8 @List.any_nil.{0} @Bool.or_false @Bool.false_or @drp.eq_1 @drp.eq_2 @effG.eq_1 @effF.eq_1 @footOk.eq_1) (wa8 @SOp.foot.eq_1 @SOp.foot.eq_2 @SOp.foot.eq_3 @SOp.foot.eq_4 @only.eq_1 @only.eq_2 @isK.eq_1 @isK.eq_2) (wa8 @eff.eq_1 @eff.eq_2 @eff.eq_3 @eff.eq_4 @eff.eq_5 @eff.eq_6 @eff.eq_7 @eff.eq_8) (wa8 @eff.eq_9 @eff.eq_11 @eff.eq_12 @eff.eq_13 @eff.eq_14 @eff.eq_15 @eff.eq_16 @eff.eq_17)) (wa8 (wa8 @eff.eq_18 @eff.eq_19 @eff.eq_20 @eff.eq_21 @eff.eq_22 @eff.eq_23 @eff.eq_25 @eff.eq_28) (wa8 @eff.eq_31 @eff.eq_32 @eff.eq_33 @eff.eq_34 @eff.eq_35 @eff.eq_44 @eff.eq_45 @Arg.get.eq_1) (wa8 @Arg.get.eq_2 @ES.fs.eq_1 @lk.eq_1 @lk.eq_2 @Option.map_some.{0,0} @Option.bind_some.{0,0} @ES.after.eq_1 @ES.upd.eq_1) (wa8 @ES.upd.eq_2 @ES.upd.eq_3 @ES.upd.eq_4 @ES.upd.eq_5 @ES.upd.eq_6 @ES.upd.eq_7 @ES.put.eq_1 @ES.put.eq_2) (wa8 @sv.eq_1 @sv.eq_2 @ES.kill.eq_1 @ES.kill.eq_2 @has.eq_1 @has.eq_2 @nbeq @nble) (wa8 @nblt @TV.val.eq_1 @TV.val.eq_2 @TV.val1.eq_1 @TV.val1.eq_2 @TV.int.eq_1 @TV.int.eq_2 @TV.str.eq_1) (wa8 @TV.str.eq_2 @TV.cells.eq_1 @TV.cells.eq_2 @TV.cells.eq_3 @TV.cells.eq_4 @TV.cells.eq_5 @TV.slen.eq_1 @TV.slen.eq_2) (wa8 @TV.slen.eq_3 @TV.slen.eq_4 @TV.slen.eq_5 @TV.toPV.eq_1 @TV.toPV.eq_2 @TV.toPV.eq_3 @TV.pvs.eq_1 @seqO.eq_1)) (wa8 (wa8 @seqO.eq_2 @bin_lss @bin_gtr @bin_leq @bin_geq @bin_eql @bin_neq @bin_add) (wa8 @bin_sub @bin_mul @sbin_eql @sbin_neq @sbin_lss @sbin_gtr @un_neg @un_not) (wa8 @startE.eq_1 @numT.eq_1 @numT.eq_2 @numB.eq_1 @numB.eq_2 @numB.eq_3 @numR.eq_1 @numR.eq_2) (wa8 @numR.eq_3 @ansW.eq_1 @ansW.eq_2 @resT.eq_1 @resT.eq_2 @SRes.get.eq_1 @SRes.get.eq_2 @List.flatMap_nil.{0,0}) (wa8 @List.flatMap_cons.{0,0} @List.append_nil.{0} @List.nil_append.{0} @TV.ids3.eq_1 @TV.ids3.eq_2 @TV.ids2.eq_1 @TV.ids2.eq_2 @TV.ids1.eq_1) (wa8 @TV.ids1.eq_2 @TV.ids0.eq_1 @TV.ids0.eq_2 @TV.ids0.eq_3 @TV.ids0.eq_4 @TV.ren3.eq_1 @TV.ren3.eq_2 @TV.ren2.eq_1) (wa8 @TV.ren2.eq_2 @TV.ren1.eq_1 @TV.ren1.eq_2 @TV.ren0.eq_1 @TV.ren0.eq_2 @TV.ren0.eq_3 @TV.ren0.eq_4 @TV.ren0.eq_5) (wa8 @TV.ren0.eq_6 @bound.eq_1 @bound.eq_2 @if_true.{1} @if_false.{1} @Bool.false_eq_true @partsT.eq_1 @fillT.eq_1)) (wa8 (wa8 @fillT.eq_2 @splice.eq_1 @List.take_zero.{0} @List.take_succ_cons.{0} @List.drop_zero.{0} @List.drop_succ_cons.{0} @List.length_cons.{0} @List.length_nil.{0}) (wa8 @and_self @and_true @true_and @List.cons_append.{0} @List.getElem?_cons_zero.{0} @List.getElem?_cons_succ.{0} @Nat.zero_add @Bool.not_true) (wa8 @Bool.not_false @Go.Value.oneCell'.eq_1 @Go.Value.oneCell'.eq_2 @Go.Value.oneCell'.eq_3 @Go.Mor.str_toList @Go.Mor.str_size' @Int.toNat_natCast @decide_true) (wa8 @decide_false @beq_self_eq_true.{0} @handI.eq_1 @FS.mo.eq_1 @MO.ren.eq_1 @MO.ren.eq_2 @rhoIn.eq_1 @pos.eq_1) (wa8 @pos.eq_2 @rhoOut.eq_1 @outs.eq_1 @outs.eq_2 @newId.eq_1 @dstId.eq_1 @dstId.eq_2 @putMem.eq_1) (wa8 @putMem.eq_2 @List.lookup.eq_1.{0,0} @List.lookup.eq_2.{0,0} @moOk.eq_1 @moOk.eq_2 @moOk.eq_3 @moOk.eq_4 @Nat.le_refl) (wa8 @Int.natCast_nonneg @v_skip @v_seq @v_exit @v_ret @v_block @v_cond @v_reg) (wa8 @v_reg2 @v_nil @v_regK @v_skipK @v_op @v_guard @gW @gW_u)) (wa8 (wa8 @PostR.eq_1 @PostR.eq_2 @PostR.eq_3 @PostR.eq_4 @exitR.eq_1 @exitF.eq_1 @idsFrom.eq_1 @idsFrom.eq_2) (wa8 @gW_undef @Nat.sub_zero @gW_i @gK_T1 @gK_T0 @gK_F1 @gK_F0 @gK_d1) (wa8 @gK_d0 @gK_n1 @gK_n0 @v_then_n @v_then_r @v_then_x @v_blk_n @v_blk_r) (wa8 @v_blk_x @s_some @s_none @s_ite @s_get @bW_T @bW_F @bW_d) (wa8 @bW_n @bW_a @bW_o @bK @callIn.eq_1 @callOut.eq_1 @callvIn.eq_1 @TV.callee.eq_1) (wa8 @TV.callee.eq_2 @TV.callee.eq_3 @TV.callee.eq_4 @Post0.eq_1 @Post0.eq_2 @Post0.eq_3 @Post0.eq_4 @Post1.eq_1) (wa8 @Post1.eq_2 @Post1.eq_3 @Post1.eq_4 @ansW1.eq_1 @ansW1.eq_2 @bin_quoI @bin_remI @sbin_addI) (wa8 @TV.elems.eq_1 @TV.elems.eq_2 @TV.elems.eq_3 @TV.elems.eq_4 @TV.isNil.eq_1 @TV.isNil.eq_2 @List.all_cons.{0} @List.all_nil.{0})) (wa8 (wa8 @Bool.and_true @Bool.true_and @Bool.and_false @Bool.false_and @Bool.and_self @ne_eq.{1} @not_false_eq_true @not_true_eq_false) (wa8 @false_and @and_false @or_false @or_self @false_or @imp_self @forall_const.{0} @Option.isNone_none.{0}) (wa8 @List.getElem?_nil.{0} @decide_eq_true_eq @eq_self.{1} @Go.Mor.str_list @Go.Mor.str_append @Go.Mor.str_extract @List.getElem?_map.{0,0} @Option.map_map.{0,0,0}) (wa8 @List.length_map.{0,0} @Function.comp_apply.{1,1,1} @List.length_append.{0} @List.length_set.{0} @List.set_cons_zero.{0} @List.set_cons_succ.{0} @imp_false @Decidable.not_not) (wa8 @e_ssub @e_ssub1 @e_ssub2 @e_ssub3 @e_ssub4 @e_sub @e_sub1 @e_sub2) (wa8 @e_sub3 @e_sub4 @e_subT1 @e_subT2 @e_subT3 @e_appB @e_appB1 @e_appN) (wa8 @e_appN1 @e_appN2 @e_appNS @e_appNS1 @e_appNS2 @e_rng @e_rng1 @e_mks) (wa8 @e_mks1 @e_bslO @e_bslO1 @e_nxt @e_nxt1 @e_nxt2 @s_ite2 @reach_nil)) (wa8 (wa8 @reach_cons @reach_m1 @reach_m2 @reach_m3 @reach_m4 @Option.map_none.{0,0} @Option.bind_none.{0,0} @nc_mov) (wa8 @nc_pick @nc_bin @nc_un @nc_cvi @nc_cvs @nc_b2s @nc_imm @nc_sidx) (wa8 @nc_ssub @nc_slen @nc_new @nc_box @nc_build @nc_bsl @nc_bslO @nc_fld) (wa8 @nc_fldA @nc_ld @nc_st @nc_len @nc_idxA @nc_sub @nc_app @nc_appS) (wa8 @nc_appN @nc_appNS @nc_appB @nc_ext @nc_nchk @nc_mkf @nc_rng @nc_nxt) (wa8 @nc_mks @nc_lkp @nc_mkI @nc_fnil @e_fnil @e_fnil1 @e_fnil2 @e_fnil3) (wa8 @e_fnil4 @nc_pan @e_lkp @e_lkp1 @e_lkp2 @e_lkp3 @findKs.eq_1 @findKs.eq_2) (wa8 @kdOf.eq_1 @zeroT.eq_1 @zeroT.eq_2 @v_then_p @v_blk_p @v_panK @sp_some @sp_get)) (wa6 (wa8 @sp_ite @dstOps.eq_1 @List.filterMap_cons.{0,0} @List.filterMap_nil.{0,0} @PostP.eq_1 @PostP.eq_2 @vp_opE @vp_panE) (wa8 @panW1 @np_mov @np_pick @np_bin @np_un @np_cvi @np_cvs @np_b2s) (wa8 @np_imm @np_sidx @np_ssub @np_slen @np_new @np_box @np_build @np_bsl) (wa8 @np_bslO @np_fld @np_fldA @np_ld @np_st @np_len @np_idxA @np_sub) (wa8 @np_app @np_appS @np_appN @np_appNS @np_appB @np_ext @np_nchk @np_mkf) (wa6 @np_rng @np_nxt @np_mks @np_lkp @np_mkI @np_fnil))
end Go.Sh
section
namespace Go.Proofs.YtcpaleaajdilgaaGreatDoor
open Go Go.Sh
theorem vW:type_of%vcA∧type_of%vV:=⟨vcA,vV⟩
theorem kv{α:Type}{a b:Option α}(h:a=b:=by simp only[vW,seval];rfl):a=b:=h
theorem km{a b:List MO}(h:moOk a b=true:=by first|rfl|(simp only[vcA,seval];omega)):moOk a b=true:=h
end Go.Proofs.YtcpaleaajdilgaaGreatDoor
end
end

section
namespace Go.Proofs.YtcpaleaajdilgaaGreatDoor
open Go Go.RowKit Go.Mor Go.Sh Go.Sh.Cd1
set_option maxRecDepth 100000
set_option maxHeartbeats 4000000
theorem e0:(⟨#[]⟩:ByteArray)=str []:=rfl
theorem z114(l:List UInt8)(p:Nat):Utf8.decode (str l) p=Lib.decodeL (l.drop p):=by rw[←Lib.decodeL_drop,str_toList]
def B(b:Bool):TV:=.pv (.v (.bool b))
theorem plain_ok(g:Sh.Glob)(r:Nat):SCalls Tryz.prog g 159 [.pv (.v (.int .i32 (r:Int)))] [] (B (plainR r)) []:=by
 refine z7 hmix tf_127 rfl ?_;have h1:decide ((32:Int)≤(r:Int))=decide (32≤r):=by rw[Bool.eq_iff_iff];simp;omega
 have h2:decide ((r:Int)=127)=(r==127):=by rw[Bool.eq_iff_iff];simp;omega
 unfold plainR B;by_cases h:32≤r
 ·have d1:(32:Int)≤(r:Int):=by omega
  simp only[vW,seval,d1,h2,h];rfl
 ·have d1:¬(32:Int)≤(r:Int):=by omega
  simp only[vW,seval,d1,h]
theorem validString_ok(m:Nat)(l:List UInt8)(hl:l.length≤9223372036854775807):SCalls Tryz.prog (gl0 m) 158 [S (str l)] [] (B (Lib.validD l)) []:=by
 have:=prim0_sound m 158 [S (str l)] [] (B (Lib.validD l)) [] (by simp[prim0,S,B,Nat.beq,str_size',hl,str_toList]);exact this
theorem rightText_ok0(m:Nat)(l:List UInt8)(hl:l.length≤9223372036854775807):SCalls Tryz.prog (gl0 m) 89 [S (str l)] [] (B (z15 l)) []:=by
 refine z7 hmix tf_129 rfl ?_;have HV:=validString_ok m l hl;unfold z15 B at*;by_cases h60:(l.length:Int)≤60
 ·have d1:¬(60:Int)<(l.length:Int):=by omega
  have h60':l.length≤60:=by omega
  simp only[vW,seval,d1];(with_reducible apply v_call);exact kv;rfl;exact HV;exact km;exact kv;cases hv:Lib.validD l
  ·simp only[vW,seval]
  simp only[vW,seval];refine v_loop (σ:={p:Nat // p≤l.length∧plainD l=plainD (l.drop p)}) (fun p=>⟨[(14,.it 14)],[],[],[(14,(str l,p.1))]⟩) (fun p=>l.length-p.1) ⟨0,Nat.zero_le _,rfl⟩ (lw_eq rfl) ?_;rintro⟨p,hp,hd⟩;by_cases hlt:p<l.length
  ·have hne:l.drop p≠[]:=by rw[Ne,List.drop_eq_nil_iff];omega
   rw[plainD_step _ hne]at hd;have hle:=Lib.decodeL_le (l.drop p) hne;have hw:=Lib.decodeL_width (l.drop p);rw[List.length_drop]at hle;have HP:=plain_ok (gl0 m) (Lib.decodeL (l.drop p)).1;unfold B at HP;simp only[vW,seval,hlt,z114];(with_reducible apply v_call);exact kv;rfl;exact HP;exact km;exact kv;cases hr:plainR (Lib.decodeL (l.drop p)).1
   ·rw[hr]at hd;simp only[vW,seval];simp[hd]
   ·simp only[vW,seval];rw[hr,Bool.true_and,List.drop_drop]at hd;refine z10 ⟨p+(Lib.decodeL (l.drop p)).2,by omega,hd⟩ (by show l.length-(p+_)<l.length-p;omega) ?_;apply lw_of<;>simp[leL,lk,sv,Nat.beq,I,S,ES.kill,has,drp,nilT]
  ·simp only[vW,seval,hlt,h60'];have hnil:l.drop p=[]:=List.drop_eq_nil_of_le (by omega);rw[hnil]at hd;rw[hd];rfl
 ·have d1:(60:Int)<(l.length:Int):=by omega
  have h60':¬l.length≤60:=by omega
  simp only[vW,seval,d1];simp[h60']
theorem bare_ok(g:Sh.Glob)(x:V):SCalls Tryz.prog g 88 [tv x] [] (B (bare x)) []:=by
 refine z7 hmix tf_123 rfl ?_;have h1:decide ((x.l.length:Int)=0)=(x.l.length==0):=by rw[Bool.eq_iff_iff];simp
 unfold bare B;cases h:x.s==[]
 ·simp only[vW,seval,e0,h]
 ·simp only[vW,seval,e0,h,h1]
theorem rightID_ok(g:Sh.Glob)(n:Int):SCalls Tryz.prog g 90 [I n] [] (B (rightID n)) []:=by
 refine z7 hmix tf_128 rfl ?_;unfold B;simp only[vW,seval];unfold rightID
 repeat' (first|(apply And.intro)|(intro _))
 all_goals(first|rfl|(simp;omega)|(simp_all;done)|(simp_all;omega))
theorem right1_mk(k n:Int)(s:List UInt8)(l:List V):right1 (.mk k n s l)=if k=0 then bare (.mk k n s l)&&n==0
 else if k=1 then bare (.mk k n s l)&&decide (-1000000000000000≤n)&&decide (n≤1000000000000000)
 else if k=2 then n==0&&l.length==0&&z15 s
 else if k=3∨k=4 then bare (.mk k n s l)&&rightID n
 else false:=rfl
theorem right1_ok0(m:Nat)(x:V)(hs:z106 x)(h5:x.k≠5):SCalls Tryz.prog (gl0 m) 48 [tv x] [] (B (right1 x)) []:=by
 obtain⟨k,n,s,l⟩:=x;have HB:=bare_ok (gl0 m) (.mk k n s l);have HI:=rightID_ok (gl0 m) n;have HT:=rightText_ok0 m s hs;have hln:decide ((l.length:Int)=0)=(l.length==0):=by rw[Bool.eq_iff_iff];simp
 have k5:¬k=5:=h5;clear h5 hs;rw[right1_mk];generalize bare (.mk k n s l)=b at HB ⊢;refine z7 hmix tf_121 rfl ?_;unfold B at*;by_cases k0:k=0
 ·subst k0;have hn0:decide (n=0)=(n==0):=by rw[Bool.eq_iff_iff];simp
  simp only[vW,seval];(with_reducible apply v_call);exact kv;rfl;exact HB;exact km;exact kv;cases b<;>simp only[vW,seval,hn0]
 rw[if_neg k0];by_cases k1:k=1
 ·subst k1;simp only[vW,seval];(with_reducible apply v_call);exact kv;rfl;exact HB;exact km;exact kv;cases b
  ·simp only[vW,seval]
  ·by_cases q1: -1000000000000000≤n<;>by_cases q2:n≤1000000000000000<;>simp only[vW,seval,q1,q2]
 rw[if_neg k1];by_cases k2:k=2
 ·subst k2;by_cases n0:n=0
  ·subst n0;cases hl:l.length==0
   ·simp only[vW,seval,hln,hl]
   ·simp only[vW,seval,hln,hl];(with_reducible apply v_call);exact kv;rfl;exact HT;exact km;exact kv;simp only[vW,seval]
  ·have hn0:(n==0)=false:=by simpa using n0
   simp only[vW,seval,n0,hn0]
 rw[if_neg k2];by_cases k3:k=3
 ·subst k3;simp only[vW,seval];(with_reducible apply v_call);exact kv;rfl;exact HB;exact km;exact kv;cases b
  ·simp only[vW,seval]
  ·simp only[vW,seval];(with_reducible apply v_call);exact kv;rfl;exact HI;exact km;exact kv;simp only[vW,seval]
 by_cases k4:k=4
 ·subst k4;simp only[vW,seval];(with_reducible apply v_call);exact kv;rfl;exact HB;exact km;exact kv;cases b
  ·simp only[vW,seval]
  ·simp only[vW,seval];(with_reducible apply v_call);exact kv;rfl;exact HI;exact km;exact kv;simp only[vW,seval]
 simp only[vW,seval,k0,k1,k2,k3,k4,k5]
theorem noItem_ok0(m:Nat)(x:V)(hs:z106 x):SCalls Tryz.prog (gl0 m) 92 [tv x] [] (B (noItem x)) []:=by
 refine z7 hmix tf_125 rfl ?_;unfold noItem B;by_cases k5:x.k=5
 ·have h:(x.k==5)=true:=by simp[k5]
  have d:decide (x.k=5)=true:=by simp[k5]
  simp only[vW,seval,d,h];rfl
 ·have HR:=right1_ok0 m x hs k5;have h:(x.k==5)=false:=by simpa using k5
  unfold B at HR;simp only[vW,seval,k5,h];(with_reducible apply v_call);exact kv;rfl;exact HR;exact km;exact kv;simp only[vW,seval]
theorem z108{α:Type}(p:α→Bool):∀(l:List α) (i:Nat),(∀j x,j<i→l[j]?=some x→p x=false)→∀x,l[i]?=some x→p x=true→z49 p l=i
 |[],i,_,x,hx,_=>by simp at hx
 |a::l,0,_,x,hx,hp=>by simp at hx;subst hx;simp[z49,List.findIdx?_cons,hp]
 |a::l,i+1,h,x,hx,hp=>by
  have h0:=h 0 a (by omega) rfl;have:=z108 p l i (fun j y hj hy=>h (j+1) y (by omega) (by simpa using hy)) x (by simpa using hx) hp;unfold z49 at this ⊢;rw[List.findIdx?_cons,h0];cases hf:l.findIdx? p with
  |none=>rw[hf]at this;simp only at this;omega
  |some q=>rw[hf]at this;simp only at this ⊢;simp;omega
theorem z109{α:Type}(p:α→Bool)(l:List α)(h:∀x∈l,p x=false):z49 p l= -1:=by
 have:l.findIdx? p=none:=List.findIdx?_eq_none_iff.2 h;unfold z49;rw[this]
theorem firstAt_any{α:Type}(p:α→Bool)(l:List α):decide (0≤z49 p l)=l.any p:=by
 rw[Bool.eq_iff_iff,decide_eq_true_eq,List.any_eq_true];constructor
 ·intro h;by_cases hn:∀x∈l,p x=false
  ·rw[z109 p l hn]at h;omega
  ·obtain⟨x,hx⟩:=Classical.not_forall.1 hn;obtain⟨hx,hp⟩:=Classical.not_imp.1 hx;exact⟨x,hx,by simpa using hp⟩
 ·rintro⟨x,hx,hp⟩;unfold z49;cases hf:l.findIdx? p with
  |none=>rw[List.findIdx?_eq_none_iff.1 hf x hx]at hp;cases hp
  |some i=>simp
theorem indexNo_ok(m:Nat)(l:List V)(hl:l.length≤maxLen)(hs:∀x∈l,z106 x):SCalls Tryz.prog (gl0 m) 160 [.pv (.sl 4 (V.rows l)),.pv (.v (.func (.func 92) #[] #[]))] [] (I (z49 noItem l)) []:=by
 refine z7 hmix tf_116 rfl ?_;have hm:maxLen=9223372036854775807:=rfl;simp only[vW,seval];refine v_loop (σ:={i:Nat // i≤l.length∧∀j x,j<i→l[j]?=some x→noItem x=false}) (fun i=>⟨[(0,.pv (.sl 4 (V.rows l))),(1,.pv (.v (.func (.func 92) #[] #[]))),(7,I (l.length:Int)),(8,I (i.1:Int))],[],[],[]⟩) (fun i=>l.length-i.1) ⟨0,Nat.zero_le _,fun j x hj=>by omega⟩ (lw_eq (by simp[I])) ?_;rintro⟨i,hi,hno⟩;by_cases hlt:i<l.length
 ·have d1:(i:Int)<(l.length:Int):=by omega
  obtain⟨x,ex⟩:∃x,l[i]?=some x:=⟨_,gE hlt⟩
  have HN:=noItem_ok0 m x (hs x (gM ex));have w1:IntKind.i64.wrap ((i:Int)+1)=((i+1:Nat):Int):=by rw[wrap64 (by omega) (by omega)];omega
  unfold tv B at HN;simp only[vW,seval,d1,ex];(with_reducible apply z22);exact kv;exact HN;rfl;exact kv;cases hp:noItem x
  ·simp only[vW,seval,w1];refine z10 ⟨i+1,by omega,fun j y hj hy=> ?_⟩ (by show l.length-(i+1)<l.length-i;omega) ?_
   ·by_cases hji:j=i
    ·subst hji;rw[ex]at hy;cases hy;exact hp
    ·exact hno j y (by omega) hy
   ·apply lw_of<;>simp[leL,lk,sv,Nat.beq,I,S,ES.kill,has,drp,nilT]
  ·simp only[vW,seval];rw[z108 noItem l i hno x ex hp]
 ·have d1:¬(i:Int)<(l.length:Int):=by omega
  simp only[vW,seval,d1];rw[z109 noItem l (fun x hx=>by
   obtain⟨j,hj⟩:=List.getElem?_of_mem hx;exact hno j x (by have:=(gJ hj).1;omega) hj)]
theorem containsNo_ok(m:Nat)(l:List V)(hl:l.length≤maxLen)(hs:∀x∈l,z106 x):SCalls Tryz.prog (gl0 m) 91 [.pv (.sl 4 (V.rows l)),.pv (.v (.func (.func 92) #[] #[]))] [] (B (l.any noItem)) []:=by
 refine z7 hmix tf_113 rfl ?_;have HI:=indexNo_ok m l hl hs;rw[←firstAt_any];unfold B;simp only[vW,seval];(with_reducible apply v_call);exact kv;rfl;exact HI;exact km;exact kv;simp only[vW,seval]
theorem rightV_ok0(m:Nat)(x:V)(hx:VOk x):SCalls Tryz.prog (gl0 m) 48 [tv x] [] (B (rightV x)) []:=by
 unfold rightV;by_cases k5:x.k=5
 ·rw[if_pos k5];obtain⟨k,n,s,l⟩:=x;simp only[Vk]at k5;subst k5;simp only[Vn,Vs,Vl];refine z7 hmix tf_121 rfl ?_;unfold B;by_cases n0:n=0
  ·subst n0;cases hs:s==[]
   ·simp only[vW,seval,e0,hs]
   ·by_cases h12:l.length≤12
    ·have d1:(l.length:Int)≤12:=by omega
     have HC:=containsNo_ok m l (by unfold maxLen;omega) (fun y hy=>hx.2 y hy);unfold B at HC;simp only[vW,seval,e0,hs,d1,h12];(with_reducible apply v_call);exact kv;rfl;exact HC;exact km;exact kv;simp only[vW,seval]
    ·have d1:¬(l.length:Int)≤12:=by omega
     simp only[vW,seval,e0,hs,d1,h12]
  ·have hn0:(n==0)=false:=by simpa using n0
   simp only[vW,seval,n0,hn0]
 ·rw[if_neg k5];exact right1_ok0 m x hx.1 k5
theorem rightType_ok(g:Sh.Glob)(t:Ty):SCalls Tryz.prog g 73 [tyT t] [] (B (z19 t)) []:=by
 refine z7 hmix tf_130 rfl ?_;obtain⟨k,o⟩:=t;unfold B;simp only[vW,seval];unfold z19
 repeat' (first|(apply And.intro)|(intro _))
 all_goals(first|(simp_all;done)|(simp_all;omega))
theorem ofKind_ok(g:Sh.Glob)(x:V)(k:Int):SCalls Tryz.prog g 109 [tv x,I k] [] (B (ofKind x k)) []:=by
 refine z7 hmix tf_126 rfl ?_;unfold B;simp only[vW,seval];unfold ofKind
 repeat' (first|(apply And.intro)|(intro _))
 all_goals(first|(simp_all;done)|(simp only[Option.some.injEq,TV.pv.injEq,PV.v.injEq,Value.bool.injEq];rw[Bool.eq_iff_iff];simp_all;done)|(simp only[Option.some.injEq,TV.pv.injEq,PV.v.injEq,Value.bool.injEq];rw[Bool.eq_iff_iff];simp_all;omega))
theorem fits1_ok(g:Sh.Glob)(x:V)(t:Ty):SCalls Tryz.prog g 110 [tv x,.ptr 1000 0] [.box [I t.k,I t.o]] (B (!ofKind x t.o)) [.box [I t.k,I t.o]]:=by
 refine z17 hmix tf_120 rfl rfl rfl ?_;have HK:=ofKind_ok g x t.o;unfold B at*;simp only[vW,seval];(with_reducible apply v_call);exact kv;rfl;exact HK;exact km;exact kv;simp only[vW,seval]
theorem indexFits_ok(g:Sh.Glob)(l:List V)(t:Ty)(hl:l.length≤maxLen):SCalls Tryz.prog g 160 [.pv (.sl 4 (V.rows l)),.fn (.func 110) [] [.ptr 1000 0]] [.box [I t.k,I t.o]] (I (z49 (fun y=> !ofKind y t.o) l)) [.box [I t.k,I t.o]]:=by
 refine z17 hmix tf_116 rfl rfl rfl ?_;have hm:maxLen=9223372036854775807:=rfl;simp only[vW,seval];refine v_loop (σ:={i:Nat // i≤l.length∧∀j x,j<i→l[j]?=some x→(!ofKind x t.o)=false}) (fun i=>⟨[(0,.pv (.sl 4 (V.rows l))),(1,.fn (.func 110) [] [.ptr 1000 0]),(7,I (l.length:Int)),(8,I (i.1:Int))],[(1000,[I t.k,I t.o])],[],[]⟩) (fun i=>l.length-i.1) ⟨0,Nat.zero_le _,fun j x hj=>by omega⟩ (lw_eq (by simp[I])) ?_;rintro⟨i,hi,hno⟩;by_cases hlt:i<l.length
 ·have d1:(i:Int)<(l.length:Int):=by omega
  obtain⟨x,ex⟩:∃x,l[i]?=some x:=⟨_,gE hlt⟩
  have HN:=fits1_ok g x t;have w1:IntKind.i64.wrap ((i:Int)+1)=((i+1:Nat):Int):=by rw[wrap64 (by omega) (by omega)];omega
  unfold tv B at HN;simp only[vW,seval,d1,ex];(with_reducible apply z22);exact kv;exact HN;rfl;exact kv;cases hp:ofKind x t.o
  ·simp only[vW,seval];rw[z108 (fun y=> !ofKind y t.o) l i hno x ex (by simp[hp])]
  ·simp only[vW,seval,w1];refine z10 ⟨i+1,by omega,fun j y hj hy=> ?_⟩ (by show l.length-(i+1)<l.length-i;omega) ?_
   ·by_cases hji:j=i
    ·subst hji;rw[ex]at hy;cases hy;simp[hp]
    ·exact hno j y (by omega) hy
   ·apply lw_of<;>simp[leL,lk,sv,Nat.beq,I,S,ES.kill,has,drp,nilT]
 ·have d1:¬(i:Int)<(l.length:Int):=by omega
  simp only[vW,seval,d1];rw[z109 (fun y=> !ofKind y t.o) l (fun x hx=>by
   obtain⟨j,hj⟩:=List.getElem?_of_mem hx;exact hno j x (by have:=(gJ hj).1;omega) hj)]
theorem containsFits_ok(g:Sh.Glob)(l:List V)(t:Ty)(hl:l.length≤maxLen):SCalls Tryz.prog g 91 [.pv (.sl 4 (V.rows l)),.fn (.func 110) [] [.ptr 1000 0]] [.box [I t.k,I t.o]] (B (l.any fun y=> !ofKind y t.o)) [.box [I t.k,I t.o]]:=by
 refine z17 hmix tf_113 rfl rfl rfl ?_;have HI:=indexFits_ok g l t hl;rw[←firstAt_any];unfold B;simp only[vW,seval];(with_reducible apply v_call);exact kv;rfl;exact HI;exact km;exact kv;simp only[vW,seval]
theorem fits_ok0(m:Nat)(x:V)(t:Ty)(hx:VOk x)(hl:x.l.length≤maxLen):SCalls Tryz.prog (gl0 m) 56 [tv x,tyT t] [] (B (fitsV x t)) []:=by
 refine z7 hmix tf_119 rfl ?_;have HR:=rightV_ok0 m x hx;have HT:=rightType_ok (gl0 m) t;have HK:=ofKind_ok (gl0 m) x t.k;have HC:=containsFits_ok (gl0 m) x.l t hl;unfold fitsV B at*;simp only[vW,seval];(with_reducible apply v_call);exact kv;rfl;exact HR;exact km;exact kv;cases rightV x
 ·simp only[vW,seval]
 simp only[vW,seval];(with_reducible apply v_call);exact kv;rfl;exact HT;exact km;exact kv;cases z19 t
 ·simp only[vW,seval]
 simp only[vW,seval];(with_reducible apply v_call);exact kv;rfl;exact HK;exact km;exact kv;cases ofKind x t.k
 ·simp only[vW,seval]
 simp only[vW,seval];(with_reducible apply v_call);exact kv;rfl;exact HC;exact km;exact kv;simp only[vW,seval]
end Go.Proofs.YtcpaleaajdilgaaGreatDoor
end

section
namespace Go.Mor
open Go
def bindsV(s:List UInt8):Int:=
 if s=[42]∨s=[47]∨s=[37] then 4 else if s=[43]∨s=[45] then 3 else if s=[38] then 2
 else if s=[61]∨s=[60,62]∨s=[60]∨s=[60,61]∨s=[62]∨s=[62,61] then 1 else 0
def takesV(s:List UInt8):Int:=
 if s=[108,101,110]∨s=[116,101,120,116]∨s=[110,117,109] then 1
 else if s=[108,101,102,116]∨s=[114,105,103,104,116]∨s=[102,114,111,109]∨s=[102,105,110,100]∨s=[109,105,110]∨s=[109,97,120] then 2
 else if s=[105,102] then 3 else 0
def nodeE(e:V):Bool:=
 if e.k≠1∧e.n≠0 then false
 else if e.k=1 then decide (0≤e.n)&&decide (e.n≤1000000000000000)&&e.s==[]&&e.l.length==0
 else if e.k=2 then z15 e.s&&e.l.length==0
 else if e.k=3 then z13 e.s&&e.l.length==0
 else if e.k=4 then decide (0<bindsV e.s)&&e.l.length==2
 else if e.k=5 then e.s==[45]&&e.l.length==1
 else if e.k=6 then decide (0<takesV e.s)&&decide ((e.l.length:Int)=takesV e.s)
 else false
def okE:Nat→V→Bool
 |0,_=>false
 |d+1,e=>nodeE e&&e.l.all (okE d)
def szE:Nat→V→Nat
 |0,_=>1
 |d+1,e=>1+(e.l.map (szE d)).sum
def rightE(e:V):Bool:=okE 8 e&&decide (szE 8 e≤40)
structure Pc where
 k:Int
 n:Int
 s:List UInt8
 p:Nat
def digB(b:UInt8):Bool:=decide (48≤b.toNat∧b.toNat≤57)
def numG:List UInt8→Int→Nat→Int×Nat
 |[],n,z=>(n,z)
 |b::r,n,z=>if digB b then numG r (min (10*n+((b.toNat:Int) - 48)) 1000000000000001) (z+1)else(n,z)
def nameZ:List UInt8→Nat
 |[]=>0
 |b::r=>if nameB b then nameZ r+1 else 0
def quoG:List UInt8→List UInt8→Nat→Option (List UInt8×Nat)
 |[],_,_=>none
 |b::r,acc,k=>if b=34 then(if z15 acc then some (acc,k+1)else none)
  else if b=92 then(match r with
   |[]=>none
   |c::r'=>if c=34∨c=92 then quoG r' (acc++[c]) (k+2)else none)
  else quoG r (acc++[b]) (k+1)
def signP:List UInt8→List UInt8
 |[]=>[]
 |b::r=>if b=60 then(if r.head?=some 62 then [60,62] else if r.head?=some 61 then [60,61] else [60])
  else if b=62 then(if r.head?=some 61 then [62,61] else [62])
  else if b=61∨b=38∨b=43∨b=45∨b=42∨b=47∨b=37∨b=40∨b=41∨b=44 then [b] else []
def readP(l:List UInt8)(at_:Nat):Option (Pc×Nat):=
 match l with
 |[]=>none
 |b::r=>
  if digB b then(if 1000000000000000<(numG l 0 0).1 then none else some (⟨1,(numG l 0 0).1,[],at_⟩,(numG l 0 0).2))
  else if small b then(if z13 (l.take (nameZ l))then some (⟨3,0,l.take (nameZ l),at_⟩,nameZ l)else none)
  else if b=34 then(match quoG r [] 1 with
   |some (t,k)=>some (⟨2,0,t,at_⟩,k)
   |none=>none)
  else if signP l=[] then none else some (⟨4,0,signP l,at_⟩,(signP l).length)
inductive Lx where
 |ok (L:List Pc)
 |bad (p:Nat)
def lexG:Nat→List UInt8→Nat→List Pc→Option Lx
 |0,_,_,_=>none
 |f+1,l,at_,acc=>match l with
  |[]=>some (.ok acc)
  |b::r=>if b=32 then lexG f r (at_+1) acc else match readP l at_ with
   |none=>some (.bad at_)
   |some (q,z)=>lexG f (l.drop z) (at_+z) (acc++[q])
inductive Rs(α:Type) where
 |ok (e:α) (p:Nat)
 |bad (a p:Nat)
def pkP(L:List Pc)(sz p:Nat):Pc:=(L[p]?).getD ⟨0,0,[],sz⟩
def isSg(q:Pc)(t:List UInt8):Bool:=q.k==4&&q.s==t
mutual
def pE(L:List Pc)(sz:Nat):Nat→Int→Nat→Option (Rs V)
 |0,_,_=>none
 |f+1,least,p=>match pT L sz f p with
  |some (.ok e p')=>pL L sz f least e p'
  |some (.bad a p')=>some (.bad a p')
  |none=>none
def pL(L:List Pc)(sz:Nat):Nat→Int→V→Nat→Option (Rs V)
 |0,_,_,_=>none
 |f+1,least,e,p=>
  if(pkP L sz p).k≠4∨bindsV (pkP L sz p).s<least then some (.ok e p)
  else match pE L sz f (bindsV (pkP L sz p).s+1) (p+1)with
   |some (.ok e2 p2)=>pL L sz f least (.mk 4 0 (pkP L sz p).s [e,e2]) p2
   |some (.bad a p')=>some (.bad a p')
   |none=>none
def pT(L:List Pc)(sz:Nat):Nat→Nat→Option (Rs V)
 |0,_=>none
 |f+1,p=>
  if isSg (pkP L sz p) [40] then(match pE L sz f 1 (p+1)with
   |some (.ok e p')=>if isSg (pkP L sz p') [41] then some (.ok e (p'+1))else some (.bad (pkP L sz p').p p')
   |some (.bad a p')=>some (.bad a p')
   |none=>none)
  else if isSg (pkP L sz p) [45] then(match pT L sz f (p+1)with
   |some (.ok e p')=>some (.ok (.mk 5 0 [45] [e]) p')
   |some (.bad a p')=>some (.bad a p')
   |none=>none)
  else if(pkP L sz p).k=1 then some (.ok (.mk 1 (pkP L sz p).n [] []) (p+1))
  else if(pkP L sz p).k=2 then some (.ok (.mk 2 0 (pkP L sz p).s []) (p+1))
  else if(pkP L sz p).k=3 then(if 0<takesV (pkP L sz p).s∧isSg (pkP L sz (p+1)) [40]=true then(match pH L sz f (takesV (pkP L sz p).s).toNat 0 (p+2) []with
    |some (.ok l p')=>some (.ok (.mk 6 0 (pkP L sz p).s l) p')
    |some (.bad a p')=>some (.bad a p')
    |none=>none)
   else some (.ok (.mk 3 0 (pkP L sz p).s []) (p+1)))
  else some (.bad (pkP L sz p).p (p+1))
def pH(L:List Pc)(sz:Nat):Nat→Nat→Nat→Nat→List V→Option (Rs (List V))
 |0,_,_,_,_=>none
 |f+1,n,k,p,acc=>
  if k<n then(if 0<k∧isSg (pkP L sz p) [44]=false then some (.bad (pkP L sz p).p p)
   else match pE L sz f 1 (if 0<k then p+1 else p)with
    |some (.ok e p')=>pH L sz f n (k+1) p' (acc++[e])
    |some (.bad a p')=>some (.bad a p')
    |none=>none)
  else if isSg (pkP L sz p) [41] then some (.ok acc (p+1))else some (.bad (pkP L sz p).p p)
end
def parseV(f:Nat)(l:List UInt8):Option (V×Int×Int):=
 if 200<l.length then some (V.nil,200,50)
 else match lexG (l.length+1) l 0 []with
  |none=>none
  |some (.bad a)=>some (V.nil,a,50)
  |some (.ok L)=>match pE L l.length f 1 0 with
   |some (.ok e p)=>if p<L.length then some (V.nil,(pkP L l.length p).p,50)else if rightE e then some (e,0,0)else some (V.nil,0,51)
   |some (.bad a _)=>some (V.nil,a,50)
   |none=>none
end Go.Mor
end
