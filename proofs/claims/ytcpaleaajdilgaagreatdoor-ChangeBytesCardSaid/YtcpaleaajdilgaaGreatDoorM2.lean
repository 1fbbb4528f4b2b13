/- Merged texts: S13p S14 S15 S16 Base Glb Shelf Pr0 S17 S18 Plain Pcm Dt By PWire PWire2 PWire3 PClass Px1 Px2 Px3 S19 S20 S33 Cd1 Vc1 Vk Zv1 Zv2 Ze1 Cd5 Ze2 Ze3. No statement of the program is proved here. -/
import Derived.Test.YtcpaleaajdilgaaGreatDoorM1
import Derived.WalkSpells
import Derived.WalkLawsBesides
import Derived.Lib.Hide
import Derived.Deep.Draws
import Derived.Lib.LaidU8
import Derived.Test.YtcpaleaajdilgaaGreatDoorProg
import Derived.Shelf.LaysM
import Derived.Shelf.Strconv.Itoa3
import Derived.Shelf.Strings.Replace
import Derived.Shelf.Strings.OnBuilder
import Derived.Shelf.Strings.Search3
import Derived.Shelf.Small.Utf8
import Derived.Shelf.LaysC
import Derived.Shelf.Unicode.DecodeAny
import Derived.Shelf.Unicode.ValidAny
import Derived.Shelf.Small.Wraps
import Derived.Laws.StructEq
import Derived.Lib.ValidU
import Derived.Lib.TrimUEq
import Derived.Lib.ValidLaws
import Derived.Lib.ItoaNum
import Derived.Lib.Join
import Derived.KernelRfl
set_option linter.unusedSimpArgs false
set_option linter.unusedVariables false
section
namespace Go.Sh
open Go Go.RowKit
set_option maxHeartbeats 4000000
def SPan(P:Program)(g:Glob)(f:Nat)(xs:List TV)(os:List MO)(z:Value)(os':List MO):Prop:=
 hasBody P f∧∀(w:World) (E:Env) (vs:List Value),g.G w→MSim (start w E os 0) (objB os) (objR os) w E→(∀d b,objX E os d b→g.n≤b)→xs.length=vs.length→
  (∀(j:Nat) x v,xs[j]?=some x→vs[j]?=some v→RelT w E (objR os) x v)→
  Calls P f vs.toArray w fun e w'=>∃E',e=.panicked [{ v:=z,recovered:=false }]∧MSim (start w E os 0) (objB os') (objR os') w' E'∧Left E os E' os'
def panEff(P:Program)(g:Glob)(s:FS)(k f mode:Nat)(xs:List TV)(z:Value)(u:Upd):Prop:=
 ∃xs' os os' us,seqO (TV.ren2 (rhoIn (handI s mode xs))) xs=some xs'∧seqO (fun d=>(s.mo d).bind (MO.ren (rhoIn (handI s mode xs)))) (handI s mode xs)=some os∧SPan P g f xs' os z os'∧moOk os os'=true∧outs (rhoOut (handI s mode xs) k) 0 os'=some us∧u=.mem us
section
variable{B:Base}{s:FS}{a:Act}{w w':World}{E E':Env}{r:Rows}{P:Program}{C:Oracle}{g:Glob}
theorem wp_panAt(h:Sim B s a w E)(hG:g.G B.w0)(hX:∀d b,B.X d b→g.n≤b){o:Oper}{f mode:Nat}{xs:List TV}{vs:List Value}(hmx:∀x∈xs,∀d,Ment d x→s.ment d)(hl:xs.length=vs.length)(hxs:∀(j:Nat) x v,xs[j]?=some x→vs[j]?=some v→RelT w E s.r x v)
  (hop:hasBody P f→(execOp a.eval o).run P w=.ok (.enter f vs.toArray) w) (hm0:B.m≤1000) (hf:∀q<4,Fresh s (newId (dstId o.dst) q))
  {z:Value} {u:Upd} (he:panEff P g s (dstId o.dst) f mode xs z u) {next:Act→World→Prop} {Q:Exit→Act→World→Prop}
  (hn:∀w' E',Sim B (s.upd o.dst u) a w' E'→Q (.panic [{ v:=z,recovered:=false }]) a w'):o.wp P a w next Q:=by
 obtain⟨xs',os,os',us,h1,h2,⟨hbody,hcall⟩,h4,h6,rfl⟩:=he;obtain⟨hI,hIm⟩:=handI_spec mode hmx;have hn0:=g.le _ hG;have hw0:=h.mem.low.size;have hGw:g.G w:=g.st _ _ hG (fun k hk=>h.mem.low.block k (by omega) (fun d hd=>by have:=hX d k hd;omega));have hrho:RenOk E s.r (rhoIn (handI s mode xs)) (envIn E (handI s mode xs)) (objR os):=renIn h2;obtain⟨l1,q1⟩:=seqR (w:=w) (fun _ _ _=>ren2_rel hrho (fun _ _ _ h _=>h)) hl hxs h1;have hblk:∀d b,objX (envIn E (handI s mode xs)) os d b→g.n≤b:=by
  intro d b hx;obtain⟨hlen,hB,hR⟩:=handed h2;rcases hx with⟨cs,e1,e2⟩|⟨⟨e,W,n⟩,cap,e1,e2⟩
  ·obtain⟨j,rfl,hj⟩:=z43 e1;obtain⟨i,c,b1,b2,_⟩:=hB j cs hj;have e3:E.β i=b:=by grind [only,envIn,getD_of]
   rcases(h.mem.box i c b2).2 with e4|e4<;>grind
  ·obtain⟨j,rfl,hj⟩:=z27 e1;obtain⟨i,b1,b2,b3⟩:=hR j e W n hj;have e3:E.γ i=some (b,cap):=by grind [only,envIn,getD_of]
   rcases h.mem.row i e W n b3 with⟨e4,_⟩|⟨b',c',e4,e5,_⟩<;>grind
 have hcalls:=hcall w (envIn E (handI s mode xs)) vs hGw (z100 h hI h2) hblk l1 q1;unfold Oper.wp;rw[hop hbody];refine hcalls.mono ?_;rintro e w' ⟨E',rfl,hm,hleft⟩;obtain⟨hS,_⟩:=z154 h hI hIm hm0 hf h2 h4 h6 hm hleft o.dst
 grind
def PanG(P:Program)(g:Glob)(o:SOper)(s:FS)(z:Value)(u:Upd):Prop:=
 o.guard=none∧match o.op with
 | .pan x=>x.get s=some (.pv (.v z))∧(∃t v,z=.iface t v)∧u=.no
 | .call f m xs=>∃args,seqO (fun x:Arg=>x.get s) xs=some args∧panEff P g s (dstId o.dst) f m args z u
 |_=>False
def mayPan:SOp→Bool
 | .pan _=>true
 | .call _ m _=>Nat.beq m 3
 |_=>false
def quiet(o:SOper):Bool:= !o.op.wb&& !o.op.wr&& !o.op.wi&&o.news.isEmpty
theorem quiet_after{o:SOper}(hq:quiet o=true){s:FS}{e:TV×Upd}(he:effG P C o s=some e):(s.after o e).b=s.b∧(s.after o e).r=s.r∧(s.after o e).i=s.i∧∀k,o.dst≠some k→(s.after o e).t k=s.t k:=by
  unfold quiet at hq
  simp only[Bool.and_eq_true,Bool.not_eq_true',List.isEmpty_iff]at hq
  obtain⟨⟨⟨h1,h2⟩,h3⟩,h4⟩:=hq
  have h4:o.op.news o.dst=[]:=h4
  have hS:=z115 he
  refine⟨funext fun d=> ?_,funext fun d=> ?_,funext fun d=> ?_,fun k hk=> ?_⟩
  · unfold FS.after
    rw[put_b,upd_b]
    cases ho:ovB o.dst e.2 d with
    |none=>rfl
    | some cs => exact (by rcases hS.b d cs ho with h | ⟨h, _⟩; · rw [h4] at h; cases h
                           · rw[h1]at h;cases h)
  · unfold FS.after
    rw[put_r,upd_r]
    cases ho:ovR e.2 d with
    |none=>rfl
    | some cs => exact (by rcases hS.r d cs ho with h | ⟨h, _⟩; · rw [h4] at h; cases h
                           · rw[h2]at h;cases h)
  · unfold FS.after
    rw[put_i,upd_i]
    cases ho:ovI e.2 d with
    |none=>rfl
    | some cs => exact (by rcases hS.i d cs ho with h | ⟨h, _⟩; · rw [h4] at h; cases h
                           · rw[h3]at h;cases h)
  · unfold FS.after
    rw[put_t,upd_t,if_neg hk]
theorem reach_same{s s':FS}{rows:Bool}(hb:s'.b=s.b)(hr:s'.r=s.r):∀(n:Nat) (l seen:List Nat),reach s' rows n l seen=reach s rows n l seen
 |0,l,seen=>by simp only[reach]
 |n+1,[],seen=>by simp only[reach]
 |n+1,d::l,seen=>by
  simp only[reach,hb,hr,reach_same hb hr n]
theorem panG_congr{o:SOper}{s s':FS}{z:Value}{u:Upd}(hb:s'.b=s.b)(hr:s'.r=s.r)(ht:∀k∈o.reads,s'.t k=s.t k)(h:PanG P g o s' z u):PanG P g o s z u:=by
 obtain⟨hg,h⟩:=h;refine⟨hg,?_⟩;have hrd:∀k∈o.op.reads,s'.t k=s.t k:=fun k hk=>ht k (by simp[SOper.reads,hk]);cases hop:o.op with
 |pan x=>
  rw[hop]at h hrd;simp only at h ⊢;rw[z30 (x:=x) (s:=s) (s':=s') hrd]at h;exact h
 |call f m xs=>
  rw[hop]at h hrd;simp only at h ⊢;obtain⟨args,h1,h2⟩:=h;rw[z118 (s:=s) (s':=s') hrd]at h1
  grind [handI,reach_same,panEff,z123,only,FS.mo]
 |_=>grind
theorem trans_pan{o:Oper}{h:Nat}{x:Arg}(hop:z24 P o h=some (.pan x)):∃y,o.op=.panic y∧x=.of y:=by
 unfold z24 at hop
 repeat' (split at hop)
 all_goals first|(exact⟨_,by assumption,by cases hop;rfl⟩)|(cases hop;done)|(obtain⟨_,_,hx⟩:=gO hop;cases hx)
theorem trans_call{o:Oper}{h f m:Nat}{xs:List Arg}(hop:z24 P o h=some (.call f m xs)):∃ars ats,o.op=.call { callee:=.value (.func f),args:=ars,argTypes:=ats }∧xs=ars.toList.map Arg.of:=by
 unfold z24 at hop
 repeat' (split at hop)
 all_goals first|(cases hop;exact⟨_,_,by assumption,rfl⟩)|(cases hop;done)|(obtain⟨_,_,hx⟩:=gO hop;cases hx)
variable{H:Option Nat→Nat}{ops:Array Oper}{sops:List SOper}
theorem sim_pan(hm0:B.m≤1000)(hG:g.G B.w0)(hX:∀d b,B.X d b→g.n≤b){s:FS}(h:Sim B s a w E){i:Nat}{o:Oper}{so:SOper}{fp:Option Nat}(hi:ops[i]?=some o)(ht:z78 P B.N H fp ops o=some so)(hf:FreshO so s){z:Value}{u:Upd}(hp:PanG P g so s z u)
  {K:Act→World→Prop} {Q:Exit→Act→World→Prop} (hQ:∀w' E',Sim B (s.upd so.dst u) a w' E'→Q (.panic [{ v:=z,recovered:=false }]) a w'):wpOp P ops Q i K a w:=by
 unfold z78 at ht;split at ht<;>try(cases ht;done)
 rename_i gd op hg hop;split at ht<;>try(cases ht;done)
 rename_i hd;cases ht;obtain⟨hgn,hp⟩:=hp;have hgo:o.guard=none:=by
  cases hgo:o.guard<;>grind [only,z149]
 unfold wpOp;simp only[hi];rw[if_pos (by simp[Region.wanted,hgo])];refine .inl ?_;cases hoo:op with
 |pan x=>
  subst hoo;simp only at hp;obtain⟨h1,⟨t,v,rfl⟩,rfl⟩:=hp;have hpo:=trans_pan hop;obtain⟨y,hy,rfl⟩:=hpo;have hv:=val_rel (y:=.iface t v) (z16 h h1) rfl;unfold Oper.wp;have hrun:(execOp a.eval o).run P w=.halt (.panic (.iface t v)) w:=by
   simp only[execOp,hy,hv,Instr.panic];rfl
  rw[hrun];exact hQ w E h
 |call f m xs=>
  subst hoo;simp only at hp;obtain⟨args,h1,h2⟩:=hp;have hpo:=trans_call hop;obtain⟨ars,ats,hq,rfl⟩:=hpo;obtain⟨a1,a2,a3⟩:=get_list h h1;have harr:(ars.toList.map a.eval).toArray=ars.map a.eval:=by grind
  refine wp_panAt h hG hX a3 a1 a2 (fun hbody=> ?_) hm0 (fun q hq=>hf _ (by simp only[SOper.news,SOp.news];match q,hq with|0,_=>simp|1,_=>simp|2,_=>simp|3,_=>simp)) h2 (fun w' E' hS=>hQ w' E' hS);obtain⟨fn',body,b1,b2,b3⟩:=hbody;have hex:execOp a.eval o=callFunc f (#[]++ars.map a.eval++ #[]):=by
   obtain⟨dst,op,type,pos,after,guard⟩:=o
   dsimp only at hq
   subst hq;rfl
  rw[hex,harr];simp[callFunc,b1,b2,b3]
 |_=>grind
theorem beq_false'{a b:Nat}(h:a≠b):Nat.beq a b=false:=by grind [Nat.beq,Nat.eq_of_beq_eq_true]
def panOk(ops:Array Oper)(sops:List SOper):Bool:=(List.range sops.length).all fun k=>match sops[k]? with
 |some o=> !mayPan o.op||(List.range sops.length).all fun i=>Nat.beq i k||(if Nat.blt i k then(match sops[i]? with|some p=>quiet p|none=>true)||ahead ops 4 i k else ahead ops 4 k i)
 |none=>true
theorem quiet_run{o:SOper}{sk:FS}:∀(A:List Nat) (s:FS),(∀j∈A,∀oa,sops[j]?=some oa→quiet oa=true∧apart oa o=true)→RunI P g sops A s sk→
  sk.b=s.b∧sk.r=s.r∧sk.i=s.i∧(∀j∈o.reads,sk.t j=s.t j)∧(∀j,(∀o'∈sops,o'.dst≠some j)→sk.t j=s.t j)
 |[],s,_,h=>by have h:s=sk:=h;subst h;exact⟨rfl,rfl,rfl,fun _ _=>rfl,fun _ _=>rfl⟩
 |x::A,s,hA,h=>by
  obtain⟨oa,s1,hoa,⟨C,hC,hst⟩,h2⟩:=h;obtain⟨i1,i2,i3,i4,i5⟩:=quiet_run A s1 (fun j hj=>hA j (List.mem_cons_of_mem _ hj)) h2;obtain⟨hq,hap⟩:=hA x (List.mem_cons_self ..) oa hoa;obtain⟨e,he,rfl⟩:=gO hst
  grind [quiet_after,List.mem_of_getElem?,apart]
theorem any_pan(hm0:B.m≤1000)(hN:B.N≤1000)(hG:g.G B.w0)(hX:∀d b,B.X d b→g.n≤b){fps:Nat→Option Nat}(htr:z132 P B.N H fps ops 0 ops.toList=some sops)(hok:z103 ops true sops=true)(hpo:panOk ops sops=true){kk:Nat}{ok:SOper}(hkk:sops[kk]?=some ok)(hmay:mayPan ok.op=true)
  {z:Value} {u:Upd} {sk:FS} (hp:PanG P g ok sk z u) {Q:Exit→Act→World→Prop}
  (hQ:∀(s1:FS) a w E,s1.b=sk.b→s1.r=sk.r→s1.i=sk.i→(∀j,(∀o'∈sops,o'.dst≠some j)→s1.t j=sk.t j)→Sim B (s1.upd ok.dst u) a w E→Q (.panic [{ v:=z,recovered:=false }]) a w):
  ∀(fuel:Nat) (listed:Array Bool) (s:FS) (a:Act) (w:World) (E:Env),listed.size=ops.size→ClosedL ops listed→Sim B s a w E→FreshI sops (rest ops.size listed) s→listed.getD kk true=false→RunI P g sops ((rest ops.size listed).filter (fun i=>decide (i<kk))) s sk→(rest ops.size listed).length≤fuel→
   wpAny P .any ops Q fuel listed a w:=by
 obtain⟨hlen,hspec⟩:=z71 htr;have hlen':ops.size=sops.length:=by simpa using hlen
 have hmk:=mkAll_of hok;have hback:∀(i:Nat) o,ops[i]?=some o→∀e∈o.after,Region.binds .any e=true→e.on<i:=by
  intro i o hi e he hb;unfold z103 at hok;rw[Bool.and_eq_true]at hok;have hil:i<sops.length:=by rw[←hlen'];exact(gA hi).1
  have h2:=hok.2;simp only[Bool.not_true,Bool.false_or]at h2;have:=List.all_eq_true.1 h2 i (by simpa using hil);rw[hi]at this;have:=Array.all_eq_true_iff_forall_mem.1 this e he;simp only[hb,Bool.not_true,Bool.false_or]at this;rw[Nat.blt_eq]at this;exact this
 have hrest:∀(listed:Array Bool) i,i∈rest ops.size listed ↔ i<ops.size∧listed.getD i true=false:=by
  intro listed i;simp[rest]
 have hready:∀(listed:Array Bool) i,i∈Region.ready .any ops listed ↔ i∈rest ops.size listed∧∀o,ops[i]?=some o→∀e∈o.after,Region.binds .any e=true→listed.getD e.on false=true:=by
  intro listed i;rw[hrest];unfold Region.ready;simp only[List.mem_filter,List.mem_range,Bool.and_eq_true,Bool.not_eq_true'];constructor
  ·rintro⟨h1,h2,h3⟩;refine⟨⟨h1,h2⟩,fun o ho e he hb=> ?_⟩;rw[ho]at h3;simp only[Option.map_some,Option.getD_some]at h3;have:=Array.all_eq_true_iff_forall_mem.1 h3 e he;simpa [hb]using this
  ·rintro⟨⟨h1,h2⟩,h3⟩;refine⟨h1,h2,?_⟩;obtain⟨o,ho⟩:∃o,ops[i]?=some o:=⟨_,Array.getElem?_eq_getElem h1⟩
   rw[ho];simp only[Option.map_some,Option.getD_some];refine Array.all_eq_true_iff_forall_mem.2 fun e he=> ?_;cases hb:Region.binds .any e
   ·rfl
   ·simp[h3 o ho e he hb]
 have hnil:∀(listed:Array Bool),listed.size=ops.size→Region.ready .any ops listed=[]→rest ops.size listed=[]:=by
  intro listed hsz hr;cases hrl:rest ops.size listed with
  |nil=>rfl
  |cons i l=>
   exfalso;have hi:i∈rest ops.size listed:=by rw[hrl];exact List.mem_cons_self ..
   have hmin:∀j,j<i→j∉rest ops.size listed:=by
    intro j hj hjm;have hp:(rest ops.size listed).Pairwise (·<·):=List.Pairwise.filter _ List.pairwise_lt_range;rw[hrl]at hp hjm;rcases List.mem_cons.1 hjm with rfl|hjm
    ·omega
    ·have:=(List.pairwise_cons.1 hp).1 j hjm;omega
   have:i∈Region.ready .any ops listed:=by
    rw[hready];refine⟨hi,fun o ho e he hb=> ?_⟩;have hlt:=hback i o ho e he hb;have hil:=((hrest listed i).1 hi).1;have hnm:=hmin e.on hlt;rw[hrest]at hnm;have hel:e.on<listed.size:=by omega
    have:listed.getD e.on true≠false:=fun h=>hnm ⟨by omega,h⟩;simpa [Array.getD,hel]using this
   rw[hr]at this;cases this
 have hkkn:kk<ops.size:=by rw[hlen'];exact(gJ hkk).1
 have hpk:∀i,i<ops.size→i≠kk→(i<kk→(∀p,sops[i]?=some p→quiet p=true)∨ahead ops 4 i kk=true)∧(kk<i→ahead ops 4 kk i=true):=by
  intro i hi hne;unfold panOk at hpo;have h1:=List.all_eq_true.1 hpo kk (by rw[←hlen'];simpa using hkkn);simp only[hkk,hmay,Bool.not_true,Bool.false_or]at h1;have h2:=List.all_eq_true.1 h1 i (by rw[←hlen'];simpa using hi);rw[beq_false' hne,Bool.false_or]at h2;refine⟨fun hlt=> ?_,fun hgt=> ?_⟩
  ·rw[if_pos (by rw[Nat.blt_eq];exact hlt)]at h2;rw[Bool.or_eq_true]at h2;rcases h2 with h2|h2
   ·exact .inl (fun p hp=>by rw[hp]at h2;exact h2)
   ·exact .inr h2
  ·rw[if_neg (by rw[Nat.blt_eq];omega)]at h2;exact h2
 intro fuel
 induction fuel with
 |zero=>
  intro listed s a w E hsz hcl hS hf hun hrun hle;exfalso;have hr0:rest ops.size listed=[]:=List.eq_nil_of_length_eq_zero (by omega);have:=(hrest listed kk).2 ⟨hkkn,hun⟩;rw[hr0]at this;cases this
 |succ fuel ih=>
  intro listed s a w E hsz hcl hS hf hun hrun hle;have hkr:kk∈rest ops.size listed:=(hrest listed kk).2 ⟨hkkn,hun⟩;refine⟨fun hr=> ?_,fun i hi=> ?_⟩
  ·exfalso;have hr0:=hnil listed hsz hr;rw[hr0]at hkr;cases hkr
  ·obtain⟨hir,hipre⟩:=(hready listed i).1 hi;obtain⟨hin,hil⟩:=(hrest listed i).1 hir;obtain⟨o,ho⟩:∃o,ops[i]?=some o:=⟨_,Array.getElem?_eq_getElem hin⟩
   obtain⟨so,hso,hto⟩:=hspec i o (by simpa using ho);have hp0:(rest ops.size listed).Pairwise (·<·):=List.Pairwise.filter _ List.pairwise_lt_range;have hnl:∀j,j<ops.size→listed.getD j true=false→listed.getD j false=true→False:=by
    intro j hj h1 h2;have hlt:j<listed.size:=by omega
    simp[Array.getD,hlt]at h1 h2;rw[h1]at h2;cases h2
   have hapart:∀j,j<i→listed.getD j true=false→∀oa,sops[j]?=some oa→apart oa so=true:=by
    intro j hji hjl oa hoa;have hjn:j<ops.size:=by omega
    have hok2:=hok;unfold z103 at hok2;rw[Bool.and_eq_true]at hok2;have:=List.all_eq_true.1 (List.all_eq_true.1 hok2.1 i (by simp;omega)) j (by simpa using hji);unfold pairOk at this;rw[hoa,hso]at this;simp only[Bool.and_eq_true,Bool.not_true,Bool.false_or,Bool.or_eq_true]at this;rcases this.2 with h1|h1
    ·exact h1
    ·exact(hnl j hjn hjl (z142 hcl hsz 4 j i hipre h1)).elim
   rcases Nat.lt_trichotomy i kk with hlt|heq|hgt
   ·
    have hiA:i∈(rest ops.size listed).filter (fun i=>decide (i<kk)):=by simp[hir,hlt]
    obtain⟨A,Bl,hAB⟩:=List.append_of_mem hiA;have hpA:((rest ops.size listed).filter (fun i=>decide (i<kk))).Pairwise (·<·):=List.Pairwise.filter _ hp0;have hfA:FreshI sops ((rest ops.size listed).filter (fun i=>decide (i<kk))) s:=fun j hj=>hf j ((List.mem_filter.1 hj).1);have hnd:((rest ops.size listed).filter (fun i=>decide (i<kk))).Nodup:=hpA.imp (fun h=>Nat.ne_of_lt h);rw[hAB]at hpA hnd hfA hrun;have hA:∀j∈A,j<i:=fun j hj=>(List.pairwise_append.1 hpA).2.2 j hj i (List.mem_cons_self ..);obtain⟨s1,hs1,hrun1⟩:=swap_front hmk hso A s hnd (fun j hj oa hoa=>by
     have hjr:j∈(rest ops.size listed).filter (fun i=>decide (i<kk)):=by rw[hAB];exact List.mem_append_left _ hj
     exact hapart j (hA j hj) ((hrest listed j).1 ((List.mem_filter.1 hjr).1)).2 oa hoa) hfA hrun
    obtain⟨C1,hC1,hst1⟩:=hs1;have hs1:Stp P g so s s1:=⟨C1,hC1,hst1⟩
    refine sim_step hm0 hN hG hX hC1 hS ho hto (hf i hir so hso) hst1 (fun a' w' E' hS'=> ?_);have hilt:i<listed.size:=by omega
    have hrest':rest ops.size (listed.setIfInBounds i true)=(rest ops.size listed).filter (fun j=>j !=i):=by
     unfold rest;rw[List.filter_filter];apply List.filter_congr;intro j hj;have hjn:j<ops.size:=by simpa using hj
     have hjl:j<listed.size:=by omega
     by_cases hji:j=i
     ·subst hji;simp[Array.getD,hjl]
     ·simp[Array.getD,hjl,hji,Array.getElem_setIfInBounds,Ne.symm hji]
    have hiAB:i∉A++Bl:=by
     have:=List.nodup_append.1 hnd;intro hm;rcases List.mem_append.1 hm with h1|h1
     ·exact this.2.2 i h1 i (List.mem_cons_self ..) rfl
     ·exact(List.nodup_cons.1 this.2.1).1 h1
    have hfil:((rest ops.size listed).filter (fun j=>j !=i)).filter (fun i=>decide (i<kk))=A++Bl:=by
     rw[List.filter_filter];have:(rest ops.size listed).filter (fun a=>decide (a<kk)&&(a !=i))=((rest ops.size listed).filter (fun i=>decide (i<kk))).filter (fun j=>j !=i):=by
      rw[List.filter_filter];apply List.filter_congr;intro j _;exact Bool.and_comm _ _
     rw[this,hAB,List.filter_append,List.filter_cons];simp only[bne_self_eq_false,Bool.false_eq_true,if_false];rw[List.filter_eq_self.2,List.filter_eq_self.2]
     ·intro j hj;simp;rintro rfl;exact hiAB (List.mem_append_right _ hj)
     ·intro j hj;simp;rintro rfl;exact hiAB (List.mem_append_left _ hj)
    refine ih (listed.setIfInBounds i true) s1 a' w' E' (by simpa using hsz) ?_ hS' ?_ ?_ (by rw[hrest',hfil];exact hrun1) ?_
    ·intro j oj hj hjl e he hb;have hset:∀k,listed.getD k false=true→(listed.setIfInBounds i true).getD k false=true:=by
      intro k hk;have hkl:k<listed.size:=by
       rcases Nat.lt_or_ge k listed.size with h1|h1
       ·exact h1
       ·simp[Array.getD,Nat.not_lt.2 h1]at hk
      by_cases hki:i=k
      ·subst hki;simp[Array.getD,hkl]
      ·rw[Array.getD_eq_getD_getElem?,Array.getElem?_setIfInBounds_ne hki,←Array.getD_eq_getD_getElem?];exact hk
     by_cases hji:j=i
     ·subst hji;exact hset _ (hipre oj hj e he hb)
     ·refine hset _ (hcl j oj hj ?_ e he hb);have hjn:j<listed.size:=by rw[hsz];exact(gA hj).1
      simp[Array.getD,hjn,Array.getElem_setIfInBounds,Ne.symm hji]at hjl;simp[Array.getD,hjn,hjl]
    ·rw[hrest'];refine z91 hmk hso (by simp) (fun j hj=>hf j ((List.mem_filter.1 hj).1)) hs1
    ·have hkl:kk<listed.size:=by omega
     have hne:i≠kk:=by omega
     rw[Array.getD_eq_getD_getElem?,Array.getElem?_setIfInBounds_ne hne,←Array.getD_eq_getD_getElem?];exact hun
    ·rw[hrest'];have h1:((rest ops.size listed).filter (fun j=>j !=i)).length<(rest ops.size listed).length:=by
      refine List.length_filter_lt_length_iff_exists.2 ⟨i,hir,by simp⟩
     omega
   ·
    subst heq;rw[hkk]at hso;cases hso;obtain⟨q1,q2,q3,q4,q5⟩:=quiet_run (o:=ok) _ s (fun j hj oa hoa=>by
     have hjr:=(List.mem_filter.1 hj).1;have hji:j<i:=by simpa using(List.mem_filter.1 hj).2
     obtain⟨hjn,hjl⟩:=(hrest listed j).1 hjr;refine⟨?_,hapart j hji hjl oa hoa⟩;rcases(hpk j hjn (by omega)).1 hji with h1|h1
     ·exact h1 oa hoa
     ·exact(hnl j hjn hjl (z142 hcl hsz 4 j i hipre h1)).elim) hrun
    have hp':PanG P g ok s z u:=panG_congr q1 q2 q4 hp;exact sim_pan hm0 hG hX hS ho hto (hf i hir ok hkk) hp' (fun w' E' hS'=>hQ s a w' E' q1.symm q2.symm q3.symm (fun j hj=>(q5 j hj).symm) hS')
   ·exact(hnl kk hkkn hun (z142 hcl hsz 4 kk i hipre ((hpk i hin (by omega)).2 hgt))).elim
end
def lk{α:Type}:List (Nat×α)→Nat→Option α
 |[],_=>none
 |(k,x)::l,d=>match Nat.beq k d with|true=>some x|false=>lk l d
def sv{α:Type}:List (Nat×α)→Nat→α→List (Nat×α)
 |[],k,x=>[(k,x)]
 |(j,y)::l,k,x=>match Nat.beq j k with|true=>(k,x)::l|false=>(j,y)::sv l k x
def has:List Nat→Nat→Bool
 |[],_=>false
 |k::l,d=>match Nat.beq k d with|true=>true|false=>has l d
def drp{α:Type}(ids:List Nat):List (Nat×α)→List (Nat×α)
 |[]=>[]
 |(k,x)::l=>match has ids k with|true=>drp ids l|false=>(k,x)::drp ids l
theorem lk_sv{α:Type}(k:Nat)(x:α):∀l:List (Nat×α),lk (sv l k x)=setF (lk l) k x
 |[]=>by
  grind [only,sv,lk,setF,Nat.beq_refl,Nat.beq,Nat.eq_of_beq_eq_true]
 |(j,y)::l=>by
  have ih:=lk_sv k x l;funext d;simp only[sv];cases hj:Nat.beq j k with
  |true=>
   grind [Nat.eq_of_beq_eq_true,only,lk,setF,Nat.beq_refl,Nat.beq]
  |false=>
   have hne:j≠k:=by grind [Nat.beq_refl]
   simp only[lk,ih,setF]
   grind
theorem has_mem:∀{l:List Nat} {d:Nat},has l d=true ↔ d∈l
 |[],d=>by simp[has]
 |k::l,d=>by
  simp only[has];cases hb:Nat.beq k d with
  |true=>simp_all
  |false=>
   have:d≠k:=by grind [Nat.beq_refl]
   simp[this,has_mem]
theorem lk_drp{α:Type}{ids:List Nat}:∀(l:List (Nat×α)) (d:Nat),lk (drp ids l) d=if has ids d then none else lk l d
 |[],d=>by simp[drp,lk]
 |(k,x)::l,d=>by
  have ih:=lk_drp (ids:=ids) l d
  grind [only,drp,has,lk,Nat.beq,Nat.eq_of_beq_eq_true]
theorem lk_map{α:Type}(f:α→α):∀(l:List (Nat×α)) (d:Nat),lk (l.map fun e=>(e.1,f e.2)) d=(lk l d).map f
 |[],d=>rfl
 |(k,x)::l,d=>by
  simp only[List.map_cons,lk];cases Nat.beq k d with
  |true=>rfl
  |false=>exact lk_map f l d
structure ES where
 t:List (Nat×TV)
 b:List (Nat×List TV)
 r:List (Nat×(Nat×Nat×Nat))
 i:List (Nat×(ByteArray×Nat))
def ES.fs(s:ES):FS:=⟨lk s.t,lk s.b,lk s.r,lk s.i⟩
def putMem(us:List (Nat×MO))(s:ES):List Nat→ES
 |[]=>s
 |i::l=>match us.lookup i with
  |some (.box cs)=>let s':=putMem us s l;{ s' with b:=sv s'.b i cs }
  |some (.row e W n)=>let s':=putMem us s l;{ s' with r:=sv s'.r i (e,W,n) }
  |none=>putMem us s l
def ES.upd(s:ES)(dst:Option Nat):Upd→ES
 | .no=>s
 | .box cs=>match dst with|some d=>{ s with b:=sv s.b d cs }|none=>s
 | .wr d cs=>{ s with b:=sv s.b d cs }
 | .row d q=>{ s with r:=sv s.r d q }
 | .mem us=>putMem us s (us.map (·.1))
 | .it d q=>{ s with i:=sv s.i d q }
def ES.put(s:ES)(dst:Option Nat)(x:TV):ES:=match dst with|some k=>{ s with t:=sv s.t k x }|none=>s
def ES.after(s:ES)(o:SOper)(e:TV×Upd):ES:=(s.upd o.dst e.2).put o.dst e.1
theorem putMem_spec(us:List (Nat×MO))(s:ES):∀l:List Nat,(putMem us s l).t=s.t∧(putMem us s l).i=s.i∧(∀d,lk (putMem us s l).b d=if d∈l then memB us (lk s.b) d else lk s.b d)∧(∀d,lk (putMem us s l).r d=if d∈l then memR us (lk s.r) d else lk s.r d)
 |[]=>by simp[putMem]
 |i::l=>by
  obtain⟨h1,h2,h3,h4⟩:=putMem_spec us s l;simp only[putMem];cases hm:us.lookup i with
  |none=>
   grind [memB,memR]
  |some m=>
   cases m with
   |box cs=>
    refine⟨h1,h2,fun d=> ?_,fun d=> ?_⟩
    ·simp only[lk_sv,setF,h3]
     grind [memB]
    ·grind [only,memR]
   |row e W n=>
    refine⟨h1,h2,fun d=> ?_,fun d=> ?_⟩
    ·grind [only,memB]
    ·simp only[lk_sv,setF,h4]
     grind [memR]
theorem lookup_none{us:List (Nat×MO)}{d:Nat}(h:d∉us.map (·.1)):us.lookup d=none:=by
 grind
theorem ES.upd_fs(s:ES)(dst:Option Nat)(u:Upd):(s.upd dst u).fs=s.fs.upd dst u:=by
 cases u with
 |no=>rfl
 |box cs=>
  cases dst<;>grind [only,ES.upd,ES.fs,FS.upd,FS.setB,lk_sv]
 |wr d cs=>simp only[ES.upd,ES.fs,FS.upd,FS.setB,lk_sv]
 |row d q=>simp only[ES.upd,ES.fs,FS.upd,FS.setR,lk_sv]
 |it d q=>simp only[ES.upd,ES.fs,FS.upd,FS.setI,lk_sv]
 |mem us=>
  obtain⟨h1,h2,h3,h4⟩:=putMem_spec us s (us.map (·.1));simp only[ES.upd,ES.fs,FS.upd];refine FS.ext' (fun k=> ?_) (fun k=> ?_) (fun k=> ?_) (fun k=> ?_)
  ·simp[h1]
  ·grind [only,memB,lookup_none]
  ·grind [only,memR,lookup_none]
  ·simp[h2]
theorem ES.put_fs(s:ES)(dst:Option Nat)(x:TV):(s.put dst x).fs=s.fs.put dst x:=by
 cases dst<;>grind [only,ES.put,ES.fs,FS.put,FS.setT,lk_sv]
theorem ES.after_fs(s:ES)(o:SOper)(e:TV×Upd):(s.after o e).fs=s.fs.after o e:=by
 unfold ES.after FS.after;rw[ES.put_fs,ES.upd_fs]
def TV.m0(ids:List Nat):TV→Bool
 | .pv _| .unk=>false
 | .ptr d _| .own d _ _| .bs d _ _ _| .it d=>has ids d
 |_=>true
def TV.mF(ids:List Nat):TV→Bool
 | .fn _ a b=>a.any (TV.m0 ids)||b.any (TV.m0 ids)
 |t=>t.m0 ids
def TV.mE(ids:List Nat):TV→Bool
 | .agg cs=>cs.any (TV.mF ids)
 |t=>t.mF ids
def TV.m1(ids:List Nat):TV→Bool
 | .mp _ xs=>xs.any (TV.mE ids)
 |t=>t.mF ids
def TV.m2(ids:List Nat):TV→Bool
 | .agg cs=>cs.any (TV.m1 ids)
 |t=>t.m1 ids
def TV.m3(ids:List Nat):TV→Bool
 | .tuple cs=>cs.any (TV.m2 ids)
 |t=>t.m2 ids
theorem m0_ment{ids:List Nat}{t:TV}{d:Nat}(h:t.m0 ids=false)(hd:d∈ids):¬Ment d t:=by
 intro hm;cases hm<;>simp only[TV.m0]at h
 all_goals first|(rw[has_mem.2 hd]at h;cases h)|cases h
theorem mF_ment{ids:List Nat}{t:TV}{d:Nat}(h:t.mF ids=false)(hd:d∈ids):¬Ment d t:=by
 cases t with
 |fn f a b=>
  intro hm;simp only[TV.mF,Bool.or_eq_false_iff,List.any_eq_false]at h;cases hm<;>grind [m0_ment]
 |_=>exact m0_ment h hd
theorem mE_ment{ids:List Nat}{t:TV}{d:Nat}(h:t.mE ids=false)(hd:d∈ids):¬Ment d t:=by
 cases t with
 |agg cs=>
  intro hm;simp only[TV.mE,List.any_eq_false]at h;cases hm<;>grind [mF_ment]
 |_=>exact mF_ment h hd
theorem m1_ment{ids:List Nat}{t:TV}{d:Nat}(h:t.m1 ids=false)(hd:d∈ids):¬Ment d t:=by
 cases t with
 |mp ks xs=>
  intro hm;simp only[TV.m1,List.any_eq_false]at h;cases hm<;>grind [mE_ment]
 |_=>exact mF_ment h hd
theorem m2_ment{ids:List Nat}{t:TV}{d:Nat}(h:t.m2 ids=false)(hd:d∈ids):¬Ment d t:=by
 cases t with
 |agg cs=>
  intro hm;simp only[TV.m2,List.any_eq_false]at h;cases hm<;>grind [m1_ment]
 |_=>exact m1_ment h hd
theorem m3_ment{ids:List Nat}{t:TV}{d:Nat}(h:t.m3 ids=false)(hd:d∈ids):¬Ment d t:=by
 cases t with
 |tuple cs=>
  intro hm;simp only[TV.m3,List.any_eq_false]at h;cases hm<;>grind [m2_ment]
 |_=>exact m2_ment h hd
def fgt3(ids:List Nat)(x:TV):TV:=match x.m3 ids with|true=> .unk|false=>x
def ES.fgt(s:ES)(ids:List Nat):ES:=
 ⟨s.t.map fun e=>(e.1,fgt3 ids e.2),(drp ids s.b).map fun e=>(e.1,e.2.map (fgt3 ids)),drp ids s.r,drp ids s.i⟩
theorem fgt3_cases(ids:List Nat)(x:TV):fgt3 ids x=x∨fgt3 ids x=.unk:=by
 grind [fgt3]
theorem fgt3_ment{ids:List Nat}{x:TV}{d:Nat}(hd:d∈ids):¬Ment d (fgt3 ids x):=by
 unfold fgt3;cases h:x.m3 ids with
 |true=>intro hm;cases hm
 |false=>exact m3_ment h hd
theorem fgt_b(s:ES)(ids:List Nat)(d:Nat):(s.fgt ids).fs.b d=if has ids d then none else(lk s.b d).map fun cs=>cs.map (fgt3 ids):=by
 show lk ((drp ids s.b).map fun e=>(e.1,e.2.map (fgt3 ids))) d=_;rw[lk_map (fun cs:List TV=>cs.map (fgt3 ids)) (drp ids s.b) d,lk_drp]
 grind
theorem z74{B:Base}{s:ES}{a:Act}{w:World}{E:Env}(h:Sim B s.fs a w E)(ids:List Nat):Sim B (s.fgt ids).fs a w E:=by
 refine h.less (fun k x hx=> ?_) (fun d cs' hd=> ?_) (fun d q hd=> ?_) (fun d q hd=> ?_)
 ·have hx:lk (s.t.map fun e=>(e.1,fgt3 ids e.2)) k=some x:=hx;rw[lk_map (fgt3 ids)]at hx;obtain⟨y,h1,rfl⟩:=gO hx;rcases fgt3_cases ids y with e|e
  ·rw[e];exact .inl h1
  ·exact .inr ⟨e,y,h1⟩
 ·rw[fgt_b]at hd;split at hd
  ·cases hd
  ·obtain⟨cs,h1,rfl⟩:=gO hd;refine⟨cs,h1,fun j c hc=> ?_⟩
   grind [Option.map_eq_some_iff,fgt3_cases]
 ·have hd:lk (drp ids s.r) d=some q:=hd;rw[lk_drp]at hd;split at hd
  ·cases hd
  ·exact hd
 ·have hd:lk (drp ids s.i) d=some q:=hd;rw[lk_drp]at hd;split at hd
  ·cases hd
  ·exact hd
theorem z57(s:ES){ids:List Nat}{d:Nat}(hd:d∈ids):Fresh (s.fgt ids).fs d:=by
 have hh:=has_mem.2 hd;refine⟨?_,by rw[fgt_b,hh];rfl,by show lk (drp ids s.r) d=none;rw[lk_drp,hh];rfl,by show lk (drp ids s.i) d=none;rw[lk_drp,hh];rfl⟩;rintro(⟨k,x,hx,hm⟩|⟨e,cs,c,he,hc,hm⟩)
 ·have hx:lk (s.t.map fun e=>(e.1,fgt3 ids e.2)) k=some x:=hx;rw[lk_map (fgt3 ids)]at hx
  grind [Option.map_eq_some_iff,fgt3_ment]
 ·grind [fgt_b,Option.map_eq_some_iff,fgt3_ment]
def ES.kill(s:ES)(ks:List Nat):ES:=match ks with|[]=>s|_=>{ s with t:=drp ks s.t }
theorem z164{B:Base}{s:ES}{a:Act}{w:World}{E:Env}(h:Sim B s.fs a w E)(ks:List Nat):Sim B (s.kill ks).fs a w E:=by
 unfold ES.kill;split
 ·exact h
 ·refine h.less (fun k x hx=> .inl ?_) (fun d cs hd=>⟨cs,hd,fun j c hc=> .inl hc⟩) (fun d q hd=>hd) (fun d q hd=>hd);have hx:lk (drp ks s.t) k=some x:=hx;rw[lk_drp]at hx;split at hx
  ·cases hx
  ·exact hx
def runE(P:Program)(C:Oracle):List SOper→ES→Option ES
 |[],s=>some s
 |o::l,s=>match effG P C o s.fs with
  |some e=>runE P C l (s.after o e)
  |none=>none
def opsW(P:Program)(g:Glob):List SOper→(ES→Prop)→ES→Prop
 |[],K,s=>K s
 |o::l,K,s=>∃C,SoundC P g C∧∃e,effG P C o s.fs=some e∧opsW P g l K (s.after o e)
theorem z169{P:Program}{g:Glob}{sops:List SOper}{K:ES→Prop}:∀{l:List SOper} {j:Nat} {s:ES},sops.drop j=l→opsW P g l K s→∃s',RunI P g sops (List.range' j l.length) s.fs s'.fs∧K s'
 |[],j,s,_,h=>⟨s,rfl,h⟩
 |o::l,j,s,hd,h=>by
  obtain⟨C,hC,e,he,h⟩:=h;have hj:sops[j]?=some o:=by
   have:=congrArg (·[0]?) hd
   grind
  have hd':sops.drop (j+1)=l:=by
   have:=congrArg (List.drop 1) hd
   grind [List.drop_drop,Nat.add_comm]
  obtain⟨s',h1,h2⟩:=z169 hd' h;refine⟨s',⟨o,s.fs.after o e,hj,⟨C,hC,by unfold step;rw[he];rfl⟩,?_⟩,h2⟩
  grind [ES.after_fs]
section
variable{P:Program}{H:Option Nat→Nat}{ops:Array Oper}{B:Base}{sops:List SOper}{g:Glob}{draw:Bool}{id:Nat}
theorem region_sound(hmix:P.follows .mixedOrders=true)(hm0:B.m≤1000)(hN:B.N≤1000)(hG:g.G B.w0)(hX:∀d b,B.X d b→g.n≤b){fps:Nat→Option Nat}(htr:z39 P B.N H fps ops draw=some sops){s:ES}{K:ES→Prop}
  (hf:∀d∈sops.flatMap SOper.news,Fresh s.fs d) (h:opsW P g sops K s) {a:Act} {w:World} {E:Env} (hS:Sim B s.fs a w E) {Q:Exit→Act→World→Prop} (hQ:∀s' a' w' E',K s'→Sim B s'.fs a' w' E'→Q .normal a' w'):
  (Code.region id ops draw).wp P Q a w:=by
 unfold z39 at htr;split at htr<;>try(cases htr;done)
 rename_i sops' hseq;split at htr<;>try(cases htr;done)
 rename_i hok;cases htr;obtain⟨s',hrun,hK⟩:=z169 (sops:=sops) (l:=sops) (j:=0) rfl h;obtain⟨hlen,hspec⟩:=z71 hseq;have hlen':ops.size=sops.length:=by omega
 have hfi:∀l,FreshI sops l s.fs:=fun l i _ o ho d hd=>hf d (List.mem_flatMap.2 ⟨o,gM ho,hd⟩);have hmk:=mkAll_of hok;rw[←List.range_eq_range',←hlen']at hrun;cases draw with
 |false=>
  refine wp_region ?_;have key:∀(l:List Nat) (s:FS) (a:Act) (w:World) (E:Env),l.Nodup→Sim B s a w E→FreshI sops l s→RunI P g sops l s s'.fs→wpOps P ops Q l a w:=by
   intro l
   induction l with
   |nil=>intro s a w E _ hS _ hr;have hr:s=s'.fs:=hr;subst hr;exact hQ s' a w E hK hS
   |cons i l ih=>
    intro s a w E hnd hS hf hr;obtain⟨o,s1,ho,⟨C,hC,hst⟩,hr⟩:=hr;have hil:i<ops.size:=by grind
    have hoi:ops[i]?=some ops[i]:=Array.getElem?_eq_getElem hil;obtain⟨so,hso,hto⟩:=hspec i ops[i] (by simp[hil]);rw[ho]at hso;cases hso;rw[wpOps_cons];refine sim_step hm0 hN hG hX hC hS hoi hto (hf i (List.mem_cons_self ..) o ho) hst (fun a' w' E' hS'=> ?_);exact ih s1 a' w' E' (List.nodup_cons.1 hnd).2 hS' (z91 hmk ho (List.nodup_cons.1 hnd).1 (fun j hj=>hf j (List.mem_cons_of_mem _ hj)) ⟨C,hC,hst⟩) hr
  grind
 |true=>
  refine wp_region_any hmix ?_;have hrest:rest ops.size (Array.replicate ops.size false)=List.range ops.size:=by
   unfold rest;simp_all
  refine any_sound hm0 hN hG hX hseq hok (sf:=s'.fs) (fun a w E hS=>hQ s' a w E hK hS) ops.size _ s.fs a _ E (by simp) (fun i o ho hl=> ?_) (hS.same (Below.refl _ _).drew) (hfi _) (by rw[hrest];exact hrun) (by rw[hrest];simp);have hil:=(gA ho).1;simp_all
end
def opsP(P:Program)(g:Glob)(D:List Nat):List SOper→(Value→ES→Prop)→ES→Prop
 |[],_,_=>False
 |o::l,R,s=>(mayPan o.op=true∧∃z u,PanG P g o s.fs z u∧R z ((s.upd o.dst u).kill D))∨∃C,SoundC P g C∧∃e,effG P C o s.fs=some e∧opsP P g D l R (s.after o e)
theorem runI_of_opsP{P:Program}{g:Glob}{D:List Nat}{sops:List SOper}{R:Value→ES→Prop}:∀{l:List SOper} {j:Nat} {s:ES},sops.drop j=l→opsP P g D l R s→
  ∃(k:Nat) (o:SOper) (sk:ES) (z:Value) (u:Upd),j≤k∧sops[k]?=some o∧mayPan o.op=true∧RunI P g sops (List.range' j (k-j)) s.fs sk.fs∧PanG P g o sk.fs z u∧R z ((sk.upd o.dst u).kill D)
 |[],j,s,_,h=>h.elim
 |o::l,j,s,hd,h=>by
  have hj:sops[j]?=some o:=by
   have:=congrArg (·[0]?) hd
   grind
  rcases h with⟨h1,z,u,h2,h3⟩|⟨C,hC,e,he,h⟩
  ·exact⟨j,o,s,z,u,Nat.le_refl _,hj,h1,by rw[Nat.sub_self];exact rfl,h2,h3⟩
  ·have hd':sops.drop (j+1)=l:=by
    have:=congrArg (List.drop 1) hd
    grind [List.drop_drop,Nat.add_comm]
   obtain⟨k,o',sk,z,u,a1,a2,a3,a4,a5,a6⟩:=runI_of_opsP hd' h;refine⟨k,o',sk,z,u,by omega,a2,a3,?_,a5,a6⟩;have:k-j=(k-(j+1))+1:=by omega
   rw[this,List.range'_succ];exact⟨o,s.fs.after o e,hj,⟨C,hC,by unfold step;rw[he];rfl⟩,by rw[←ES.after_fs];exact a4⟩
theorem kill_t{s:ES}{ks:List Nat}{k:Nat}{x:TV}(h:lk (s.kill ks).t k=some x):k∉ks∧lk s.t k=some x:=by
 unfold ES.kill at h
 grind [lk,drp,lk_drp,has_mem]
theorem kill_bri(s:ES)(ks:List Nat):(s.kill ks).b=s.b∧(s.kill ks).r=s.r∧(s.kill ks).i=s.i:=by
 unfold ES.kill
 grind
def dstOps(l:List SOper):List Nat:=l.filterMap (·.dst)
section
variable{P:Program}{H:Option Nat→Nat}{ops:Array Oper}{B:Base}{sops:List SOper}{g:Glob}{draw:Bool}{id:Nat}
theorem upd_of_eq{s1 sk:FS}(hb:s1.b=sk.b)(hr:s1.r=sk.r)(hi:s1.i=sk.i)(dst:Option Nat)(u:Upd):(s1.upd dst u).b=(sk.upd dst u).b∧(s1.upd dst u).r=(sk.upd dst u).r∧(s1.upd dst u).i=(sk.upd dst u).i:=
 ⟨funext fun d=>by rw[upd_b,upd_b,hb],funext fun d=>by rw[upd_r,upd_r,hr],funext fun d=>by rw[upd_i,upd_i,hi]⟩
theorem region_pan(hmix:P.follows .mixedOrders=true)(hm0:B.m≤1000)(hN:B.N≤1000)(hG:g.G B.w0)(hX:∀d b,B.X d b→g.n≤b){fps:Nat→Option Nat}(htr:z39 P B.N H fps ops draw=some sops)(hpo:draw=true→panOk ops sops=true){s:ES}{R:Value→ES→Prop}
  (hf:∀d∈sops.flatMap SOper.news,Fresh s.fs d) (h:opsP P g (dstOps sops) sops R s) {a:Act} {w:World} {E:Env} (hS:Sim B s.fs a w E) {Q:Exit→Act→World→Prop} (hQ:∀z s' a' w' E',R z s'→Sim B s'.fs a' w' E'→Q (.panic [{ v:=z,recovered:=false }]) a' w'):
  (Code.region id ops draw).wp P Q a w:=by
 unfold z39 at htr;split at htr<;>try(cases htr;done)
 rename_i sops' hseq;split at htr<;>try(cases htr;done)
 rename_i hok;cases htr;obtain⟨k,o,sk,z,u,_,hk,hmay,hrun,hp,hR⟩:=runI_of_opsP (sops:=sops) (l:=sops) (j:=0) rfl h;obtain⟨hlen,hspec⟩:=z71 hseq;have hlen':ops.size=sops.length:=by omega
 have hkn:k<sops.length:=(gJ hk).1;have hfi:∀l,FreshI sops l s.fs:=fun l i _ o ho d hd=>hf d (List.mem_flatMap.2 ⟨o,gM ho,hd⟩);have hmk:=mkAll_of hok;rw[Nat.sub_zero,←List.range_eq_range']at hrun;have fin:∀(s1:FS) a w E,s1.b=sk.fs.b→s1.r=sk.fs.r→s1.i=sk.fs.i→(∀j,(∀o'∈sops,o'.dst≠some j)→s1.t j=sk.fs.t j)→Sim B (s1.upd o.dst u) a w E→Q (.panic [{ v:=z,recovered:=false }]) a w:=by
  intro s1 a w E e1 e2 e3 e4 hS1;refine hQ z _ a w E hR ?_;obtain⟨u1,u2,u3⟩:=upd_of_eq e1 e2 e3 o.dst u;obtain⟨k1,k2,k3⟩:=kill_bri (sk.upd o.dst u) (dstOps sops);have hfs:(sk.upd o.dst u).fs=sk.fs.upd o.dst u:=ES.upd_fs _ _ _;refine hS1.less (fun j x hx=> .inl ?_) (fun d cs hd=>⟨cs,?_,fun j c hc=> .inl hc⟩) (fun d q hd=> ?_) (fun d q hd=> ?_)
  ·obtain⟨h1,h2⟩:=kill_t hx;have h2:(sk.upd o.dst u).fs.t j=some x:=h2;rw[hfs,upd_t]at h2;rw[upd_t,e4 j (fun o' ho' hd=>h1 (List.mem_filterMap.2 ⟨o',ho',hd⟩))];exact h2
  ·have hd:lk ((sk.upd o.dst u).kill (dstOps sops)).b d=some cs:=hd;rw[k1]at hd;have hd:(sk.upd o.dst u).fs.b d=some cs:=hd
   grind
  ·have hd:lk ((sk.upd o.dst u).kill (dstOps sops)).r d=some q:=hd;rw[k2]at hd;have hd:(sk.upd o.dst u).fs.r d=some q:=hd
   grind
  ·have hd:lk ((sk.upd o.dst u).kill (dstOps sops)).i d=some q:=hd;rw[k3]at hd;have hd:(sk.upd o.dst u).fs.i d=some q:=hd
   grind
 cases draw with
 |false=>
  refine wp_region ?_;have key:∀(l:List Nat) (s:FS) (a:Act) (w:World) (E:Env) (r:List Nat),(l++k::r).Nodup→Sim B s a w E→FreshI sops (l++k::r) s→RunI P g sops l s sk.fs→wpOps P ops Q (l++k::r) a w:=by
   intro l
   induction l with
   |nil=>
    intro s a w E r hnd hS hf hr;have hr:s=sk.fs:=hr;subst hr;have hil:k<ops.size:=by omega
    have hoi:ops[k]?=some ops[k]:=Array.getElem?_eq_getElem hil;obtain⟨so,hso,hto⟩:=hspec k ops[k] (by simp[hil]);rw[hk]at hso;cases hso;rw[List.nil_append,wpOps_cons];exact sim_pan hm0 hG hX hS hoi hto (hf k (by simp) o hk) hp (fun w' E' hS'=>fin sk.fs a w' E' rfl rfl rfl (fun _ _=>rfl) hS')
   |cons i l ih=>
    intro s a w E r hnd hS hf hr;obtain⟨oi,s1,ho,⟨C,hC,hst⟩,hr⟩:=hr;have hil:i<ops.size:=by grind
    have hoi:ops[i]?=some ops[i]:=Array.getElem?_eq_getElem hil;obtain⟨so,hso,hto⟩:=hspec i ops[i] (by simp[hil]);rw[ho]at hso;cases hso;rw[List.cons_append]at hnd hf ⊢;rw[wpOps_cons];refine sim_step hm0 hN hG hX hC hS hoi hto (hf i (List.mem_cons_self ..) oi ho) hst (fun a' w' E' hS'=> ?_);exact ih s1 a' w' E' r (List.nodup_cons.1 hnd).2 hS' (z91 hmk ho (List.nodup_cons.1 hnd).1 (fun j hj=>hf j (List.mem_cons_of_mem _ hj)) ⟨C,hC,hst⟩) hr
  have hsplit:List.range ops.size=List.range k++k::List.range' (k+1) (ops.size-(k+1)):=by
   have:ops.size=k+1+(ops.size-(k+1)):=by omega
   conv=>lhs;rw[this]
   rw[List.range_add,List.range_succ,List.append_assoc];congr 1;rw[List.singleton_append,List.range'_eq_map_range]
  grind
 |true=>
  refine wp_region_any hmix ?_;have hrest:rest ops.size (Array.replicate ops.size false)=List.range ops.size:=by
   unfold rest;simp_all
  have hfil:(List.range ops.size).filter (fun i=>decide (i<k))=List.range k:=by
   have:ops.size=k+(ops.size-k):=by omega
   rw[this,List.range_add,List.filter_append,List.filter_eq_self.2 (by intro i hi;simpa using hi),List.filter_eq_nil_iff.2,List.append_nil];simp
  refine any_pan hm0 hN hG hX hseq hok (hpo rfl) hk hmay hp fin ops.size _ s.fs a _ E (by simp) (fun i o ho hl=> ?_) (hS.same (Below.refl _ _).drew) (hfi _) ?_ (by rw[hrest,hfil];exact hrun) (by rw[hrest];simp)
  ·have hil:=(gA ho).1;simp_all
  ·simp_all
end
inductive SCode where
 |skip
 |regq (alts:List (List Nat×List SOper)) (kill:List Nat)
 |raw (N:Nat) (c:Code)
 |reg (alts:List (List Nat×List SOper)) (kill:List Nat)
 |seq (a b:SCode)
 |cond (c:Arg) (a b:SCode)
 |block (id:Nat) (a:SCode)
 |loop (a:SCode)
 |exit (id:Nat)
 |ret
inductive SExit where
 |normal
 |exit (id:Nat)
 |ret
 |pan (z:Value)
def SExit.to:SExit→Exit
 | .normal=> .normal
 | .exit id=> .exit id
 | .ret=> .ret
 | .pan z=> .panic [{ v:=z,recovered:=false }]
def hasApp(ops:Array Oper):Bool:=ops.any fun o=>match o.op with| .call { callee:=.builtin .append, .. }=>true|_=>false
def z112(P:Program)(N:Nat)(ops:Array Oper)(draw:Bool):List ((Option Nat→Nat)×(Nat→Option Nat))→List (List Nat×List SOper)
 |[]=>[]
 |H::r=>match z39 P N H.1 H.2 ops draw with
  |some l=>(l.flatMap SOper.news,l)::z112 P N ops draw r
  |none=>z112 P N ops draw r
def z124(P:Program)(N:Nat)(ops:Array Oper)(draw:Bool):List ((Option Nat→Nat)×(Nat→Option Nat))→List (List Nat×List SOper)
 |[]=>[]
 |H::r=>match z39 P N H.1 H.2 ops draw with
  |some l=>if !draw||panOk ops l then(l.flatMap SOper.news,l)::z124 P N ops draw r else z124 P N ops draw r
  |none=>z124 P N ops draw r
def altsOf(H:Nat→Option Nat→Nat)(Fs:List (Nat→Option Nat))(app:Bool):List ((Option Nat→Nat)×(Nat→Option Nat)):=
 Fs.flatMap fun F=>if app then [(H 0,F),(H 1,F)] else [(H 0,F)]
def z15(P:Program)(N:Nat)(H:Nat→Option Nat→Nat)(Fp:Nat→List (Nat→Option Nat))(K:Nat→List Nat):Code→Option SCode
 | .skip=>some .skip
 | .region id ops draw=>match has (K id) 9999 with
  |true=>some (.regq (z124 P N ops draw (altsOf H (Fp id) (hasApp ops))) (K id))
  |false=>match has (K id) 9998 with
   |true=>some (.raw N (.region id ops draw))
   |false=>some (.reg (z112 P N ops draw (altsOf H (Fp id) (hasApp ops))) (K id))
 | .rangeFunc a b c d=>some (.raw N (.rangeFunc a b c d))
 | .seq a b=>match z15 P N H Fp K a,z15 P N H Fp K b with
  |some a',some b'=>some (.seq a' b')
  |_,_=>none
 | .cond c a b=>match z15 P N H Fp K a,z15 P N H Fp K b with
  |some a',some b'=>some (.cond (Arg.of c) a' b')
  |_,_=>none
 | .block id a=>(z15 P N H Fp K a).map (.block id)
 | .loop a=>(z15 P N H Fp K a).map .loop
 | .exit id=>some (.exit id)
 | .ret=>some .ret
 |_=>none
def leL{α:Type}:List (Nat×α)→List (Nat×α)→Prop
 |[],_=>True
 |(k,x)::r,l=>lk l k=some x∧leL r l
structure ES.Le(s0 s:ES):Prop where
 t:∀k x,lk s0.t k=some x→lk s.t k=some x
 b:∀k x,lk s0.b k=some x→lk s.b k=some x
 r:∀k x,lk s0.r k=some x→lk s.r k=some x
 i:∀k x,lk s0.i k=some x→lk s.i k=some x
theorem ES.Le.refl(s:ES):s.Le s:=⟨fun _ _ h=>h,fun _ _ h=>h,fun _ _ h=>h,fun _ _ h=>h⟩
theorem leL_lk{α:Type}{l:List (Nat×α)}:∀{l0:List (Nat×α)},leL l0 l→∀{k:Nat} {x:α},lk l0 k=some x→lk l k=some x
 |[],_,k,x,h=>by simp[lk]at h
 |(j,y)::r,⟨h1,h2⟩,k,x,h=>by
  simp only[lk]at h;split at h
  ·simp_all
  ·exact leL_lk h2 h
theorem le_of{s0 s:ES}(h1:leL s0.t s.t)(h2:leL s0.b s.b)(h3:leL s0.r s.r)(h4:leL s0.i s.i):s0.Le s:=⟨fun _ _ h=>leL_lk h1 h,fun _ _ h=>leL_lk h2 h,fun _ _ h=>leL_lk h3 h,fun _ _ h=>leL_lk h4 h⟩
theorem le_sound{B:Base}{s0 s:ES}{a:Act}{w:World}{E:Env}(hle:s0.Le s)(h:Sim B s.fs a w E):Sim B s0.fs a w E:=
 h.less (fun k x hx=> .inl (hle.t k x hx)) (fun d cs hd=>⟨cs,hle.b d cs hd,fun j c hc=> .inl hc⟩) (fun d q hd=>hle.r d q hd) (fun d q hd=>hle.i d q hd)
def ES.Lw(s0 s:ES):Prop:=∀(B:Base) (a:Act) (w:World) (E:Env),B.m≤1000→B.N≤1000→Sim B s.fs a w E→∃E',Sim B s0.fs a w E'
theorem ES.Lw.refl(s:ES):s.Lw s:=fun _ _ _ E _ _ h=>⟨E,h⟩
theorem ES.Lw.trans{a b c:ES}(h1:a.Lw b)(h2:b.Lw c):a.Lw c:=fun B x w E hm hn h=>by
 obtain⟨E1,h3⟩:=h2 B x w E hm hn h;exact h1 B x w E1 hm hn h3
theorem ES.Le.lw{s0 s:ES}(h:s0.Le s):s0.Lw s:=fun _ _ _ E _ _ hS=>⟨E,le_sound h hS⟩
def regW(P:Program)(g:Glob)(alts:List (List Nat×List SOper))(kill:List Nat)(K:ES→Prop)(s:ES):Prop:=
 ∃a∈alts,opsW P g a.2 (fun s'=>K (s'.kill kill)) (s.fgt a.1)
def condW(c:Arg)(s:ES)(A B:Prop):Prop:=∃t,c.get s.fs=some (.pv (.v (.bool t)))∧(if t then A else B)
def thenW(K:ES→Prop)(Q:SExit→ES→Prop):SExit→ES→Prop
 | .normal,s=>K s
 |e,s=>Q e s
def blockW(id:Nat)(Q:SExit→ES→Prop):SExit→ES→Prop
 | .exit j,s=>if j=id then Q .normal s else Q (.exit j) s
 |e,s=>Q e s
def regP(P:Program)(g:Glob)(alts:List (List Nat×List SOper))(Q:SExit→ES→Prop)(s:ES):Prop:=
 ∃a∈alts,opsP P g (dstOps a.2) a.2 (fun z s'=>Q (.pan z) s') (s.fgt a.1)
def RawW(P:Program)(g:Glob)(N:Nat)(c:Code)(Q:SExit→ES→Prop)(s:ES):Prop:=
 ∀(B:Base) (a:Act) (w:World) (E:Env),B.N=N→B.m≤1000→B.N≤1000→g.G B.w0→(∀d b,B.X d b→g.n≤b)→Sim B s.fs a w E→
  c.wp P (fun x a' w'=>∃e s' E',x=SExit.to e∧Q e s'∧Sim B s'.fs a' w' E') a w
def swp(P:Program)(g:Glob):SCode→(SExit→ES→Prop)→ES→Prop
 | .skip,Q,s=>Q .normal s
 | .reg alts kill,Q,s=>regW P g alts kill (Q .normal) s
 | .regq alts kill,Q,s=>regW P g alts kill (Q .normal) s∨regP P g alts Q s
 | .raw N c,Q,s=>RawW P g N c Q s
 | .seq a b,Q,s=>swp P g a (thenW (swp P g b Q) Q) s
 | .cond c a b,Q,s=>condW c s (swp P g a Q s) (swp P g b Q s)
 | .block id a,Q,s=>swp P g a (blockW id Q) s
 | .loop a,Q,s=>∃(I:Nat→ES→Prop) (n:Nat),(∃s0,s0.Lw s∧I n s0)∧∀n s,I n s→swp P g a (thenW (fun s'=>∃m,m<n∧∃s0,s0.Lw s'∧I m s0) Q) s
 | .exit id,Q,s=>Q (.exit id) s
 | .ret,Q,s=>Q .ret s
theorem opsP_mono{P:Program}{g:Glob}{D:List Nat}{R R':Value→ES→Prop}(hq:∀z s,R z s→R' z s):∀(l:List SOper) (s:ES),opsP P g D l R s→opsP P g D l R' s
 |[],_,h=>h
 |o::l,s,h=>by
  rcases h with⟨h1,z,u,h2,h3⟩|⟨C,hC,e,he,h⟩
  ·exact .inl ⟨h1,z,u,h2,hq _ _ h3⟩
  ·exact .inr ⟨C,hC,e,he,opsP_mono hq l _ h⟩
theorem regW_mono{P:Program}{g:Glob}{alts:List (List Nat×List SOper)}{kill:List Nat}{K K':ES→Prop}{s:ES}(hq:∀s,K s→K' s)(h:regW P g alts kill K s):regW P g alts kill K' s:=by
 obtain⟨a,ha,h⟩:=h;refine⟨a,ha,?_⟩;have key:∀(l:List SOper) (s:ES),opsW P g l (fun s'=>K (s'.kill kill)) s→opsW P g l (fun s'=>K' (s'.kill kill)) s:=by
  intro l
  induction l with
  |nil=>exact fun s h=>hq _ h
  |cons o l ih=>rintro s ⟨C,hC,e,he,h⟩;exact⟨C,hC,e,he,ih _ h⟩
 grind
theorem z56{P:Program}{g:Glob}:∀{c:SCode} {Q Q':SExit→ES→Prop} {s:ES},swp P g c Q s→(∀e s,Q e s→Q' e s)→swp P g c Q' s
 | .skip,Q,Q',s,h,hq=>hq _ _ h
 | .reg alts kill,Q,Q',s,h,hq=>regW_mono (fun _ h=>hq _ _ h) h
 | .regq alts kill,Q,Q',s,h,hq=>by
  rcases h with h|⟨a,ha,h⟩
  ·exact .inl (regW_mono (fun _ h=>hq _ _ h) h)
  ·exact .inr ⟨a,ha,opsP_mono (fun _ _ h=>hq _ _ h) _ _ h⟩
 | .raw N c,Q,Q',s,h,hq=>fun B a w E e1 e2 e3 e4 e5 e6=>wp_mono (h B a w E e1 e2 e3 e4 e5 e6) (by
  rintro x a' w' ⟨e,s',E',h1,h2,h3⟩;exact⟨e,s',E',h1,hq _ _ h2,h3⟩)
 | .seq a b,Q,Q',s,h,hq=>z56 (c:=a) h fun e s he=>by
  cases e with
  |normal=>exact z56 (c:=b) he hq
  |exit id=>exact hq _ _ he
  |ret=>exact hq _ _ he
  |pan z=>exact hq _ _ he
 | .cond c a b,Q,Q',s,h,hq=>by
  obtain⟨t,h1,h2⟩:=h;refine⟨t,h1,?_⟩;cases t with
  |true=>exact z56 (c:=a) h2 hq
  |false=>exact z56 (c:=b) h2 hq
 | .block id a,Q,Q',s,h,hq=>z56 (c:=a) h fun e s he=>by
  cases e with
  |exit j=>simp only[blockW]at he ⊢;split at he<;>rename_i hj<;>simp[hj,hq _ _ he]
  |normal=>exact hq _ _ he
  |ret=>exact hq _ _ he
  |pan z=>exact hq _ _ he
 | .loop a,Q,Q',s,h,hq=>by
  obtain⟨I,n,h0,h1⟩:=h;refine⟨I,n,h0,fun n s hI=>z56 (c:=a) (h1 n s hI) fun e s he=> ?_⟩;cases e with
  |normal=>exact he
  |exit id=>exact hq _ _ he
  |ret=>exact hq _ _ he
  |pan z=>exact hq _ _ he
 | .exit id,Q,Q',s,h,hq=>hq _ _ h
 | .ret,Q,Q',s,h,hq=>hq _ _ h
theorem least{p:Nat→Prop}(h:∃n,p n):∃n,p n∧∀m,p m→n≤m:=by
 obtain⟨n,hn⟩:=h
 induction n using Nat.strongRecOn with
 |_ n ih=>
  grind
open Classical in
noncomputable def leastOf(p:Act→World→Nat→Prop)(a:Act)(w:World):Nat:=if h:∃n,p a w n then Classical.choose (least h)else 0
theorem leastOf_spec{p:Act→World→Nat→Prop}{a:Act}{w:World}(h:∃n,p a w n):p a w (leastOf p a w)∧∀m,p a w m→leastOf p a w≤m:=by
 grind [leastOf,least]
section
variable{P:Program}{H:Nat→Option Nat→Nat}{Fp:Nat→List (Nat→Option Nat)}{K:Nat→List Nat}{B:Base}{g:Glob}
theorem z42(hmix:P.follows .mixedOrders=true)(hm0:B.m≤1000)(hN:B.N≤1000)(hG:g.G B.w0)(hX:∀d b,B.X d b→g.n≤b):∀{c:Code} {sc:SCode},z15 P B.N H Fp K c=some sc→∀{Q:SExit→ES→Prop} {s:ES},swp P g sc Q s→∀{a:Act} {w:World} {E:Env},Sim B s.fs a w E→
  c.wp P (fun x a' w'=>∃e s' E',x=SExit.to e∧Q e s'∧Sim B s'.fs a' w' E') a w:=by
 intro c
 induction c with
 |skip=>
  intro sc h Q s hs a w E hS;simp only[z15]at h;cases h;exact wp_skip ⟨.normal,s,E,rfl,hs,hS⟩
 |exit id=>
  intro sc h Q s hs a w E hS;simp only[z15]at h;cases h;exact wp_exit ⟨.exit id,s,E,rfl,hs,hS⟩
 |ret=>
  intro sc h Q s hs a w E hS;simp only[z15]at h;cases h;exact wp_ret ⟨.ret,s,E,rfl,hs,hS⟩
 |region id ops draw=>
  intro sc h Q s hs a w E hS;simp only[z15]at h;split at h
  ·
   cases h;have key:∀(Hs:List ((Option Nat→Nat)×(Nat→Option Nat))) (al:List Nat×List SOper),al∈z124 P B.N ops draw Hs→∃H,∃F:Nat→Option Nat,z39 P B.N H F ops draw=some al.2∧al.1=al.2.flatMap SOper.news∧(draw=true→panOk ops al.2=true):=by
    intro Hs
    induction Hs<;>grind [z124,only]
   rcases hs with⟨al,hal,hs⟩|⟨al,hal,hs⟩
   ·obtain⟨H',F',htr,hn,_⟩:=key _ al hal;refine region_sound hmix hm0 hN hG hX htr (s:=s.fgt al.1) (fun d hd=>z57 s (by rw[hn];exact hd)) hs (z74 hS al.1) (fun s' a' w' E' hK hS'=>⟨.normal,s'.kill _,E',rfl,hK,z164 hS' _⟩)
   ·obtain⟨H',F',htr,hn,hpo⟩:=key _ al hal;exact region_pan hmix hm0 hN hG hX htr hpo (s:=s.fgt al.1) (fun d hd=>z57 s (by rw[hn];exact hd)) hs (z74 hS al.1) (fun z s' a' w' E' hR hS'=>⟨.pan z,s',E',rfl,hR,hS'⟩)
  ·split at h
   ·cases h;exact hs B a w E rfl hm0 hN hG hX hS
   cases h;obtain⟨al,hal,hs⟩:=hs;have key:∀(Hs:List ((Option Nat→Nat)×(Nat→Option Nat))),al∈z112 P B.N ops draw Hs→∃H,∃F:Nat→Option Nat,z39 P B.N H F ops draw=some al.2∧al.1=al.2.flatMap SOper.news:=by
    intro Hs
    induction Hs<;>grind [z112,only]
   obtain⟨H',F',htr,hn⟩:=key _ hal;refine region_sound hmix hm0 hN hG hX htr (s:=s.fgt al.1) (fun d hd=>z57 s (by rw[hn];exact hd)) hs (z74 hS al.1) (fun s' a' w' E' hK hS'=>⟨.normal,s'.kill _,E',rfl,hK,z164 hS' _⟩)
 |seq a b iha ihb=>
  intro sc h Q s hs ac w E hS;simp only[z15]at h;split at h<;>try(cases h;done)
  rename_i a' b' ha hb;cases h;refine wp_seq (wp_mono (iha ha hs hS) ?_);rintro x a2 w2 ⟨e,s2,E2,rfl,hq,hS2⟩;cases e with
  |normal=>exact ihb hb hq hS2
  |exit id=>exact⟨.exit id,s2,E2,rfl,hq,hS2⟩
  |ret=>exact⟨.ret,s2,E2,rfl,hq,hS2⟩
  |pan z=>exact⟨.pan z,s2,E2,rfl,hq,hS2⟩
 |cond cnd a b iha ihb=>
  intro sc h Q s hs ac w E hS;simp only[z15]at h;split at h<;>try(cases h;done)
  rename_i a' b' ha hb;cases h;obtain⟨t,h1,h2⟩:=hs;have hv:=val_rel (y:=.bool t) (z16 hS h1) rfl;refine wp_cond hv ?_
  grind
 |block id a ih=>
  intro sc h Q s hs ac w E hS;simp only[z15]at h;obtain⟨a',ha,rfl⟩:=gO h;refine wp_block (wp_mono (ih ha hs hS) ?_);rintro x a2 w2 ⟨e,s2,E2,rfl,hq,hS2⟩;cases e with
  |normal=>exact⟨.normal,s2,E2,rfl,hq,hS2⟩
  |ret=>exact⟨.ret,s2,E2,rfl,hq,hS2⟩
  |pan z=>exact⟨.pan z,s2,E2,rfl,hq,hS2⟩
  |exit j=>
   simp only[SExit.to,Exit.inBlock]
   grind [only,blockW]
 |loop a ih=>
  intro sc h Q s hs ac w E hS;simp only[z15]at h;obtain⟨a',ha,rfl⟩:=gO h;obtain⟨I,n,⟨s0,hle,h0⟩,hround⟩:=hs;obtain⟨E0,hS0⟩:=hle B ac w E hm0 hN hS;have hex:∃n,∃s E,I n s∧Sim B s.fs ac w E:=⟨n,s0,E0,h0,hS0⟩
  let J:Act→World→Prop:=fun a w=>∃n s E,I n s∧Sim B s.fs a w E
  refine wp_loop J (leastOf fun a w n=>∃s E,I n s∧Sim B s.fs a w E) hex (fun a1 w1 hJ=> ?_);obtain⟨⟨s1,E1,hI1,hS1⟩,_⟩:=leastOf_spec (p:=fun a w n=>∃s E,I n s∧Sim B s.fs a w E) hJ;refine wp_mono (ih ha (hround _ s1 hI1) hS1) ?_;rintro x a2 w2 ⟨e,s2,E2,rfl,hq,hS2⟩;cases e with
  |normal=>
   obtain⟨m,hm,s3,hle,hI2⟩:=hq;obtain⟨E3,hS3⟩:=hle B a2 w2 E2 hm0 hN hS2;have hJ2:∃n,∃s E,I n s∧Sim B s.fs a2 w2 E:=⟨m,s3,E3,hI2,hS3⟩
   exact⟨hJ2,Nat.lt_of_le_of_lt ((leastOf_spec (p:=fun a w n=>∃s E,I n s∧Sim B s.fs a w E) hJ2).2 m ⟨s3,E3,hI2,hS3⟩) hm⟩
  |exit id=>exact⟨.exit id,s2,E2,rfl,hq,hS2⟩
  |ret=>exact⟨.ret,s2,E2,rfl,hq,hS2⟩
  |pan z=>exact⟨.pan z,s2,E2,rfl,hq,hS2⟩
 |rangeFunc x y c d ih1 ih2=>
  intro sc h Q s hs ac w E hS;simp only[z15]at h;cases h;exact hs B ac w E rfl hm0 hN hG hX hS
 |_=>grind [z15]
def SemW(P:Program)(g:Glob)(N:Nat)(c:SCode)(Q:SExit→ES→Prop)(s:ES):Prop:=
 ∀(H:Nat→Option Nat→Nat) (Fp:Nat→List (Nat→Option Nat)) (K:Nat→List Nat) (code:Code),z15 P N H Fp K code=some c→RawW P g N code Q s
theorem sem_swp{N:Nat}{c:SCode}{Q:SExit→ES→Prop}{s:ES}(hmix:P.follows .mixedOrders=true)(h:swp P g c Q s):SemW P g N c Q s:=by
 intro H Fp K code ht B a w E hN hm hn hG hX hS;subst hN;exact z42 hmix hm hn hG hX ht h hS
end
def rawsOf:Code→List Code
 | .seq a b=>rawsOf a++rawsOf b
 | .cond _ a b=>rawsOf a++rawsOf b
 | .block _ a=>rawsOf a
 | .loop a=>rawsOf a
 | .rangeFunc a b c d=>[.rangeFunc a b c d]
 |_=>[]
def rawOf(P:Program)(f k:Nat):Code:=match P.funcs[f]? with
 |some fn=>match fn.body with
  |some c=>(rawsOf c).getD k .skip
  |none=> .skip
 |none=> .skip
inductive SRes where
 |tmp (t:Nat)
 |cell (agg:Bool) (size:Nat) (t:Nat)
structure SFunc where
 N:Nat
 code:SCode
 res:List SRes
 keep:Bool
def SRes.get(s:FS):SRes→Option TV
 | .tmp t=>s.t t
 | .cell agg size t=>match s.t t with
  |some (.ptr d o)=>(s.b d).bind fun cs=>if agg then(if o+size≤cs.length then some (.agg ((cs.drop o).take size))else none)else cs[o]?
  |_=>none
def resT(s:FS):List SRes→Option TV
 |[r]=>r.get s
 |rs=>(seqO (SRes.get s) rs).map .tuple
def z63(P:Program):ResultVar→Option SRes
 | .tmp t=>some (.tmp t)
 | .cell a t=>match P.underlying t,P.info? t with
  |some d,some i=>some (if d.isRow then .cell true i.size a else .cell false 1 a)
  |_,_=>none
def z33(P:Program)(f:Nat)(H:Nat→Option Nat→Nat)(Fp:Nat→List (Nat→Option Nat))(K:Nat→List Nat)(keep:Bool):Option SFunc:=
 match P.funcs[f]? with
 |some fn=>match fn.body with
  |some c=>if fn.name != "runtime.NumGoroutine" &&Nat.ble fn.ntmps 1000 then match z15 P fn.ntmps H Fp K c,seqO (z63 P) fn.results.toList with
    |some sc,some rs=>some ⟨fn.ntmps,sc,rs,keep⟩
    |_,_=>none
   else none
  |none=>none
 |none=>none
def TV.ids3:TV→List Nat
 | .tuple cs=>cs.flatMap TV.ids2
 |t=>t.ids2
def idsFrom:Nat→Nat→List Nat
 |_,0=>[]
 |k,n+1=>k::idsFrom (k+1) n
def exitF(F:SFunc)(n:Nat)(s:ES):Option (TV×List MO):=
 match resT s.fs F.res with
 |some y0=>
  let I0:=idsFrom 1000 n
  let al:=reach s.fs F.keep 64 (y0.ids3++I0.flatMap fun d=>match s.fs.b d with|some cs=>cs.flatMap TV.ids1|none=>[]) I0
  match y0.ren3 (rhoIn al),seqO (fun d=>(s.fs.mo d).bind (MO.ren (rhoIn al))) al with
  |some y,some os'=>some (y,os')
  |_,_=>none
 |none=>none
def numT:Nat→List TV→List (Nat×TV)
 |_,[]=>[]
 |k,x::l=>(k,x)::numT (k+1) l
def numB:Nat→List MO→List (Nat×List TV)
 |_,[]=>[]
 |k,.box cs::l=>(k,cs)::numB (k+1) l
 |k,.row _ _ _::l=>numB (k+1) l
def numR:Nat→List MO→List (Nat×(Nat×Nat×Nat))
 |_,[]=>[]
 |k,.box _::l=>numR (k+1) l
 |k,.row e W n::l=>(k,(e,W,n))::numR (k+1) l
def startE(xs:List TV)(os:List MO):ES:=⟨numT 0 xs,numB 1000 os,numR 1000 os,[]⟩
theorem z133{a b:Nat}(h:a≠b):Nat.beq a b=false:=by grind [Nat.beq,Nat.eq_of_beq_eq_true]
theorem lk_numT:∀(xs:List TV) (k d:Nat),lk (numT k xs) d=if k≤d then xs[d-k]? else none
 |[],k,d=>by simp[numT,lk]
 |x::l,k,d=>by
  simp only[numT,lk];by_cases h:k=d
  ·simp_all
  ·rw[z133 h];simp only[lk_numT l]
   grind
theorem lk_numB:∀(os:List MO) (k d:Nat),lk (numB k os) d=if k≤d then(match os[d-k]? with|some (.box cs)=>some cs|_=>none)else none
 |[],k,d=>by simp[numB,lk]
 |m::l,k,d=>by
  have ih:=lk_numB l (k+1) d;by_cases h:k=d
  ·subst h;cases m<;>grind [numB,lk,Nat.beq_refl,only]
  ·have:lk (numB k (m::l)) d=lk (numB (k+1) l) d:=by cases m with|box cs=>simp only[numB,lk,z133 h]|row e W n=>simp only[numB]
   grind
theorem lk_numR:∀(os:List MO) (k d:Nat),lk (numR k os) d=if k≤d then(match os[d-k]? with|some (.row e W n)=>some (e,W,n)|_=>none)else none
 |[],k,d=>by simp[numR,lk]
 |m::l,k,d=>by
  have ih:=lk_numR l (k+1) d;by_cases h:k=d
  ·subst h;cases m<;>grind [only,numR,lk,Nat.beq_refl]
  ·have:lk (numR k (m::l)) d=lk (numR (k+1) l) d:=by cases m with|box cs=>simp only[numR]|row e W n=>simp only[numR,lk,z133 h]
   grind
theorem z125:∀(n k j:Nat),(idsFrom k n)[j]?=if j<n then some (k+j)else none
 |0,k,j=>by simp[idsFrom]
 |n+1,k,j=>by
  simp only[idsFrom];cases j with
  |zero=>simp
  |succ j=>
   simp only[List.getElem?_cons_succ,z125 n (k+1) j]
   grind
theorem z128(n k:Nat):(idsFrom k n).Nodup∧(idsFrom k n).length=n∧∀d∈idsFrom k n,k≤d:=by
 induction n generalizing k with
 |zero=>simp[idsFrom]
 |succ n ih=>
  grind [only,idsFrom]
theorem z67{s:FS}{rows:Bool}:∀(n:Nat) (l seen:List Nat),seen.Nodup→(reach s rows n l seen).Nodup∧∃t,reach s rows n l seen=seen++t
 |0,l,seen,h=>by simp only[reach];exact⟨h,[],by simp⟩
 |n+1,[],seen,h=>by simp only[reach];exact⟨h,[],by simp⟩
 |n+1,d::l,seen,h=>by
  simp only[reach];cases hp:pos seen d with
  |some j=>exact z67 n l seen h
  |none=>
   have hnd:(seen++[d]).Nodup:=List.nodup_append.2 ⟨h,by simp,by
    intro x hx y hy;simp at hy;subst hy;rintro rfl;exact pos_none hp hx⟩
   have key:∀l',(reach s rows n l' (seen++[d])).Nodup∧∃t,reach s rows n l' (seen++[d])=seen++t:=fun l'=>by
    obtain⟨h1,t,h2⟩:=z67 (s:=s) (rows:=rows) n l' (seen++[d]) hnd;exact⟨h1,[d]++t,by rw[h2];simp⟩
   cases s.b d with
   |some cs=>exact key _
   |none=>
    cases s.r d with
    |none=>exact z67 n l seen h
    |some q=>
     cases rows with
     |true=>exact key _
     |false=>exact z67 n l seen h
section
variable{P:Program}{g:Glob}{s:FS}{a:Act}{w:World}{E:Env}{B:Base}
theorem res_run{rv:ResultVar}{sr:SRes}(htr:z63 P rv=some sr)(h:Sim B s a w E){y:TV}(hy:sr.get s=some y):
  ∃v,(match rv with| .tmp t=>(pure (a.tmps.getD t undef):Sem Value)| .cell q t=>do loadVar t (←asAddr (a.tmps.getD q undef))).run P w=.ok v w∧RelT w E s.r y v:=by
 cases rv with
 |tmp t=>
  simp only[z63]at htr;cases htr;exact⟨_,rfl,(h.tmp t y hy).2⟩
 |cell q t=>
  simp only[z63]at htr;split at htr<;>try(cases htr;done)
  rename_i d i hu hi;cases htr;have fin:∀(dd off:Nat) (cs:List TV),s.t q=some (.ptr dd off)→s.b dd=some cs→(if d.isRow then(off+i.size≤cs.length∧y=.agg ((cs.drop off).take i.size))else cs[off]?=some y)→
    ∃v,(do loadVar t (←asAddr (a.tmps.getD q undef)):Sem Value).run P w=.ok v w∧RelT w E s.r y v:=by
   intro dd off cs hq hb hy;have hx:=(h.tmp q _ hq).2;generalize hv:a.tmps.getD q undef=v at hx;cases hx;obtain⟨hbox,_⟩:=h.mem.box dd cs hb;cases hd:d.isRow with
   |true=>
    simp only[hd,if_true]at hy;obtain⟨vs,hrel,hcell⟩:=box_rel hbox;have hl:((vs.drop off).take i.size).length=i.size:=by have:=hrel.len;simp;omega
    have hrun:=z147 (P:=P) (w:=w) (E.β dd) off t d i ((vs.drop off).take i.size) hu hi (fun j v hv'=>by
     have hj:j<i.size:=by have:=(gJ hv').1;omega
     simp[hj]at hv';exact hcell _ _ hv') (by simp only[hd,if_true];exact hl)
    simp only[hd,if_true]at hrun;exact⟨.agg ((vs.drop off).take i.size).toArray,by simp[asAddr,hrun,Result.andThen],by rw[hy.2];exact((hrel.drop off).take _).agg⟩
   |false=>
    simp only[hd,Bool.false_eq_true,if_false]at hy;obtain⟨v,c1,c2,c3⟩:=hbox.cell off y hy;have hrun:=z147 (P:=P) (w:=w) (E.β dd) off t d i [v] hu hi (fun j u hu'=>by
     cases j with
     |zero=>simp at hu';subst hu';exact c1
     |succ j=>simp at hu') (by simp[hd])
    simp only[hd,Bool.false_eq_true,if_false]at hrun;exact⟨v,by simp[asAddr,hrun,Result.andThen],c3⟩
  cases hd:d.isRow with
  |true=>
   simp only[hd,if_true,SRes.get]at hy;split at hy
   ·rename_i dd off hq;obtain⟨cs,hb,hy⟩:=gB hy;split at hy
    ·rename_i hle;cases hy;exact fin dd off cs hq hb (by rw[if_pos hd];exact⟨hle,rfl⟩)
    ·cases hy
   ·cases hy
  |false=>
   simp only[hd,Bool.false_eq_true,if_false,SRes.get]at hy;split at hy
   ·rename_i dd off hq;obtain⟨cs,hb,hy⟩:=gB hy;exact fin dd off cs hq hb (by simp only[hd,Bool.false_eq_true,if_false];exact hy)
   ·cases hy
def resSem(a:Act):ResultVar→Sem Value
 | .tmp t=>pure (a.tmps.getD t undef)
 | .cell q t=>do loadVar t (←asAddr (a.tmps.getD q undef))
theorem mapM_run{α:Type}(F:α→Sem Value):∀(l:List α) (vs:List Value),l.length=vs.length→(∀(j:Nat) x v,l[j]?=some x→vs[j]?=some v→(F x).run P w=.ok v w)→(l.mapM F).run P w=.ok vs w
 |[],[],_,_=>rfl
 |x::l,v::vs,hl,h=>by
  have h1:=h 0 x v rfl rfl;have h2:=mapM_run F l vs (by simpa using hl) (fun j x v hx hv=>h (j+1) x v (by simpa using hx) (by simpa using hv));simp_all
 |[],_::_,hl,_=>by simp at hl
 |_::_,[],hl,_=>by simp at hl
theorem results_run{fn:Func}{rs:List SRes}(htr:seqO (z63 P) fn.results.toList=some rs)(h:Sim B s a w E){y:TV}(hy:resT s rs=some y):∃v,(results fn a.tmps).run P w=.ok v w∧RelT w E s.r y v:=by
 have key:∀(l:List ResultVar) (rs:List SRes),seqO (z63 P) l=some rs→∀(ys:List TV),seqO (SRes.get s) rs=some ys→∃vs:List Value,l.length=vs.length∧(∀(j:Nat) x v,l[j]?=some x→vs[j]?=some v→(resSem a x).run P w=.ok v w)∧ys.length=vs.length∧∀(j:Nat) c v,ys[j]?=some c→vs[j]?=some v→RelT w E s.r c v:=by
  intro l
  induction l with
  |nil=>intro rs h1 ys h2;simp[seqO]at h1;subst h1;simp[seqO]at h2;subst h2;exact⟨[],rfl,by simp,rfl,by simp⟩
  |cons rv l ih=>
   intro rs h1 ys h2;obtain⟨sr,rs',h3,h4,rfl⟩:=seqO_cons h1;obtain⟨y,ys',h5,h6,rfl⟩:=seqO_cons h2;obtain⟨vs,a0,a1,a2,a3⟩:=ih rs' h4 ys' h6;obtain⟨v,b1,b2⟩:=res_run h3 h h5;have b1':(resSem a rv).run P w=.ok v w:=by cases rv<;>exact b1
   refine⟨v::vs,by simp[a0],fun j x u hx hu=> ?_,by simp[a2],fun j c u hc hu=> ?_⟩
   ·grind
   ·grind
 have hres:∀vs:List Value,(fn.results.toList.mapM (resSem a)).run P w=.ok vs w→(results fn a.tmps).run P w=.ok (if h:vs.length=1 then vs[0] else .tuple vs.toArray) w:=by
  intro vs hvs;have harr:(fn.results.mapM (resSem a)).run P w=.ok vs.toArray w:=by
   rw[←Array.toArray_toList (xs:=fn.results),List.mapM_toArray];simp_all
  have e:results fn a.tmps=(fn.results.mapM (resSem a))>>=fun vs=>pure (if h:vs.size=1 then vs[0] else .tuple vs):=by
   unfold results;congr 1
  simp_all
 have hmany:∀ys,seqO (SRes.get s) rs=some ys→(rs.length=1→ys=[y])→(rs.length≠1→y=.tuple ys)→∃v,(results fn a.tmps).run P w=.ok v w∧RelT w E s.r y v:=by
  intro ys hys h1 h2;obtain⟨vs,a0,a1,a2,a3⟩:=key _ rs htr ys hys;have hl1:=(z38 htr).1;refine⟨_,hres vs (mapM_run _ _ _ a0 a1),?_⟩;by_cases hone:vs.length=1
  ·rw[dif_pos hone];have hr1:rs.length=1:=by omega
   rw[h1 hr1]at a3;exact a3 0 y _ rfl (gE (by omega))
  ·rw[dif_neg hone];have hr1:rs.length≠1:=by omega
   rw[h2 hr1];exact .tuple ys vs a2 a3
 match rs,hy,hmany with
 |[],hy,hmany=>grind [resT,seqO]
 |[r],hy,hmany=>grind [only,resT,seqO]
 |r::r2::rr,hy,hmany=>
  simp only[resT]at hy;obtain⟨ys,h1,h2⟩:=gO hy;simp_all
theorem call_of_sem{f:Nat}{H:Nat→Option Nat→Nat}{Fp:Nat→List (Nat→Option Nat)}{K:Nat→List Nat}{keep:Bool}{F:SFunc}(hmix:P.follows .mixedOrders=true)(hF:z33 P f H Fp K keep=some F){xs:List TV}{os os':List MO}{y:TV}(hn:xs.length≤F.N)(hos:os.length≤1000)(hmo:moOk os os'=true)
  (h:SemW P g F.N F.code (fun e s=>(e=.ret∨e=.normal)∧exitF F os.length s=some (y,os')) (startE xs os)):SCalls P g f xs os y os':=by
 unfold z33 at hF;split at hF<;>try(cases hF;done)
 rename_i fn hfn;split at hF<;>try(cases hF;done)
 rename_i c hc;split at hF<;>try(cases hF;done)
 rename_i hname;split at hF<;>try(cases hF;done)
 rename_i sc rs hsc hrs;cases hF;rw[Bool.and_eq_true]at hname;have hnm:¬fn.name= "runtime.NumGoroutine" :=by grind
 have hN:fn.ntmps≤1000:=Nat.le_of_ble_eq_true hname.2;refine⟨⟨fn,c,hfn,hc,hnm⟩,fun w E vs hG hm hX hl hxs=> ?_⟩;let B:Base:=start w E os fn.ntmps
 have hmB:MSim B (objB os) (objR os) w E:=⟨hm.box,hm.row,hm.bb,hm.br,hm.rr,hm.lt,hm.low,hm.keep,hm.knew,⟨hm.pas.β,hm.pas.γ,hm.pas.row⟩⟩
 have hfs:(startE xs os).fs=⟨fun k=>xs[k]?,objB os,objR os,fun _=>none⟩:=by
  refine FS.ext' (fun k=> ?_) (fun k=> ?_) (fun k=> ?_) (fun k=>rfl)
  ·show lk (numT 0 xs) k=_;rw[lk_numT];simp
  ·show lk (numB 1000 os) k=_;rw[lk_numB];rfl
  ·show lk (numR 1000 os) k=_;rw[lk_numR];rfl
 have hsize:(vs.toArray++Array.replicate (fn.ntmps-vs.toArray.size) undef).size=fn.ntmps:=by
  grind
 have hS:Sim B (startE xs os).fs { tmps:=vs.toArray++Array.replicate (fn.ntmps-vs.toArray.size) undef,defers:=[] } w E:=by
  rw[hfs];refine⟨rfl,hsize,fun k x hx=> ?_,hmB,fun d z p hd=>(by cases hd),fun d d' q q' hd=>(by cases hd)⟩;have hk:k<xs.length:=(gJ hx).1;refine⟨Nat.lt_of_lt_of_le hk hn,?_⟩;have hkv:k<vs.length:=by omega
  have hv:(vs.toArray++Array.replicate (fn.ntmps-vs.toArray.size) undef).getD k undef=vs[k]:=by
   rw[Array.getD_eq_getD_getElem?,Array.getElem?_append_left (by simpa using hkv)];simp[hkv]
  show RelT w E (objR os) x ((vs.toArray++Array.replicate (fn.ntmps-vs.toArray.size) undef).getD k undef);rw[hv];exact hxs k x _ hx (gE hkv)
 refine calls_of_wp hfn hc (wp_mono (h _ _ _ c hsc B _ _ _ rfl hos hN hG hX hS) ?_);rintro x a' w' ⟨e,s',E',rfl,⟨he,hex⟩,hS'⟩;have fin:a'.defers=[]∧∃v,(results fn a'.tmps).run P w'=.ok v w'∧(∃v_1 E'_1,Ending.returned v=Ending.returned v_1∧MSim (start w E os 0) (objB os') (objR os') w' E'_1∧RelT w' E'_1 (objR os') y v_1∧Left E os E'_1 os'):=by
  refine⟨hS'.defers,?_⟩;unfold exitF at hex;split at hex<;>try(cases hex;done)
  rename_i y0 hy0;obtain⟨v,hrun,hrel⟩:=results_run (fn:=fn) hrs hS' hy0;refine⟨v,hrun,v,?_⟩;simp only[]at hex;obtain⟨i1,i2,i3⟩:=z128 os.length 1000;generalize hal:reach s'.fs keep 64 (y0.ids3++(idsFrom 1000 os.length).flatMap fun d=>match s'.fs.b d with|some cs=>cs.flatMap TV.ids1|none=>[]) (idsFrom 1000 os.length)=al at hex;obtain⟨hnd,t,hpre⟩:=z67 (s:=s'.fs) (rows:=keep) 64 (y0.ids3++(idsFrom 1000 os.length).flatMap fun d=>match s'.fs.b d with|some cs=>cs.flatMap TV.ids1|none=>[]) _ i1;rw[hal]at hnd hpre;split at hex<;>try(cases hex;done)
  rename_i y1 os1 hren hmos;cases hex;have hpas:∀j,j<os.length→al[j]?=some (1000+j):=fun j hj=>by
   grind [List.getElem?_append_left,z125]
  have hM:=z100 hS' hnd hmos;obtain⟨hlen,hBx,hRx⟩:=handed hmos;have hβ:∀{i j},al[j]?=some i→(envIn E' al).β (1000+j)=E'.β i:=fun hj=>by simp only[envIn];rw[getD_of hj]
  have hγ:∀{i j},al[j]?=some i→(envIn E' al).γ (1000+j)=E'.γ i:=fun hj=>by simp only[envIn];rw[getD_of hj]
  have hXs:∀{i j b},al[j]?=some i→objX E os i b→objX E os (1000+j) b:=by
   intro i j b hj hx;have hi:∃q,i=1000+q∧q<os.length:=by
    rcases hx with⟨cs,h1,_⟩|⟨⟨e,W,n⟩,cap,h1,_⟩<;>grind [z43,List.getElem?_eq_some_iff,z27]
   obtain⟨q,rfl,hq⟩:=hi;have a1:=z69 hnd hj;have a2:=z69 hnd (hpas q hq)
   grind
  have hM':MSim (start w E os 0) (objB os') (objR os') w' (envIn E' al):=by
   refine⟨fun d cs' hd=> ?_,fun d e W n hd=> ?_,hM.bb,hM.br,hM.rr,hM.lt,hS'.mem.low,hS'.mem.keep,hS'.mem.knew,⟨fun d ho=> ?_,fun d ho h0=> ?_,fun d e W n ho hd=> ?_⟩⟩
   ·refine⟨(hM.box d cs' hd).1,?_⟩;obtain⟨j,rfl,hj⟩:=z43 hd;obtain⟨i,cs,q1,q2,_⟩:=hBx j cs' hj;rw[hβ q1];rcases(hS'.mem.box i cs q2).2 with h1|h1
    ·exact .inl h1
    ·exact .inr (hXs q1 h1)
   ·obtain⟨j,rfl,hj⟩:=z27 hd;obtain⟨i,q1,q2,q3⟩:=hRx j e W n hj;rw[hγ q1];rcases hS'.mem.row i e W n q3 with h1|⟨k,cap,h1,h2,h3⟩
    ·grind
    ·exact .inr ⟨k,cap,h1,h2.imp id (hXs q1),h3.cells,h3.le,h3.max,h3.out⟩
   ·obtain⟨q,rfl⟩:∃q,d=1000+q:=⟨d-1000,by have:=ho.1;omega⟩
    have hq:q<os.length:=by have:=ho.2;have h2:1000+q<1000+os.length:=this;omega
    rw[hβ (hpas q hq)];exact hS'.mem.pas.β _ ho
   ·obtain⟨q,rfl⟩:∃q,d=1000+q:=⟨d-1000,by have:=ho.1;omega⟩
    have hq:q<os.length:=by have:=ho.2;have h2:1000+q<1000+os.length:=this;omega
    rw[hγ (hpas q hq)];exact hS'.mem.pas.γ _ ho h0
   ·obtain⟨q,rfl⟩:∃q,d=1000+q:=⟨d-1000,by have:=ho.1;omega⟩
    have hq:q<os.length:=by have:=ho.2;have h2:1000+q<1000+os.length:=this;omega
    obtain⟨j,hj0,hj⟩:=z27 hd;obtain rfl:q=j:=by omega
    obtain⟨i,q1,q2,q3⟩:=hRx q e W n hj;rw[hpas q hq]at q1;cases q1;rw[hγ (hpas q hq)];exact hS'.mem.pas.row _ e W n ho q3
  refine⟨envIn E' al,rfl,hM',z131 (renIn hmos) (fun _ _ _ h _=>h) hrel hren,⟨fun d h1 h2=>hM'.pas.β d ⟨h1,h2⟩,fun d h1 h2 h0=>hM'.pas.γ d ⟨h1,h2⟩ h0,fun d e W n hd=> ?_⟩⟩;obtain⟨q,rfl,hq⟩:=z27 hd;have hql:q<os.length:=(gJ hq).1;obtain⟨n',h1,h2⟩:=(z99 hmo).2.2.2 q e W n hq;obtain⟨n0,h3,h4,h5⟩:=hM'.pas.row (1000+q) e W n' ⟨by omega,by show 1000+q<1000+os.length;omega⟩ (z49 h1);have h3:objR os (1000+q)=some (e,W,n0):=h3;rw[hd]at h3;cases h3;exact⟨n',z49 h1,h4,h5⟩
 rcases he with rfl|rfl
 ·exact fin
 ·exact fin
theorem pan_of_swp{f:Nat}{H:Nat→Option Nat→Nat}{Fp:Nat→List (Nat→Option Nat)}{K:Nat→List Nat}{keep:Bool}{F:SFunc}(hmix:P.follows .mixedOrders=true)(hF:z33 P f H Fp K keep=some F){xs:List TV}{os os':List MO}{z:Value}(hn:xs.length≤F.N)(hos:os.length≤1000)(hmo:moOk os os'=true)
  (h:swp P g F.code (fun e s=>e=.pan z∧exitF ⟨0,.skip,[],keep⟩ os.length s=some (.tuple [],os')) (startE xs os)):SPan P g f xs os z os':=by
 unfold z33 at hF;split at hF<;>try(cases hF;done)
 rename_i fn hfn;split at hF<;>try(cases hF;done)
 rename_i c hc;split at hF<;>try(cases hF;done)
 rename_i hname;split at hF<;>try(cases hF;done)
 rename_i sc rs hsc hrs;cases hF;rw[Bool.and_eq_true]at hname;have hnm:¬fn.name= "runtime.NumGoroutine" :=by grind
 have hN:fn.ntmps≤1000:=Nat.le_of_ble_eq_true hname.2;refine⟨⟨fn,c,hfn,hc,hnm⟩,fun w E vs hG hm hX hl hxs=> ?_⟩;let B:Base:=start w E os fn.ntmps
 have hmB:MSim B (objB os) (objR os) w E:=⟨hm.box,hm.row,hm.bb,hm.br,hm.rr,hm.lt,hm.low,hm.keep,hm.knew,⟨hm.pas.β,hm.pas.γ,hm.pas.row⟩⟩
 have hfs:(startE xs os).fs=⟨fun k=>xs[k]?,objB os,objR os,fun _=>none⟩:=by
  refine FS.ext' (fun k=> ?_) (fun k=> ?_) (fun k=> ?_) (fun k=>rfl)
  ·show lk (numT 0 xs) k=_;rw[lk_numT];simp
  ·show lk (numB 1000 os) k=_;rw[lk_numB];rfl
  ·show lk (numR 1000 os) k=_;rw[lk_numR];rfl
 have hsize:(vs.toArray++Array.replicate (fn.ntmps-vs.toArray.size) undef).size=fn.ntmps:=by
  grind
 have hS:Sim B (startE xs os).fs { tmps:=vs.toArray++Array.replicate (fn.ntmps-vs.toArray.size) undef,defers:=[] } w E:=by
  rw[hfs];refine⟨rfl,hsize,fun k x hx=> ?_,hmB,fun d z p hd=>(by cases hd),fun d d' q q' hd=>(by cases hd)⟩;have hk:k<xs.length:=(gJ hx).1;refine⟨Nat.lt_of_lt_of_le hk hn,?_⟩;have hkv:k<vs.length:=by omega
  have hv:(vs.toArray++Array.replicate (fn.ntmps-vs.toArray.size) undef).getD k undef=vs[k]:=by
   rw[Array.getD_eq_getD_getElem?,Array.getElem?_append_left (by simpa using hkv)];simp[hkv]
  show RelT w E (objR os) x ((vs.toArray++Array.replicate (fn.ntmps-vs.toArray.size) undef).getD k undef);rw[hv];exact hxs k x _ hx (gE hkv)
 refine calls_of_wp hfn hc (wp_mono (z42 (B:=B) hmix hos hN hG hX hsc h hS) ?_);rintro x a' w' ⟨e,s',E',rfl,⟨rfl,hex⟩,hS'⟩;have fin:a'.defers=[]∧(∃E'_1,Ending.panicked [{ v:=z,recovered:=false }]=Ending.panicked [{ v:=z,recovered:=false }]∧MSim (start w E os 0) (objB os') (objR os') w' E'_1∧Left E os E'_1 os'):=by
  refine⟨hS'.defers,?_⟩;unfold exitF at hex;split at hex<;>try(cases hex;done)
  rename_i y0 hy0;simp only[]at hex;obtain⟨i1,i2,i3⟩:=z128 os.length 1000;generalize hal:reach s'.fs keep 64 (y0.ids3++(idsFrom 1000 os.length).flatMap fun d=>match s'.fs.b d with|some cs=>cs.flatMap TV.ids1|none=>[]) (idsFrom 1000 os.length)=al at hex;obtain⟨hnd,t,hpre⟩:=z67 (s:=s'.fs) (rows:=keep) 64 (y0.ids3++(idsFrom 1000 os.length).flatMap fun d=>match s'.fs.b d with|some cs=>cs.flatMap TV.ids1|none=>[]) _ i1;rw[hal]at hnd hpre;split at hex<;>try(cases hex;done)
  rename_i y1 os1 hren hmos;cases hex;have hpas:∀j,j<os.length→al[j]?=some (1000+j):=fun j hj=>by
   grind [List.getElem?_append_left,z125]
  have hM:=z100 hS' hnd hmos;obtain⟨hlen,hBx,hRx⟩:=handed hmos;have hβ:∀{i j},al[j]?=some i→(envIn E' al).β (1000+j)=E'.β i:=fun hj=>by simp only[envIn];rw[getD_of hj]
  have hγ:∀{i j},al[j]?=some i→(envIn E' al).γ (1000+j)=E'.γ i:=fun hj=>by simp only[envIn];rw[getD_of hj]
  have hXs:∀{i j b},al[j]?=some i→objX E os i b→objX E os (1000+j) b:=by
   intro i j b hj hx;have hi:∃q,i=1000+q∧q<os.length:=by
    rcases hx with⟨cs,h1,_⟩|⟨⟨e,W,n⟩,cap,h1,_⟩<;>grind [z43,List.getElem?_eq_some_iff,z27]
   obtain⟨q,rfl,hq⟩:=hi;have a1:=z69 hnd hj;have a2:=z69 hnd (hpas q hq)
   grind
  have hM':MSim (start w E os 0) (objB os') (objR os') w' (envIn E' al):=by
   refine⟨fun d cs' hd=> ?_,fun d e W n hd=> ?_,hM.bb,hM.br,hM.rr,hM.lt,hS'.mem.low,hS'.mem.keep,hS'.mem.knew,⟨fun d ho=> ?_,fun d ho h0=> ?_,fun d e W n ho hd=> ?_⟩⟩
   ·refine⟨(hM.box d cs' hd).1,?_⟩;obtain⟨j,rfl,hj⟩:=z43 hd;obtain⟨i,cs,q1,q2,_⟩:=hBx j cs' hj;rw[hβ q1];rcases(hS'.mem.box i cs q2).2 with h1|h1
    ·exact .inl h1
    ·exact .inr (hXs q1 h1)
   ·obtain⟨j,rfl,hj⟩:=z27 hd;obtain⟨i,q1,q2,q3⟩:=hRx j e W n hj;rw[hγ q1];rcases hS'.mem.row i e W n q3 with h1|⟨k,cap,h1,h2,h3⟩
    ·grind
    ·exact .inr ⟨k,cap,h1,h2.imp id (hXs q1),h3.cells,h3.le,h3.max,h3.out⟩
   ·obtain⟨q,rfl⟩:∃q,d=1000+q:=⟨d-1000,by have:=ho.1;omega⟩
    have hq:q<os.length:=by have:=ho.2;have h2:1000+q<1000+os.length:=this;omega
    rw[hβ (hpas q hq)];exact hS'.mem.pas.β _ ho
   ·obtain⟨q,rfl⟩:∃q,d=1000+q:=⟨d-1000,by have:=ho.1;omega⟩
    have hq:q<os.length:=by have:=ho.2;have h2:1000+q<1000+os.length:=this;omega
    rw[hγ (hpas q hq)];exact hS'.mem.pas.γ _ ho h0
   ·obtain⟨q,rfl⟩:∃q,d=1000+q:=⟨d-1000,by have:=ho.1;omega⟩
    have hq:q<os.length:=by have:=ho.2;have h2:1000+q<1000+os.length:=this;omega
    obtain⟨j,hj0,hj⟩:=z27 hd;obtain rfl:q=j:=by omega
    obtain⟨i,q1,q2,q3⟩:=hRx q e W n hj;rw[hpas q hq]at q1;cases q1;rw[hγ (hpas q hq)];exact hS'.mem.pas.row _ e W n ho q3
  refine⟨envIn E' al,rfl,hM',⟨fun d h1 h2=>hM'.pas.β d ⟨h1,h2⟩,fun d h1 h2 h0=>hM'.pas.γ d ⟨h1,h2⟩ h0,fun d e W n hd=> ?_⟩⟩;obtain⟨q,rfl,hq⟩:=z27 hd;have hql:q<os.length:=(gJ hq).1;obtain⟨n',h1,h2⟩:=(z99 hmo).2.2.2 q e W n hq;obtain⟨n0,h3,h4,h5⟩:=hM'.pas.row (1000+q) e W n' ⟨by omega,by show 1000+q<1000+os.length;omega⟩ (z49 h1);have h3:objR os (1000+q)=some (e,W,n0):=h3;rw[hd]at h3;cases h3;exact⟨n',z49 h1,h4,h5⟩
 exact fin
theorem call_of_swp{f:Nat}{H:Nat→Option Nat→Nat}{Fp:Nat→List (Nat→Option Nat)}{K:Nat→List Nat}{keep:Bool}{F:SFunc}(hmix:P.follows .mixedOrders=true)(hF:z33 P f H Fp K keep=some F){xs:List TV}{os os':List MO}{y:TV}(hn:xs.length≤F.N)(hos:os.length≤1000)(hmo:moOk os os'=true)
  (h:swp P g F.code (fun e s=>(e=.ret∨e=.normal)∧exitF F os.length s=some (y,os')) (startE xs os)):SCalls P g f xs os y os':=call_of_sem hmix hF hn hos hmo (sem_swp hmix h)
end
def hintT(T:List (Nat×Nat))(j:Nat)(d:Option Nat):Nat:=match lk T (dstId d)with|some m=>m|none=>j
def killT(T:List (Nat×List Nat))(id:Nat):List Nat:=match lk T id with|some l=>l|none=>[]
def fpT(T:List (Nat×List (List (Nat×Nat))))(id:Nat):List (Nat→Option Nat):=match lk T id with|some ls=>ls.map lk|none=>[fun _=>none]
def altsE(P:Program)(C:Oracle)(kill:List Nat):List (List Nat×List SOper)→ES→Option ES
 |[],_=>none
 |(n,l)::r,s=>match runE P C l (s.fgt n)with
  |some s'=>some (s'.kill kill)
  |none=>altsE P C kill r s
def iter(f:ES→Option (SExit×ES)):Nat→ES→Option (SExit×ES)
 |0,_=>none
 |n+1,s=>match f s with
  |some (.normal,s')=>iter f n s'
  |r=>r
def exec(P:Program)(C:Oracle)(L:Nat):SCode→ES→Option (SExit×ES)
 | .skip,s=>some (.normal,s)
 | .reg alts kill,s=>match altsE P C kill alts s with
  |some s'=>some (.normal,s')
  |none=>none
 | .regq alts kill,s=>match altsE P C kill alts s with
  |some s'=>some (.normal,s')
  |none=>none
 | .raw _ _,_=>none
 | .seq a b,s=>match exec P C L a s with
  |some (.normal,s')=>exec P C L b s'
  |r=>r
 | .cond c a b,s=>match c.get s.fs with
  |some (.pv (.v (.bool true)))=>exec P C L a s
  |some (.pv (.v (.bool false)))=>exec P C L b s
  |_=>none
 | .block id a,s=>match exec P C L a s with
  |some (.exit j,s')=>match Nat.beq j id with
   |true=>some (.normal,s')
   |false=>some (.exit j,s')
  |r=>r
 | .loop a,s=>iter (fun s=>exec P C L a s) L s
 | .exit id,s=>some (.exit id,s)
 | .ret,s=>some (.ret,s)
def callF(P:Program)(F:Nat→Option SFunc)(prim:Oracle)(L:Nat):Nat→Oracle
 |0=>fun _ _ _=>none
 |n+1=>fun f xs os=>match prim f xs os with
  |some r=>some r
  |none=>match F f with
   |some G=>match Nat.ble xs.length G.N,Nat.ble os.length 1000 with
    |true,true=>match exec P (callF P F prim L n) L G.code (startE xs os)with
     |some (.ret,s)=>match exitF G os.length s with
      |some (y,os')=>match moOk os os' with|true=>some (y,os')|false=>none
      |none=>none
     |some (.normal,s)=>match exitF G os.length s with
      |some (y,os')=>match moOk os os' with|true=>some (y,os')|false=>none
      |none=>none
     |_=>none
    |_,_=>none
   |none=>none
section
variable{P:Program}{g:Glob}{C:Oracle}{L:Nat}
end
end Go.Sh
end

section
namespace Go.Mor
open Go Go.RowKit
def str(l:List UInt8):ByteArray:=⟨l.toArray⟩
theorem str_toList(l:List UInt8):(str l).data.toList=l:=by simp[str]
theorem str_size(l:List UInt8):(str l).size=l.length:=by simp[str,ByteArray.size]
@[go_sem,simp] theorem str_list (l:List UInt8):(str l).toList=l:=ByteArray.toList_mk l
@[go_sem,simp] theorem str_size' (l:List UInt8):(str l).size=l.length:=str_size l
@[go_sem,simp] theorem str_extract (l:List UInt8) (a b:Nat):(str l).extract a b=str ((l.drop a).take (b-a)):=ByteArray.extract_mk l a b
@[go_sem,simp] theorem str_append (a b:List UInt8):str a++str b=str (a++b):=ByteArray.mk_append_mk a b
@[go_sem,simp] theorem str_get (l:List UInt8) (i:Nat) (h:i<(str l).size):(str l)[i]=l[i]'(by simpa using h):=by
 simp[str,ByteArray.getElem_eq_getElem_data]
theorem str_of(s:ByteArray):str s.data.toList=s:=by cases s;simp[str]
inductive V where
 |mk (k n:Int) (s:List UInt8) (l:List V)
def V.k:V→Int| .mk k _ _ _=>k
def V.n:V→Int| .mk _ n _ _=>n
def V.s:V→List UInt8| .mk _ _ s _=>s
def V.l:V→List V| .mk _ _ _ l=>l
theorem V.eta(x:V):V.mk x.k x.n x.s x.l=x:=by cases x;rfl
def V.nil:V:=.mk 0 0 [] []
theorem V.size_lt{x:V}{l:List V}(h:x∈l)(k n:Int)(s:List UInt8):SizeOf.sizeOf x<SizeOf.sizeOf (V.mk k n s l):=by
 have:=List.sizeOf_lt_of_mem h;simp;omega
def V.val(x:V)(c:Value):Value:=.agg #[.int .i64 x.k,.int .i64 x.n,.string (str x.s),c]
inductive IsL(ok:Nat→Prop)(w:World):List V→Value→Prop where
 |mk (l:List V) (b off cap:Nat) (p:Option Addr) (sub:Nat→Value) (hcap:l.length≤cap) (hmax:cap≤maxLen)
   (hp:l≠[]→p=some ⟨b,off,none⟩∧ok b)
   (hc:∀(i:Nat) (x:V),l[i]?=some x→w.cell? ⟨b,off+i*4,none⟩=some (.int .i64 x.k)∧w.cell? ⟨b,off+i*4+1,none⟩=some (.int .i64 x.n)
    ∧w.cell? ⟨b,off+i*4+2,none⟩=some (.string (str x.s))∧w.cell? ⟨b,off+i*4+3,none⟩=some (sub i))
   (hs:∀(i:Nat) (x:V),l[i]?=some x→IsL ok w x.l (sub i)):IsL ok w l (.slice p l.length cap)
theorem z68{w:World}{a:Addr}{v:Value}(h:w.cell? a=some v):a.block<w.heap.size:=by
 rcases Nat.lt_or_ge a.block w.heap.size with hlt|hge
 ·exact hlt
 ·simp[World.cell?,Array.getElem?_eq_none hge]at h
theorem IsL.keepBy{ok:Nat→Prop}{w w':World}{l:List V}{c:Value}(h:IsL ok w l c)
  (hk:∀a v,ok a.block→w.cell? a=some v→w'.cell? a=some v):IsL ok w' l c:=by
 induction h with
 |mk l b off cap p sub hcap hmax hp hc hs ih=>
  refine .mk l b off cap p sub hcap hmax hp (fun i x hx=> ?_) ih;have hb:ok b:=(hp (by rintro rfl;simp at hx)).2;obtain⟨h0,h1,h2,h3⟩:=hc i x hx;exact⟨hk _ _ hb h0,hk _ _ hb h1,hk _ _ hb h2,hk _ _ hb h3⟩
theorem IsL.keep{ok:Nat→Prop}{w w':World}{l:List V}{c:Value}(h:IsL ok w l c)(hk:∀b,ok b→w'.heap[b]?=w.heap[b]?):IsL ok w' l c:=
 h.keepBy fun a _ ho hv=>(World.cell?_of_block (w:=w) (hk a.block ho)).trans hv
theorem IsL.ext{ok:Nat→Prop}{w w':World}{l:List V}{c:Value}(h:IsL ok w l c)(hb:Below w.heap.size w w'):IsL ok w' l c:=
 h.keepBy fun _ _ _ hv=>(hb.cell (z68 hv)).trans hv
theorem IsL.nil{ok:Nat→Prop}{w:World}(p:Option Addr)(cap:Nat)(h:cap≤maxLen):IsL ok w [] (.slice p 0 cap):=
 .mk [] 0 0 cap p (fun _=> .slice none 0 0) (by simp) h (by simp) (by simp) (by simp)
theorem IsL.drew{ok:Nat→Prop}{w:World}{l:List V}{c:Value}(h:IsL ok w l c):IsL ok w.drew l c:=h.keepBy fun _ _ _ hv=>hv
def Enters(P:Program)(f:FuncId):Prop:=∀(args:Array Value) (w:World),(callFunc f args).run P w=.ok (.enter f args) w
theorem enters_mk{P:Program}{f:FuncId}{fn:Func}{c:Code}(hf:P.funcs[f]?=some fn)(hname:(fn.name== "runtime.NumGoroutine")=false)(hb:fn.body=some c):Enters P f:=by
 intro args w;have hn:¬fn.name= "runtime.NumGoroutine" :=by simpa using hname
 simp[callFunc,hf,hn,hb]
def z44{α:Type}(p:α→Bool)(l:List α):Int:=match l.findIdx? p with|some i=>i|none=> -1
end Go.Mor
end

section
namespace Go.Proofs.YtcpaleaajdilgaaGreatDoor
open Go Go.RowKit Go.Mor
structure GlobU(w:World):Prop where
 tabs:Lib.Utf8Tabs 0 1 w
theorem GlobU.ext{w w':World}(h:GlobU w)(hb:Below w.heap.size w w'):GlobU w' where
 tabs:=Utf8Tabs_below h.tabs hb
end Go.Proofs.YtcpaleaajdilgaaGreatDoor
end

section
namespace Go.Proofs
open Go.Shelf
def Tryz.laysValid_ren:Go.Shelf.Ren:=⟨fun|196=>158|259=>220|n=>n,fun|9=>9|4=>4|3=>3|5=>5|12=>12|119=>266|0=>0|46=>270|139=>269|138=>268|53=>247|n=>n,fun|3=>0|4=>1|n=>n⟩
theorem Tryz.laysValid:Go.Proofs.Lays.n196 Tryz.prog Tryz.laysValid_ren:={
 mixed:=by kernel_rfl
 f196:=Tryz.func158.trans (congrArg some (by kernel_rfl))
 f259:=Tryz.func220.trans (congrArg some (by kernel_rfl))
 t0:=Tryz.underlying0
 a0:=Tryz.isAgg0
 z0:=Tryz.sizeOf0
 v0:=Tryz.zeroValue0
 t3:=Tryz.underlying3
 a3:=Tryz.isAgg3
 z3:=Tryz.sizeOf3
 v3:=Tryz.zeroValue3
 t4:=Tryz.underlying4
 a4:=Tryz.isAgg4
 z4:=Tryz.sizeOf4
 v4:=Tryz.zeroValue4
 t5:=Tryz.underlying5
 a5:=Tryz.isAgg5
 z5:=Tryz.sizeOf5
 v5:=Tryz.zeroValue5
 t9:=Tryz.underlying9
 a9:=Tryz.isAgg9
 z9:=Tryz.sizeOf9
 v9:=Tryz.zeroValue9
 t12:=Tryz.underlying12
 a12:=Tryz.isAgg12
 z12:=Tryz.sizeOf12
 v12:=Tryz.zeroValue12
 t46:=Tryz.underlying270
 a46:=Tryz.isAgg270
 z46:=Tryz.sizeOf270
 v46:=Tryz.zeroValue270
 t53:=Tryz.underlying247
 a53:=Tryz.isAgg247
 z53:=Tryz.sizeOf247
 v53:=Tryz.zeroValue247
 t119:=Tryz.underlying266
 a119:=Tryz.isAgg266
 z119:=Tryz.sizeOf266
 t138:=Tryz.underlying268
 a138:=Tryz.isAgg268
 z138:=Tryz.sizeOf268
 v138:=Tryz.zeroValue268
 t139:=Tryz.underlying269
 a139:=Tryz.isAgg269
 z139:=Tryz.sizeOf269
 v139:=Tryz.zeroValue269
 g3:=by kernel_rfl
 g4:=by kernel_rfl }
open Go.RowKit Go.Lib in
theorem Tryz.utf8_ValidString(s:ByteArray)(w:World)(hs:s.size≤9223372036854775807)(hT:Lib.Utf8Tabs 0 1 w):
  Calls Tryz.prog 158 #[.string s] w fun e w'=>e=.returned (.bool (Lib.validD s.data.toList))∧Below w.heap.size w w':=Any.utf8_ValidString Tryz.laysValid s w hs hT
def Tryz.laysDecode_ren:Go.Shelf.Ren:=⟨fun|197=>166|260=>225|n=>n,fun|9=>9|21=>21|3=>3|4=>4|5=>5|105=>245|119=>266|0=>0|46=>270|139=>269|138=>268|n=>n,fun|3=>0|4=>1|n=>n⟩
theorem Tryz.laysDecode:Go.Proofs.Lays.n197 Tryz.prog Tryz.laysDecode_ren:={
 mixed:=by kernel_rfl
 f197:=Tryz.func166.trans (congrArg some (by kernel_rfl))
 f260:=Tryz.func225.trans (congrArg some (by kernel_rfl))
 t0:=Tryz.underlying0
 a0:=Tryz.isAgg0
 z0:=Tryz.sizeOf0
 v0:=Tryz.zeroValue0
 t3:=Tryz.underlying3
 a3:=Tryz.isAgg3
 z3:=Tryz.sizeOf3
 v3:=Tryz.zeroValue3
 t4:=Tryz.underlying4
 a4:=Tryz.isAgg4
 z4:=Tryz.sizeOf4
 v4:=Tryz.zeroValue4
 t5:=Tryz.underlying5
 a5:=Tryz.isAgg5
 z5:=Tryz.sizeOf5
 v5:=Tryz.zeroValue5
 t9:=Tryz.underlying9
 a9:=Tryz.isAgg9
 z9:=Tryz.sizeOf9
 v9:=Tryz.zeroValue9
 t21:=Tryz.underlying21
 a21:=Tryz.isAgg21
 z21:=Tryz.sizeOf21
 v21:=Tryz.zeroValue21
 t46:=Tryz.underlying270
 a46:=Tryz.isAgg270
 z46:=Tryz.sizeOf270
 v46:=Tryz.zeroValue270
 t105:=Tryz.underlying245
 a105:=Tryz.isAgg245
 z105:=Tryz.sizeOf245
 v105:=Tryz.zeroValue245
 t119:=Tryz.underlying266
 a119:=Tryz.isAgg266
 z119:=Tryz.sizeOf266
 t138:=Tryz.underlying268
 a138:=Tryz.isAgg268
 z138:=Tryz.sizeOf268
 v138:=Tryz.zeroValue268
 t139:=Tryz.underlying269
 a139:=Tryz.isAgg269
 z139:=Tryz.sizeOf269
 v139:=Tryz.zeroValue269
 g3:=by kernel_rfl
 g4:=by kernel_rfl }
open Go.RowKit Go.Lib in
theorem Tryz.utf8_DecodeRuneInString(s:ByteArray)(w:World)(hT:Lib.Utf8Tabs 0 1 w):
  Calls Tryz.prog 166 #[.string s] w fun e w'=>e=.returned (.tuple #[.int .i32 (Lib.decodeGo s).1,.int .i64 (Lib.decodeGo s).2])∧Below w.heap.size w w':=Any.utf8_DecodeRuneInString Tryz.laysDecode s w hT
def Tryz.laysM171_ren:Go.Shelf.Ren:=⟨fun|171=>97|243=>161|246=>221|283=>255|284=>256|285=>257|286=>258|129=>293|317=>292|318=>294|319=>295|320=>296|337=>315|338=>316|n=>n,fun|3=>3|9=>9|2=>2|4=>4|171=>296|0=>0|53=>247|37=>98|5=>5|173=>299|212=>326|51=>327|20=>20|213=>328|46=>270|232=>355|233=>356|n=>n,fun|17=>5|18=>8|19=>9|n=>n⟩
theorem Tryz.laysM171:Go.Proofs.LaysM.n171 Tryz.prog Tryz.laysM171_ren:={
 mixed:=by kernel_rfl
 f129:=Tryz.func293.trans (congrArg some (by kernel_rfl))
 f171:=Tryz.func97.trans (congrArg some (by kernel_rfl))
 f243:=Tryz.func161.trans (congrArg some (by kernel_rfl))
 f246:=Tryz.func221.trans (congrArg some (by kernel_rfl))
 f283:=Tryz.func255.trans (congrArg some (by kernel_rfl))
 f284:=Tryz.func256.trans (congrArg some (by kernel_rfl))
 f285:=Tryz.func257.trans (congrArg some (by kernel_rfl))
 f286:=Tryz.func258.trans (congrArg some (by kernel_rfl))
 f317:=Tryz.func292.trans (congrArg some (by kernel_rfl))
 f318:=Tryz.func294.trans (congrArg some (by kernel_rfl))
 f319:=Tryz.func295.trans (congrArg some (by kernel_rfl))
 f320:=Tryz.func296.trans (congrArg some (by kernel_rfl))
 f337:=Tryz.func315.trans (congrArg some (by kernel_rfl))
 f338:=Tryz.func316.trans (congrArg some (by kernel_rfl))
 t0:=Tryz.underlying0
 a0:=Tryz.isAgg0
 z0:=Tryz.sizeOf0
 v0:=Tryz.zeroValue0
 t2:=Tryz.underlying2
 a2:=Tryz.isAgg2
 z2:=Tryz.sizeOf2
 v2:=Tryz.zeroValue2
 t3:=Tryz.underlying3
 a3:=Tryz.isAgg3
 z3:=Tryz.sizeOf3
 v3:=Tryz.zeroValue3
 t4:=Tryz.underlying4
 a4:=Tryz.isAgg4
 z4:=Tryz.sizeOf4
 v4:=Tryz.zeroValue4
 t5:=Tryz.underlying5
 a5:=Tryz.isAgg5
 z5:=Tryz.sizeOf5
 v5:=Tryz.zeroValue5
 t9:=Tryz.underlying9
 a9:=Tryz.isAgg9
 z9:=Tryz.sizeOf9
 v9:=Tryz.zeroValue9
 t20:=Tryz.underlying20
 a20:=Tryz.isAgg20
 z20:=Tryz.sizeOf20
 v20:=Tryz.zeroValue20
 t37:=Tryz.underlying98
 a37:=Tryz.isAgg98
 z37:=Tryz.sizeOf98
 v37:=Tryz.zeroValue98
 t46:=Tryz.underlying270
 a46:=Tryz.isAgg270
 z46:=Tryz.sizeOf270
 v46:=Tryz.zeroValue270
 t51:=Tryz.underlying327
 a51:=Tryz.isAgg327
 z51:=Tryz.sizeOf327
 v51:=Tryz.zeroValue327
 t53:=Tryz.underlying247
 a53:=Tryz.isAgg247
 z53:=Tryz.sizeOf247
 v53:=Tryz.zeroValue247
 t171:=Tryz.underlying296
 a171:=Tryz.isAgg296
 z171:=Tryz.sizeOf296
 v171:=Tryz.zeroValue296
 t173:=Tryz.underlying299
 a173:=Tryz.isAgg299
 z173:=Tryz.sizeOf299
 v173:=Tryz.zeroValue299
 t212:=Tryz.underlying326
 a212:=Tryz.isAgg326
 z212:=Tryz.sizeOf326
 v212:=Tryz.zeroValue326
 t213:=Tryz.underlying328
 a213:=Tryz.isAgg328
 z213:=Tryz.sizeOf328
 t232:=Tryz.underlying355
 a232:=Tryz.isAgg355
 z232:=Tryz.sizeOf355
 v232:=Tryz.zeroValue355
 t233:=Tryz.underlying356
 a233:=Tryz.isAgg356
 z233:=Tryz.sizeOf356
 v233:=Tryz.zeroValue356
 g17:=by kernel_rfl
 g18:=by kernel_rfl
 g19:=by kernel_rfl
 i0:=by kernel_rfl
 i2:=by kernel_rfl
 i3:=by kernel_rfl
 i4:=by kernel_rfl
 i5:=by kernel_rfl
 i9:=by kernel_rfl
 i20:=by kernel_rfl
 i37:=by kernel_rfl
 i46:=by kernel_rfl
 i51:=by kernel_rfl
 i53:=by kernel_rfl
 i171:=by kernel_rfl
 i173:=by kernel_rfl
 i212:=by kernel_rfl
 i232:=by kernel_rfl
 i233:=by kernel_rfl
 m17:=by kernel_rfl
 m18:=by kernel_rfl
 m19:=by kernel_rfl }
open Go.RowKit Go.Lib in
theorem Tryz.strconv_Itoa(n:Int)(h0: -9223372036854775808≤n)(h1:n≤9223372036854775807)(w:World)(htab:Lib.TabIs Tryz.prog w "internal/strconv.uint64pow10" .u64 Lib.pow10Tab):
  Calls Tryz.prog 97 #[.int .i64 n] w fun e w'=>e=.returned (.string ⟨(Lib.itoa n).toArray⟩)∧∃k os,w'=Go.Sort.grow (w.drewN k) os:=Any.strconv_Itoa Tryz.laysM171 n h0 h1 w htab
def Tryz.lays143_ren:Go.Shelf.Ren:=⟨fun|143=>213|219=>252|217=>283|225=>284|224=>285|267=>286|266=>310|314=>311|n=>n,fun|9=>9|3=>3|4=>4|5=>5|46=>270|146=>343|51=>327|n=>n,fun|1=>4|n=>n⟩
theorem Tryz.lays143:Go.Proofs.Lays.n143 Tryz.prog Tryz.lays143_ren:={
 mixed:=by kernel_rfl
 f143:=Tryz.func213.trans (congrArg some (by kernel_rfl))
 f217:=Tryz.func283.trans (congrArg some (by kernel_rfl))
 f219:=Tryz.func252.trans (congrArg some (by kernel_rfl))
 f224:=Tryz.func285.trans (congrArg some (by kernel_rfl))
 f225:=Tryz.func284.trans (congrArg some (by kernel_rfl))
 f266:=Tryz.func310.trans (congrArg some (by kernel_rfl))
 f267:=Tryz.func286.trans (congrArg some (by kernel_rfl))
 f314:=Tryz.func311.trans (congrArg some (by kernel_rfl))
 t3:=Tryz.underlying3
 a3:=Tryz.isAgg3
 z3:=Tryz.sizeOf3
 v3:=Tryz.zeroValue3
 t4:=Tryz.underlying4
 a4:=Tryz.isAgg4
 z4:=Tryz.sizeOf4
 v4:=Tryz.zeroValue4
 t5:=Tryz.underlying5
 a5:=Tryz.isAgg5
 z5:=Tryz.sizeOf5
 v5:=Tryz.zeroValue5
 t9:=Tryz.underlying9
 a9:=Tryz.isAgg9
 z9:=Tryz.sizeOf9
 v9:=Tryz.zeroValue9
 t46:=Tryz.underlying270
 a46:=Tryz.isAgg270
 z46:=Tryz.sizeOf270
 v46:=Tryz.zeroValue270
 t51:=Tryz.underlying327
 a51:=Tryz.isAgg327
 z51:=Tryz.sizeOf327
 v51:=Tryz.zeroValue327
 t146:=Tryz.underlying343
 a146:=Tryz.isAgg343
 z146:=Tryz.sizeOf343
 v146:=Tryz.zeroValue343
 g1:=by kernel_rfl }
open Go.RowKit Go.Lib in
theorem Tryz.strings_Index(s substr:ByteArray)(m:Int)(w:World)(hs:s.size<4294967281)(hm:w.cell? ⟨4,0,none⟩=some (.int .i64 m)):
  Calls Tryz.prog 213 #[.string s,.string substr] w fun e w'=>e=.returned (.int .i64 (Lib.index s.data.toList substr.data.toList))∧w'=w:=Any.strings_Index Tryz.lays143 s substr m w hs hm
def Tryz.lays118_ren:Go.Shelf.Ren:=⟨fun|118=>212|n=>n,fun|21=>21|3=>3|4=>4|n=>n,fun|n=>n⟩
theorem Tryz.lays118:Go.Proofs.Lays.n118 Tryz.prog Tryz.lays118_ren:={
 mixed:=by kernel_rfl
 f118:=Tryz.func212.trans (congrArg some (by kernel_rfl))
 t3:=Tryz.underlying3
 a3:=Tryz.isAgg3
 z3:=Tryz.sizeOf3
 v3:=Tryz.zeroValue3
 t4:=Tryz.underlying4
 a4:=Tryz.isAgg4
 z4:=Tryz.sizeOf4
 v4:=Tryz.zeroValue4
 t21:=Tryz.underlying21
 a21:=Tryz.isAgg21
 z21:=Tryz.sizeOf21
 v21:=Tryz.zeroValue21 }
open Go.RowKit Go.Lib in
theorem Tryz.utf8_RuneLen(r:Int)(w:World):
  Calls Tryz.prog 212 #[.int .i32 r] w fun e w'=>e=.returned (.int .i64 (Lib.runeLen r))∧w'=w:=Any.utf8_RuneLen Tryz.lays118 r w
def Tryz.laysC172_ren:Go.Shelf.Ren:=⟨fun|172=>214|244=>253|245=>254|247=>287|279=>288|280=>289|281=>290|282=>291|287=>312|316=>313|171=>97|205=>314|321=>318|322=>319|243=>161|246=>221|283=>255|284=>256|285=>257|286=>258|129=>293|317=>292|318=>294|319=>295|320=>296|337=>315|338=>316|n=>n,fun|9=>9|3=>3|75=>242|76=>243|4=>4|5=>5|167=>319|37=>98|0=>0|85=>320|2=>2|168=>322|53=>247|175=>345|46=>270|210=>348|127=>272|145=>354|143=>352|21=>21|171=>296|173=>299|212=>326|51=>327|20=>20|213=>328|232=>355|233=>356|80=>120|n=>n,fun|15=>6|16=>7|17=>5|18=>8|19=>9|n=>n⟩
theorem Tryz.laysC172:Go.Proofs.LaysC.n172 Tryz.prog Tryz.laysC172_ren:={
 mixed:=by kernel_rfl
 f129:=Tryz.func293.trans (congrArg some (by kernel_rfl))
 f171:=Tryz.func97.trans (congrArg some (by kernel_rfl))
 f172:=Tryz.func214.trans (congrArg some (by kernel_rfl))
 f205:=Tryz.func314.trans (congrArg some (by kernel_rfl))
 f243:=Tryz.func161.trans (congrArg some (by kernel_rfl))
 f244:=Tryz.func253.trans (congrArg some (by kernel_rfl))
 f245:=Tryz.func254.trans (congrArg some (by kernel_rfl))
 f246:=Tryz.func221.trans (congrArg some (by kernel_rfl))
 f247:=Tryz.func287.trans (congrArg some (by kernel_rfl))
 f279:=Tryz.func288.trans (congrArg some (by kernel_rfl))
 f280:=Tryz.func289.trans (congrArg some (by kernel_rfl))
 f281:=Tryz.func290.trans (congrArg some (by kernel_rfl))
 f282:=Tryz.func291.trans (congrArg some (by kernel_rfl))
 f283:=Tryz.func255.trans (congrArg some (by kernel_rfl))
 f284:=Tryz.func256.trans (congrArg some (by kernel_rfl))
 f285:=Tryz.func257.trans (congrArg some (by kernel_rfl))
 f286:=Tryz.func258.trans (congrArg some (by kernel_rfl))
 f287:=Tryz.func312.trans (congrArg some (by kernel_rfl))
 f316:=Tryz.func313.trans (congrArg some (by kernel_rfl))
 f317:=Tryz.func292.trans (congrArg some (by kernel_rfl))
 f318:=Tryz.func294.trans (congrArg some (by kernel_rfl))
 f319:=Tryz.func295.trans (congrArg some (by kernel_rfl))
 f320:=Tryz.func296.trans (congrArg some (by kernel_rfl))
 f321:=Tryz.func318.trans (congrArg some (by kernel_rfl))
 f322:=Tryz.func319.trans (congrArg some (by kernel_rfl))
 f337:=Tryz.func315.trans (congrArg some (by kernel_rfl))
 f338:=Tryz.func316.trans (congrArg some (by kernel_rfl))
 t0:=Tryz.underlying0
 a0:=Tryz.isAgg0
 z0:=Tryz.sizeOf0
 v0:=Tryz.zeroValue0
 t2:=Tryz.underlying2
 a2:=Tryz.isAgg2
 z2:=Tryz.sizeOf2
 v2:=Tryz.zeroValue2
 t3:=Tryz.underlying3
 a3:=Tryz.isAgg3
 z3:=Tryz.sizeOf3
 v3:=Tryz.zeroValue3
 t4:=Tryz.underlying4
 a4:=Tryz.isAgg4
 z4:=Tryz.sizeOf4
 v4:=Tryz.zeroValue4
 t5:=Tryz.underlying5
 a5:=Tryz.isAgg5
 z5:=Tryz.sizeOf5
 v5:=Tryz.zeroValue5
 t9:=Tryz.underlying9
 a9:=Tryz.isAgg9
 z9:=Tryz.sizeOf9
 v9:=Tryz.zeroValue9
 t20:=Tryz.underlying20
 a20:=Tryz.isAgg20
 z20:=Tryz.sizeOf20
 v20:=Tryz.zeroValue20
 t21:=Tryz.underlying21
 a21:=Tryz.isAgg21
 z21:=Tryz.sizeOf21
 v21:=Tryz.zeroValue21
 t37:=Tryz.underlying98
 a37:=Tryz.isAgg98
 z37:=Tryz.sizeOf98
 v37:=Tryz.zeroValue98
 t46:=Tryz.underlying270
 a46:=Tryz.isAgg270
 z46:=Tryz.sizeOf270
 v46:=Tryz.zeroValue270
 t51:=Tryz.underlying327
 a51:=Tryz.isAgg327
 z51:=Tryz.sizeOf327
 v51:=Tryz.zeroValue327
 t53:=Tryz.underlying247
 a53:=Tryz.isAgg247
 z53:=Tryz.sizeOf247
 v53:=Tryz.zeroValue247
 t75:=Tryz.underlying242
 a75:=Tryz.isAgg242
 z75:=Tryz.sizeOf242
 v75:=Tryz.zeroValue242
 t76:=Tryz.underlying243
 a76:=Tryz.isAgg243
 z76:=Tryz.sizeOf243
 v76:=Tryz.zeroValue243
 t85:=Tryz.underlying320
 a85:=Tryz.isAgg320
 z85:=Tryz.sizeOf320
 v85:=Tryz.zeroValue320
 t127:=Tryz.underlying272
 a127:=Tryz.isAgg272
 z127:=Tryz.sizeOf272
 v127:=Tryz.zeroValue272
 t143:=Tryz.underlying352
 a143:=Tryz.isAgg352
 z143:=Tryz.sizeOf352
 v143:=Tryz.zeroValue352
 t145:=Tryz.underlying354
 a145:=Tryz.isAgg354
 z145:=Tryz.sizeOf354
 v145:=Tryz.zeroValue354
 t167:=Tryz.underlying319
 a167:=Tryz.isAgg319
 z167:=Tryz.sizeOf319
 v167:=Tryz.zeroValue319
 t168:=Tryz.underlying322
 a168:=Tryz.isAgg322
 z168:=Tryz.sizeOf322
 v168:=Tryz.zeroValue322
 t171:=Tryz.underlying296
 a171:=Tryz.isAgg296
 z171:=Tryz.sizeOf296
 v171:=Tryz.zeroValue296
 t173:=Tryz.underlying299
 a173:=Tryz.isAgg299
 z173:=Tryz.sizeOf299
 v173:=Tryz.zeroValue299
 t175:=Tryz.underlying345
 a175:=Tryz.isAgg345
 z175:=Tryz.sizeOf345
 v175:=Tryz.zeroValue345
 t210:=Tryz.underlying348
 a210:=Tryz.isAgg348
 z210:=Tryz.sizeOf348
 v210:=Tryz.zeroValue348
 t212:=Tryz.underlying326
 a212:=Tryz.isAgg326
 z212:=Tryz.sizeOf326
 v212:=Tryz.zeroValue326
 t213:=Tryz.underlying328
 a213:=Tryz.isAgg328
 z213:=Tryz.sizeOf328
 t232:=Tryz.underlying355
 a232:=Tryz.isAgg355
 z232:=Tryz.sizeOf355
 v232:=Tryz.zeroValue355
 t233:=Tryz.underlying356
 a233:=Tryz.isAgg356
 z233:=Tryz.sizeOf356
 v233:=Tryz.zeroValue356
 g15:=by kernel_rfl
 g16:=by kernel_rfl
 g17:=by kernel_rfl
 g18:=by kernel_rfl
 g19:=by kernel_rfl
 t80:=Tryz.underlying120
 a80:=Tryz.isAgg120
 z80:=Tryz.sizeOf120
 v80:=Tryz.zeroValue120
 i0:=by kernel_rfl
 i2:=by kernel_rfl
 i3:=by kernel_rfl
 i4:=by kernel_rfl
 i5:=by kernel_rfl
 i9:=by kernel_rfl
 i20:=by kernel_rfl
 i21:=by kernel_rfl
 i37:=by kernel_rfl
 i46:=by kernel_rfl
 i51:=by kernel_rfl
 i53:=by kernel_rfl
 i75:=by kernel_rfl
 i76:=by kernel_rfl
 i80:=by kernel_rfl
 i85:=by kernel_rfl
 i127:=by kernel_rfl
 i143:=by kernel_rfl
 i145:=by kernel_rfl
 i167:=by kernel_rfl
 i168:=by kernel_rfl
 i171:=by kernel_rfl
 i173:=by kernel_rfl
 i175:=by kernel_rfl
 i210:=by kernel_rfl
 i212:=by kernel_rfl
 i232:=by kernel_rfl
 i233:=by kernel_rfl
 m15:=by kernel_rfl
 m16:=by kernel_rfl
 m17:=by kernel_rfl
 m18:=by kernel_rfl
 m19:=by kernel_rfl
 c0:=by kernel_rfl
 c2:=by kernel_rfl
 c3:=by kernel_rfl
 c4:=by kernel_rfl
 c5:=by kernel_rfl
 c9:=by kernel_rfl
 c20:=by kernel_rfl
 c21:=by kernel_rfl
 c37:=by kernel_rfl
 c46:=by kernel_rfl
 c51:=by kernel_rfl
 c53:=by kernel_rfl
 c75:=by kernel_rfl
 c76:=by kernel_rfl
 c80:=by kernel_rfl
 c85:=by kernel_rfl
 c127:=by kernel_rfl
 c143:=by kernel_rfl
 c145:=by kernel_rfl
 c167:=by kernel_rfl
 c168:=by kernel_rfl
 c171:=by kernel_rfl
 c173:=by kernel_rfl
 c175:=by kernel_rfl
 c210:=by kernel_rfl
 c212:=by kernel_rfl
 c213:=by kernel_rfl
 c232:=by kernel_rfl
 c233:=by kernel_rfl }
end Go.Proofs
end

section
namespace Go.Proofs.YtcpaleaajdilgaaGreatDoor
open Go Go.RowKit Go.Mor Go.Sh
theorem hmix:Tryz.prog.follows .mixedOrders=true:=by kernel_rfl
structure GlobN0(n:Nat)(w:World):Prop where
 u:GlobU w
 sz:n≤w.heap.size
 hv:10≤n
theorem tabs_st{w w':World}{n:Nat}(hn:10≤n)(h:Lib.Utf8Tabs 0 1 w)(hk:∀k,k<n→w'.heap[k]?=w.heap[k]?):Lib.Utf8Tabs 0 1 w':=by
 have hc:∀b o,b<n→w'.cell? ⟨b,o,none⟩=w.cell? ⟨b,o,none⟩:=fun b o hb=>World.cell?_of_block (w:=w) (a:=⟨b,o,none⟩) (hk b hb);refine⟨fun c hcc=> ?_,fun i hi=> ?_⟩
 ·rw[hc _ _ (by omega)];exact h.1 c hcc
 ·obtain⟨h1,h2⟩:=h.2 i hi;exact⟨by rw[hc _ _ (by omega)];exact h1,by rw[hc _ _ (by omega)];exact h2⟩
theorem globU_st{w w':World}{n:Nat}(hv:10≤n)(h:GlobU w)(hk:∀k,k<n→w'.heap[k]?=w.heap[k]?):GlobU w':=by
 exact⟨tabs_st hv h.tabs hk⟩
theorem size_st{w w':World}{n:Nat}(hsz:n≤w.heap.size)(hk:∀k,k<n→w'.heap[k]?=w.heap[k]?):n≤w'.heap.size:=by
 rcases Nat.eq_zero_or_pos n with h0|h0
 ·omega
 ·have:=hk (n-1) (by omega);rw[Array.getElem?_eq_getElem (show n-1<w.heap.size by omega)]at this;have:=(gA this).1;omega
def gl0(n:Nat):Sh.Glob where
 G:=GlobN0 n
 n:=n
 st:=fun w w' h hk=>⟨globU_st h.hv h.u hk,size_st h.sz hk,h.hv⟩
 le:=fun w h=>h.sz
theorem sc_of{P:Program}{g g':Sh.Glob}{f:Nat}{xs:List TV}{os:List MO}{y:TV}{os':List MO}(hn:g'.n=g.n)(hG:∀w,g'.G w→g.G w)(h:SCalls P g f xs os y os'):SCalls P g' f xs os y os':=
 ⟨h.1,fun w E vs h1 h2 h3 h4 h5=>h.2 w E vs (hG w h1) h2 (fun d b hb=>hn▸h3 d b hb) h4 h5⟩
theorem z140{w:World}{E:Env}{r:Sh.Rows}(vs:List Value):RelT w E r (.tuple (vs.map fun v=> .pv (.v v))) (.tuple vs.toArray):=
 .tuple _ vs (by simp) (fun j c v hc hv=>by simp[hv]at hc;subst hc;exact .pv (.v v))
theorem z77{P:Program}{g:Sh.Glob}{f:Nat}{vs:List Value}{y:TV}{v:Value}(hb:hasBody P f)(hy:∀w E r,RelT w E r y v)(h:∀w,g.G w→Calls P f vs.toArray w fun e w'=>e=.returned v∧Below w.heap.size w w'):SCalls P g f (vs.map fun v=> .pv (.v v)) [] y []:=by
 refine⟨hb,fun w E us hG hm hX hl hr=> ?_⟩;have hus:us=vs:=by
  apply List.ext_getElem?;intro j;rcases Nat.lt_or_ge j us.length with hj|hj
  ·have hj':j<vs.length:=by simpa [←hl]using hj
   have:=hr j (.pv (.v vs[j])) us[j] (by simp[hj']) (gE hj);rw[gE hj,gE hj'];exact congrArg some (val_rel (y:=vs[j]) this rfl)
  ·rw[List.getElem?_eq_none hj,List.getElem?_eq_none (by simpa [←hl]using hj)]
 subst hus;refine(h w hG).mono ?_;rintro e w' ⟨rfl,hb⟩;refine⟨v,E,rfl,?_,hy _ _ _,⟨fun _ _ _=>rfl,fun _ _ _ _=>rfl,fun d e W n hd=>by obtain⟨j,_,hj⟩:=z27 hd;simp at hj⟩⟩;exact MSim.ext (s:=⟨fun _=>none,objB [],objR [],fun _=>none⟩) hm hb E (fun _ _ h=>h) (fun _ _ h=> .inl h) (fun _ _=>⟨rfl,rfl⟩) (fun _ _ _=>rfl) (fun _ _=>⟨rfl,rfl⟩)
def in64(x:Int):Bool:=decide (-9223372036854775808≤x)&&decide (x≤9223372036854775807)
def I(x:Int):TV:=.pv (.v (.int .i64 x))
def S(s:ByteArray):TV:=.pv (.v (.string s))
def bl(s:ByteArray):List UInt8:=s.data.toList
theorem str_bl(s:ByteArray):str (bl s)=s:=by cases s;simp[str,bl]
theorem z47{f:Nat}(h:(match Tryz.prog.funcs[f]? with|some fn=>fn.body.isSome&&fn.name != "runtime.NumGoroutine" |none=>false)=true):hasBody Tryz.prog f:=by
 split at h
 ·rename_i fn hfn;rw[Bool.and_eq_true]at h;obtain⟨b,hb⟩:=Option.isSome_iff_exists.1 h.1;exact⟨fn,b,hfn,hb,by simpa using h.2⟩
 ·cases h
theorem in64_spec{x:Int}(h:in64 x=true): -9223372036854775808≤x∧x≤9223372036854775807:=by
 unfold in64 at h;simpa using h
def prim0:Oracle:=fun f xs os=>
 if Nat.beq f 158 then match xs,os with
  |[.pv (.v (.string s))],[]=>if decide (s.size≤9223372036854775807)then some (.pv (.v (.bool (Lib.validD s.data.toList))),[])else none
  |_,_=>none
 else if Nat.beq f 166 then match xs,os with
  |[.pv (.v (.string s))],[]=>some (.tuple [.pv (.v (.int .i32 (Lib.decodeGo s).1)),I (Lib.decodeGo s).2],[])
  |_,_=>none
 else none
theorem prim0_sound(n:Nat):SoundC Tryz.prog (gl0 n) prim0:=by
 intro f xs os y os' h;unfold prim0 at h;split at h
 ·rename_i hf;obtain rfl:=Nat.eq_of_beq_eq_true hf;split at h<;>try(cases h;done)
  rename_i s;split at h<;>try(cases h;done)
  rename_i hx;cases h;exact z77 (vs:=[.string s]) (z47 (by kernel_rfl)) (fun w E r=> .pv (.v _)) (fun w hG=>Tryz.utf8_ValidString s w (by simpa using hx) hG.u.tabs)
 split at h
 ·rename_i hf;obtain rfl:=Nat.eq_of_beq_eq_true hf;split at h<;>try(cases h;done)
  rename_i s;cases h;exact z77 (vs:=[.string s]) (v:=.tuple #[.int .i32 (Lib.decodeGo s).1,.int .i64 (Lib.decodeGo s).2]) (z47 (by kernel_rfl)) (fun w E r=>z140 [_,_]) (fun w hG=>Tryz.utf8_DecodeRuneInString s w hG.u.tabs)
 ·cases h
end Go.Proofs.YtcpaleaajdilgaaGreatDoor
end

section
namespace Go.Sh
open Go Go.RowKit
set_option maxHeartbeats 4000000
def noC:Oracle:=fun _ _ _=>none
theorem noC_sound(P:Program)(g:Glob):SoundC P g noC:=fun f xs os y os' h=>by cases h
def SOp.isCall:SOp→Bool| .call .. | .callv .. =>true|_=>false
theorem eff_noC{P:Program}{C:Oracle}{dst:Option Nat}{o:SOp}(h:o.isCall=false)(s:FS):eff P C dst o s=eff P noC dst o s:=by
 cases o<;>first|rfl|cases h
theorem effG_noC{P:Program}{C:Oracle}{o:SOper}(h:o.op.isCall=false)(s:FS):effG P C o s=effG P noC o s:=by
 unfold effG effF;rw[eff_noC h]
def stepW(P:Program)(o:SOper)(K:ES→Prop)(s:ES):Option (TV×Upd)→Prop
 |some e=>K (s.after o e)
 |none=>False
section
variable{P:Program}{g:Glob}{o:SOper}{l:List SOper}{K:ES→Prop}{s:ES}
theorem opsW_nc(h:o.op.isCall=false):opsW P g (o::l) K s ↔ stepW P o (opsW P g l K) s (effG P noC o s.fs):=by
 constructor
 ·rintro⟨C,hC,e,he,hk⟩;rw[effG_noC h]at he;rw[he];exact hk
 ·intro hk;cases he:effG P noC o s.fs with
  |none=>rw[he]at hk;exact hk.elim
  |some e=>rw[he]at hk;exact⟨noC,noC_sound P g,e,he,hk⟩
def callK(P:Program)(g:Glob)(k f m:Nat)(s:FS)(K:TV→Upd→Prop):Option (List TV)→Prop
 |none=>False
 |some args=>∃I,I=handI s m args∧∃xs' os,seqO (TV.ren2 (rhoIn I)) args=some xs'∧seqO (fun d=>(s.mo d).bind (MO.ren (rhoIn I))) I=some os∧
   ∃y os',SCalls P g f xs' os y os'∧moOk os os'=true∧∃y' us,y.ren3 (rhoOut I k)=some y'∧outs (rhoOut I k) 0 os'=some us∧K y' (.mem us)
open Classical in
noncomputable def theC(f:Nat)(xs:List TV)(os:List MO)(r:TV×List MO):Oracle:=fun f' xs' os'=>if f'=f∧xs'=xs∧os'=os then some r else none
theorem theC_sound{f:Nat}{xs:List TV}{os os':List MO}{y:TV}(h:SCalls P g f xs os y os'):SoundC P g (theC f xs os (y,os')):=by
 intro f' xs' os2 y' os3 h'
 grind [theC]
theorem callEff_of{k f m:Nat}{s:FS}{K:TV→Upd→Prop}{args:List TV}(h:callK P g k f m s K (some args)):∃C,SoundC P g C∧∃y' u,z95 C s k f m args=some (y',u)∧K y' u:=by
 obtain⟨I,rfl,xs',os,h1,h2,y,os',hc,hmo,y',us,h3,h4,hk⟩:=h;refine⟨theC f xs' os (y,os'),theC_sound hc,y',.mem us,?_,hk⟩
 grind [z95,handI,only,theC]
theorem opsW_call{dst:Option Nat}{f m:Nat}{xs:List Arg}(h:callK P g (dstId dst) f m s.fs (fun y u=>opsW P g l K (s.after ⟨dst,none,none,.call f m xs⟩ (y,u))) (seqO (fun x:Arg=>x.get s.fs) xs)):opsW P g (⟨dst,none,none,.call f m xs⟩::l) K s:=by
 cases hx:seqO (fun x:Arg=>x.get s.fs) xs with
 |none=>rw[hx]at h;exact h.elim
 |some args=>
  rw[hx]at h;obtain⟨C,hC,y',u,he,hk⟩:=callEff_of h;exact⟨C,hC,(y',u),by simp only[effG,effF,footOk,eff,hx,Option.bind_some,he],hk⟩
def callvK(P:Program)(g:Glob)(k m:Nat)(s:FS)(K:TV→Upd→Prop):Option (Nat×List TV×List TV)→Option (List TV)→Prop
 |some (f,fa,fb),some vs=>callK P g k f m s K (some (fa++vs++fb))
 |_,_=>False
theorem opsW_callv{dst:Option Nat}{m:Nat}{x:Arg}{xs:List Arg}(h:callvK P g (dstId dst) m s.fs (fun y u=>opsW P g l K (s.after ⟨dst,none,none,.callv x m xs⟩ (y,u))) ((x.get s.fs).bind TV.callee) (seqO (fun x:Arg=>x.get s.fs) xs)):opsW P g (⟨dst,none,none,.callv x m xs⟩::l) K s:=by
 cases hc:(x.get s.fs).bind TV.callee with
 |none=>rw[hc]at h;exact h.elim
 |some c=>
  obtain⟨f,fa,fb⟩:=c;cases hx:seqO (fun x:Arg=>x.get s.fs) xs with
  |none=>rw[hc,hx]at h;exact h.elim
  |some vs=>
   rw[hc,hx]at h;have h':callK P g (dstId dst) f m s.fs (fun y u=>opsW P g l K (s.after ⟨dst,none,none,.callv x m xs⟩ (y,u))) (some (fa++vs++fb)):=h;obtain⟨C,hC,y',u,he,hk⟩:=callEff_of h';exact⟨C,hC,(y',u),by simp only[effG,effF,footOk,eff,hc,hx,he],hk⟩
end
def exitR(res:List SRes)(keep:Bool)(n:Nat)(s:ES):Option (TV×List MO):=exitF ⟨0,.skip,res,keep⟩ n s
theorem exitF_R(F:SFunc)(n:Nat)(s:ES):exitF F n s=exitR F.res F.keep n s:=rfl
def PostR(res:List SRes)(keep:Bool)(n:Nat)(y:TV)(os':List MO):SExit→ES→Prop
 | .ret,s| .normal,s=>exitR res keep n s=some (y,os')
 | .exit _,_| .pan _,_=>False
theorem call_of{P:Program}{g:Glob}{f:Nat}{H:Nat→Option Nat→Nat}{Fp:Nat→List (Nat→Option Nat)}{K:Nat→List Nat}{keep:Bool}{F:SFunc}(hmix:P.follows .mixedOrders=true)(hF:z33 P f H Fp K keep=some F){xs:List TV}{os os':List MO}{y:TV}(hn:Nat.ble xs.length F.N=true)(hos:Nat.ble os.length 1000=true)(hmo:moOk os os'=true)
  (h:swp P g F.code (PostR F.res F.keep os.length y os') (startE xs os)):SCalls P g f xs os y os':=
 call_of_swp hmix hF (Nat.le_of_ble_eq_true hn) (Nat.le_of_ble_eq_true hos) hmo (z56 h fun e s he=>by
  cases e with
  |normal=>exact⟨.inr rfl,by rw[exitF_R];exact he⟩
  |ret=>exact⟨.inl rfl,by rw[exitF_R];exact he⟩
  |exit id=>exact he.elim
  |pan z=>exact he.elim)
def ansW(y:TV):Option TV→Prop
 |some y0=>y0.ids3=[]∧y0.ren3 (rhoIn [])=some y
 |none=>False
def Post0(res:List SRes)(y:TV):SExit→ES→Prop
 | .ret,s| .normal,s=>ansW y (resT s.fs res)
 | .exit _,_| .pan _,_=>False
theorem call_of0{P:Program}{g:Glob}{f:Nat}{H:Nat→Option Nat→Nat}{Fp:Nat→List (Nat→Option Nat)}{K:Nat→List Nat}{keep:Bool}{F:SFunc}(hmix:P.follows .mixedOrders=true)(hF:z33 P f H Fp K keep=some F){xs:List TV}{y:TV}(hn:Nat.ble xs.length F.N=true)
  (h:swp P g F.code (Post0 F.res y) (startE xs [])):SCalls P g f xs [] y []:=by
 have key:∀s,ansW y (resT s.fs F.res)→exitR F.res F.keep 0 s=some (y,[]):=by
  intro s he;cases hr:resT s.fs F.res with
  |none=>rw[hr]at he;exact he.elim
  |some y0=>
   rw[hr]at he;obtain⟨h1,h2⟩:=he;simp[exitR,exitF,hr,idsFrom,h1,reach,h2,seqO]
 refine call_of hmix hF hn rfl rfl (z56 h fun e s he=> ?_);cases e with
 |normal=>exact key s he
 |ret=>exact key s he
 |exit id=>exact he.elim
 |pan z=>exact he.elim
section
variable(P:Program)(t:TypeId)(k:IntKind)(a b:Int)(x y:ByteArray)
theorem bin_lss:scal P (do eqGuard .lss t (.const (.int k a)) (.const (.int k b)) (.int k a) (.int k b);binOp .lss t (.int k a) (.int k b))=some (.pv (.v (.bool (decide (a<b)))),.no):=by simp[scal,eqGuard,binOp,Op.intCmp];rfl
theorem bin_gtr:scal P (do eqGuard .gtr t (.const (.int k a)) (.const (.int k b)) (.int k a) (.int k b);binOp .gtr t (.int k a) (.int k b))=some (.pv (.v (.bool (decide (b<a)))),.no):=by simp[scal,eqGuard,binOp,Op.intCmp];rfl
theorem bin_leq:scal P (do eqGuard .leq t (.const (.int k a)) (.const (.int k b)) (.int k a) (.int k b);binOp .leq t (.int k a) (.int k b))=some (.pv (.v (.bool (decide (a≤b)))),.no):=by simp[scal,eqGuard,binOp,Op.intCmp];rfl
theorem bin_geq:scal P (do eqGuard .geq t (.const (.int k a)) (.const (.int k b)) (.int k a) (.int k b);binOp .geq t (.int k a) (.int k b))=some (.pv (.v (.bool (decide (b≤a)))),.no):=by simp[scal,eqGuard,binOp,Op.intCmp];rfl
theorem bin_eql:scal P (do eqGuard .eql t (.const (.int k a)) (.const (.int k b)) (.int k a) (.int k b);binOp .eql t (.int k a) (.int k b))=some (.pv (.v (.bool (decide (a=b)))),.no):=by
 simp[scal,eqGuard,binOp,Op.intCmp];rfl
theorem bin_neq:scal P (do eqGuard .neq t (.const (.int k a)) (.const (.int k b)) (.int k a) (.int k b);binOp .neq t (.int k a) (.int k b))=some (.pv (.v (.bool (!decide (a=b)))),.no):=by simp[scal,eqGuard,binOp,Op.intCmp];rfl
theorem bin_add:scal P (do eqGuard .add t (.const (.int k a)) (.const (.int k b)) (.int k a) (.int k b);binOp .add t (.int k a) (.int k b))=some (.pv (.v (.int k (k.wrap (a+b)))),.no):=by simp[scal,eqGuard,binOp,Op.intArith];rfl
theorem bin_sub:scal P (do eqGuard .sub t (.const (.int k a)) (.const (.int k b)) (.int k a) (.int k b);binOp .sub t (.int k a) (.int k b))=some (.pv (.v (.int k (k.wrap (a-b)))),.no):=by simp[scal,eqGuard,binOp,Op.intArith];rfl
theorem bin_mul:scal P (do eqGuard .mul t (.const (.int k a)) (.const (.int k b)) (.int k a) (.int k b);binOp .mul t (.int k a) (.int k b))=some (.pv (.v (.int k (k.wrap (a*b)))),.no):=by simp[scal,eqGuard,binOp,Op.intArith];rfl
theorem bin_quo(hb:b≠0):scal P (do eqGuard .quo t (.const (.int k a)) (.const (.int k b)) (.int k a) (.int k b);binOp .quo t (.int k a) (.int k b))=some (.pv (.v (.int k (k.wrap (a.tdiv b)))),.no):=by simp[scal,eqGuard,binOp,Op.intDiv,hb];rfl
theorem bin_rem(hb:b≠0):scal P (do eqGuard .rem t (.const (.int k a)) (.const (.int k b)) (.int k a) (.int k b);binOp .rem t (.int k a) (.int k b))=some (.pv (.v (.int k (a.tmod b))),.no):=by simp[scal,eqGuard,binOp,Op.intDiv,hb];rfl
theorem sbin_eql:scal P (do eqGuard .eql t (.const (.string x)) (.const (.string y)) (.string x) (.string y);binOp .eql t (.string x) (.string y))=some (.pv (.v (.bool (x.toList==y.toList))),.no):=by simp[scal,eqGuard,binOp,Op.stringOp];rfl
theorem sbin_neq:scal P (do eqGuard .neq t (.const (.string x)) (.const (.string y)) (.string x) (.string y);binOp .neq t (.string x) (.string y))=some (.pv (.v (.bool (!(x.toList==y.toList)))),.no):=by simp[scal,eqGuard,binOp,Op.stringOp];rfl
theorem sbin_lss:scal P (do eqGuard .lss t (.const (.string x)) (.const (.string y)) (.string x) (.string y);binOp .lss t (.string x) (.string y))=some (.pv (.v (.bool (Op.bytesLess x.toList y.toList))),.no):=by simp[scal,eqGuard,binOp,Op.stringOp];rfl
theorem sbin_gtr:scal P (do eqGuard .gtr t (.const (.string x)) (.const (.string y)) (.string x) (.string y);binOp .gtr t (.string x) (.string y))=some (.pv (.v (.bool (!(Op.bytesLess x.toList y.toList||x.toList==y.toList)))),.no):=by simp[scal,eqGuard,binOp,Op.stringOp];rfl
theorem sbin_add(h:x.size+y.size≤9223372036854775807):scal P (do eqGuard .add t (.const (.string x)) (.const (.string y)) (.string x) (.string y);binOp .add t (.string x) (.string y))=some (.pv (.v (.string (x++y))),.no):=by
 have hm:IntKind.i64.max=9223372036854775807:=by rfl
 have h':¬(((x.size+y.size:Nat):Int)>IntKind.i64.max):=by omega
 simp only[scal,eqGuard,binOp,Op.stringOp,h',if_false];rfl
theorem un_neg:scal P (Op.unary .neg (.int k a))=some (.pv (.v (.int k (k.wrap (0-a)))),.no):=rfl
theorem un_not(q:Bool):scal P (Op.unary .not (.bool q))=some (.pv (.v (.bool (!q))),.no):=rfl
end
theorem nbeq(a b:Nat):Nat.beq a b=(a==b):=by
 grind [Nat.beq,Nat.eq_of_beq_eq_true,Nat.beq_refl]
theorem nble(a b:Nat):Nat.ble a b=decide (a≤b):=by
 grind [Nat.ble,Nat.le_of_ble_eq_true,Nat.ble_eq_true_of_le]
theorem nblt(a b:Nat):Nat.blt a b=decide (a<b):=by grind [Nat.blt,nble]
theorem bFT:(false==true)=false:=rfl
theorem bTF:(true==false)=false:=rfl
theorem wrap64{x:Int}(h0: -9223372036854775808≤x)(h1:x≤9223372036854775807):IntKind.i64.wrap x=x:=by rw[IntKind.wrap_i64];omega
section
variable{P:Program}{g:Glob}{a b c:SCode}{Q:SExit→ES→Prop}{s s':ES}{n kill:List Nat}{l:List SOper}{r:List (List Nat×List SOper)}
def unrollW(P:Program)(g:Glob)(a:SCode)(Q:SExit→ES→Prop):Nat→ES→Prop
 |0,_=>False
 |k+1,s=>swp P g a (thenW (unrollW P g a Q k) Q) s
theorem z113(k:Nat)(h:unrollW P g a Q k s):swp P g (.loop a) Q s:=by
 refine⟨fun n s=>unrollW P g a Q n s,k,⟨s,.refl s,h⟩,fun n s h=> ?_⟩;cases n with
 |zero=>exact h.elim
 |succ n=>
  refine z56 (c:=a) h (fun e s he=> ?_);cases e with
  |normal=>exact⟨n,Nat.lt_succ_self n,s,.refl s,he⟩
  |exit id=>exact he
  |ret=>exact he
  |pan z=>exact he
theorem w_call{K:ES→Prop}{dst:Option Nat}{f m:Nat}{xs:List Arg}{args xs':List TV}{I:List Nat}{os os':List MO}{y y':TV}{us:List (Nat×MO)}(hx:seqO (fun x:Arg=>x.get s.fs) xs=some args)(hI:handI s.fs m args=I)(h1:seqO (TV.ren2 (rhoIn I)) args=some xs')
  (h2:seqO (fun d=>(s.fs.mo d).bind (MO.ren (rhoIn I))) I=some os) (hc:SCalls P g f xs' os y os') (hmo:moOk os os'=true) (h3:y.ren3 (rhoOut I (dstId dst))=some y') (h4:outs (rhoOut I (dstId dst)) 0 os'=some us) (hs:s.after ⟨dst,none,none,.call f m xs⟩ (y',.mem us)=s') (hk:opsW P g l K s'):
  opsW P g (⟨dst,none,none,.call f m xs⟩::l) K s:=by
 refine opsW_call ?_;rw[hx];exact⟨I,hI.symm,xs',os,h1,h2,y,os',hc,hmo,y',us,h3,h4,by rw[←hs]at hk;exact hk⟩
end
end Go.Sh
end

section
namespace Go.Sh
open Go Go.RowKit
section
variable{P:Program}{g:Glob}{b:SCode}{Q:SExit→ES→Prop}{s s':ES}{n kill:List Nat}{l:List SOper}{r:List (List Nat×List SOper)}
end
def Wk(x y:TV):Prop:=∀w E r v,RelT w E r x v→RelT w E r y v
theorem Wk.refl(x:TV):Wk x x:=fun _ _ _ _ h=>h
theorem Wk.trans{x y z:TV}(h:Wk x y)(h':Wk y z):Wk x z:=fun w E r v hr=>h' w E r v (h w E r v hr)
theorem wk_nil(W:Nat):Wk (.pv (.v (.slice none 0 0))) (.pv (.sl W [])):=by
 intro w E r v h;cases h with
 |pv h=>
  cases h with
  |v x=>exact .pv (.sl W [] 0 0 0 none (fun _ _=>undef) (by simp) (by simp) (by simp) (by simp) (by simp) (by simp))
theorem wk_agg{cs ds:List TV}(hl:cs.length=ds.length)(h:∀(j:Nat) c d,cs[j]?=some c→ds[j]?=some d→Wk c d):Wk (.agg cs) (.agg ds):=by
 intro w E r v hr;cases hr with
 |agg cs vs hl' hv ho=>
  refine .agg ds vs (hl▸hl') (fun j d v hd hv'=> ?_) ho;have hj:j<cs.length:=by
   grind
  exact h j _ d (gE hj) hd w E r v (hv j _ v (gE hj) hv')
theorem SCalls.out{P:Program}{g:Glob}{f:Nat}{xs:List TV}{os os':List MO}{y y':TV}(h:SCalls P g f xs os y os')(hw:Wk y y'):SCalls P g f xs os y' os':=
 ⟨h.1,fun w E vs hG hm hX hl hr=>(h.2 w E vs hG hm hX hl hr).mono (by
  rintro e w' ⟨v,E',h1,h2,h3,h4⟩;exact⟨v,E',h1,h2,hw _ _ _ _ h3,h4⟩)⟩
theorem SCalls.inp{P:Program}{g:Glob}{f:Nat}{xs xs':List TV}{os os':List MO}{y:TV}(h:SCalls P g f xs' os y os')(hl:xs.length=xs'.length)(hw:∀(j:Nat) c d,xs[j]?=some c→xs'[j]?=some d→Wk c d):SCalls P g f xs os y os':=
 ⟨h.1,fun w E vs hG hm hX hl' hr=>h.2 w E vs hG hm hX (hl▸hl') (fun j d v hd hv=>by
  have hj:j<xs.length:=by
   grind
  exact hw j _ d (gE hj) hd w E _ v (hr j _ v (gE hj) hv))⟩
end Go.Sh
namespace Go.Sh
open Go Go.RowKit
theorem reach_none{s:FS}:∀(f:Nat) (l:List Nat),(∀d∈l,s.b d=none)→reach s false f l []=[]
 |0,_,_=>by simp[reach]
 |_+1,[],_=>by simp[reach]
 |f+1,d::l,h=>by
  have h1:=h d (by simp);simp only[reach,pos,h1];have ih:=reach_none f l (fun e he=>h e (by simp[he]))
  grind
def ansW1(s:ES)(y:TV):Option TV→Prop
 |some y0=>(y0.ids3.all fun d=>(s.fs.b d).isNone)=true∧y0.ren3 (rhoIn [])=some y
 |none=>False
def Post1(res:List SRes)(y:TV):SExit→ES→Prop
 | .ret,s| .normal,s=>ansW1 s y (resT s.fs res)
 | .exit _,_| .pan _,_=>False
theorem call_of1{P:Program}{g:Glob}{f:Nat}{H:Nat→Option Nat→Nat}{Fp:Nat→List (Nat→Option Nat)}{K:Nat→List Nat}{F:SFunc}(hmix:P.follows .mixedOrders=true)(hF:z33 P f H Fp K false=some F)(hk:F.keep=false){xs:List TV}{y:TV}(hn:Nat.ble xs.length F.N=true)
  (h:swp P g F.code (Post1 F.res y) (startE xs [])):SCalls P g f xs [] y []:=by
 have key:∀s,ansW1 s y (resT s.fs F.res)→exitR F.res F.keep 0 s=some (y,[]):=by
  intro s he;cases hr:resT s.fs F.res with
  |none=>rw[hr]at he;exact he.elim
  |some y0=>
   rw[hr]at he;obtain⟨h1,h2⟩:=he;have h3:reach s.fs false 64 y0.ids3 []=[]:=reach_none 64 _ (fun d hd=>by simpa using List.all_eq_true.1 h1 d hd)
   grind [exitR,exitF,idsFrom,seqO]
 refine call_of hmix hF hn rfl rfl (z56 h fun e s he=> ?_);cases e with
 |normal=>exact key s he
 |ret=>exact key s he
 |exit id=>exact he.elim
 |pan z=>exact he.elim
end Go.Sh
namespace Go.Sh
open Go Go.RowKit
theorem pr_ite{α:Type}(P:Program)(c:Prop)[Decidable c](a b:Sem α):z22 P (if c then a else b)=if c then z22 P a else z22 P b:=by grind
theorem pr_pure{α:Type}(P:Program)(a:α):z22 P (pure a)=some a:=rfl
theorem pr_program(P:Program):z22 P program=some P:=rfl
theorem z88{P:Program}(d:Nat)(t:TypeId)(xs ys:Array Value)(ht:z22 P (underlying t)=some (.struct (P.fieldsOf t)))(hp:P.stoodInHeld t=false):
  z22 P (Op.equalIn (d+1) t (.agg xs) (.agg ys))=z22 P (Op.eqFields d xs ys (P.fieldsOf t).toList):=by
 simp only[Op.equalIn,z28,ht,Option.bind_some,pr_program,hp,Bool.false_eq_true,if_false];rw[←Array.forIn_toList];generalize(P.fieldsOf t).toList=fs
 induction fs with
 |nil=>simp[Op.eqFields,pr_pure]
 |cons f fs ih=>
  simp only[List.forIn_cons,Op.eqFields,z28,pr_ite];split
  ·generalize z22 P (part f.type xs f.offset)=r1;cases r1 with
   |none=>rfl
   |some a=>
    generalize z22 P (part f.type ys f.offset)=r2;cases r2 with
    |none=>rfl
    |some b=>
     simp only[Option.bind_some];generalize z22 P (Op.equalIn d f.type a b)=r3;cases r3 with
     |none=>rfl
     |some r=>
      cases r
      ·simp only[Option.bind_some,Bool.not_false,if_true,pr_pure]
      ·simp only[Option.bind_some,Bool.not_true,Bool.false_eq_true,if_false,pr_pure];exact ih
  ·simp only[pr_pure,Option.bind_some];exact ih
end Go.Sh
end

section
namespace Go.Mor
def plainR(r:Nat):Bool:=decide (32≤r)&&r !=127
def plainGo:Nat→List UInt8→Bool
 |0,_=>true
 |n+1,l=>if l=[] then true else plainR (Lib.decodeL l).1&&plainGo n (l.drop (Lib.decodeL l).2)
def plainD(l:List UInt8):Bool:=plainGo l.length l
theorem plainGo_more:∀(n:Nat) (l:List UInt8),l.length≤n→plainGo n l=plainD l:=by
 intro n
 induction n using Nat.strongRecOn with
 |_ n ih=>
  intro l hl;unfold plainD;cases l with
  |nil=>cases n<;>simp[plainGo]
  |cons b t=>
   obtain⟨m,rfl⟩:∃m,n=m+1:=⟨n-1,by simp at hl;omega⟩
   have hw:=Lib.decodeL_width (b::t);simp only[plainGo,List.length_cons,reduceCtorEq,if_false]
   grind
theorem z151(l:List UInt8)(hne:l≠[]):plainD l=(plainR (Lib.decodeL l).1&&plainD (l.drop (Lib.decodeL l).2)):=by
 cases l with
 |nil=>grind
 |cons b t=>
  have hw:=Lib.decodeL_width (b::t)
  conv=>lhs;unfold plainD
  simp only[plainGo,List.length_cons,reduceCtorEq,if_false]
  grind [plainGo_more]
def z19(s:List UInt8):Bool:=decide (s.length≤60)&&(Lib.validD s&&plainD s)
def rightID(n:Int):Bool:=decide (1≤n∧n≤100000∨ -20≤n∧n≤ -1)
def bare(x:V):Bool:=x.s==[]&&x.l.length==0
def right1(x:V):Bool:=
 if x.k=0 then bare x&&x.n==0
 else if x.k=1 then bare x&&decide (-1000000000000000≤x.n)&&decide (x.n≤1000000000000000)
 else if x.k=2 then x.n==0&&x.l.length==0&&z19 x.s
 else if x.k=3∨x.k=4 then bare x&&rightID x.n
 else false
def noItem(x:V):Bool:=x.k==5|| !right1 x
def rightV(x:V):Bool:=
 if x.k=5 then x.n==0&&x.s==[]&&decide (x.l.length≤12)&& !x.l.any noItem else right1 x
structure Ty where
 k:Int
 o:Int
def z17(t:Ty):Bool:=if t.k=5 then decide (1≤t.o∧t.o≤4)else decide (1≤t.k∧t.k≤4∧t.o=0)
def ofKind(x:V)(k:Int):Bool:=x.k==k||(x.k==0&&(k==3||k==4))
def fitsV(x:V)(t:Ty):Bool:=rightV x&&z17 t&&ofKind x t.k&& !x.l.any (fun y=> !ofKind y t.o)
def zeroV(t:Ty):V:=if !z17 t||t.k==3||t.k==4 then V.nil else .mk t.k 0 [] []
end Go.Mor
end

section
namespace Go.Proofs.YtcpaleaajdilgaaGreatDoor
open Go Go.Mor
def I64(c:Int):Prop:= -9223372036854775808≤c∧c≤9223372036854775807
def ordI(a b:Int):Int:=if a<b then -1 else if b<a then 1 else 0
def thenI(c d:Int):Int:=if c=0 then d else c
def ordS(a b:List UInt8):Int:=if Op.bytesLess a b then -1 else if a=b then 0 else 1
mutual
def cmpV:V→V→Int
 | .mk k n s l,y=>thenI (ordI k y.k) (thenI (ordI n y.n) (thenI (ordS s y.s) (cmpL l y.l)))
def cmpL:List V→List V→Int
 |[],[]=>0
 |[],_::_=> -1
 |_::_,[]=>1
 |x::l,y::l'=>thenI (cmpV x y) (cmpL l l')
end
theorem cmpV_eq(x y:V):cmpV x y=thenI (ordI x.k y.k) (thenI (ordI x.n y.n) (thenI (ordS x.s y.s) (cmpL x.l y.l))):=by
 cases x;simp only[cmpV,V.k,V.n,V.s,V.l]
theorem cmpL_drop{l l':List V}{i:Nat}{x y:V}(hx:l[i]?=some x)(hy:l'[i]?=some y):cmpL (l.drop i) (l'.drop i)=thenI (cmpV x y) (cmpL (l.drop (i+1)) (l'.drop (i+1))):=by
 grind [List.getElem?_eq_some_iff,List.drop_eq_getElem_cons,cmpL]
theorem cmpL_end{l l':List V}{i:Nat}(h:i=min l.length l'.length):cmpL (l.drop i) (l'.drop i)=ordI l.length l'.length:=by
 grind [ordI,Nat.lt_trichotomy,List.drop_eq_nil_of_le,List.drop_eq_getElem_cons,cmpL]
end Go.Proofs.YtcpaleaajdilgaaGreatDoor
end

section
namespace Go.Proofs.YtcpaleaajdilgaaGreatDoor
open Go Go.RowKit Go.Mor Go.Sh
set_option maxRecDepth 100000
set_option maxHeartbeats 8000000
theorem str0:str []=(⟨#[]⟩:ByteArray):=rfl
def tyT(t:Ty):TV:=.agg [I t.k,I t.o]
def nv(x:V):TV:=.agg [I x.k,I x.n,S (str x.s),.pv (.v (.slice none 0 0))]
def V.row:V→List PV
 | .mk k n s l=>[.v (.int .i64 k),.v (.int .i64 n),.v (.string (str s)),.sl 4 (l.attach.map fun x=>V.row x.1)]
termination_by x=>SizeOf.sizeOf x
decreasing_by exact V.size_lt x.2 k n s
def V.rows(l:List V):List (List PV):=l.map V.row
theorem V.row_mk(k n:Int)(s:List UInt8)(l:List V):V.row (.mk k n s l)=[.v (.int .i64 k),.v (.int .i64 n),.v (.string (str s)),.sl 4 (V.rows l)]:=by
 rw[V.row];simp[V.rows]
theorem V.rows_nil:V.rows []=[]:=rfl
theorem z50(l:List V):V.rows l=l.map V.row:=rfl
def tv(x:V):TV:=.agg [I x.k,I x.n,S (str x.s),.pv (.sl 4 (V.rows x.l))]
theorem wk4{a b c x y:TV}(h:Wk x y):Wk (.agg [a,b,c,x]) (.agg [a,b,c,y]):=
 wk_agg rfl (fun j p q hp hq=>by
  match j with
  |0=>simp at hp hq;subst hp;subst hq;exact .refl _
  |1=>simp at hp hq;subst hp;subst hq;exact .refl _
  |2=>simp at hp hq;subst hp;subst hq;exact .refl _
  |3=>simp at hp hq;subst hp;subst hq;exact h
  |j+4=>simp at hp)
theorem nv_tv{x:V}(h:x.l=[]):Wk (nv x) (tv x):=by
 unfold nv tv;rw[h];exact wk4 (wk_nil 4)
structure R1 where
 k:Int
 n:Int
 s:List UInt8
structure RawV where
 k:Int
 n:Int
 s:List UInt8
 l:List R1
def R1.ok(x:R1):Prop:=I64 x.k∧I64 x.n∧x.s.length≤9223372036854775807
def RawV.ok(x:RawV):Prop:=I64 x.k∧I64 x.n∧x.s.length≤9223372036854775807∧(∀y∈x.l,y.ok)∧x.l.length≤9223372036854775807
def R1.row(x:R1):List PV:=[.v (.int .i64 x.k),.v (.int .i64 x.n),.v (.string (str x.s))]
def RawV.tv(x:RawV):TV:=.agg [I x.k,I x.n,S (str x.s),.pv (.sl 3 (x.l.map R1.row))]
theorem Vk(k n:Int)(s:List UInt8)(l:List V):(V.mk k n s l).k=k:=rfl
theorem Vn(k n:Int)(s:List UInt8)(l:List V):(V.mk k n s l).n=n:=rfl
theorem Vs(k n:Int)(s:List UInt8)(l:List V):(V.mk k n s l).s=s:=rfl
theorem Vl(k n:Int)(s:List UInt8)(l:List V):(V.mk k n s l).l=l:=rfl
theorem rowsGet(l:List V)(k:Nat):(V.rows l)[k]?=(l[k]?).map V.row:=by rw[z50,List.getElem?_map]
theorem z58(l:List V):(V.rows l).length=l.length:=by rw[z50,List.length_map]
theorem row4(y:V):V.row y=[.v (.int .i64 y.k),.v (.int .i64 y.n),.v (.string (str y.s)),.sl 4 (V.rows y.l)]:=by cases y;exact V.row_mk _ _ _ _
inductive VSmall:V→Prop where
 |mk {k n:Int} {s:List UInt8} {l:List V} (h:l.length≤maxLen) (hs:∀y∈l,VSmall y):VSmall (.mk k n s l)
theorem VSmall.len{x:V}(h:VSmall x):x.l.length≤maxLen:=by cases h;assumption
theorem VSmall.sub{x y:V}(h:VSmall x)(hy:y∈x.l):VSmall y:=by cases h with|mk h hs=>exact hs y hy
def z104(x:V):Prop:=x.s.length≤9223372036854775807
theorem rel_I{w:World}{E:Env}{r:Sh.Rows}{x:Int}{v:Value}(h:RelT w E r (I x) v):v=.int .i64 x:=val_rel h rfl
def VOk(x:V):Prop:=z104 x∧∀y∈x.l,z104 y
def pvC(xs:List PV):List TV:=xs.map TV.pv
theorem pvC_fgt(ids:List Nat)(xs:List PV):List.map (fgt3 ids) (pvC xs)=pvC xs:=by
 unfold pvC;rw[List.map_map];exact List.map_congr_left fun x _=>by cases ids<;>rfl
theorem pvC_ids(xs:List PV):List.flatMap TV.ids1 (pvC xs)=[]:=by
 unfold pvC;induction xs with
 |nil=>rfl
 |cons x xs ih=>rw[List.map_cons,List.flatMap_cons,ih];rfl
theorem pvC_ren(ρ:Nat→Option Nat)(xs:List PV):seqO (TV.ren1 ρ) (pvC xs)=some (pvC xs):=by
 unfold pvC;induction xs with
 |nil=>rfl
 |cons x xs ih=>simp only[List.map_cons,seqO,ih];rfl
theorem pvC_len(xs:List PV):(pvC xs).length=xs.length:=by simp[pvC]
theorem pvC_get(xs:List PV)(i:Nat):(pvC xs)[i]?=(xs[i]?).map TV.pv:=by simp[pvC]
theorem pvC_set{xs:List PV}{i:Nat}(h:i<xs.length)(y:PV):List.take i (pvC xs)++[TV.pv y]++List.drop (i+1) (pvC xs)=pvC (xs.set i y):=by
 unfold pvC;rw[List.set_eq_take_append_cons_drop,if_pos h,List.map_append,List.map_cons,List.map_take,List.map_drop,List.append_assoc];rfl
theorem vV:type_of%(wa3 (wa8 @pvC_fgt @pvC_ids @pvC_ren @pvC_len @I.eq_1 @S.eq_1 @tv.eq_1 @nv.eq_1) (wa8 @tyT.eq_1 @RawV.tv.eq_1 @R1.row.eq_1 @rowsGet @z58 @row4 @Vk @Vn) (wa2 @Vs @Vl)):=wa3 (wa8 @pvC_fgt @pvC_ids @pvC_ren @pvC_len @I.eq_1 @S.eq_1 @tv.eq_1 @nv.eq_1) (wa8 @tyT.eq_1 @RawV.tv.eq_1 @R1.row.eq_1 @rowsGet @z58 @row4 @Vk @Vn) (wa2 @Vs @Vl)
end Go.Proofs.YtcpaleaajdilgaaGreatDoor
end

section
namespace Go.Proofs.YtcpaleaajdilgaaGreatDoor
open Go Go.RowKit Go.Mor Go.Sh
def byR(l:List UInt8):List (List PV):=l.map fun u=>[.v (.int .u8 u.toNat)]
theorem byP(l:List UInt8):bytesP (str l)=byR l:=by simp[bytesP,byR,str]
theorem byApp(a b:List UInt8):byR a++byR b=byR (a++b):=by simp[byR]
theorem byLen(a:List UInt8):(byR a).length=a.length:=by simp[byR]
theorem bySeq:∀(a:List UInt8),seqO Sh.byteOf (byR a)=some a
 |[]=>rfl
 |u::a=>by
  have ih:=bySeq a;unfold byR at ih ⊢;simp only[List.map_cons,seqO,ih,Sh.byteOf];simp
theorem strMk(l:List UInt8):(⟨l.toArray⟩:ByteArray)=str l:=rfl
end Go.Proofs.YtcpaleaajdilgaaGreatDoor
end

section
namespace Go.Mor
def mag(n:Int):Nat:=if n<0 then(-1-n).toNat else n.toNat
def sgn(n:Int):Nat:=if n<0 then 1 else 0
def tailN:Nat→Nat→List UInt8
 |0,_=>[]
 |f+1,m=>if m=0 then [] else UInt8.ofNat (m%128)::tailN f (m / 128)
def groups(n:Int):List UInt8:=UInt8.ofNat (mag n%64*2+sgn n)::tailN 9 (mag n / 64)
def bump(l:List UInt8):List UInt8:=l.dropLast++(l.getLast?.map (·+128)).toList
def pack(l:List UInt8):List UInt8:=l.foldl (fun acc g=>bump acc++[g]) []
def num(n:Int):List UInt8:=pack (groups n)
theorem pack_snoc(l:List UInt8)(g:UInt8):pack (l++[g])=bump (pack l)++[g]:=by simp[pack]
theorem bump_length(l:List UInt8):(bump l).length=l.length:=by
 rcases List.eq_nil_or_concat l with rfl|⟨Q,b,rfl⟩
 ·rfl
 ·simp[bump]
theorem foldl_bump_length(l:List UInt8):∀acc:List UInt8,(l.foldl (fun acc g=>bump acc++[g]) acc).length=acc.length+l.length:=by
 induction l<;>grind [bump_length]
theorem z150(l:List UInt8):(pack l).length=l.length:=by rw[pack,foldl_bump_length];simp
theorem tailN_zero(f:Nat):tailN f 0=[]:=by cases f<;>simp[tailN]
theorem tailN_length(f:Nat):∀m,(tailN f m).length≤f:=by
 induction f with
 |zero=>grind [tailN]
 |succ f ih=>intro m;simp only[tailN];split;simp;simp;exact ih _
theorem groups_length(n:Int):(groups n).length≤10:=by
 grind [tailN_length,mag,groups]
theorem z87(n:Int):(num n).length≤10:=by rw[num,z150];exact groups_length n
theorem num_pos(n:Int):0<(num n).length:=by rw[num,z150];simp[groups]
abbrev Ix:Type:=Fin 1125899906842624
def rdGo:Nat→Nat×Nat→List UInt8→Except Bool (Nat×Nat×Nat)
 |_,_,[]=> .error false
 |k,st,b::r=>
  if k≠0∧(b.toNat=0∨k=9∧1<b.toNat)then .error true else
  let g:=b.toNat%128
  let st':=if k=0 then(g / 2,g%2)else(st.1+g*2 ^ (7*k-1),st.2)
  if b.toNat<128 then .ok (st'.1,st'.2,k+1)else rdGo (k+1) st' r
def stepM(st:Nat×Nat)(x:Ix×UInt8):Nat×Nat:=
 if x.1.val=0 then(x.2.toNat%128 / 2,x.2.toNat%128%2)else(st.1+x.2.toNat%128*2 ^ (7*x.1.val-1),st.2)
def stM(pre:List (Ix×UInt8)):Nat×Nat:=pre.foldl stepM (0,0)
theorem stM_snoc(pre:List (Ix×UInt8))(x:Ix×UInt8):stM (pre++[x])=stepM (stM pre) x:=by simp[stM]
def pairs(s:List UInt8)(a:Nat):List (Ix×UInt8):=(s.drop a).zipIdx.map fun p=>(Fin.ofNat _ p.2,p.1)
theorem z144(s:List UInt8)(a:Nat):(pairs s a).length=s.length-a:=by simp[pairs]
theorem pairs_get(s:List UInt8)(a k:Nat)(h:a+k<s.length):(pairs s a)[k]?=some (Fin.ofNat _ k,s[a+k]):=by
 simp[pairs,List.getElem?_drop,gE h]
theorem pairs_take(s:List UInt8)(a k:Nat)(h:a+k<s.length):(pairs s a).take (k+1)=(pairs s a).take k++[(Fin.ofNat _ k,s[a+k])]:=by
 grind [List.take_add_one,pairs_get]
def rd(s:List UInt8)(a:Int):Except Bool (Int×Nat):=
 if 0≤a∧a<s.length then
  match rdGo 0 (0,0) (s.drop a.toNat)with
  | .error e=> .error e
  | .ok (m,sg,z)=> .ok (if sg=1 then -1-(m:Int)else m,z)
 else .error false
def Begs(s:List UInt8)(a:Nat)(pre:List (Ix×UInt8)):Prop:=pre<+:pairs s a
theorem Begs.last{s:List UInt8}{a:Nat}{pre:List (Ix×UInt8)}{x:Ix×UInt8}(h:Begs s a (pre++[x]))(hs:s.length<1125899906842624):
  Begs s a pre∧x.1.val=pre.length∧∃hl:a+pre.length<s.length,x.2=s[a+pre.length]:=by
 have hg:Begs s a pre:=(List.prefix_append pre [x]).trans h;have hlen:=h.length_le;rw[z144]at hlen;have h2:=List.prefix_iff_getElem?.1 h pre.length (by simp)
 grind [pairs_get]
structure Mid(s:List UInt8)(a:Nat)(pre:List (Ix×UInt8))(m sg:Int):Prop where
 m:m=(stM pre).1
 sg:sg=(stM pre).2
 go:rdGo 0 (0,0) (s.drop a)=rdGo pre.length (stM pre) (s.drop (a+pre.length))
 lt:(stM pre).1<2 ^ (7*pre.length-1)
 le:pre.length≤9
theorem bump_nil:bump []=[]:=rfl
theorem add128(b:UInt8):((b+128).toNat:Int)=((b.toNat:Int)+128)%256:=by
 simp
theorem bump_snoc(Q:List UInt8)(b:UInt8):bump (Q++[b])=Q++[b+128]:=by
 simp[bump]
theorem snoc_of{α:Type}(l:List α)(h:l≠[]):∃Q b,l=Q++[b]:=⟨l.dropLast,l.getLast h,(List.dropLast_concat_getLast h).symm⟩
theorem first_neg(x:Int)(h:x<0):((UInt8.ofNat (mag x%64*2+sgn x)).toNat:Int)=(-1-x)%64*2+1:=by
 simp only[mag,sgn,if_pos h,UInt8.toNat_ofNat'];omega
theorem first_pos(x:Int)(h:¬x<0):((UInt8.ofNat (mag x%64*2+sgn x)).toNat:Int)=x%64*2:=by
 simp only[mag,sgn,if_neg h,UInt8.toNat_ofNat'];omega
theorem next_byte(m:Nat):((UInt8.ofNat (m%128)).toNat:Int)=(m:Int)%128:=by
 simp;omega
theorem mag_eq(x:Int):(mag x:Int)=if x<0 then -1-x else x:=by simp only[mag];split<;>omega
theorem mag_lt(x:Int)(h0: -9223372036854775808≤x)(h1:x≤9223372036854775807):mag x<9223372036854775808:=by
 grind [mag_eq]
end Go.Mor
end

section
namespace Go.Mor
open Go
theorem z73{s:List UInt8}{i:Nat}(h:i<s.length):s.drop i=s[i]::s.drop (i+1):=by simp
theorem Mid.at{s:List UInt8}{a:Nat}{pre:List (Ix×UInt8)}{x:Ix×UInt8}{m sg:Int}(hs:s.length<1125899906842624)(hM:Begs s a pre→Mid s a pre m sg)(hg:Begs s a (pre++[x])):
  Mid s a pre m sg∧x.1.val=pre.length∧rdGo 0 (0,0) (s.drop a)=rdGo pre.length (stM pre) (x.2::s.drop (a+(pre++[x]).length)):=by
 obtain⟨hg',hx,hl,hb⟩:=hg.last hs;have hm:=hM hg';refine⟨hm,hx,?_⟩;rw[hm.go,z73 hl,hb]
 grind
theorem Mid.err{s:List UInt8}{a:Nat}{pre:List (Ix×UInt8)}{x:Ix×UInt8}{m sg:Int}(hs:s.length<1125899906842624)(hM:Begs s a pre→Mid s a pre m sg)(hk:¬x.1.val=0)(hbad:x.2.toNat=0∨x.1.val=9∧1<x.2.toNat)
  (hg:Begs s a (pre++[x])):rdGo 0 (0,0) (s.drop a)=.error true:=by
 grind [Mid.at,rdGo]
theorem Mid.ok{s:List UInt8}{a:Nat}{pre:List (Ix×UInt8)}{x:Ix×UInt8}{m sg:Int}(hs:s.length<1125899906842624)(hM:Begs s a pre→Mid s a pre m sg)(hbad:¬(x.1.val≠0∧(x.2.toNat=0∨x.1.val=9∧1<x.2.toNat)))
  (hlo:x.2.toNat<128) (hg:Begs s a (pre++[x])):rdGo 0 (0,0) (s.drop a)=.ok ((stepM (stM pre) x).1,(stepM (stM pre) x).2,x.1.val+1):=by
 obtain⟨hm,hx,hr⟩:=Mid.at hs hM hg;rw[hr,rdGo,if_neg (by omega),←hx];simp only[hlo,if_true,stepM]
theorem step_lt{st:Nat×Nat}{x:Ix×UInt8}(h:st.1<2 ^ (7*x.1.val-1)):(stepM st x).1<2 ^ (7*(x.1.val+1) - 1):=by
 unfold stepM;by_cases h0:x.1.val=0
 ·grind
 ·rw[if_neg h0];have e:7*(x.1.val+1) - 1=7*x.1.val-1+7:=by omega
  rw[e,Nat.pow_add];have h2:x.2.toNat%128*2 ^ (7*x.1.val-1)≤127*2 ^ (7*x.1.val-1):=Nat.mul_le_mul_right _ (by omega);omega
theorem Mid.cont{s:List UInt8}{a:Nat}{pre:List (Ix×UInt8)}{x:Ix×UInt8}{m sg:Int}(hs:s.length<1125899906842624)(hM:Begs s a pre→Mid s a pre m sg)(hbad:¬(x.1.val≠0∧(x.2.toNat=0∨x.1.val=9∧1<x.2.toNat)))
  (hlo:128≤x.2.toNat) (hg:Begs s a (pre++[x])):Mid s a (pre++[x]) ((stepM (stM pre) x).1:Nat) ((stepM (stM pre) x).2:Nat):=by
 obtain⟨hm,hx,hr⟩:=Mid.at hs hM hg;have hlen:(pre++[x]).length=x.1.val+1:=by simp[hx]
 refine⟨by rw[stM_snoc],by rw[stM_snoc],?_,?_,?_⟩
 ·rw[hr,rdGo,if_neg (by omega),stM_snoc,←hx];have h1:¬x.2.toNat<128:=by omega
  simp only[h1,if_false,hlen];rfl
 ·rw[stM_snoc,hlen];exact step_lt (by rw[hx];exact hm.lt)
 ·have:=hm.le;omega
theorem or_add(A g i:Nat)(h:A<2 ^ i):A|||g*2 ^ i=A+g*2 ^ i:=by
 grind [Nat.two_pow_add_eq_or_of_lt,Nat.mul_comm,Nat.add_comm]
theorem or_step{s:List UInt8}{a:Nat}{pre:List (Ix×UInt8)}{x:Ix×UInt8}{m sg G:Int}(hs:s.length<1125899906842624)(hM:Begs s a pre→Mid s a pre m sg)(hk:¬x.1.val=0)(hbad:¬(x.2.toNat=0∨x.1.val=9∧1<x.2.toNat))
  (hG:G=IntKind.u64.wrap ((x.2.toNat:Int)%128*2 ^ min (7*x.1.val-1) 64)) (hg:Begs s a (pre++[x])):
  bits .or .u64 m G=((stepM (stM pre) x).1:Nat)∧sg=((stepM (stM pre) x).2:Nat):=by
 obtain⟨hm,hx,_⟩:=Mid.at hs hM hg;have hle:=hm.le;have hlt:=hm.lt;rw[←hx]at hle hlt;have hmin:min (7*x.1.val-1) 64=7*x.1.val-1:=by omega
 have hpow:2 ^ (7*x.1.val-1)≤2 ^ 62:=Nat.pow_le_pow_right (by omega) (by omega);have hval:x.2.toNat%128*2 ^ (7*x.1.val-1)<18446744073709551616:=by
  by_cases h9:x.1.val=9
  ·grind
  ·have h8:2 ^ (7*x.1.val-1)≤2 ^ 55:=Nat.pow_le_pow_right (by omega) (by omega);have:x.2.toNat%128≤127:=by omega
   have:=Nat.mul_le_mul this h8;omega
 have hG':G=((x.2.toNat%128*2 ^ (7*x.1.val-1):Nat):Int):=by
  rw[hG,hmin];have e:(x.2.toNat:Int)%128*2 ^ (7*x.1.val-1)=((x.2.toNat%128*2 ^ (7*x.1.val-1):Nat):Int):=by simp
  rw[e,IntKind.wrap_u64];omega
 rw[hG',hm.m,u64_or_nat _ _ (by omega) hval,or_add _ _ _ hlt,hm.sg];simp only[stepM,if_neg hk,true_and]
theorem rdGo_bound:∀(l:List UInt8) (k:Nat) (st:Nat×Nat) {m sg z:Nat},k≤9→st.1<2 ^ (7*k-1)→(k=0∨st.2≤1)→rdGo k st l=.ok (m,sg,z)→
  m<9223372036854775808∧sg≤1∧k<z∧z≤10∧z≤k+l.length
 |[],k,st,m,sg,z,_,_,_,h=>by simp[rdGo]at h
 |b::r,k,st,m,sg,z,hk,hlt,hsg,h=>by
  rw[rdGo]at h;by_cases hbad:k≠0∧(b.toNat=0∨k=9∧1<b.toNat)
  ·grind
  rw[if_neg hbad]at h;have hst:(if k=0 then(b.toNat%128 / 2,b.toNat%128%2)else(st.1+b.toNat%128*2 ^ (7*k-1),st.2)).1<2 ^ (7*(k+1) - 1)∧
    (if k=0 then(b.toNat%128 / 2,b.toNat%128%2)else(st.1+b.toNat%128*2 ^ (7*k-1),st.2)).2≤1∧
    (k=9→(if k=0 then(b.toNat%128 / 2,b.toNat%128%2)else(st.1+b.toNat%128*2 ^ (7*k-1),st.2)).1<9223372036854775808):=by
   by_cases h0:k=0
   ·grind
   ·simp;have e:7*(k+1) - 1=7*k-1+7:=by omega
    have h2:b.toNat%128*2 ^ (7*k-1)≤127*2 ^ (7*k-1):=Nat.mul_le_mul_right _ (by omega)
    grind
  obtain⟨h1,h2,h3⟩:=hst
  dsimp only at h
  generalize(if k=0 then(b.toNat%128 / 2,b.toNat%128%2)else(st.1+b.toNat%128*2 ^ (7*k-1),st.2))=q at*;by_cases hlo:b.toNat<128
  ·rw[if_pos hlo]at h;obtain⟨rfl,rfl,rfl⟩:=h;refine⟨?_,h2,by omega,by omega,by simp⟩;by_cases h9:k=9
   ·omega
   ·have:2 ^ (7*(k+1) - 1)≤2 ^ 62:=Nat.pow_le_pow_right (by omega) (by omega);omega
  ·rw[if_neg hlo]at h;have:=rdGo_bound r (k+1) q (by omega) h1 (.inr h2) h
   grind
end Go.Mor
end

section
namespace Go.Mor
def z36(s:List UInt8)(a:Int):Option (Int×Int):=
 match rd s a with
 | .ok (n,z)=>some (n,a+z)
 | .error _=>none
def rdW(s:List UInt8)(a:Int):Except Bool (List UInt8×Int):=
 match rd s a with
 | .error e=> .error e
 | .ok (n,z)=>if n<0∨10000<n then .error true else if s.length-(a+z)<n then .error false else .ok ((s.drop (a+z).toNat).take n.toNat,a+z+n)
def z29(s:List UInt8)(a:Int):Option (List UInt8×Int):=
 match rdW s a with
 | .ok (t,b)=>some (t,b)
 | .error _=>none
def numRes(r:Option (Int×Int)):Value:=match r with|some (n,b)=> .tuple #[.int .i64 n,.int .i64 b,.int .i64 0]|none=> .tuple #[.int .i64 0,.int .i64 0,.int .i64 10]
def readRes(r:Option (List UInt8×Int)):Value:=match r with|some (t,b)=> .tuple #[.string (str t),.int .i64 b,.int .i64 0]|none=> .tuple #[.string (str []),.int .i64 0,.int .i64 10]
def text(s:List UInt8):List UInt8:=num s.length++s
def textRes(s:List UInt8):Value:=if s.length≤10000 then .tuple #[.string (str (text s)),.int .i64 0] else .tuple #[.string (str []),.int .i64 10]
theorem rd_bound{s:List UInt8}{a:Int}{n:Int}{z:Nat}(h:rd s a=.ok (n,z)):0≤a∧a+z≤s.length∧ -9223372036854775808≤n∧n≤9223372036854775807∧0<z∧z≤10:=by
 unfold rd at h;split at h
 ·rename_i hin;split at h
  ·cases h
  ·rename_i m sg z' he;have:=rdGo_bound _ 0 (0,0) (by omega) (by decide) (.inl rfl) he
   grind
 ·cases h
theorem readNum_bound{s:List UInt8}{a n b:Int}(h:z36 s a=some (n,b)):0≤a∧a<b∧b≤s.length∧ -9223372036854775808≤n∧n≤9223372036854775807:=by
 unfold z36 at h;split at h
 ·rename_i n' z he;obtain⟨rfl,rfl⟩:=h;have:=rd_bound he;omega
 ·cases h
theorem readText_bound{s t:List UInt8}{a b:Int}(h:z29 s a=some (t,b)):0≤a∧a<b∧b≤s.length∧t.length≤10000:=by
 unfold z29 at h;split at h
 ·rename_i t' b' he;unfold rdW at he;split at he
  ·cases he
  ·rename_i n z hr;have:=rd_bound hr
   grind
 ·cases h
end Go.Mor
end

section
namespace Go.Mor
open Go Go.RowKit
structure Fld where
 n:List UInt8
 t:Ty
 ix:Bool
structure Cls where
 n:List UInt8
 fs:List Fld
def small(b:UInt8):Bool:=decide (97≤b.toNat∧b.toNat≤122)
def nameB(b:UInt8):Bool:=small b||decide (48≤b.toNat∧b.toNat≤57)||b.toNat==95
def z11(s:List UInt8):Bool:=decide (1≤s.length∧s.length≤20)&&small (s.headD 0)&&s.all nameB
def z35(f:Fld):Bool:=z11 f.n&&z17 f.t&&(!f.ix||decide (f.t.k≤3))
def fieldAt(c:List Fld)(name:List UInt8):Int:=z44 (fun f=>f.n==name) c
def onceGo(all:List Fld):Nat→List Fld→Bool
 |_,[]=>true
 |k,f::r=>z35 f&&fieldAt all f.n==k&&onceGo all (k+1) r
def z23(c:Cls):Bool:=z11 c.n&&decide (c.fs.length≤8)&&onceGo c.fs 0 c.fs
def eqFld(f g:Fld):Bool:=f.n==g.n&&f.t.k==g.t.k&&f.t.o==g.t.o&&f.ix==g.ix
def checkGo:Nat→List Fld→List V→Int×Int
 |_,[],_=>(0,0)
 |_,_,[]=>(0,0)
 |k,f::fs,v::vs=>if fitsV v f.t then checkGo (k+1) fs vs else(k,42)
def check(c:Cls)(vs:List V):Int×Int:=
 if !z23 c then(0,40)else if vs.length≠c.fs.length then((min vs.length c.fs.length:Nat),42)else checkGo 0 c.fs vs
def IsF(ok:Nat→Prop)(w:World)(l:List Fld)(c:Value):Prop:=
 ∃(b off cap:Nat) (p:Option Addr),c=.slice p l.length cap∧l.length≤cap∧cap≤maxLen∧(l≠[]→p=some ⟨b,off,none⟩∧ok b)∧
  ∀(i:Nat) (f:Fld),l[i]?=some f→w.cell? ⟨b,off+i*4,none⟩=some (.string (str f.n))∧w.cell? ⟨b,off+i*4+1,none⟩=some (.int .i64 f.t.k)
   ∧w.cell? ⟨b,off+i*4+2,none⟩=some (.int .i64 f.t.o)∧w.cell? ⟨b,off+i*4+3,none⟩=some (.bool f.ix)
theorem IsF.keepBy{ok:Nat→Prop}{w w':World}{l:List Fld}{c:Value}(h:IsF ok w l c)(hk:∀a v,ok a.block→w.cell? a=some v→w'.cell? a=some v):IsF ok w' l c:=by
 obtain⟨b,off,cap,p,h1,h2,h3,h4,h5⟩:=h;refine⟨b,off,cap,p,h1,h2,h3,h4,fun i f hf=> ?_⟩
 grind
theorem IsF.ext{ok:Nat→Prop}{w w':World}{l:List Fld}{c:Value}(h:IsF ok w l c)(hb:Below w.heap.size w w'):IsF ok w' l c:=
 h.keepBy fun _ _ _ hv=>(hb.cell (z68 hv)).trans hv
theorem IsF.keep{ok:Nat→Prop}{w w':World}{l:List Fld}{c:Value}(h:IsF ok w l c)(hk:∀b,ok b→w'.heap[b]?=w.heap[b]?):IsF ok w' l c:=
 h.keepBy fun a _ ho hv=>(World.cell?_of_block (w:=w) (hk a.block ho)).trans hv
end Go.Mor
end

section
namespace Go.Mor
open Go
def bindsV(s:List UInt8):Int:=
 if s=[42]∨s=[47]∨s=[37] then 4 else if s=[43]∨s=[45] then 3 else if s=[38] then 2
 else if s=[61]∨s=[60,62]∨s=[60]∨s=[60,61]∨s=[62]∨s=[62,61] then 1 else 0
def takesV(s:List UInt8):Int:=
 if s=[108,101,110]∨s=[116,101,120,116]∨s=[110,117,109] then 1
 else if s=[108,101,102,116]∨s=[114,105,103,104,116]∨s=[102,114,111,109]∨s=[102,105,110,100]∨s=[109,105,110]∨s=[109,97,120] then 2
 else if s=[105,102] then 3 else 0
def nodeE(e:V):Bool:=
 if e.k≠1∧e.n≠0 then false
 else if e.k=1 then decide (0≤e.n)&&decide (e.n≤1000000000000000)&&e.s==[]&&e.l.length==0
 else if e.k=2 then z19 e.s&&e.l.length==0
 else if e.k=3 then z11 e.s&&e.l.length==0
 else if e.k=4 then decide (0<bindsV e.s)&&e.l.length==2
 else if e.k=5 then e.s==[45]&&e.l.length==1
 else if e.k=6 then decide (0<takesV e.s)&&decide ((e.l.length:Int)=takesV e.s)
 else false
def okE:Nat→V→Bool
 |0,_=>false
 |d+1,e=>nodeE e&&e.l.all (okE d)
def szE:Nat→V→Nat
 |0,_=>1
 |d+1,e=>1+(e.l.map (szE d)).sum
def rightE(e:V):Bool:=okE 8 e&&decide (szE 8 e≤40)
structure Pc where
 k:Int
 n:Int
 s:List UInt8
 p:Nat
def digB(b:UInt8):Bool:=decide (48≤b.toNat∧b.toNat≤57)
def numG:List UInt8→Int→Nat→Int×Nat
 |[],n,z=>(n,z)
 |b::r,n,z=>if digB b then numG r (min (10*n+((b.toNat:Int) - 48)) 1000000000000001) (z+1)else(n,z)
def nameZ:List UInt8→Nat
 |[]=>0
 |b::r=>if nameB b then nameZ r+1 else 0
def quoG:List UInt8→List UInt8→Nat→Option (List UInt8×Nat)
 |[],_,_=>none
 |b::r,acc,k=>if b=34 then(if z19 acc then some (acc,k+1)else none)
  else if b=92 then(match r with
   |[]=>none
   |c::r'=>if c=34∨c=92 then quoG r' (acc++[c]) (k+2)else none)
  else quoG r (acc++[b]) (k+1)
def signP:List UInt8→List UInt8
 |[]=>[]
 |b::r=>if b=60 then(if r.head?=some 62 then [60,62] else if r.head?=some 61 then [60,61] else [60])
  else if b=62 then(if r.head?=some 61 then [62,61] else [62])
  else if b=61∨b=38∨b=43∨b=45∨b=42∨b=47∨b=37∨b=40∨b=41∨b=44 then [b] else []
def readP(l:List UInt8)(at_:Nat):Option (Pc×Nat):=
 match l with
 |[]=>none
 |b::r=>
  if digB b then(if 1000000000000000<(numG l 0 0).1 then none else some (⟨1,(numG l 0 0).1,[],at_⟩,(numG l 0 0).2))
  else if small b then(if z11 (l.take (nameZ l))then some (⟨3,0,l.take (nameZ l),at_⟩,nameZ l)else none)
  else if b=34 then(match quoG r [] 1 with
   |some (t,k)=>some (⟨2,0,t,at_⟩,k)
   |none=>none)
  else if signP l=[] then none else some (⟨4,0,signP l,at_⟩,(signP l).length)
inductive Lx where
 |ok (L:List Pc)
 |bad (p:Nat)
def lexG:Nat→List UInt8→Nat→List Pc→Option Lx
 |0,_,_,_=>none
 |f+1,l,at_,acc=>match l with
  |[]=>some (.ok acc)
  |b::r=>if b=32 then lexG f r (at_+1) acc else match readP l at_ with
   |none=>some (.bad at_)
   |some (q,z)=>lexG f (l.drop z) (at_+z) (acc++[q])
inductive Rs(α:Type) where
 |ok (e:α) (p:Nat)
 |bad (a p:Nat)
def pkP(L:List Pc)(sz p:Nat):Pc:=(L[p]?).getD ⟨0,0,[],sz⟩
def isSg(q:Pc)(t:List UInt8):Bool:=q.k==4&&q.s==t
mutual
def pE(L:List Pc)(sz:Nat):Nat→Int→Nat→Option (Rs V)
 |0,_,_=>none
 |f+1,least,p=>match pT L sz f p with
  |some (.ok e p')=>pL L sz f least e p'
  |some (.bad a p')=>some (.bad a p')
  |none=>none
def pL(L:List Pc)(sz:Nat):Nat→Int→V→Nat→Option (Rs V)
 |0,_,_,_=>none
 |f+1,least,e,p=>
  if(pkP L sz p).k≠4∨bindsV (pkP L sz p).s<least then some (.ok e p)
  else match pE L sz f (bindsV (pkP L sz p).s+1) (p+1)with
   |some (.ok e2 p2)=>pL L sz f least (.mk 4 0 (pkP L sz p).s [e,e2]) p2
   |some (.bad a p')=>some (.bad a p')
   |none=>none
def pT(L:List Pc)(sz:Nat):Nat→Nat→Option (Rs V)
 |0,_=>none
 |f+1,p=>
  if isSg (pkP L sz p) [40] then(match pE L sz f 1 (p+1)with
   |some (.ok e p')=>if isSg (pkP L sz p') [41] then some (.ok e (p'+1))else some (.bad (pkP L sz p').p p')
   |some (.bad a p')=>some (.bad a p')
   |none=>none)
  else if isSg (pkP L sz p) [45] then(match pT L sz f (p+1)with
   |some (.ok e p')=>some (.ok (.mk 5 0 [45] [e]) p')
   |some (.bad a p')=>some (.bad a p')
   |none=>none)
  else if(pkP L sz p).k=1 then some (.ok (.mk 1 (pkP L sz p).n [] []) (p+1))
  else if(pkP L sz p).k=2 then some (.ok (.mk 2 0 (pkP L sz p).s []) (p+1))
  else if(pkP L sz p).k=3 then(if 0<takesV (pkP L sz p).s∧isSg (pkP L sz (p+1)) [40]=true then(match pH L sz f (takesV (pkP L sz p).s).toNat 0 (p+2) []with
    |some (.ok l p')=>some (.ok (.mk 6 0 (pkP L sz p).s l) p')
    |some (.bad a p')=>some (.bad a p')
    |none=>none)
   else some (.ok (.mk 3 0 (pkP L sz p).s []) (p+1)))
  else some (.bad (pkP L sz p).p (p+1))
def pH(L:List Pc)(sz:Nat):Nat→Nat→Nat→Nat→List V→Option (Rs (List V))
 |0,_,_,_,_=>none
 |f+1,n,k,p,acc=>
  if k<n then(if 0<k∧isSg (pkP L sz p) [44]=false then some (.bad (pkP L sz p).p p)
   else match pE L sz f 1 (if 0<k then p+1 else p)with
    |some (.ok e p')=>pH L sz f n (k+1) p' (acc++[e])
    |some (.bad a p')=>some (.bad a p')
    |none=>none)
  else if isSg (pkP L sz p) [41] then some (.ok acc (p+1))else some (.bad (pkP L sz p).p p)
end
def parseV(f:Nat)(l:List UInt8):Option (V×Int×Int):=
 if 200<l.length then some (V.nil,200,50)
 else match lexG (l.length+1) l 0 []with
  |none=>none
  |some (.bad a)=>some (V.nil,a,50)
  |some (.ok L)=>match pE L l.length f 1 0 with
   |some (.ok e p)=>if p<L.length then some (V.nil,(pkP L l.length p).p,50)else if rightE e then some (e,0,0)else some (V.nil,0,51)
   |some (.bad a _)=>some (V.nil,a,50)
   |none=>none
end Go.Mor
end

section
namespace Go.Mor
open Go
set_option maxHeartbeats 2000000
abbrev T3:=Int×Int×List UInt8
def er(q:Pc):T3:=(q.k,q.n,q.s)
def sg(s:List UInt8):T3:=(4,0,s)
def kidK(e:V)(least:Int)(t:List T3):List T3:=if e.k=4∧bindsV e.s<least then sg [40]::(t++[sg [41]])else t
def sepK:List (List T3)→List T3
 |[]=>[]
 |x::r=>x++(r.map fun y=>sg [44]::y).flatten
def tokE:Nat→V→List T3
 |0,_=>[]
 |d+1,e=>
  if e.k=1 then [(1,e.n,[])]
  else if e.k=2 then [(2,0,e.s)]
  else if e.k=5 then sg [45]::kidK (e.l.getD 0 V.nil) 5 (tokE d (e.l.getD 0 V.nil))
  else if e.k=4 then kidK (e.l.getD 0 V.nil) (bindsV e.s) (tokE d (e.l.getD 0 V.nil))++sg e.s::kidK (e.l.getD 1 V.nil) (bindsV e.s+1) (tokE d (e.l.getD 1 V.nil))
  else if e.k=6 then(3,0,e.s)::sg [40]::(sepK (e.l.map (tokE d))++[sg [41]])
  else [(3,0,e.s)]
def LexP(t:List UInt8)(ts:List T3)(post:List UInt8):Prop:=
 ∀(f a:Nat) (acc:List Pc),t.length+post.length<f→∃f' L,post.length<f'∧L.map er=ts∧lexG f (t++post) a acc=lexG f' post (a+t.length) (acc++L)
theorem LexP.nil(post:List UInt8):LexP [] [] post:=fun f a acc h=>⟨f,[],by simpa using h,rfl,by simp⟩
theorem LexP.app{t1 t2:List UInt8}{ts1 ts2:List T3}{post:List UInt8}(h1:LexP t1 ts1 (t2++post))(h2:LexP t2 ts2 post):LexP (t1++t2) (ts1++ts2) post:=by
 intro f a acc hf;obtain⟨f1,L1,a1,a2,a3⟩:=h1 f a acc (by grind);obtain⟨f2,L2,b1,b2,b3⟩:=h2 f1 (a+t1.length) (acc++L1) (by grind);refine⟨f2,L1++L2,b1,by rw[List.map_append,a2,b2],?_⟩
 grind
theorem LexP.one{t:List UInt8}{q:T3}{post:List UInt8}{b:UInt8}{r:List UInt8}(ht:t=b::r)(hb:b≠32)(h:∀a,∃p,readP (t++post) a=some (p,t.length)∧er p=q):LexP t [q] post:=by
 intro f a acc hf;obtain⟨f,rfl⟩:∃g,f=g+1:=⟨f-1,by omega⟩
 obtain⟨p,h1,h2⟩:=h a;refine⟨f,[p],by subst ht;simp at hf;omega,by simp[h2],?_⟩
 grind [lexG]
theorem digC(d:Nat)(hd:d<10):(UInt8.ofNat (48+d)).toNat=48+d:=by rw[UInt8.toNat_ofNat'];omega
theorem quoG_34(post acc:List UInt8)(k:Nat):quoG (34::post) acc k=if z19 acc then some (acc,k+1)else none:=by
 rw[quoG.eq_def];rfl
theorem quoG_92(c:UInt8)(r acc:List UInt8)(k:Nat):quoG (92::c::r) acc k=if c=34∨c=92 then quoG r (acc++[c]) (k+2)else none:=by
 grind [quoG]
theorem quoG_c{b:UInt8}(h1:b≠34)(h2:b≠92)(r acc:List UInt8)(k:Nat):quoG (b::r) acc k=quoG r (acc++[b]) (k+1):=by
 rw[quoG.eq_def];simp only[if_neg h1,if_neg h2]
theorem binds_cases{s:List UInt8}(h:0<bindsV s):s=[42]∨s=[47]∨s=[37]∨s=[43]∨s=[45]∨s=[38]∨s=[61]∨s=[60,62]∨s=[60]∨s=[60,61]∨s=[62]∨s=[62,61]:=by
 grind [bindsV]
theorem ok_kids{d:Nat}{e:V}(h:okE (d+1) e=true):nodeE e=true∧∀x∈e.l,okE d x=true:=by
 rw[okE,Bool.and_eq_true]at h
 grind
theorem node1{e:V}(h:nodeE e=true)(hk:e.k=1):0≤e.n∧e.n≤1000000000000000∧e.s=[]∧e.l=[]:=by
 grind [nodeE]
theorem node0{e:V}(h:nodeE e=true)(hk:e.k≠1):e.n=0:=by
 grind [nodeE]
theorem node2{e:V}(h:nodeE e=true)(hk:e.k=2):e.n=0∧z19 e.s=true∧e.l=[]:=by
 grind [node0,nodeE]
theorem node3{e:V}(h:nodeE e=true)(hk:e.k=3):e.n=0∧z11 e.s=true∧e.l=[]:=by
 grind [node0,nodeE]
theorem node4{e:V}(h:nodeE e=true)(hk:e.k=4):e.n=0∧0<bindsV e.s∧∃a b,e.l=[a,b]:=by
 have h0:=node0 h (by omega);unfold nodeE at h;rw[if_neg (by simp[h0]),if_neg (by omega),if_neg (by omega),if_neg (by omega),if_pos hk]at h;simp at h;refine⟨h0,h.1,?_⟩
 match hl:e.l,h.2 with
 |[a,b],_=>simp
theorem node5{e:V}(h:nodeE e=true)(hk:e.k=5):e.n=0∧e.s=[45]∧∃a,e.l=[a]:=by
 have h0:=node0 h (by omega);unfold nodeE at h;rw[if_neg (by simp[h0]),if_neg (by omega),if_neg (by omega),if_neg (by omega),if_neg (by omega),if_pos hk]at h;simp at h;refine⟨h0,h.1,?_⟩
 match hl:e.l,h.2 with
 |[a],_=>simp
theorem node6{e:V}(h:nodeE e=true)(hk:e.k=6):e.n=0∧0<takesV e.s∧(e.l.length:Int)=takesV e.s:=by
 grind [node0,nodeE]
theorem z137{e:V}(h:nodeE e=true):e.k=1∨e.k=2∨e.k=3∨e.k=4∨e.k=5∨e.k=6:=by
 grind [nodeE]
section
variable{L:List Pc}{sz p:Nat}{t:T3}{ts r post:List T3}
end
def NP(post:List T3):Prop:=∀t r,post=t::r→t.1=4∧t.2.2≠[40]
def StopK(least:Int)(post:List T3):Prop:=∀t r,post=t::r→t.1=4→bindsV t.2.2<least
def PK(d:Nat):Prop:=∀e,okE d e=true→∀(m least:Int),least≤m→∀(L:List Pc) (sz p:Nat) (post:List T3),(L.drop p).map er=kidK e m (tokE d e)++post→NP post→(e.k=4→m≤bindsV e.s→StopK (bindsV e.s+1) post)→
 ∃F j,∀f,F≤f→pE L sz (f+j) least p=pL L sz f least e (p+(kidK e m (tokE d e)).length)
end Go.Mor
end

section
namespace Go.Sh
open Go Go.RowKit
def boolW(t:Bool)(A B:Prop):Prop:=(t=true→A)∧(t=false→B)
def boolK(x:Option TV)(A B:Prop):Prop:=match x with
 |some (.pv (.v (.bool t)))=>boolW t A B
 |_=>False
def guardW(x:Option TV)(want:Bool)(gs:Nat)(A B:ES→Prop)(s:ES):Prop:=match x with
 |some (.pv (.v (.bool t)))=>boolW t ((if want then A else B) (s.put (some gs) (.pv (.v (.bool true))))) ((if want then B else A) (s.put (some gs) (.pv (.v (.bool false)))))
 |some (.pv (.v _))=>B s
 |_=>False
def guardK(t:Bool)(want:Bool)(gs:Nat)(A B:ES→Prop)(s:ES):Prop:=boolW t ((if want then A else B) (s.put (some gs) (.pv (.v (.bool true))))) ((if want then B else A) (s.put (some gs) (.pv (.v (.bool false)))))
section
variable{P:Program}{g:Glob}{a b c:SCode}{Q:SExit→ES→Prop}{K:ES→Prop}{s s':ES}{l:List SOper}{A B:Prop}{o:SOper}
@[congr] theorem boolW_congr {t t':Bool} (h:t=t'):boolW t A B=boolW t' A B:=by rw[h]
@[congr] theorem boolK_congr {t t':Option TV} (h:t=t'):boolK t A B=boolK t' A B:=by rw[h]
@[congr] theorem guardW_congr {t t':Option TV} {w:Bool} {gs:Nat} {A B:ES→Prop} (h:t=t'):guardW t w gs A B s=guardW t' w gs A B s:=by rw[h]
@[congr] theorem guardK_congr {t t':Bool} {w:Bool} {gs:Nat} {A B:ES→Prop} (h:t=t'):guardK t w gs A B s=guardK t' w gs A B s:=by rw[h]
@[congr] theorem swp_congr (h:s=s'):swp P g a Q s=swp P g a Q s':=by rw[h]
@[congr] theorem opsW_congr (h:s=s'):opsW P g l K s=opsW P g l K s':=by rw[h]
@[congr] theorem stepW_congr {e e':Option (TV×Upd)} (h:e=e'):stepW P o K s e=stepW P o K s e':=by rw[h]
@[congr] theorem thenW_congr {e:SExit} (h:s=s'):thenW K Q e s=thenW K Q e s':=by rw[h]
@[congr] theorem blockW_congr {e:SExit} {id:Nat} (h:s=s'):blockW id Q e s=blockW id Q e s':=by rw[h]
theorem bW_T:boolW true A B=A:=by simp[boolW]
theorem bW_F:boolW false A B=B:=by simp[boolW]
theorem bW_d{p:Prop}[Decidable p]:boolW (decide p) A B=((p→A)∧(¬p→B)):=by simp[boolW]
theorem bW_n{t:Bool}:boolW (!t) A B=boolW t B A:=by grind [boolW]
theorem bW_a{t u:Bool}:boolW (t&&u) A B=boolW t (boolW u A B) B:=by grind [boolW]
theorem bW_o{t u:Bool}:boolW (t||u) A B=boolW t A (boolW u A B):=by grind [boolW]
theorem bK{t:Bool}:boolK (some (.pv (.v (.bool t)))) A B=boolW t A B:=rfl
theorem gW{t w:Bool}{gs:Nat}{A B:ES→Prop}:guardW (some (.pv (.v (.bool t)))) w gs A B s=guardK t w gs A B s:=rfl
theorem gW_u{w:Bool}{gs:Nat}{A B:ES→Prop}:guardW (some (.pv (.v (.nilIface)))) w gs A B s=B s:=rfl
theorem gW_i{w:Bool}{k:IntKind}{n:Int}{gs:Nat}{A B:ES→Prop}:guardW (some (.pv (.v (.int k n)))) w gs A B s=B s:=rfl
def regK(Q:SExit→ES→Prop)(kill:List Nat)(s:ES):Prop:=Q .normal (s.kill kill)
def skipK(P:Program)(g:Glob)(l:List SOper)(K:ES→Prop)(dst:Option Nat)(s:ES):Prop:=opsW P g l K (s.put dst (.pv (.v undef)))
@[congr] theorem regK_congr {kill:List Nat} (h:s=s'):regK Q kill s=regK Q kill s':=by rw[h]
theorem v_regK{kill:List Nat}:regK Q kill s=Q .normal (s.kill kill):=rfl
theorem v_skipK{dst:Option Nat}:skipK P g l K dst s=opsW P g l K (s.put dst (.pv (.v undef))):=rfl
theorem sv_same{α:Type}{k:Nat}{x:α}:∀{l:List (Nat×α)},lk l k=some x→sv l k x=l
 |[],h=>by simp[lk]at h
 |(j,y)::l,h=>by
  simp only[lk]at h;simp only[sv];cases hj:Nat.beq j k with
  |true=>
   simp_all
  |false=>rw[hj]at h;simp only[sv_same h]
theorem put_same{gs:Nat}{x:TV}(h:lk s.t gs=some x):s.put (some gs) x=s:=by
 show ES.mk _ _ _ _=_;rw[sv_same h]
theorem boolW_iff{t:Bool}:boolW t A B ↔ (if t then A else B):=by grind [boolW]
theorem v_skip:swp P g .skip Q s=Q .normal s:=rfl
theorem v_seq:swp P g (.seq a b) Q s=swp P g a (thenW (swp P g b Q) Q) s:=rfl
theorem v_exit{id:Nat}:swp P g (.exit id) Q s=Q (.exit id) s:=rfl
theorem v_ret:swp P g .ret Q s=Q .ret s:=rfl
theorem v_block{id:Nat}:swp P g (.block id a) Q s=swp P g a (blockW id Q) s:=rfl
theorem v_cond{x:Arg}:swp P g (.cond x a b) Q s=boolK (x.get s.fs) (swp P g a Q s) (swp P g b Q s):=by
 apply propext;constructor
 ·rintro⟨t,h1,h2⟩
  grind [bK,boolW_iff]
 ·intro h;unfold boolK at h;split at h
  ·rename_i t ht;exact⟨t,ht,boolW_iff.1 h⟩
  ·grind
theorem v_reg{n kill:List Nat}:swp P g (.reg [(n,l)] kill) Q s=opsW P g l (regK Q kill) (s.fgt n):=by
 show regW P g _ _ _ _=_;simp[regW];rfl
theorem v_reg2{n kill:List Nat}{x:List Nat×List SOper}{r:List (List Nat×List SOper)}:swp P g (.reg ((n,l)::x::r) kill) Q s=(opsW P g l (regK Q kill) (s.fgt n)∨swp P g (.reg (x::r) kill) Q s):=by
 show regW P g _ _ _ _=(_∨regW P g _ _ _ _)
 simp[regW];rfl
theorem v_nil:opsW P g [] K s=K s:=rfl
theorem v_op{dst fp:Option Nat}{op:SOp}(h:op.isCall=false):opsW P g (⟨dst,none,fp,op⟩::l) K s=stepW P ⟨dst,none,fp,op⟩ (opsW P g l K) s (effG P noC ⟨dst,none,fp,op⟩ s.fs):=propext (opsW_nc h)
theorem v_guard{dst fp:Option Nat}{op:SOp}{gs:Nat}{want:Bool}:opsW P g (⟨dst,some (gs,want),fp,op⟩::l) K s=
  guardW (lk s.t gs) want gs (opsW P g (⟨dst,none,fp,op⟩::l) K) (skipK P g l K dst) s:=by
 have key:∀C,effG P C ⟨dst,some (gs,want),fp,op⟩ s.fs=match lk s.t gs with
  |some (.pv (.v (.bool b)))=>if b==want then effG P C ⟨dst,none,fp,op⟩ s.fs else some (.pv (.v undef),.no)
  |some (.pv (.v _))=>some (.pv (.v undef),.no)
  |_=>none:=fun C=>rfl
 have hA:(∃C,SoundC P g C∧∃e,some (TV.pv (.v undef),Upd.no)=some e∧opsW P g l K (s.after ⟨dst,some (gs,want),fp,op⟩ e))=opsW P g l K (s.put dst (.pv (.v undef))):=by
  apply propext;constructor
  ·rintro⟨C,hC,e,he,hk⟩;cases he;exact hk
  ·intro hk;exact⟨noC,noC_sound P g,_,rfl,hk⟩
 conv=>lhs;unfold opsW
 simp only[key];unfold guardW;cases hx:lk s.t gs with
 |none=>simp
 |some x=>
  cases x with
  |pv p=>
   cases p with
   |v v=>
    cases v with
    |bool t=>
     cases t
     ·cases want
      ·simp only[bW_F,if_false,beq_self_eq_true,if_true,put_same hx,Bool.false_eq_true];rfl
      ·simp only[bW_F,if_true,put_same hx,bFT,if_false,Bool.false_eq_true];exact hA
     ·cases want
      ·simp only[bW_T,if_false,put_same hx,bTF,Bool.false_eq_true];exact hA
      ·simp only[bW_T,if_true,beq_self_eq_true,put_same hx];rfl
    |_=>exact hA
   |_=>simp
  |_=>simp
theorem gK_T1{gs:Nat}{A B:ES→Prop}:guardK true true gs A B s=A (s.put (some gs) (.pv (.v (.bool true)))):=by simp[guardK,bW_T]
theorem gK_T0{gs:Nat}{A B:ES→Prop}:guardK true false gs A B s=B (s.put (some gs) (.pv (.v (.bool true)))):=by simp[guardK,bW_T]
theorem gK_F1{gs:Nat}{A B:ES→Prop}:guardK false true gs A B s=B (s.put (some gs) (.pv (.v (.bool false)))):=by simp[guardK,bW_F]
theorem gK_F0{gs:Nat}{A B:ES→Prop}:guardK false false gs A B s=A (s.put (some gs) (.pv (.v (.bool false)))):=by simp[guardK,bW_F]
theorem gK_d1{p:Prop}[Decidable p]{gs:Nat}{A B:ES→Prop}:guardK (decide p) true gs A B s=((p→A (s.put (some gs) (.pv (.v (.bool true)))))∧(¬p→B (s.put (some gs) (.pv (.v (.bool false)))))):=by simp[guardK,bW_d]
theorem gK_d0{p:Prop}[Decidable p]{gs:Nat}{A B:ES→Prop}:guardK (decide p) false gs A B s=((p→B (s.put (some gs) (.pv (.v (.bool true)))))∧(¬p→A (s.put (some gs) (.pv (.v (.bool false)))))):=by simp[guardK,bW_d]
theorem gK_n1{t:Bool}{gs:Nat}{A B:ES→Prop}:guardK (!t) true gs A B s=boolW t (B (s.put (some gs) (.pv (.v (.bool false))))) (A (s.put (some gs) (.pv (.v (.bool true))))):=by simp[guardK,bW_n]
theorem gK_n0{t:Bool}{gs:Nat}{A B:ES→Prop}:guardK (!t) false gs A B s=boolW t (A (s.put (some gs) (.pv (.v (.bool false))))) (B (s.put (some gs) (.pv (.v (.bool true))))):=by simp[guardK,bW_n]
theorem v_then_n{K:ES→Prop}:thenW K Q .normal s=K s:=rfl
theorem v_then_r{K:ES→Prop}:thenW K Q .ret s=Q .ret s:=rfl
theorem v_then_x{K:ES→Prop}{id:Nat}:thenW K Q (.exit id) s=Q (.exit id) s:=rfl
theorem v_blk_n{id:Nat}:blockW id Q .normal s=Q .normal s:=rfl
theorem v_blk_r{id:Nat}:blockW id Q .ret s=Q .ret s:=rfl
theorem v_blk_x{id j:Nat}:blockW id Q (.exit j) s=boolW (Nat.beq j id) (Q .normal s) (Q (.exit j) s):=by
 grind [only,blockW,Nat.beq_refl,bW_T,z133,bW_F]
theorem s_some{e:TV×Upd}:stepW P o K s (some e)=K (s.after o e):=rfl
theorem s_none:stepW P o K s none=False:=rfl
theorem s_ite{c:Prop}[Decidable c]{x:Option (TV×Upd)}:stepW P o K s (if c then x else none)=(c∧stepW P o K s x):=by
 grind [stepW]
theorem s_get{α:Type}{l:List α}{k:Nat}{f:α→TV×Upd}:stepW P o K s (Option.map f l[k]?)=(k<l.length∧∀b,l[k]?=some b→K (s.after o (f b))):=by
 grind [Nat.lt_or_ge,List.getElem?_eq_getElem,stepW,List.getElem?_eq_none,Nat.not_lt]
def loopK{σ:Type}(st:σ→ES)(μ:σ→Nat)(x:σ)(s:ES):Prop:=∃y,μ y<μ x∧(st y).Lw s
@[congr] theorem loopK_congr {σ:Type} {st:σ→ES} {μ:σ→Nat} {x:σ} (h:s=s'):loopK st μ x s=loopK st μ x s':=by rw[h]
theorem v_loop{σ:Type}(st:σ→ES)(μ:σ→Nat)(x0:σ)(h0:(st x0).Lw s)(hr:∀x,swp P g a (thenW (loopK st μ x) Q) (st x)):swp P g (.loop a) Q s:=by
 refine⟨fun n s=>∃x,μ x=n∧s=st x,μ x0,⟨st x0,h0,x0,rfl,rfl⟩,?_⟩;rintro n s ⟨x,rfl,rfl⟩;refine z56 (hr x) (fun e s he=> ?_);cases e with
 |normal=>obtain⟨y,h1,h2⟩:=he;exact⟨μ y,h1,st y,h2,y,rfl,rfl⟩
 |exit id=>exact he
 |ret=>exact he
 |pan z=>exact he
theorem z13{σ:Type}{st:σ→ES}{μ:σ→Nat}{x:σ}(y:σ)(h1:μ y<μ x)(h2:(st y).Lw s):loopK st μ x s:=⟨y,h1,h2⟩
theorem lw_of{s0 s:ES}(h1:leL s0.t s.t)(h2:leL s0.b s.b)(h3:leL s0.r s.r)(h4:leL s0.i s.i):s0.Lw s:=(le_of h1 h2 h3 h4).lw
theorem lw_eq{s0 s:ES}(h:s0=s):s0.Lw s:=h▸ .refl _
def callIn(s:ES)(m:Nat)(xs:List Arg):Option (List TV×List MO×List Nat):=match seqO (fun x:Arg=>x.get s.fs) xs with
 |some args=>match seqO (TV.ren2 (rhoIn (handI s.fs m args))) args,seqO (fun d=>(s.fs.mo d).bind (MO.ren (rhoIn (handI s.fs m args)))) (handI s.fs m args)with
  |some xs',some os=>some (xs',os,handI s.fs m args)
  |_,_=>none
 |none=>none
def callOut(s:ES)(dst:Option Nat)(I:List Nat)(y:TV)(os':List MO):Option ES:=match y.ren3 (rhoOut I (dstId dst)),outs (rhoOut I (dstId dst)) 0 os' with
 |some y',some us=>some ((s.upd dst (.mem us)).put dst y')
 |_,_=>none
def fpOk:Option Nat→List Nat→Bool
 |none,_=>true
 |some d,I=>isK (only I) d
theorem opsW_callF{dst fp:Option Nat}{f m:Nat}{xs:List Arg}{args:List TV}(ha:seqO (fun x:Arg=>x.get s.fs) xs=some args)(hfp:fpOk fp (handI s.fs m args)=true)(h:opsW P g (⟨dst,none,none,.call f m xs⟩::l) K s):opsW P g (⟨dst,none,fp,.call f m xs⟩::l) K s:=by
 obtain⟨C,hC,e,he,hk⟩:=h;refine⟨C,hC,e,?_,hk⟩;have h1:footOk ⟨dst,none,fp,.call f m xs⟩ s.fs=true:=by
  unfold footOk;cases fp with
  |none=>rfl
  |some d=>
   simp only[SOp.foot,ha];exact hfp
 grind [only,effG,effF,footOk]
theorem v_call{dst fp:Option Nat}{f m:Nat}{xs:List Arg}{xs':List TV}{I:List Nat}{os os':List MO}{y:TV}(hx:callIn s m xs=some (xs',os,I))(hfp:fpOk fp I=true)(hc:SCalls P g f xs' os y os')(hmo:moOk os os'=true)(hs:callOut s dst I y os'=some s')(hk:opsW P g l K s'):
  opsW P g (⟨dst,none,fp,.call f m xs⟩::l) K s:=by
 unfold callIn at hx;split at hx
 ·rename_i args ha;split at hx
  ·rename_i a1 a2 h1 h2;cases hx;unfold callOut at hs;split at hs
   ·rename_i y' us h3 h4;cases hs;exact opsW_callF ha hfp (w_call ha rfl h1 h2 hc hmo h3 h4 rfl hk)
   ·cases hs
  ·cases hx
 ·cases hx
def callvIn(s:ES)(m:Nat)(x:Arg)(xs:List Arg):Option (Nat×List TV×List MO×List Nat):=match(x.get s.fs).bind TV.callee,seqO (fun x:Arg=>x.get s.fs) xs with
 |some (f,fa,fb),some vs=>match seqO (TV.ren2 (rhoIn (handI s.fs m (fa++vs++fb)))) (fa++vs++fb),seqO (fun d=>(s.fs.mo d).bind (MO.ren (rhoIn (handI s.fs m (fa++vs++fb))))) (handI s.fs m (fa++vs++fb))with
  |some xs',some os=>some (f,xs',os,handI s.fs m (fa++vs++fb))
  |_,_=>none
 |_,_=>none
theorem z25{dst:Option Nat}{f m:Nat}{x:Arg}{xs:List Arg}{xs':List TV}{I:List Nat}{os os':List MO}{y:TV}(hx:callvIn s m x xs=some (f,xs',os,I))(hc:SCalls P g f xs' os y os')(hmo:moOk os os'=true)(hs:callOut s dst I y os'=some s')(hk:opsW P g l K s'):
  opsW P g (⟨dst,none,none,.callv x m xs⟩::l) K s:=by
 unfold callvIn at hx;split at hx
 ·rename_i f' fa fb vs h0 h1;split at hx
  ·rename_i a1 a2 h3 h4;cases hx;unfold callOut at hs;split at hs
   ·rename_i y' us h5 h6;cases hs;refine opsW_callv ?_;rw[h0,h1];exact⟨_,rfl,xs',os,h3,h4,y,os',hc,hmo,y',us,h5,h6,hk⟩
   ·cases hs
  ·cases hx
 ·cases hx
end
end Go.Sh
namespace Go.Sh
open Go Go.RowKit
theorem nc_mov(x:Arg):(SOp.mov x).isCall=false:=rfl
theorem nc_pick(c a b:Arg):(SOp.pick c a b).isCall=false:=rfl
theorem nc_bin(op:BinOp)(t:TypeId)(x y:Arg):(SOp.bin op t x y).isCall=false:=rfl
theorem nc_un(op:UnOp)(x:Arg):(SOp.un op x).isCall=false:=rfl
theorem nc_cvi(k:IntKind)(x:Arg):(SOp.cvi k x).isCall=false:=rfl
theorem nc_cvs(x:Arg):(SOp.cvs x).isCall=false:=rfl
theorem nc_b2s(x:Arg):(SOp.b2s x).isCall=false:=rfl
theorem nc_imm(mx:Bool)(x y:Arg):(SOp.imm mx x y).isCall=false:=rfl
theorem nc_sidx(x i:Arg):(SOp.sidx x i).isCall=false:=rfl
theorem nc_ssub(x:Arg)(lo hi:Option Arg):(SOp.ssub x lo hi).isCall=false:=rfl
theorem nc_slen(x:Arg):(SOp.slen x).isCall=false:=rfl
theorem nc_new(z:List Value):(SOp.new z).isCall=false:=rfl
theorem nc_box(x:Arg):(SOp.box x).isCall=false:=rfl
theorem nc_build(z:List Value)(ps:List (Nat×Nat×Arg)):(SOp.build z ps).isCall=false:=rfl
theorem nc_bsl(W:Nat)(xs:List Arg):(SOp.bsl W xs).isCall=false:=rfl
theorem nc_bslO(e W:Nat)(xs:List Arg):(SOp.bslO e W xs).isCall=false:=rfl
theorem nc_fld(a:Bool)(o n:Nat)(x:Arg):(SOp.fld a o n x).isCall=false:=rfl
theorem nc_fldA(o:Nat)(x:Arg):(SOp.fldA o x).isCall=false:=rfl
theorem nc_ld(a:Bool)(n:Nat)(x:Arg):(SOp.ld a n x).isCall=false:=rfl
theorem nc_st(n:Nat)(x y:Arg):(SOp.st n x y).isCall=false:=rfl
theorem nc_len(x:Arg):(SOp.len x).isCall=false:=rfl
theorem nc_idxA(W:Nat)(x i:Arg):(SOp.idxA W x i).isCall=false:=rfl
theorem nc_sub(W:Nat)(x:Arg)(lo hi:Option Arg):(SOp.sub W x lo hi).isCall=false:=rfl
theorem nc_app(e W n:Nat)(x y:Arg):(SOp.app e W n x y).isCall=false:=rfl
theorem nc_appS(e n:Nat)(x y:Arg):(SOp.appS e n x y).isCall=false:=rfl
theorem nc_appN(e W n:Nat)(x y:Arg):(SOp.appN e W n x y).isCall=false:=rfl
theorem nc_appNS(e n:Nat)(x y:Arg):(SOp.appNS e n x y).isCall=false:=rfl
theorem nc_appB(e W n:Nat)(x y:Arg):(SOp.appB e W n x y).isCall=false:=rfl
theorem nc_ext(x:Arg)(i:Nat):(SOp.ext x i).isCall=false:=rfl
theorem nc_nchk(x:Arg):(SOp.nchk x).isCall=false:=rfl
theorem nc_mkf(f:Fn)(a b:List Arg):(SOp.mkf f a b).isCall=false:=rfl
theorem nc_rng(x:Arg):(SOp.rng x).isCall=false:=rfl
theorem nc_nxt(x:Arg):(SOp.nxt x).isCall=false:=rfl
theorem nc_mks(n:Nat)(z:List Value)(x:Arg):(SOp.mks n z x).isCall=false:=rfl
section
variable(P:Program)(t:TypeId)(k:IntKind)(a b:Int)(x y:ByteArray)
theorem bin_quoI:scal P (do eqGuard .quo t (.const (.int k a)) (.const (.int k b)) (.int k a) (.int k b);binOp .quo t (.int k a) (.int k b))=if b≠0 then some (.pv (.v (.int k (k.wrap (a.tdiv b)))),.no)else none:=by
 by_cases hb:b≠0
 ·rw[if_pos hb];exact bin_quo P t k a b hb
 ·have:b=0:=by omega
  subst this;rw[if_neg (by simp)];simp[scal,eqGuard,binOp,Op.intDiv];rfl
theorem bin_remI:scal P (do eqGuard .rem t (.const (.int k a)) (.const (.int k b)) (.int k a) (.int k b);binOp .rem t (.int k a) (.int k b))=if b≠0 then some (.pv (.v (.int k (a.tmod b))),.no)else none:=by
 by_cases hb:b≠0
 ·rw[if_pos hb];exact bin_rem P t k a b hb
 ·have:b=0:=by omega
  subst this;rw[if_neg (by simp)];simp[scal,eqGuard,binOp,Op.intDiv];rfl
theorem sbin_addI:scal P (do eqGuard .add t (.const (.string x)) (.const (.string y)) (.string x) (.string y);binOp .add t (.string x) (.string y))=if x.size+y.size≤9223372036854775807 then some (.pv (.v (.string (x++y))),.no)else none:=by
 by_cases hb:x.size+y.size≤9223372036854775807
 ·grind [sbin_add]
 ·rw[if_neg hb];have hm:IntKind.i64.max=9223372036854775807:=by rfl
  have h':(((x.size+y.size:Nat):Int)>IntKind.i64.max):=by omega
  simp only[scal,eqGuard,binOp,Op.stringOp,h',if_true];rfl
end
end Go.Sh
namespace Go.Sh
open Go Go.RowKit
def nilT:TV:=.pv (.v (.slice none 0 0))
def ES.adT(s:ES)(k d e W:Nat):ES:=⟨sv (s.fgt [d]).t k (.own d W []),(s.fgt [d]).b,sv (s.fgt [d]).r d (e,W,0),(s.fgt [d]).i⟩
def ES.adB(s:ES)(x:Nat)(cs:List TV)(j d e W:Nat):ES:=⟨(s.fgt [d]).t,sv (s.fgt [d]).b x (cs.set j (.own d W [])),sv (s.fgt [d]).r d (e,W,0),(s.fgt [d]).i⟩
theorem own_nil{w:World}{E:Env}{r:Rows}{d e W:Nat}{v:Value}(hr:r d=some (e,W,0))(hg:E.γ d=none)(h:RelT w E r nilT v):RelT w E r (.own d W []) v:=by
 have hv:v=.slice none 0 0:=val_rel h rfl;subst hv;refine .own d W [] _ ?_ (fun e' W' n hn=> ?_)
 ·exact .sl W [] 0 0 0 none (fun _ _=>undef) (by simp) (by simp) (by simp) (by simp) (by simp) (by simp)
 ·rw[hr]at hn;cases hn;exact⟨Nat.le_refl _,fun _=>⟨rfl,by rw[hg];rfl⟩⟩
section
variable{B:Base}{s:FS}{a:Act}{w:World}{E:Env}
theorem Sim.reT(h:Sim B s a w E){k:Nat}{x y:TV}(hk:s.t k=some x)(hy:∀v,RelT w E s.r x v→RelT w E s.r y v):Sim B (s.setT k y) a w E:=by
 refine⟨h.defers,h.size,fun j z hz=> ?_,h.mem,h.itr,h.ii⟩;rcases z31 hz with⟨rfl,rfl⟩|⟨hj,hz⟩
 ·exact⟨(h.tmp j x hk).1,hy _ (h.tmp j x hk).2⟩
 ·exact h.tmp j z hz
theorem Sim.reB(h:Sim B s a w E){k:Nat}{cs ds:List TV}(hk:s.b k=some cs)(hy:∀(j:Nat) d,ds[j]?=some d→∃c,cs[j]?=some c∧∀v,RelT w E s.r c v→RelT w E s.r d v):Sim B (s.setB k ds) a w E:=by
 refine⟨h.defers,h.size,h.tmp,⟨fun d ds' hd=> ?_,h.mem.row,fun d d' c c' h1 h2 h3=> ?_,fun d d' c q b cap h1 h2 h3=> ?_,h.mem.rr,h.mem.lt,h.mem.low,h.mem.keep,h.mem.knew,h.mem.pas⟩,h.itr,h.ii⟩
 ·rcases z31 hd with⟨rfl,rfl⟩|⟨_,hd⟩
  ·obtain⟨h1,h2⟩:=h.mem.box d cs hk;refine⟨⟨h1.lt,h1.obj,h1.fz,fun j c hc=> ?_,h1.out⟩,h2⟩;obtain⟨c0,hc0,hw⟩:=hy j c hc;obtain⟨v,q1,q2,q3⟩:=h1.cell j c0 hc0;exact⟨v,q1,q2,hw v q3⟩
  ·exact h.mem.box d ds' hd
 ·have e1:∃c,s.b d=some c:=(z31 h1).elim (fun h=>⟨cs,h.1▸hk⟩) (fun h=>⟨_,h.2⟩);have e2:∃c,s.b d'=some c:=(z31 h2).elim (fun h=>⟨cs,h.1▸hk⟩) (fun h=>⟨_,h.2⟩);obtain⟨c1,e1⟩:=e1;obtain⟨c2,e2⟩:=e2;exact h.mem.bb d d' c1 c2 e1 e2 h3
 ·have e1:∃c,s.b d=some c:=(z31 h1).elim (fun h=>⟨cs,h.1▸hk⟩) (fun h=>⟨_,h.2⟩);obtain⟨c1,e1⟩:=e1;exact h.mem.br d d' c1 q b cap e1 h2 h3
end
theorem adT_lw{s:ES}{k d e W:Nat}(hd:d<1000∨2000≤d)(hk:lk s.t k=some nilT):(s.adT k d e W).Lw s:=by
 intro B a w E hm hN hS;have h1:=z74 hS [d];have hf:Fresh (s.fgt [d]).fs d:=z57 s (by simp);obtain⟨E',e1,e2,e3,h2,h3⟩:=h1.adopt (d:=d) (fun ho=>by have:=ho.1;have:=ho.2;omega) hf e W;refine⟨E',?_⟩;have hk':(s.fgt [d]).fs.t k=some nilT:=by
  show lk ((s.fgt [d]).t) k=_;simp only[ES.fgt,lk_map,hk];rfl
 have:=h2.reT (k:=k) (x:=nilT) (y:=.own d W []) hk' (fun v hv=>own_nil (e:=e) (by simp[FS.setR,setF]) e3 hv)
 grind [only,ES.adT,ES.fs,FS.setR,FS.setT,lk_sv]
theorem adB_lw{s:ES}{x j d e W:Nat}{cs:List TV}(hd:d<1000∨2000≤d)(hne:x≠d)(hk:lk s.b x=some cs)(hc:cs.map (fgt3 [d])=cs)(hj:cs[j]?=some nilT):(s.adB x cs j d e W).Lw s:=by
 intro B a w E hm hN hS;have h1:=z74 hS [d];have hf:Fresh (s.fgt [d]).fs d:=z57 s (by simp);obtain⟨E',e1,e2,e3,h2,h3⟩:=h1.adopt (d:=d) (fun ho=>by have:=ho.1;have:=ho.2;omega) hf e W;refine⟨E',?_⟩;have hk':(s.fgt [d]).fs.b x=some cs:=by
  rw[fgt_b];have:has [d] x=false:=by simp only[has];rw[z133 (fun h=>hne h.symm)]
  rw[this,hk];simp[hc]
 have:=h2.reB (k:=x) (cs:=cs) (ds:=cs.set j (.own d W [])) hk' (fun i c hi=>by
  by_cases hij:j=i
  ·subst hij;have hl:j<cs.length:=(gJ hj).1;rw[List.getElem?_set_self hl]at hi;cases hi;exact⟨nilT,hj,fun v hv=>own_nil (e:=e) (by simp[FS.setR,setF]) e3 hv⟩
  ·rw[List.getElem?_set_ne hij]at hi;exact⟨c,hi,fun v hv=>hv⟩)
 have he:(s.adB x cs j d e W).fs=((s.fgt [d]).fs.setR d (e,W,0)).setB x (cs.set j (.own d W [])):=by
  simp only[ES.adB,ES.fs,FS.setR,FS.setB,lk_sv]
 rw[he];exact this
end Go.Sh
namespace Go.Sh
open Go
theorem reach_nil{s:FS}{rows:Bool}{n:Nat}{seen:List Nat}:reach s rows n [] seen=seen:=by cases n<;>simp[reach]
def reachM(s:FS)(rows:Bool)(n d:Nat)(l seen:List Nat):Option Nat→Option (List TV)→Option (Nat×Nat×Nat)→List Nat
 |some _,_,_=>reach s rows n l seen
 |none,some cs,_=>reach s rows n (cs.flatMap TV.ids1++l) (seen++[d])
 |none,none,some _=>if rows then reach s rows n l (seen++[d])else reach s rows n l seen
 |none,none,none=>reach s rows n l seen
theorem reach_cons{s:FS}{rows:Bool}{n d:Nat}{l seen:List Nat}:reach s rows (n+1) (d::l) seen=reachM s rows n d l seen (pos seen d) (s.b d) (s.r d):=by
 simp only[reach];cases hp:pos seen d with
 |some j=>rfl
 |none=>
  cases hb:s.b d with
  |some cs=>rfl
  |none=>
   cases hr:s.r d with
   |none=>rfl
   |some q=>cases rows<;>rfl
theorem reach_m1{s:FS}{rows:Bool}{n d j:Nat}{l seen:List Nat}{b:Option (List TV)}{r:Option (Nat×Nat×Nat)}:reachM s rows n d l seen (some j) b r=reach s rows n l seen:=rfl
theorem reach_m2{s:FS}{rows:Bool}{n d:Nat}{l seen:List Nat}{cs:List TV}{r:Option (Nat×Nat×Nat)}:reachM s rows n d l seen none (some cs) r=reach s rows n (cs.flatMap TV.ids1++l) (seen++[d]):=rfl
theorem reach_m3{s:FS}{rows:Bool}{n d:Nat}{l seen:List Nat}{q:Nat×Nat×Nat}:reachM s rows n d l seen none none (some q)=if rows then reach s rows n l (seen++[d])else reach s rows n l seen:=rfl
theorem reach_m4{s:FS}{rows:Bool}{n d:Nat}{l seen:List Nat}:reachM s rows n d l seen none none none=reach s rows n l seen:=rfl
end Go.Sh
namespace Go.Sh
open Go
section
variable{P:Program}{C:Oracle}{d e W n:Nat}{x y:Arg}{s:FS}{z:List Value}
def appNK(d e W n:Nat):Option Bool→Option (List (List PV))→Option (TV×Upd)
 |some true,some es2=>if es2.length*n≤140737488355328∧es2.length≤maxLen then some (.own d W es2,.row d (e,W,es2.length))else none
 |_,_=>none
def appNSK(d e n:Nat):Option Bool→Option ByteArray→Option (TV×Upd)
 |some true,some b=>if b.size*n≤140737488355328∧b.size≤maxLen then some (.own d 1 (bytesP b),.row d (e,1,b.size))else none
 |_,_=>none
theorem e_appN:eff P C (some d) (.appN e W n x y) s=appNK d e W n ((x.get s).map TV.isNil) ((y.get s).bind (TV.elems W)):=by
 simp only[eff];generalize(x.get s).map TV.isNil=a;generalize(y.get s).bind (TV.elems W)=b;cases a with
 |none=>rfl
 |some a=>cases a<;>cases b<;>rfl
theorem e_appN1{es:List (List PV)}:appNK d e W n (some true) (some es)=if es.length*n≤140737488355328∧es.length≤maxLen then some (.own d W es,.row d (e,W,es.length))else none:=rfl
theorem e_appN2{o:Option (List (List PV))}:appNK d e W n (some false) o=none:=by cases o<;>rfl
def appBK(d W n:Nat):Option Bool→Option (List (List PV))→Option (TV×Upd)
 |some true,some es2=>if es2.length*n≤140737488355328∧es2.length≤maxLen then(if es2.isEmpty then some (.pv (.v (.slice none 0 0)),.no)else some (.bs d 0 es2.length es2.length,.box (es2.flatten.map .pv)))else none
 |_,_=>none
theorem e_appB:eff P C (some d) (.appB e W n x y) s=appBK d W n ((x.get s).map TV.isNil) ((y.get s).bind (TV.elems W)):=by
 simp only[eff];generalize(x.get s).map TV.isNil=a;generalize(y.get s).bind (TV.elems W)=b;cases a with
 |none=>rfl
 |some a=>cases a<;>cases b<;>rfl
theorem e_appB1{es:List (List PV)}:appBK d W n (some true) (some es)=if es.length*n≤140737488355328∧es.length≤maxLen then(if es.isEmpty then some (.pv (.v (.slice none 0 0)),.no)else some (.bs d 0 es.length es.length,.box (es.flatten.map .pv)))else none:=rfl
theorem e_appNS:eff P C (some d) (.appNS e n x y) s=appNSK d e n ((x.get s).map TV.isNil) ((y.get s).bind TV.str):=by
 simp only[eff];generalize(x.get s).map TV.isNil=a;generalize(y.get s).bind TV.str=b;cases a with
 |none=>rfl
 |some a=>cases a<;>cases b<;>rfl
theorem e_appNS1{b:ByteArray}:appNSK d e n (some true) (some b)=if b.size*n≤140737488355328∧b.size≤maxLen then some (.own d 1 (bytesP b),.row d (e,1,b.size))else none:=rfl
theorem e_appNS2{o:Option ByteArray}:appNSK d e n (some false) o=none:=by cases o<;>rfl
def bslK(d e W:Nat):Option (List (List PV))→Option (TV×Upd)
 |some es=>if es.all (fun e=>e.length==W)then some (.own d W es,.row d (e,W,es.length))else none
 |none=>none
theorem e_bslO{xs:List Arg}:eff P C (some d) (.bslO e W xs) s=bslK d e W (seqO (fun x:Arg=>(x.get s).bind TV.pvs) xs):=by
 simp only[eff];generalize seqO (fun x:Arg=>(x.get s).bind TV.pvs) xs=b;cases b<;>rfl
theorem e_bslO1{es:List (List PV)}:bslK d e W (some es)=if es.all (fun e=>e.length==W)then some (.own d W es,.row d (e,W,es.length))else none:=rfl
def rngK(d:Nat):Option ByteArray→Option (TV×Upd)
 |some z=>some (.it d,.it d (z,0))
 |none=>none
theorem e_rng:eff P C (some d) (.rng x) s=rngK d ((x.get s).bind TV.str):=by
 simp only[eff];generalize(x.get s).bind TV.str=b;cases b<;>rfl
theorem e_rng1{b:ByteArray}:rngK d (some b)=some (.it d,.it d (b,0)):=rfl
def mksK(d n:Nat)(z:List Value):Option TV→Option (TV×Upd)
 |some (.pv (.v (.int .i64 k)))=>if 0≤k∧n*k≤140737488355328∧k≤maxLen then some (.bs d 0 k.toNat k.toNat,.box ((List.replicate k.toNat (z.map fun v=>TV.pv (.v v))).flatten))else none
 |_=>none
theorem e_mks:eff P C (some d) (.mks n z x) s=mksK d n z (x.get s):=by
 simp only[eff];unfold mksK
 grind
theorem e_mks1{k:Int}:mksK d n z (some (.pv (.v (.int .i64 k))))=if 0≤k∧n*k≤140737488355328∧k≤maxLen then some (.bs d 0 k.toNat k.toNat,.box ((List.replicate k.toNat (z.map fun v=>TV.pv (.v v))).flatten))else none:=rfl
end
end Go.Sh
namespace Go.Sh
open Go Go.RowKit
def PWk(c d:PV):Prop:=∀w K v,RelV w K c v→RelV w K d v
theorem PWk.refl(c:PV):PWk c c:=fun _ _ _ h=>h
theorem reB_lw{s:ES}{k:Nat}{cs ds:List TV}(hk:lk s.b k=some cs)(hl:cs.length=ds.length)(hw:∀(j:Nat) c d,cs[j]?=some c→ds[j]?=some d→Wk c d):(⟨s.t,sv s.b k ds,s.r,s.i⟩:ES).Lw s:=by
 intro B a w E _ _ hS;refine⟨E,?_⟩;have:=hS.reB (k:=k) (cs:=cs) (ds:=ds) hk (fun j d hd=>by
  have hj:j<cs.length:=by grind
  exact⟨_,gE hj,fun v hv=>hw j _ d (gE hj) hd _ _ _ _ hv⟩)
 grind [sv,only,ES.fs,FS.setB,lk_sv]
end Go.Sh
namespace Go.Sh
open Go Go.RowKit
end Go.Sh
namespace Go.Sh
open Go
section
variable{P:Program}{C:Oracle}{dst:Option Nat}{W l h:Nat}{x:Arg}{lo hi:Option Arg}{s:FS}{z:ByteArray}{es:List (List PV)}{c:Prop}[Decidable c]{o:Option Nat}
def ssubK(z:ByteArray):Option Nat→Option Nat→Option (TV×Upd)
 |some l,some h=>if l≤h∧h≤z.size then some (.pv (.v (.string (z.extract l h))),.no)else none
 |_,_=>none
def ssubM(s:FS)(lo hi:Option Arg):Option ByteArray→Option (TV×Upd)
 |some z=>ssubK z (bound s 0 lo) (bound s z.size hi)
 |none=>none
theorem e_ssub:eff P C dst (.ssub x lo hi) s=ssubM s lo hi ((x.get s).bind TV.str):=by
 simp only[eff];generalize(x.get s).bind TV.str=a
 grind [ssubM,ssubK,only,bound]
theorem e_ssub1:ssubM s lo hi (some z)=ssubK z (bound s 0 lo) (bound s z.size hi):=rfl
theorem e_ssub2:ssubK z (some l) (some h)=if l≤h∧h≤z.size then some (.pv (.v (.string (z.extract l h))),.no)else none:=rfl
theorem e_ssub3:ssubK z (some l) (if c then some h else none)=if c then ssubK z (some l) (some h)else none:=by split<;>rfl
theorem e_ssub4:ssubK z (if c then some l else none) o=if c then ssubK z (some l) o else none:=by
 split
 ·rfl
 ·cases o<;>rfl
def subK(W:Nat)(es:List (List PV)):Option Nat→Option Nat→Option (TV×Upd)
 |some l,some h=>if l≤h∧h≤es.length then some (.pv (.sl W ((es.take h).drop l)),.no)else none
 |_,_=>none
def subM(s:FS)(W:Nat)(lo hi:Option Arg):Option (List (List PV))→Option (TV×Upd)
 |some es=>subK W es (bound s 0 lo) (bound s es.length hi)
 |none=>none
theorem e_sub1:subM s W lo hi (some es)=subK W es (bound s 0 lo) (bound s es.length hi):=rfl
theorem e_sub2:subK W es (some l) (some h)=if l≤h∧h≤es.length then some (.pv (.sl W ((es.take h).drop l)),.no)else none:=rfl
theorem e_sub3:subK W es (some l) (if c then some h else none)=if c then subK W es (some l) (some h)else none:=by split<;>rfl
theorem e_sub4:subK W es (if c then some l else none) o=if c then subK W es (some l) o else none:=by
 split
 ·rfl
 ·cases o<;>rfl
def subT(s:FS)(W:Nat)(lo hi:Option Arg):Option TV→Option (TV×Upd)
 |some (.bs d off n c)=>match bound s 0 lo,bound s n hi with
   |some l,some h=>if l≤h∧h≤n∧n≤c then some (if c=l then .pv (.sl W [])else .bs d (off+l*W) (h-l) (c-l),.no)else none
   |_,_=>none
 |some t=>subM s W lo hi (t.elems W)
 |none=>none
theorem e_sub:eff P C dst (.sub W x lo hi) s=subT s W lo hi (x.get s):=by
 simp only[eff];generalize x.get s=a;cases a with
 |none=>rfl
 |some t=>
  have key:∀q:Option (List (List PV)),(match q with
    |some es=>match bound s 0 lo,bound s es.length hi with
     |some l,some h=>if l≤h∧h≤es.length then some (TV.pv (.sl W ((es.take h).drop l)),Upd.no)else none
     |_,_=>none
    |none=>none)=subM s W lo hi q:=by
   grind [subM,subK,bound]
  cases t with
  |bs d off n c=>rfl
  |pv p=>exact key ((TV.pv p).elems W)
  |own d W' es=>exact key ((TV.own d W' es).elems W)
  |_=>rfl
theorem e_subT1{p:PV}:subT s W lo hi (some (.pv p))=subM s W lo hi ((TV.pv p).elems W):=rfl
theorem e_subT2{d:Nat}{W':Nat}:subT s W lo hi (some (.own d W' es))=subM s W lo hi ((TV.own d W' es).elems W):=rfl
theorem e_subT3 {d off n c : Nat} : subT s W lo hi (some (.bs d off n c)) = (match bound s 0 lo, bound s n hi with
      |some l,some h=>if l≤h∧h≤n∧n≤c then some (if c=l then .pv (.sl W [])else .bs d (off+l*W) (h-l) (c-l),.no)else none
      |_,_=>none):=rfl
end
end Go.Sh
namespace Go.Sh
open Go
theorem gW_undef{w:Bool}{gs:Nat}{A B:ES→Prop}{s:ES}:guardW (some (.pv (.v undef))) w gs A B s=B s:=rfl
end Go.Sh
namespace Go.Sh
open Go
section
variable{P:Program}{C:Oracle}{dst:Option Nat}{x:Arg}{s:FS}{d p:Nat}{z:ByteArray}
def nxtM(d:Nat):Option (ByteArray×Nat)→Option (TV×Upd)
 |some (z,p)=>if p<z.size then some (.tuple [.pv (.v (.bool true)),.pv (.v (.int .i64 (p:Int))),.pv (.v (.int .i32 (Utf8.decode z p).1))],.it d (z,p+(Utf8.decode z p).2))else some (.tuple [.pv (.v (.bool false))],.no)
 |none=>none
def nxtK(s:FS):Option TV→Option (TV×Upd)
 |some (.it d)=>nxtM d (s.i d)
 |_=>none
theorem e_nxt:eff P C dst (.nxt x) s=nxtK s (x.get s):=by
 simp only[eff];generalize x.get s=a;cases a with
 |none=>rfl
 |some t=>
  cases t<;>rfl
theorem e_nxt1:nxtK s (some (.it d))=nxtM d (s.i d):=rfl
theorem e_nxt2:nxtM d (some (z,p))=if p<z.size then some (.tuple [.pv (.v (.bool true)),.pv (.v (.int .i64 (p:Int))),.pv (.v (.int .i32 (Utf8.decode z p).1))],.it d (z,p+(Utf8.decode z p).2))else some (.tuple [.pv (.v (.bool false))],.no):=rfl
end
theorem s_ite2{P:Program}{o:SOper}{K:ES→Prop}{s:ES}{c:Prop}[Decidable c]{a b:TV×Upd}:stepW P o K s (if c then some a else some b)=((c→K (s.after o a))∧(¬c→K (s.after o b))):=by
 grind [stepW]
end Go.Sh
namespace Go.Sh
open Go Go.RowKit
theorem nc_lkp(b:Bool)(z:Value)(x i:Arg):(SOp.lkp b z x i).isCall=false:=rfl
theorem nc_mkI(t:TypeId)(x:Arg):(SOp.mkI t x).isCall=false:=rfl
theorem nc_fnil(b:Bool)(x:Arg):(SOp.fnil b x).isCall=false:=rfl
section
variable{P:Program}{C:Oracle}{dst:Option Nat}{x:Arg}{s:FS}{ne:Bool}
def fnilK(ne:Bool)(x:Option TV):Option (TV×Upd):=(x.bind TV.fnil).map fun b=>(.pv (.v (.bool (b !=ne))),.no)
theorem e_fnil:eff P C dst (.fnil ne x) s=fnilK ne (x.get s):=rfl
theorem e_fnil1{f:Fn}{a b:List TV}:fnilK true (some (.fn f a b))=some (.pv (.v (.bool true)),.no):=rfl
theorem e_fnil2{f:Fn}{a b:List PV}:fnilK true (some (.pv (.fn f a b)))=some (.pv (.v (.bool true)),.no):=rfl
theorem e_fnil3:fnilK true (some (.pv (.v .nilFunc)))=some (.pv (.v (.bool false)),.no):=rfl
theorem e_fnil4{f:Fn}{a b:Array Value}:fnilK true (some (.pv (.v (.func f a b))))=some (.pv (.v (.bool true)),.no):=rfl
end
theorem nc_pan(x:Arg):(SOp.pan x).isCall=false:=rfl
section
variable{P:Program}{C:Oracle}{dst:Option Nat}{x i:Arg}{s:FS}{b:Bool}{z:Value}
def lkpJ(z:Value)(xs:List TV):Option (Option Nat)→Option (TV×Upd)
 |some (some j)=>(xs[j]?).map fun t=>(t,.no)
 |some none=>some (zeroT z,.no)
 |none=>none
def lkpK(b:Bool)(z:Value):Option TV→Option Value→Option (TV×Upd)
 |some (.mp ks xs),some k=>lkpJ z xs (findKs (kdOf b) k ks 0)
 |_,_=>none
theorem e_lkp:eff P C dst (.lkp b z x i) s=lkpK b z (x.get s) ((i.get s).bind TV.val1):=by
 simp only[eff]
 grind [TV.val1,lkpK,lkpJ,only,findKs,kdOf]
theorem e_lkp1{ks:List Value}{xs:List TV}{k:Value}:lkpK b z (some (.mp ks xs)) (some k)=lkpJ z xs (findKs (kdOf b) k ks 0):=rfl
theorem e_lkp2{xs:List TV}{j:Nat}:lkpJ z xs (some (some j))=(xs[j]?).map fun t=>(t,.no):=rfl
theorem e_lkp3{xs:List TV}:lkpJ z xs (some none)=some (zeroT z,.no):=rfl
end
section
variable{P:Program}{g:Glob}{Q:SExit→ES→Prop}{K:ES→Prop}{s s':ES}{l:List SOper}{D:List Nat}{R:Value→ES→Prop}
theorem v_then_p{z:Value}:thenW K Q (.pan z) s=Q (.pan z) s:=rfl
theorem v_blk_p{id:Nat}{z:Value}:blockW id Q (.pan z) s=Q (.pan z) s:=rfl
def panK(Q:SExit→ES→Prop)(z:Value)(s:ES):Prop:=Q (.pan z) s
@[congr] theorem panK_congr {z:Value} (h:s=s'):panK Q z s=panK Q z s':=by rw[h]
theorem v_panK{z:Value}:panK Q z s=Q (.pan z) s:=rfl
@[congr] theorem opsP_congr (h:s=s'):opsP P g D l R s=opsP P g D l R s':=by rw[h]
def stepP(P:Program)(g:Glob)(D:List Nat)(l:List SOper)(R:Value→ES→Prop)(o:SOper)(s:ES):Option (TV×Upd)→Prop
 |some e=>opsP P g D l R (s.after o e)
 |none=>False
@[congr] theorem stepP_congr {o:SOper} {e e':Option (TV×Upd)} (h:e=e'):stepP P g D l R o s e=stepP P g D l R o s e':=by rw[h]
theorem sp_some{o:SOper}{e:TV×Upd}:stepP P g D l R o s (some e)=opsP P g D l R (s.after o e):=rfl
theorem sp_get{α:Type}{o:SOper}{xs:List α}{k:Nat}{f:α→TV×Upd}:stepP P g D l R o s (Option.map f xs[k]?)=(k<xs.length∧∀b,xs[k]?=some b→opsP P g D l R (s.after o (f b))):=by
 grind [Nat.lt_or_ge,List.getElem?_eq_getElem,stepP,List.getElem?_eq_none,Nat.not_lt]
theorem sp_ite{o:SOper}{c:Prop}[Decidable c]{x:Option (TV×Upd)}:stepP P g D l R o s (if c then x else none)=(c∧stepP P g D l R o s x):=by
 grind [stepP]
theorem vq_n{n kill:List Nat}{r:List (List Nat×List SOper)}(h:opsW P g l (regK Q kill) (s.fgt n)):swp P g (.regq ((n,l)::r) kill) Q s:=.inl ⟨_,List.mem_cons_self ..,h⟩
theorem vq_p{n kill:List Nat}{r:List (List Nat×List SOper)}(h:opsP P g (dstOps l) l (panK Q) (s.fgt n)):swp P g (.regq ((n,l)::r) kill) Q s:=.inr ⟨_,List.mem_cons_self ..,h⟩
theorem vp_pan{dst fp:Option Nat}{x:Arg}{t:TypeId}{v:Value}(hx:x.get s.fs=some (.pv (.v (.iface t v))))(hk:R (.iface t v) (s.kill D)):opsP P g D (⟨dst,none,fp,.pan x⟩::l) R s:=
 .inl ⟨rfl,.iface t v,.no,⟨rfl,hx,⟨t,v,rfl⟩,rfl⟩,hk⟩
theorem z97{dst fp:Option Nat}{f m:Nat}{xs:List Arg}{xs':List TV}{I:List Nat}{os os':List MO}{z:Value}{us:List (Nat×MO)}(hm:Nat.beq m 3=true)(hx:callIn s m xs=some (xs',os,I))(hc:SPan P g f xs' os z os')(hmo:moOk os os'=true)(hs:outs (rhoOut I (dstId dst)) 0 os'=some us)(hk:R z ((s.upd dst (.mem us)).kill D)):
  opsP P g D (⟨dst,none,fp,.call f m xs⟩::l) R s:=by
 unfold callIn at hx;split at hx
 ·rename_i args ha;split at hx
  ·rename_i a1 a2 h1 h2;cases hx;exact .inl ⟨hm,z,.mem us,⟨rfl,args,ha,_,_,os',us,h1,h2,hc,hmo,hs,rfl⟩,hk⟩
  ·cases hx
 ·cases hx
theorem vp_ret{dst fp:Option Nat}{f m:Nat}{xs:List Arg}{xs':List TV}{I:List Nat}{os os':List MO}{y:TV}(hx:callIn s m xs=some (xs',os,I))(hfp:fpOk fp I=true)(hc:SCalls P g f xs' os y os')(hmo:moOk os os'=true)(hs:callOut s dst I y os'=some s')(hk:opsP P g D l R s'):
  opsP P g D (⟨dst,none,fp,.call f m xs⟩::l) R s:=by
 have h:opsW P g [⟨dst,none,fp,.call f m xs⟩] (opsP P g D l R) s:=v_call hx hfp hc hmo hs hk;obtain⟨C,hC,e,he,hk⟩:=h;exact .inr ⟨C,hC,e,he,hk⟩
end
def PostP(keep:Bool)(n:Nat)(z:Value)(os':List MO):SExit→ES→Prop
 | .pan z',s=>z'=z∧exitR [] keep n s=some (.tuple [],os')
 |_,_=>False
theorem pan_of{P:Program}{g:Glob}{f:Nat}{H:Nat→Option Nat→Nat}{Fp:Nat→List (Nat→Option Nat)}{K:Nat→List Nat}{keep:Bool}{F:SFunc}(hmix:P.follows .mixedOrders=true)(hF:z33 P f H Fp K keep=some F){xs:List TV}{os os':List MO}{z:Value}(hn:Nat.ble xs.length F.N=true)(hos:Nat.ble os.length 1000=true)(hmo:moOk os os'=true)
  (h:swp P g F.code (PostP keep os.length z os') (startE xs os)):SPan P g f xs os z os':=
 pan_of_swp hmix hF (Nat.le_of_ble_eq_true hn) (Nat.le_of_ble_eq_true hos) hmo (z56 h fun e s he=>by
  cases e with
  |pan z'=>exact⟨by rw[he.1],he.2⟩
  |_=>exact he.elim)
end Go.Sh
namespace Go.Sh
open Go Go.RowKit
theorem np_mov(x:Arg):mayPan (SOp.mov x)=false:=rfl
theorem np_pick(c a b:Arg):mayPan (SOp.pick c a b)=false:=rfl
theorem np_bin(op:BinOp)(t:TypeId)(x y:Arg):mayPan (SOp.bin op t x y)=false:=rfl
theorem np_un(op:UnOp)(x:Arg):mayPan (SOp.un op x)=false:=rfl
theorem np_cvi(k:IntKind)(x:Arg):mayPan (SOp.cvi k x)=false:=rfl
theorem np_cvs(x:Arg):mayPan (SOp.cvs x)=false:=rfl
theorem np_b2s(x:Arg):mayPan (SOp.b2s x)=false:=rfl
theorem np_imm(mx:Bool)(x y:Arg):mayPan (SOp.imm mx x y)=false:=rfl
theorem np_sidx(x i:Arg):mayPan (SOp.sidx x i)=false:=rfl
theorem np_ssub(x:Arg)(lo hi:Option Arg):mayPan (SOp.ssub x lo hi)=false:=rfl
theorem np_slen(x:Arg):mayPan (SOp.slen x)=false:=rfl
theorem np_new(z:List Value):mayPan (SOp.new z)=false:=rfl
theorem np_box(x:Arg):mayPan (SOp.box x)=false:=rfl
theorem np_build(z:List Value)(ps:List (Nat×Nat×Arg)):mayPan (SOp.build z ps)=false:=rfl
theorem np_bsl(W:Nat)(xs:List Arg):mayPan (SOp.bsl W xs)=false:=rfl
theorem np_bslO(e W:Nat)(xs:List Arg):mayPan (SOp.bslO e W xs)=false:=rfl
theorem np_fld(a:Bool)(o n:Nat)(x:Arg):mayPan (SOp.fld a o n x)=false:=rfl
theorem np_fldA(o:Nat)(x:Arg):mayPan (SOp.fldA o x)=false:=rfl
theorem np_ld(a:Bool)(n:Nat)(x:Arg):mayPan (SOp.ld a n x)=false:=rfl
theorem np_st(n:Nat)(x y:Arg):mayPan (SOp.st n x y)=false:=rfl
theorem np_len(x:Arg):mayPan (SOp.len x)=false:=rfl
theorem np_idxA(W:Nat)(x i:Arg):mayPan (SOp.idxA W x i)=false:=rfl
theorem np_sub(W:Nat)(x:Arg)(lo hi:Option Arg):mayPan (SOp.sub W x lo hi)=false:=rfl
theorem np_app(e W n:Nat)(x y:Arg):mayPan (SOp.app e W n x y)=false:=rfl
theorem np_appS(e n:Nat)(x y:Arg):mayPan (SOp.appS e n x y)=false:=rfl
theorem np_appN(e W n:Nat)(x y:Arg):mayPan (SOp.appN e W n x y)=false:=rfl
theorem np_appNS(e n:Nat)(x y:Arg):mayPan (SOp.appNS e n x y)=false:=rfl
theorem np_appB(e W n:Nat)(x y:Arg):mayPan (SOp.appB e W n x y)=false:=rfl
theorem np_ext(x:Arg)(i:Nat):mayPan (SOp.ext x i)=false:=rfl
theorem np_nchk(x:Arg):mayPan (SOp.nchk x)=false:=rfl
theorem np_mkf(f:Fn)(a b:List Arg):mayPan (SOp.mkf f a b)=false:=rfl
theorem np_rng(x:Arg):mayPan (SOp.rng x)=false:=rfl
theorem np_nxt(x:Arg):mayPan (SOp.nxt x)=false:=rfl
theorem np_mks(n:Nat)(z:List Value)(x:Arg):mayPan (SOp.mks n z x)=false:=rfl
theorem np_lkp(b:Bool)(z:Value)(x i:Arg):mayPan (SOp.lkp b z x i)=false:=rfl
theorem np_mkI(t:TypeId)(x:Arg):mayPan (SOp.mkI t x)=false:=rfl
theorem np_fnil(b:Bool)(x:Arg):mayPan (SOp.fnil b x)=false:=rfl
section
variable{P:Program}{g:Glob}{l:List SOper}{D:List Nat}{R:Value→ES→Prop}{s:ES}
theorem vp_opE{dst fp:Option Nat}{op:SOp}(h:op.isCall=false)(hm:mayPan op=false):opsP P g D (⟨dst,none,fp,op⟩::l) R s=stepP P g D l R ⟨dst,none,fp,op⟩ s (effG P noC ⟨dst,none,fp,op⟩ s.fs):=by
 apply propext;constructor
 ·rintro(⟨h1,_⟩|⟨C,hC,e,he,hk⟩)
  ·grind
  ·rw[effG_noC h]at he;rw[he];exact hk
 ·intro hk;cases he:effG P noC ⟨dst,none,fp,op⟩ s.fs with
  |none=>rw[he]at hk;exact hk.elim
  |some e=>rw[he]at hk;exact .inr ⟨noC,noC_sound P g,e,he,hk⟩
def panW(x:Option TV)(D:List Nat)(R:Value→ES→Prop)(s:ES):Prop:=match x with
 |some (.pv (.v (.iface t v)))=>R (.iface t v) (s.kill D)
 |_=>False
@[congr] theorem panW_congr {x x':Option TV} (h:x=x'):panW x D R s=panW x' D R s:=by rw[h]
theorem panW1{t:TypeId}{v:Value}:panW (some (.pv (.v (.iface t v)))) D R s=R (.iface t v) (s.kill D):=rfl
theorem vp_panE{dst fp:Option Nat}{x:Arg}:opsP P g D (⟨dst,none,fp,.pan x⟩::l) R s=panW (x.get s.fs) D R s:=by
 apply propext;constructor
 ·rintro(⟨_,z,u,⟨_,h2,⟨t,v,rfl⟩,rfl⟩,hk⟩|⟨C,hC,e,he,_⟩)
  ·rw[h2];exact hk
  ·simp only[effG,effF]at he;split at he
   ·cases he
   ·cases he
 ·intro h;unfold panW at h
  grind [vp_pan]
end
end Go.Sh
end

section
namespace Go.Sh
open Go Go.RowKit
set_option maxHeartbeats 2000000
def insAt(ops:Array Oper)(t m i:Nat):Option (Operand×Operand):=match ops[i]? with
 |some o=>match o.op,o.dst,o.guard with
  | .insert t' (.tmp m') k x,none,none=>if Nat.beq t t'&&Nat.beq m m' then some (k,x)else none
  |_,_,_=>none
 |none=>none
def insAll(ops:Array Oper)(t m:Nat):List Nat→Option (List (Operand×Operand))
 |[]=>some []
 |i::l=>match insAt ops t m i,insAll ops t m l with
  |some p,some r=>some (p::r)
  |_,_=>none
def freshK(kd:TypeDesc):List Value→List Value→Bool
 |_,[]=>true
 |ks,k::l=>(match findKs kd k ks 0 with|some none=>true|_=>false)&&freshK kd (ks++[k]) l
structure MapTurn(b:Nat)(w w':World):Prop where
 os:w'.os=w.os
 tape:w'.tape=w.tape
 output:w'.output=w.output
 size:w'.heap.size=w.heap.size
 block:∀k,k≠b→w'.heap[k]?=w.heap[k]?
theorem MapTurn.refl(b:Nat)(w:World):MapTurn b w w:=⟨rfl,rfl,rfl,rfl,fun _ _=>rfl⟩
theorem MapTurn.trans{b:Nat}{w w' w'':World}(h:MapTurn b w w')(h':MapTurn b w' w''):MapTurn b w w'':=
 ⟨h'.os.trans h.os,h'.tape.trans h.tape,h'.output.trans h.output,h'.size.trans h.size,fun k hk=>(h'.block k hk).trans (h.block k hk)⟩
section
variable{P:Program}{ops:Array Oper}{Q:Exit→Act→World→Prop}{a:Act}{w:World}{t kt et:TypeId}{text:Bool}{m b:Nat}
theorem run_ins{es:Array MapEntry}{clock:Nat}{k v:Value}(ht:P.underlying t=some (.map kt et))(hk:P.underlying kt=some (kdOf text))(hb:w.heap[b]?=some (.map es clock))(hf:findKs (kdOf text) k (es.toList.map MapEntry.key) 0=some none):
  ∃w',(Instr.mapUpdate t (.map (some b)) k v).run P w=.ok () w'∧MapTurn b w w'∧w'.heap[b]?=some (.map (es.push { key:=k,val:=v,born:=clock }) (clock+1)):=by
 have hget:=Go.MapKept.run_getObj_map (P:=P) hb;have h1:=findKs_none _ _ hf;have hset:=fun o=>Go.MapKept.run_setObj_map (P:=P) o hb;refine⟨{ w with heap:=w.heap.setIfInBounds b (.map (es.push { key:=k,val:=v,born:=clock }) (clock+1)) },by simp[Instr.mapUpdate,run_underlying ht,hget,checkKey_kd text _ _ hk,Instr.findKey,run_underlying hk,h1,hset,Result.andThen],⟨rfl,rfl,rfl,by simp,fun j hj=> ?_⟩,?_⟩
 ·grind
 ·grind
theorem wp_insAll(ht:P.underlying t=some (.map kt et))(hk:P.underlying kt=some (kdOf text))(hm:a.eval (.tmp m)=.map (some b)):∀(l:List Nat) (kvs:List (Operand×Operand)) (rest:List Nat) (w:World) (es:Array MapEntry) (clock:Nat),insAll ops t m l=some kvs→w.heap[b]?=some (.map es clock)→freshK (kdOf text) (es.toList.map MapEntry.key) (kvs.map fun p=>a.eval p.1)=true→
  (∀(es':Array MapEntry) (clock':Nat) (w':World),MapTurn b w w'→w'.heap[b]?=some (.map es' clock')→es'.toList.map MapEntry.key=es.toList.map MapEntry.key++(kvs.map fun p=>a.eval p.1)→es'.toList.map MapEntry.val=es.toList.map MapEntry.val++(kvs.map fun p=>a.eval p.2)→wpOps P ops Q rest a w')→
  wpOps P ops Q (l++rest) a w
 |[],kvs,rest,w,es,clock,h,hb,hf,hK=>by
  simp only[insAll,Option.some.injEq]at h;subst h;exact hK es clock w (.refl b w) hb (by simp) (by simp)
 |i::l,kvs,rest,w,es,clock,h,hb,hf,hK=>by
  simp only[insAll]at h;split at h<;>try(cases h;done)
  rename_i p r hp hr;cases h;simp only[List.map_cons,freshK,Bool.and_eq_true]at hf;have hf1:findKs (kdOf text) (a.eval p.1) (es.toList.map MapEntry.key) 0=some none:=by
   grind
  unfold insAt at hp;split at hp<;>try(cases hp;done)
  rename_i o ho;split at hp<;>try(cases hp;done)
  rename_i t' m' k x hop hdst hg;split at hp<;>try(cases hp;done)
  rename_i htm;rw[Bool.and_eq_true]at htm;obtain rfl:=Nat.eq_of_beq_eq_true htm.1;obtain rfl:=Nat.eq_of_beq_eq_true htm.2;cases hp;obtain⟨w1,hrun,hturn,hb1⟩:=run_ins (P:=P) (v:=a.eval x) ht hk hb hf1;rw[List.cons_append,wpOps_cons];unfold wpOp;simp only[ho];rw[if_pos (by simp[Region.wanted,hg])];refine .inl ?_;unfold Oper.wp;have hex:(execOp a.eval o).run P w=.ok .skip w1:=by simp[execOp,hop,hm,hrun,Result.andThen]
  rw[hex];show wpOps P ops Q (l++rest) (a.put o.dst undef) w1;rw[hdst];refine wp_insAll ht hk hm l r rest w1 _ _ hr hb1 (by grind) (fun es' clock' w' h1 h2 h3 h4=>hK es' clock' w' (hturn.trans h1) h2 (by grind) (by grind))
theorem z90{i:Nat}{o:Oper}{v:Value}{w':World}{K:Act→World→Prop}(ho:ops[i]?=some o)(hg:o.guard=none)(hr:(execOp a.eval o).run P w=.ok (.value v) w')(hk:K (a.put o.dst v) w'):wpOp P ops Q i K a w:=by
 unfold wpOp;simp only[ho];rw[if_pos (by simp[Region.wanted,hg])];refine .inl ?_;unfold Oper.wp;rw[hr];exact hk
end
end Go.Sh
end

section
namespace Go.Sh
open Go Go.RowKit
set_option maxHeartbeats 4000000
def genOp(P:Program)(o:Oper)(h:Nat):Option SOp:=
 match o.op with
 | .move x| .assign x=>some (.mov (.of x))
 | .pick c a b=>some (.pick (.of c) (.of a) (.of b))
 | .alloc e=>match P.info? e with
  |some i=>match i.zero with
   |some z=>if true then some (.new z.cells.toList)else none
   |none=>none
  |none=>none
 | .box _ x=>some (.box (.of x))
 | .build t parts=>match P.info? t,P.underlying t with
  |some i,some (.struct fs)=>match i.zero with
   |some z=>if true then((seqO (fun p:Nat×Operand=>match fs[p.1]? with
     |some f=>(P.info? f.type).map fun j=>(f.offset,j.size,Arg.of p.2)
     |none=>none) parts.toList).map fun ps=> .build z.cells.toList ps)else none
   |none=>none
  |some i,some (.array _ e)=>match i.zero,P.info? e with
   |some z,some j=>if true then some (.build z.cells.toList (parts.toList.map fun p=>(p.1*j.size,j.size,Arg.of p.2)))else none
   |_,_=>none
  |_,_=>none
 | .buildSlice t len parts=>match P.underlying t with
  |some (.slice e)=>match P.info? e with
   |some i=>match i.zero with
    |some z=>if true then some (if Nat.beq h 1 then .bslO e i.size (parts.toList.map fun p=>Arg.of p.2)else .bsl i.size (parts.toList.map fun p=>Arg.of p.2))else none
    |none=>none
   |none=>none
  |_=>none
 | .load t x=>match P.underlying t,P.info? t with
  |some d,some i=>some (if d.isRow then .ld true i.size (.of x)else .ld false 1 (.of x))
  |_,_=>none
 | .store t x y=>match P.info? t with
  |some i=>some (.st i.size (.of x) (.of y))
  |none=>none
 | .nilCheck x=>some (.nchk (.of x))
 | .binOp op t x y _=>match y,op,P.underlying t with
  | .const .nilFunc,.eql,some (.func _ _ _)=>some (.fnil false (.of x))
  | .const .nilFunc,.neq,some (.func _ _ _)=>some (.fnil true (.of x))
  |_,_,_=>some (.bin op t (.of x) (.of y))
 | .unOp op _ x=>some (.un op (.of x))
 | .convert src dst x=>match P.underlying src,P.underlying dst with
  |some (.int _),some (.int k)=>some (.cvi k (.of x))
  |some .string,some .string=>some (.cvs (.of x))
  |some (.slice e),some .string=>match P.underlying e with
   |some (.int .u8)=>some (.b2s (.of x))
   |_=>none
  |_,_=>none
 | .slice t x lo hi none=>match P.underlying t with
  |some .string=>some (.ssub (.of x) (lo.map .of) (hi.map .of))
  |some (.slice e)=>match P.info? e with
   |some i=>some (.sub i.size (.of x) (lo.map .of) (hi.map .of))
   |none=>none
  |_=>none
 | .fieldAddr t x f=>match P.underlying t with
  |some (.struct fs)=>match fs[f]? with
   |some fd=>match P.info? fd.type with
    |some i=>if i.size=0 then none else some (.fldA fd.offset (.of x))
    |none=>none
   |none=>none
  |_=>none
 | .field t x f=>match P.underlying t with
  |some (.struct fs)=>match fs[f]? with
   |some fd=>match P.info? fd.type,P.underlying fd.type with
    |some i,some d=>some (.fld d.isRow fd.offset i.size (.of x))
    |_,_=>none
   |none=>none
  |_=>none
 | .indexAddr t x i=>match P.underlying t with
  |some (.slice e)=>match P.info? e with
   |some j=>some (.idxA j.size (.of x) (.of i))
   |none=>none
  |some (.array n e)=>match i,P.info? e with
   | .const (.int _ k),some j=>if 0≤k∧k<n then some (.fldA (k.toNat*j.size) (.of x))else none
   |_,_=>none
  |_=>none
 | .index t x i=>match P.underlying t with
  |some .string=>some (.sidx (.of x) (.of i))
  |_=>none
 | .lookup t x i false=>match P.underlying t with
  |some (.map k e)=>match P.info? e with
   |some j=>match j.zero with
    |some z=>if true then(match P.underlying k with
      |some .string=>some (.lkp true z (.of x) (.of i))
      |some (.int .i64)=>some (.lkp false z (.of x) (.of i))
      |_=>none)else none
    |none=>none
   |none=>none
  |_=>none
 | .makeInterface t x=>match P.underlying t with
  |some (.interface _)=>none
  |some _=>some (.mkI t (.of x))
  |none=>none
 | .panic x=>some (.pan (.of x))
 | .extract x i=>some (.ext (.of x) i)
 | .makeFunc f a b=>some (.mkf f (a.toList.map .of) (b.toList.map .of))
 | .range t x=>match P.underlying t with
  |some .string=>some (.rng (.of x))
  |_=>none
 | .next x true=>some (.nxt (.of x))
 | .makeSlice t l c=>match P.underlying t,l,c with
  |some (.slice e),.tmp a,.tmp b=>if Nat.beq a b then match P.info? e with
   |some i=>match i.zero with
    |some z=>if true then some (.mks i.bytes z.cells.toList (.tmp a))else none
    |none=>none
   |none=>none else none
  |_,_,_=>none
 | .call { callee:=.builtin .len,args,argTypes }=>match argTypes.toList,args.toList with
  |[t],[x]=>match P.underlying t with
   |some (.slice _)=>some (.len (.of x))
   |some .string=>some (.slen (.of x))
   |_=>none
  |_,_=>none
 | .call { callee:=.builtin .min,args,argTypes }=>match args.toList,argTypes.toList with
  |[x,y],[t,_]=>match P.underlying t with
   |some (.int .i64)=>some (.imm false (.of x) (.of y))
   |_=>none
  |_,_=>none
 | .call { callee:=.builtin .max,args,argTypes }=>match args.toList,argTypes.toList with
  |[x,y],[t,_]=>match P.underlying t with
   |some (.int .i64)=>some (.imm true (.of x) (.of y))
   |_=>none
  |_,_=>none
 | .call { callee:=.builtin .append,args,argTypes }=>match args.toList,argTypes.toList with
  |[x,y],[t,tx]=>match P.underlying t with
   |some (.slice e)=>match P.info? e with
    |some i=>match i.zero with
     |some z=>if true then
       match P.underlying tx with
       |some (.slice _)=>some (if Nat.beq h 2 then .appB e i.size i.bytes (.of x) (.of y)else if Nat.beq h 1 then .appN e i.size i.bytes (.of x) (.of y)else .app e i.size i.bytes (.of x) (.of y))
       |some .string=>if i.size=1 then some (if Nat.beq h 1 then .appNS e i.bytes (.of x) (.of y)else .appS e i.bytes (.of x) (.of y))else none
       |_=>none
      else none
     |none=>none
    |none=>none
   |_=>none
  |_,_=>none
 | .call { callee:=.value (.func f),args,argTypes:=_ }=>match P.funcs[f]? with
  |some fn=>if true then some (.call f h (args.toList.map .of))else none
  |none=>none
 | .call { callee:=.value (.tmp t),args,argTypes:=_ }=>some (.callv (.tmp t) h (args.toList.map .of))
 |_=>none
def lnth{α:Type}:List α→Nat→Option α
 |[],_=>none
 |x::_,0=>some x
 |_::l,n+1=>lnth l n
def genGuard(ops:List Oper):Option (Nat×Bool)→Option (Nat×Bool)
 |none=>none
 |some (j,want)=>match lnth ops j with
  |some o=>match o.dst with
   |some d=>some (d,want)
   |none=>none
  |none=>none
def genOps(P:Program)(H:Option Nat→Nat)(fps:Nat→Option Nat)(ops:List Oper):Nat→List Oper→List SOper
 |_,[]=>[]
 |j,o::l=>match genOp P o (H o.dst)with
  |some op=>⟨o.dst,genGuard ops o.guard,fps j,op⟩::genOps P H fps ops (j+1) l
  |none=>genOps P H fps ops (j+1) l
def genNews:List SOper→List Nat
 |[]=>[]
 |x::l=>x.news++genNews l
def genApp:List Oper→Bool
 |[]=>false
 |o::l=>match o.op with
  | .call { callee:=.builtin .append, .. }=>true
  |_=>genApp l
def genFs(P:Program)(H:Nat→Option Nat→Nat)(ops:List Oper)(app:Bool):List (Nat→Option Nat)→List (List Nat×List SOper)
 |[]=>[]
 |F::r=>match app with
  |true=>(genNews (genOps P (H 0) F ops 0 ops),genOps P (H 0) F ops 0 ops)::(genNews (genOps P (H 1) F ops 0 ops),genOps P (H 1) F ops 0 ops)::genFs P H ops app r
  |false=>(genNews (genOps P (H 0) F ops 0 ops),genOps P (H 0) F ops 0 ops)::genFs P H ops app r
def genCode(P:Program)(H:Nat→Option Nat→Nat)(Fp:Nat→List (Nat→Option Nat))(K:Nat→List Nat):Code→SCode
 | .skip=> .skip
 | .region id ops _=>match has (K id) 9999 with
  |true=> .regq (genFs P H ops.toList (genApp ops.toList) (Fp id)) (K id)
  |false=> .reg (genFs P H ops.toList (genApp ops.toList) (Fp id)) (K id)
 | .seq a b=> .seq (genCode P H Fp K a) (genCode P H Fp K b)
 | .cond c a b=> .cond (Arg.of c) (genCode P H Fp K a) (genCode P H Fp K b)
 | .block id a=> .block id (genCode P H Fp K a)
 | .loop a=> .loop (genCode P H Fp K a)
 | .exit id=> .exit id
 | .ret=> .ret
 |_=> .skip
def genF(P:Program)(f:Nat)(H:Nat→Option Nat→Nat)(Fp:Nat→List (Nat→Option Nat))(K:Nat→List Nat):SCode:=match lnth P.funcs.toList f with
 |some fn=>match fn.body with
  |some c=>genCode P H Fp K c
  |none=> .skip
 |none=> .skip
def exUp:Nat→Nat→List Nat
 |_,0=>[]
 |a,n+1=>a::exUp (a+1) n
def exR:List Nat→List Nat
 |a::b::l=>exUp a (b+1-a)++exR l
 |_=>[]
def exK:List (Nat×List Nat)→List (Nat×List Nat)
 |[]=>[]
 |x::l=>(x.1,exR x.2)::exK l
structure GA where
 f:Nat
 N:Nat
 h:List (Nat×Nat)
 p:List (Nat×List (List (Nat×Nat)))
 k:List (Nat×List Nat)
 r:List SRes
 e:Bool
abbrev gD(P:Program)(a:GA):SFunc:=⟨a.N,genF P a.f (hintT a.h) (fpT a.p) (killT (exK a.k)),a.r,a.e⟩
abbrev gT(P:Program)(a:GA):Prop:=z33 P a.f (hintT a.h) (fpT a.p) (killT (exK a.k)) a.e=some (gD P a)
theorem iOf(n:Nat):Int.ofNat (no_index (OfNat.ofNat n))=OfNat.ofNat n:=rfl
theorem u8f(n:Nat)(h:n<2 ^ 8):UInt8.ofBitVec (BitVec.ofFin ⟨n,h⟩)=UInt8.ofNat n:=by
 apply UInt8.toNat_inj.1;show n=(UInt8.ofNat n).toNat
 grind [UInt8.toNat_ofNat',Nat.mod_eq_of_lt]
theorem u8h(n:Nat):UInt8.ofBitVec (BitVec.ofNat 8 n)=UInt8.ofNat n:=rfl
theorem u8g(n:Nat):UInt8.ofNat (no_index (OfNat.ofNat n))=OfNat.ofNat n:=rfl
theorem arO{α:Type}(l:List α):Array.mk l=l.toArray:=rfl
end Go.Sh
end

section
namespace Go.Sh
abbrev oD(d:Nat)(x:SOp):SOper:=⟨some d,none,none,x⟩
abbrev oG(d g:Nat)(b:Bool)(x:SOp):SOper:=⟨some d,some (g,b),none,x⟩
abbrev oN(x:SOp):SOper:=⟨none,none,none,x⟩
abbrev vI(n:Int):Arg:=.val (.int .i64 n)
abbrev zV:List Value:=[.int .i64 0,.int .i64 0,.string ⟨#[]⟩,.slice none 0 0]
abbrev oM(d x:Nat):SOper:=⟨some d,none,none,.mov (.tmp x)⟩
abbrev oH(d g:Nat)(b:Bool)(x:Nat):SOper:=⟨some d,some (g,b),none,.mov (.tmp x)⟩
abbrev oP(d x y:Nat)(b:Bool):SOper:=⟨some d,none,none,.pick (.tmp x) (.tmp y) (.val (.bool b))⟩
abbrev oQ(d x y:Nat)(b:Bool):SOper:=⟨some d,none,none,.pick (.tmp x) (.val (.bool b)) (.tmp y)⟩
abbrev oL(d:Nat)(b:Bool)(n x:Nat):SOper:=⟨some d,none,none,.ld b n (.tmp x)⟩
def SCode.kl:SCode→List (List Nat)
  | .reg _ k=>[k]
  | .regq _ k=>[k]
  | .seq a b=>a.kl++b.kl
  | .cond _ a b=>a.kl++b.kl
  | .block _ a=>a.kl
  | .loop a=>a.kl
  |_=>[]
def klN:Nat→List (List Nat)→List (Nat×List Nat)
  |_,[]=>[]
  |n,k::r=>(n,k)::klN (n+1) r
end Go.Sh
namespace Go.Sh
abbrev kA(d o x:Nat):SOper:=⟨some d,none,none,.fldA o (.tmp x)⟩
abbrev kS(n x y:Nat):SOper:=⟨none,none,none,.st n (.tmp x) (.tmp y)⟩
abbrev kK(d:Nat)(o:BinOp)(t x:Nat)(n:Int):SOper:=⟨some d,none,none,.bin o t (.tmp x) (vI n)⟩
abbrev kB(d:Nat)(o:BinOp)(t x y:Nat):SOper:=⟨some d,none,none,.bin o t (.tmp x) (.tmp y)⟩
abbrev kT(d:Nat)(b:Bool):SOper:=⟨some d,none,none,.mov (.val (.bool b))⟩
abbrev kI(d:Nat)(n:Int):SOper:=⟨some d,none,none,.mov (vI n)⟩
abbrev kL(d g:Nat)(b a:Bool)(n x:Nat):SOper:=⟨some d,some (g,b),none,.ld a n (.tmp x)⟩
abbrev kF(d g:Nat)(b:Bool)(o x:Nat):SOper:=⟨some d,some (g,b),none,.fldA o (.tmp x)⟩
abbrev kG(d g:Nat)(b:Bool)(o:BinOp)(t x:Nat)(n:Int):SOper:=⟨some d,some (g,b),none,.bin o t (.tmp x) (vI n)⟩
abbrev kH(d g:Nat)(b:Bool)(o:BinOp)(t x y:Nat):SOper:=⟨some d,some (g,b),none,.bin o t (.tmp x) (.tmp y)⟩
abbrev kC(d f m x:Nat):SOper:=⟨some d,none,none,.call f m [.tmp x]⟩
abbrev kD(d f m x y:Nat):SOper:=⟨some d,none,none,.call f m [.tmp x,.tmp y]⟩
abbrev kE(d f m x y z:Nat):SOper:=⟨some d,none,none,.call f m [.tmp x,.tmp y,.tmp z]⟩
abbrev kX(d w x y:Nat):SOper:=⟨some d,none,none,.idxA w (.tmp x) (.tmp y)⟩
abbrev kY(d x i:Nat):SOper:=⟨some d,none,none,.ext (.tmp x) i⟩
abbrev kZ(d x:Nat):SOper:=⟨some d,none,none,.len (.tmp x)⟩
abbrev kO(d x:Nat):SOper:=⟨some d,none,none,.box (.tmp x)⟩
abbrev kN(d x:Nat):SOper:=⟨some d,none,none,.un .not (.tmp x)⟩
abbrev kQ(d x:Nat):SOper:=⟨some d,none,none,.nchk (.tmp x)⟩
abbrev kR(o:List SOper)(k:List Nat):SCode:=.reg [([],o)] k
abbrev kV(l:List Nat)(o:List SOper)(k:List Nat):SCode:=.reg [(l,o)] k
end Go.Sh
section
namespace Go.Sh
abbrev kU(n:Nat)(h:List (Nat×Nat))(f:List (Nat×List (List (Nat×Nat))))(F:SFunc):Prop:=z33 Go.Proofs.Tryz.prog n (hintT h) (fpT f) (killT (klN 0 F.code.kl)) false=some F
end Go.Sh
end
namespace Go.Sh.Cd1
open Go Go.Sh
set_option maxRecDepth 100000
abbrev gQ(a:GA):Prop:=gT Go.Proofs.Tryz.prog a
abbrev a_155:GA:=⟨35,20,[],[],[(0,[0,0]),(1,[3,14]),(2,[1,1,15,16]),(3,[1,1,15,15,17,19])],[.cell true 4 2],false⟩
theorem tf_155:gQ a_155:=by unfold gQ gT;kernel_rfl
abbrev a_154:GA:=⟨48,76,[(73,1)],[],[(0,[0,0,2,2]),(1,[3,3]),(2,[6,6]),(3,[1,1,4,5,7,13]),(4,[5,5,15,15]),(5,[1,1,4,4,14,14,16,27]),(6,[14,14,29,29]),(7,[1,1,4,4,28,28,30,43]),(8,[28,28,45,45]),(9,[46,46]),(10,[1,1,4,4,44,44,47,53]),(11,[4,4,44,44,55,55]),(12,[1,1,54,54,56,75]),(13,[1,1,54,54])],[.tmp 2],false⟩
theorem tf_154:gQ a_154:=by unfold gQ gT;kernel_rfl
abbrev a_151:GA:=⟨55,37,[(36,1)],[],[(0,[0,1,4,4]),(1,[8,12]),(2,[13,13]),(3,[2,3,5,5,14,15]),(4,[4,5,14,14,16,20]),(5,[21,21]),(6,[2,3,6,6,22,23]),(7,[4,4,6,6,22,22,24,28]),(8,[29,29]),(9,[2,3,7,7,30,31]),(10,[2,3,7,7,30,30,32,36])],[.tmp 4],false⟩
theorem tf_151:gQ a_151:=by unfold gQ gT;kernel_rfl
abbrev a_152:GA:=⟨56,25,[(23,1)],[],[(0,[0,1,4,4]),(1,[5,18]),(2,[2,3,19,19]),(3,[2,3,19,24])],[.tmp 4],false⟩
theorem tf_152:gQ a_152:=by unfold gQ gT;kernel_rfl
abbrev a_163:GA:=⟨73,27,[],[],[(0,[0,0,2,2]),(1,[3,4]),(2,[1,1,5,13]),(3,[1,1,5,5,14,26])],[.tmp 2],false⟩
theorem tf_163:gQ a_163:=by unfold gQ gT;kernel_rfl
abbrev a_116:GA:=⟨82,9,[],[],[(0,[0,1,4,4]),(1,[2,3,5,8])],[.tmp 4],false⟩
theorem tf_116:gQ a_116:=by unfold gQ gT;kernel_rfl
abbrev a_156:GA:=⟨88,12,[],[],[(0,[0,0,2,2]),(1,[1,1,3,11])],[.tmp 2],false⟩
theorem tf_156:gQ a_156:=by unfold gQ gT;kernel_rfl
abbrev a_162:GA:=⟨89,21,[],[],[(0,[2,2]),(1,[5,11]),(2,[0,0,12,12]),(3,[0,0,2,2,12,13]),(5,[15,17]),(6,[4,4,18,19]),(7,[14,14,20,20]),(8,[14,14])],[.tmp 2],false⟩
theorem tf_162:gQ a_162:=by unfold gQ gT;kernel_rfl
abbrev a_161:GA:=⟨90,17,[],[],[(0,[2,2]),(1,[0,0,3,16])],[.tmp 2],false⟩
theorem tf_161:gQ a_161:=by unfold gQ gT;kernel_rfl
abbrev a_147:GA:=⟨91,9,[(7,1)],[],[(0,[4,4]),(1,[0,1,5,8])],[.tmp 4],false⟩
theorem tf_147:gQ a_147:=by unfold gQ gT;kernel_rfl
abbrev a_158:GA:=⟨92,11,[],[],[(0,[0,0,2,2]),(1,[1,1,3,10])],[.tmp 2],false⟩
theorem tf_158:gQ a_158:=by unfold gQ gT;kernel_rfl
abbrev a_60:GA:=⟨106,20,[],[],[(0,[4,4]),(1,[7,8]),(2,[9,10]),(3,[5,5]),(4,[0,1,6,6,11,11]),(5,[12,12]),(6,[12,12]),(7,[4,4,6,6,11,11]),(8,[0,1,13,13]),(9,[4,4,13,15]),(10,[0,1,16,16]),(11,[0,1,4,4,16,18]),(12,[19,19]),(13,[19,19])],[.tmp 4],false⟩
theorem tf_60:gQ a_60:=by unfold gQ gT;kernel_rfl
abbrev a_61:GA:=⟨107,20,[],[],[(0,[4,4]),(1,[7,8]),(2,[9,10]),(3,[5,5]),(4,[0,1,6,6,11,11]),(5,[12,12]),(6,[12,12]),(7,[4,4,6,6,11,11]),(8,[0,1,13,13]),(9,[4,4,13,15]),(10,[0,1,16,16]),(11,[0,1,4,4,16,18]),(12,[19,19]),(13,[19,19])],[.tmp 4],false⟩
theorem tf_61:gQ a_61:=by unfold gQ gT;kernel_rfl
abbrev a_157:GA:=⟨108,36,[(26,1)],[],[(0,[6,6]),(1,[9,12]),(3,[15,16]),(4,[7,7,17,26]),(5,[27,27]),(6,[0,2,8,8,13,14,28,29]),(7,[6,6,8,8,28,28,30,30]),(8,[0,2,13,14,31,35])],[.tmp 6],false⟩
theorem tf_157:gQ a_157:=by unfold gQ gT;kernel_rfl
abbrev a_159:GA:=⟨109,22,[],[],[(0,[0,0,4,4]),(1,[1,2,5,21])],[.tmp 4],false⟩
theorem tf_159:gQ a_159:=by unfold gQ gT;kernel_rfl
abbrev a_153:GA:=⟨110,9,[],[],[(0,[0,0,3,3]),(1,[1,2,4,8])],[.tmp 3],false⟩
theorem tf_153:gQ a_153:=by unfold gQ gT;kernel_rfl
abbrev c_112_0:=kV [2,3] [kO 2 0,kO 3 1,kI 4 0] [0,1,4]
abbrev c_112_1:=kV [2044,2045,2046,2047] [kA 7 0 2,oL 8 false 1 7,kA 9 0 3,oL 10 false 1 9,kD 11 219 0 8 10,oM 5 11] [7,8,9,10,11]
abbrev c_112_2:=kR [oM 12 5,kK 13 .eql 3 12 0] [12]
abbrev c_112_3:=kV [2072,2073,2074,2075] [kA 14 1 2,oL 15 false 1 14,kA 16 1 3,oL 17 false 1 16,kD 18 219 0 15 17,oM 5 18] [13,14,15,16,17,18]
abbrev c_112_4:=kR [oM 19 5,kK 20 .eql 3 19 0,oM 21 20,kF 22 21 true 2 2,kL 23 21 true false 1 22,kF 24 21 true 2 3,kL 25 21 true false 1 24,kH 26 21 true .lss 9 23 25,oP 27 21 26 false] [13,19,20,21,22,23,24,25,26]
abbrev c_112_5:=kR [oD 5 (.mov (.val (.int .i64 (-1))))] [27]
abbrev c_112_6:=kR [oM 28 5,kK 29 .eql 3 28 0,oM 30 29,kF 31 30 true 2 2,kL 32 30 true false 1 31,kF 33 30 true 2 3,kL 34 30 true false 1 33,kH 35 30 true .gtr 9 32 34,oP 36 30 35 false] [27,28,29,30,31,32,33,34,35]
abbrev c_112_7:=kR [kI 5 1] [36]
abbrev c_112_8:=kR [kI 6 0] [36]
abbrev c_112_9:=kR [oM 37 5,kK 38 .eql 3 37 0,oM 39 38,oH 40 39 true 6,kF 41 39 true 3 2,kL 42 39 true false 1 41,oG 43 39 true (.len (.tmp 42)),kH 44 39 true .lss 3 40 43,oP 45 39 44 false,oM 46 45,oH 47 46 true 6,kF 48 46 true 3 3,kL 49 46 true false 1 48,oG 50 46 true (.len (.tmp 49)),kH 51 46 true .lss 3 47 50,oP 52 46 51 false] [37,38,39,40,41,42,43,44,45,46,47,48,49,50,51]
abbrev c_112_10:=kV [2260,2261,2262,2263] [kA 55 3 2,oL 56 false 1 55,oM 57 6,kX 58 4 56 57,oL 59 true 4 58,kA 60 3 3,oL 61 false 1 60,oM 62 6,kX 63 4 61 62,oL 64 true 4 63,kD 65 156 0 59 64,oM 5 65] [52,55,56,57,58,59,60,61,62,63,64,65]
abbrev c_112_11:=kR [oM 53 6,kK 54 .add 3 53 1,oM 6 54] [53,54]
abbrev c_112_12:SCode:=(.seq (.seq c_112_9 (.cond (.tmp 52) .skip (.exit 0))) (.seq (.block 1 c_112_10) c_112_11))
abbrev c_112_13:=kR [oM 66 5,kK 67 .eql 3 66 0] [6,66]
abbrev c_112_14:=kV [2296,2297,2298,2299] [kA 68 3 2,oL 69 false 1 68,kZ 70 69,kA 71 3 3,oL 72 false 1 71,kZ 73 72,kD 74 219 0 70 73,oM 4 74] [2,3,5,67,68,69,70,71,72,73,74]
abbrev c_112_15:=kR [oM 75 5,oM 4 75] [2,3,5,67,75]
abbrev F_112:SFunc:=⟨76,(.seq c_112_0 (.seq c_112_1 (.seq (.seq c_112_2 (.cond (.tmp 13) c_112_3 .skip)) (.seq (.seq c_112_4 (.cond (.tmp 27) c_112_5 .skip)) (.seq (.seq c_112_6 (.cond (.tmp 36) c_112_7 .skip)) (.seq (.seq c_112_8 (.block 0 (.loop c_112_12))) (.seq (.seq c_112_13 (.cond (.tmp 67) (.seq c_112_14 .ret) .skip)) (.seq c_112_15 .ret)))))))),[.tmp 4],false⟩
theorem tf_112:z33 Go.Proofs.Tryz.prog 156 (hintT [(11,0),(18,0),(65,0),(74,0)]) (fpT []) (killT [(0,[0,1,4]),(1,[7,8,9,10,11]),(2,[12]),(3,[13,14,15,16,17,18]),(4,[13,19,20,21,22,23,24,25,26]),(5,[27]),(6,[27,28,29,30,31,32,33,34,35]),(7,[36]),(8,[36]),(9,[37,38,39,40,41,42,43,44,45,46,47,48,49,50,51]),(11,[52,55,56,57,58,59,60,61,62,63,64,65]),(10,[53,54]),(12,[6,66]),(13,[2,3,5,67,68,69,70,71,72,73,74]),(14,[2,3,5,67,75])]) false=some F_112:=by kernel_rfl
abbrev a_160:GA:=⟨159,9,[],[],[(0,[2,2]),(1,[0,0,3,8])],[.tmp 2],false⟩
theorem tf_160:gQ a_160:=by unfold gQ gT;kernel_rfl
abbrev a_149:GA:=⟨160,19,[(16,1)],[],[(0,[4,4]),(1,[6,6]),(3,[9,10]),(4,[11,15]),(5,[0,1,5,5,7,8,16,17]),(6,[4,5,16,16,18,18]),(7,[0,1,7,8])],[.tmp 4],false⟩
theorem tf_149:gQ a_149:=by unfold gQ gT;kernel_rfl
abbrev a_62:GA:=⟨168,6,[],[],[(0,[2,2]),(1,[0,0,3,5])],[.tmp 2],false⟩
theorem tf_62:gQ a_62:=by unfold gQ gT;kernel_rfl
abbrev a_63:GA:=⟨169,6,[],[],[(0,[2,2]),(1,[0,0,3,5])],[.tmp 2],false⟩
theorem tf_63:gQ a_63:=by unfold gQ gT;kernel_rfl
abbrev a_114:GA:=⟨219,11,[],[],[(0,[4,4]),(1,[5,6]),(2,[0,1,7,7]),(3,[0,1,4,4,7,9]),(4,[10,10]),(5,[10,10])],[.tmp 4],false⟩
theorem tf_114:gQ a_114:=by unfold gQ gT;kernel_rfl
abbrev a_113:GA:=⟨232,30,[],[],[(0,[2,2]),(2,[5,7]),(3,[8,12]),(4,[13,25]),(5,[0,0,3,4,26,26]),(6,[2,2,4,4,26,29]),(7,[0,0,3,3])],[.tmp 2],false⟩
theorem tf_113:gQ a_113:=by unfold gQ gT;kernel_rfl
abbrev a_117:GA:=⟨271,79,[],[],[(0,[2,2]),(1,[8,9]),(2,[0,0,10,10]),(3,[2,2,10,13]),(4,[14,14]),(5,[0,0,3,3,15,15]),(6,[2,2,15,15]),(9,[16,20]),(10,[21,21]),(11,[21,26]),(12,[27,27]),(13,[27,32]),(14,[33,33]),(15,[33,40]),(16,[0,0,3,6,41,41]),(17,[2,3,41,41]),(18,[44,44]),(19,[42,43]),(20,[43,43,46,46]),(21,[42,42,45,45]),(22,[45,45,48,48]),(23,[42,42,47,47]),(24,[42,42,47,47,50,50]),(25,[49,49]),(26,[5,6,49,49,51,61]),(27,[0,0,4,4,62,62]),(28,[2,2,62,62]),(29,[63,64]),(31,[65,65,68,76]),(32,[0,0,4,4,7,7,77,77]),(30,[2,2,66,67,77,77]),(33,[0,0,4,4,7,7,78,78])],[.tmp 2],false⟩
theorem tf_117:gQ a_117:=by unfold gQ gT;kernel_rfl
noncomputable def funcs:Nat→Option SFunc
 |_=>none
end Go.Sh.Cd1
end

section
namespace Go.Sh
open Go Go.RowKit Go.Mor
set_option maxRecDepth 100000
theorem vcA:type_of%(wa8 (wa8 (wa8 @iOf @u8f @u8g @u8h @arO @bFT @bTF @ES.fgt.eq_1) (wa8 @List.map_cons.{0,0} @List.map_nil.{0,0} @fgt3.eq_1 @TV.m3.eq_1 @TV.m3.eq_2 @TV.m2.eq_1 @TV.m2.eq_2 @TV.m1.eq_1) (wa8 @TV.m1.eq_2 @TV.m0.eq_1 @TV.m0.eq_2 @TV.m0.eq_3 @TV.m0.eq_4 @TV.m0.eq_5 @TV.m0.eq_6 @TV.m0.eq_7) (wa8 @TV.mF.eq_1 @TV.mF.eq_2 @TV.mE.eq_1 @TV.mE.eq_2 @TV.idsF.eq_1 @TV.idsF.eq_2 @TV.idsE.eq_1 @TV.idsE.eq_2) (wa8 @TV.renF.eq_1 @TV.renF.eq_2 @TV.renE.eq_1 @TV.renE.eq_2 @List.any_cons.{0} @List.any_nil.{0} @Bool.or_false @Bool.false_or) (wa8 @drp.eq_1 @drp.eq_2 @effG.eq_1 @effF.eq_1 @footOk.eq_1 @SOp.foot.eq_1 @SOp.foot.eq_2 @SOp.foot.eq_3) (wa8 @SOp.foot.eq_4 @only.eq_1 @only.eq_2 @isK.eq_1 @isK.eq_2 @eff.eq_1 @eff.eq_2 @eff.eq_3) (wa8 @eff.eq_4 @eff.eq_5 @eff.eq_6 @eff.eq_7 @eff.eq_8 @eff.eq_9 @eff.eq_11 @eff.eq_12)) (wa8 (wa8 @eff.eq_13 @eff.eq_14 @eff.eq_15 @eff.eq_16 @eff.eq_17 @eff.eq_18 @eff.eq_19 @eff.eq_20) (wa8 @eff.eq_21 @eff.eq_22 @eff.eq_23 @eff.eq_25 @eff.eq_28 @eff.eq_31 @eff.eq_32 @eff.eq_33) (wa8 @eff.eq_34 @eff.eq_35 @eff.eq_44 @eff.eq_45 @Arg.get.eq_1 @Arg.get.eq_2 @ES.fs.eq_1 @lk.eq_1) (wa8 @lk.eq_2 @Option.map_some.{0,0} @Option.bind_some.{0,0} @ES.after.eq_1 @ES.upd.eq_1 @ES.upd.eq_2 @ES.upd.eq_3 @ES.upd.eq_4) (wa8 @ES.upd.eq_5 @ES.upd.eq_6 @ES.upd.eq_7 @ES.put.eq_1 @ES.put.eq_2 @sv.eq_1 @sv.eq_2 @ES.kill.eq_1) (wa8 @ES.kill.eq_2 @has.eq_1 @has.eq_2 @nbeq @nble @nblt @TV.val.eq_1 @TV.val.eq_2) (wa8 @TV.val1.eq_1 @TV.val1.eq_2 @TV.int.eq_1 @TV.int.eq_2 @TV.str.eq_1 @TV.str.eq_2 @TV.cells.eq_1 @TV.cells.eq_2) (wa8 @TV.cells.eq_3 @TV.cells.eq_4 @TV.cells.eq_5 @TV.slen.eq_1 @TV.slen.eq_2 @TV.slen.eq_3 @TV.slen.eq_4 @TV.slen.eq_5)) (wa8 (wa8 @TV.toPV.eq_1 @TV.toPV.eq_2 @TV.toPV.eq_3 @TV.pvs.eq_1 @seqO.eq_1 @seqO.eq_2 @bin_lss @bin_gtr) (wa8 @bin_leq @bin_geq @bin_eql @bin_neq @bin_add @bin_sub @bin_mul @sbin_eql) (wa8 @sbin_neq @sbin_lss @sbin_gtr @un_neg @un_not @startE.eq_1 @numT.eq_1 @numT.eq_2) (wa8 @numB.eq_1 @numB.eq_2 @numB.eq_3 @numR.eq_1 @numR.eq_2 @numR.eq_3 @ansW.eq_1 @ansW.eq_2) (wa8 @resT.eq_1 @resT.eq_2 @SRes.get.eq_1 @SRes.get.eq_2 @List.flatMap_nil.{0,0} @List.flatMap_cons.{0,0} @List.append_nil.{0} @List.nil_append.{0}) (wa8 @TV.ids3.eq_1 @TV.ids3.eq_2 @TV.ids2.eq_1 @TV.ids2.eq_2 @TV.ids1.eq_1 @TV.ids1.eq_2 @TV.ids0.eq_1 @TV.ids0.eq_2) (wa8 @TV.ids0.eq_3 @TV.ids0.eq_4 @TV.ren3.eq_1 @TV.ren3.eq_2 @TV.ren2.eq_1 @TV.ren2.eq_2 @TV.ren1.eq_1 @TV.ren1.eq_2) (wa8 @TV.ren0.eq_1 @TV.ren0.eq_2 @TV.ren0.eq_3 @TV.ren0.eq_4 @TV.ren0.eq_5 @TV.ren0.eq_6 @bound.eq_1 @bound.eq_2)) (wa8 (wa8 @if_true.{1} @if_false.{1} @Bool.false_eq_true @partsT.eq_1 @fillT.eq_1 @fillT.eq_2 @splice.eq_1 @List.take_zero.{0}) (wa8 @List.take_succ_cons.{0} @List.drop_zero.{0} @List.drop_succ_cons.{0} @List.length_cons.{0} @List.length_nil.{0} @and_self @and_true @true_and) (wa8 @List.cons_append.{0} @List.getElem?_cons_zero.{0} @List.getElem?_cons_succ.{0} @Nat.zero_add @Bool.not_true @Bool.not_false @Go.Value.oneCell'.eq_1 @Go.Value.oneCell'.eq_2) (wa8 @Go.Value.oneCell'.eq_3 @Go.Mor.str_toList @Go.Mor.str_size' @Int.toNat_natCast @decide_true @decide_false @beq_self_eq_true.{0} @handI.eq_1) (wa8 @FS.mo.eq_1 @MO.ren.eq_1 @MO.ren.eq_2 @rhoIn.eq_1 @pos.eq_1 @pos.eq_2 @rhoOut.eq_1 @outs.eq_1) (wa8 @outs.eq_2 @newId.eq_1 @dstId.eq_1 @dstId.eq_2 @putMem.eq_1 @putMem.eq_2 @List.lookup.eq_1.{0,0} @List.lookup.eq_2.{0,0}) (wa8 @moOk.eq_1 @moOk.eq_2 @moOk.eq_3 @moOk.eq_4 @Nat.le_refl @Int.natCast_nonneg @v_skip @v_seq) (wa8 @v_exit @v_ret @v_block @v_cond @v_reg @v_reg2 @v_nil @v_regK)) (wa8 (wa8 @v_skipK @v_op @v_guard @gW @gW_u @PostR.eq_1 @PostR.eq_2 @PostR.eq_3) (wa8 @PostR.eq_4 @exitR.eq_1 @exitF.eq_1 @idsFrom.eq_1 @idsFrom.eq_2 @gW_undef @Nat.sub_zero @gW_i) (wa8 @gK_T1 @gK_T0 @gK_F1 @gK_F0 @gK_d1 @gK_d0 @gK_n1 @gK_n0) (wa8 @v_then_n @v_then_r @v_then_x @v_blk_n @v_blk_r @v_blk_x @s_some @s_none) (wa8 @s_ite @s_get @bW_T @bW_F @bW_d @bW_n @bW_a @bW_o) (wa8 @bK @callIn.eq_1 @callOut.eq_1 @callvIn.eq_1 @TV.callee.eq_1 @TV.callee.eq_2 @TV.callee.eq_3 @TV.callee.eq_4) (wa8 @Post0.eq_1 @Post0.eq_2 @Post0.eq_3 @Post0.eq_4 @Post1.eq_1 @Post1.eq_2 @Post1.eq_3 @Post1.eq_4) (wa8 @ansW1.eq_1 @ansW1.eq_2 @bin_quoI @bin_remI @sbin_addI @TV.elems.eq_1 @TV.elems.eq_2 @TV.elems.eq_3)) (wa8 (wa8 @TV.elems.eq_4 @TV.isNil.eq_1 @TV.isNil.eq_2 @List.all_cons.{0} @List.all_nil.{0} @Bool.and_true @Bool.true_and @Bool.and_false) (wa8 @Bool.false_and @Bool.and_self @ne_eq.{1} @not_false_eq_true @not_true_eq_false @false_and @and_false @or_false) (wa8 @or_self @false_or @imp_self @forall_const.{0} @Option.isNone_none.{0} @List.getElem?_nil.{0} @decide_eq_true_eq @eq_self.{1}) (wa8 @Go.Mor.str_list @Go.Mor.str_append @Go.Mor.str_extract @List.getElem?_map.{0,0} @Option.map_map.{0,0,0} @List.length_map.{0,0} @Function.comp_apply.{1,1,1} @List.length_append.{0}) (wa8 @List.length_set.{0} @List.set_cons_zero.{0} @List.set_cons_succ.{0} @imp_false @Decidable.not_not @e_ssub @e_ssub1 @e_ssub2) (wa8 @e_ssub3 @e_ssub4 @e_sub @e_sub1 @e_sub2 @e_sub3 @e_sub4 @e_subT1) (wa8 @e_subT2 @e_subT3 @e_appB @e_appB1 @e_appN @e_appN1 @e_appN2 @e_appNS) (wa8 @e_appNS1 @e_appNS2 @e_rng @e_rng1 @e_mks @e_mks1 @e_bslO @e_bslO1)) (wa8 (wa8 @e_nxt @e_nxt1 @e_nxt2 @s_ite2 @reach_nil @reach_cons @reach_m1 @reach_m2) (wa8 @reach_m3 @reach_m4 @Option.map_none.{0,0} @Option.bind_none.{0,0} @nc_mov @nc_pick @nc_bin @nc_un) (wa8 @nc_cvi @nc_cvs @nc_b2s @nc_imm @nc_sidx @nc_ssub @nc_slen @nc_new) (wa8 @nc_box @nc_build @nc_bsl @nc_bslO @nc_fld @nc_fldA @nc_ld @nc_st) (wa8 @nc_len @nc_idxA @nc_sub @nc_app @nc_appS @nc_appN @nc_appNS @nc_appB) (wa8 @nc_ext @nc_nchk @nc_mkf @nc_rng @nc_nxt @nc_mks @nc_lkp @nc_mkI) (wa8 @nc_fnil @e_fnil @e_fnil1 @e_fnil2 @e_fnil3 @e_fnil4 @nc_pan @e_lkp) (wa8 @e_lkp1 @e_lkp2 @e_lkp3 @findKs.eq_1 @findKs.eq_2 @kdOf.eq_1 @zeroT.eq_1 @zeroT.eq_2)) (wa7 (wa8 @v_then_p @v_blk_p @v_panK @sp_some @sp_get @sp_ite @dstOps.eq_1 @List.filterMap_cons.{0,0}) (wa8 @List.filterMap_nil.{0,0} @PostP.eq_1 @PostP.eq_2 @vp_opE @vp_panE @panW1 @np_mov @np_pick) (wa8 @np_bin @np_un @np_cvi @np_cvs @np_b2s @np_imm @np_sidx @np_ssub) (wa8 @np_slen @np_new @np_box @np_build @np_bsl @np_bslO @np_fld @np_fldA) (wa8 @np_ld @np_st @np_len @np_idxA @np_sub @np_app @np_appS @np_appN) (wa8 @np_appNS @np_appB @np_ext @np_nchk @np_mkf @np_rng @np_nxt @np_mks) (wa3 @np_lkp @np_mkI @np_fnil))):=wa8 (wa8 (wa8 @iOf @u8f @u8g @u8h @arO @bFT @bTF @ES.fgt.eq_1) (wa8 @List.map_cons.{0,0} @List.map_nil.{0,0} @fgt3.eq_1 @TV.m3.eq_1 @TV.m3.eq_2 @TV.m2.eq_1 @TV.m2.eq_2 @TV.m1.eq_1) (wa8 @TV.m1.eq_2 @TV.m0.eq_1 @TV.m0.eq_2 @TV.m0.eq_3 @TV.m0.eq_4 @TV.m0.eq_5 @TV.m0.eq_6 @TV.m0.eq_7) (wa8 @TV.mF.eq_1 @TV.mF.eq_2 @TV.mE.eq_1 @TV.mE.eq_2 @TV.idsF.eq_1 @TV.idsF.eq_2 @TV.idsE.eq_1 @TV.idsE.eq_2) (wa8 @TV.renF.eq_1 @TV.renF.eq_2 @TV.renE.eq_1 @TV.renE.eq_2 @List.any_cons.{0} @List.any_nil.{0} @Bool.or_false @Bool.false_or) (wa8 @drp.eq_1 @drp.eq_2 @effG.eq_1 @effF.eq_1 @footOk.eq_1 @SOp.foot.eq_1 @SOp.foot.eq_2 @SOp.foot.eq_3) (wa8 @SOp.foot.eq_4 @only.eq_1 @only.eq_2 @isK.eq_1 @isK.eq_2 @eff.eq_1 @eff.eq_2 @eff.eq_3) (wa8 @eff.eq_4 @eff.eq_5 @eff.eq_6 @eff.eq_7 @eff.eq_8 @eff.eq_9 @eff.eq_11 @eff.eq_12)) (wa8 (wa8 @eff.eq_13 @eff.eq_14 @eff.eq_15 @eff.eq_16 @eff.eq_17 @eff.eq_18 @eff.eq_19 @eff.eq_20) (wa8 @eff.eq_21 @eff.eq_22 @eff.eq_23 @eff.eq_25 @eff.eq_28 @eff.eq_31 @eff.eq_32 @eff.eq_33) (wa8 @eff.eq_34 @eff.eq_35 @eff.eq_44 @eff.eq_45 @Arg.get.eq_1 @Arg.get.eq_2 @ES.fs.eq_1 @lk.eq_1) (wa8 @lk.eq_2 @Option.map_some.{0,0} @Option.bind_some.{0,0} @ES.after.eq_1 @ES.upd.eq_1 @ES.upd.eq_2 @ES.upd.eq_3 @ES.upd.eq_4) (wa8 @ES.upd.eq_5 @ES.upd.eq_6 @ES.upd.eq_7 @ES.put.eq_1 @ES.put.eq_2 @sv.eq_1 @sv.eq_2 @ES.kill.eq_1) (wa8 @ES.kill.eq_2 @has.eq_1 @has.eq_2 @nbeq @nble @nblt @TV.val.eq_1 @TV.val.eq_2) (wa8 @TV.val1.eq_1 @TV.val1.eq_2 @TV.int.eq_1 @TV.int.eq_2 @TV.str.eq_1 @TV.str.eq_2 @TV.cells.eq_1 @TV.cells.eq_2) (wa8 @TV.cells.eq_3 @TV.cells.eq_4 @TV.cells.eq_5 @TV.slen.eq_1 @TV.slen.eq_2 @TV.slen.eq_3 @TV.slen.eq_4 @TV.slen.eq_5)) (wa8 (wa8 @TV.toPV.eq_1 @TV.toPV.eq_2 @TV.toPV.eq_3 @TV.pvs.eq_1 @seqO.eq_1 @seqO.eq_2 @bin_lss @bin_gtr) (wa8 @bin_leq @bin_geq @bin_eql @bin_neq @bin_add @bin_sub @bin_mul @sbin_eql) (wa8 @sbin_neq @sbin_lss @sbin_gtr @un_neg @un_not @startE.eq_1 @numT.eq_1 @numT.eq_2) (wa8 @numB.eq_1 @numB.eq_2 @numB.eq_3 @numR.eq_1 @numR.eq_2 @numR.eq_3 @ansW.eq_1 @ansW.eq_2) (wa8 @resT.eq_1 @resT.eq_2 @SRes.get.eq_1 @SRes.get.eq_2 @List.flatMap_nil.{0,0} @List.flatMap_cons.{0,0} @List.append_nil.{0} @List.nil_append.{0}) (wa8 @TV.ids3.eq_1 @TV.ids3.eq_2 @TV.ids2.eq_1 @TV.ids2.eq_2 @TV.ids1.eq_1 @TV.ids1.eq_2 @TV.ids0.eq_1 @TV.ids0.eq_2) (wa8 @TV.ids0.eq_3 @TV.ids0.eq_4 @TV.ren3.eq_1 @TV.ren3.eq_2 @TV.ren2.eq_1 @TV.ren2.eq_2 @TV.ren1.eq_1 @TV.ren1.eq_2) (wa8 @TV.ren0.eq_1 @TV.ren0.eq_2 @TV.ren0.eq_3 @TV.ren0.eq_4 @TV.ren0.eq_5 @TV.ren0.eq_6 @bound.eq_1 @bound.eq_2)) (wa8 (wa8 @if_true.{1} @if_false.{1} @Bool.false_eq_true @partsT.eq_1 @fillT.eq_1 @fillT.eq_2 @splice.eq_1 @List.take_zero.{0}) (wa8 @List.take_succ_cons.{0} @List.drop_zero.{0} @List.drop_succ_cons.{0} @List.length_cons.{0} @List.length_nil.{0} @and_self @and_true @true_and) (wa8 @List.cons_append.{0} @List.getElem?_cons_zero.{0} @List.getElem?_cons_succ.{0} @Nat.zero_add @Bool.not_true @Bool.not_false @Go.Value.oneCell'.eq_1 @Go.Value.oneCell'.eq_2) (wa8 @Go.Value.oneCell'.eq_3 @Go.Mor.str_toList @Go.Mor.str_size' @Int.toNat_natCast @decide_true @decide_false @beq_self_eq_true.{0} @handI.eq_1) (wa8 @FS.mo.eq_1 @MO.ren.eq_1 @MO.ren.eq_2 @rhoIn.eq_1 @pos.eq_1 @pos.eq_2 @rhoOut.eq_1 @outs.eq_1) (wa8 @outs.eq_2 @newId.eq_1 @dstId.eq_1 @dstId.eq_2 @putMem.eq_1 @putMem.eq_2 @List.lookup.eq_1.{0,0} @List.lookup.eq_2.{0,0}) (wa8 @moOk.eq_1 @moOk.eq_2 @moOk.eq_3 @moOk.eq_4 @Nat.le_refl @Int.natCast_nonneg @v_skip @v_seq) (wa8 @v_exit @v_ret @v_block @v_cond @v_reg @v_reg2 @v_nil @v_regK)) (wa8 (wa8 @v_skipK @v_op @v_guard @gW @gW_u @PostR.eq_1 @PostR.eq_2 @PostR.eq_3) (wa8 @PostR.eq_4 @exitR.eq_1 @exitF.eq_1 @idsFrom.eq_1 @idsFrom.eq_2 @gW_undef @Nat.sub_zero @gW_i) (wa8 @gK_T1 @gK_T0 @gK_F1 @gK_F0 @gK_d1 @gK_d0 @gK_n1 @gK_n0) (wa8 @v_then_n @v_then_r @v_then_x @v_blk_n @v_blk_r @v_blk_x @s_some @s_none) (wa8 @s_ite @s_get @bW_T @bW_F @bW_d @bW_n @bW_a @bW_o) (wa8 @bK @callIn.eq_1 @callOut.eq_1 @callvIn.eq_1 @TV.callee.eq_1 @TV.callee.eq_2 @TV.callee.eq_3 @TV.callee.eq_4) (wa8 @Post0.eq_1 @Post0.eq_2 @Post0.eq_3 @Post0.eq_4 @Post1.eq_1 @Post1.eq_2 @Post1.eq_3 @Post1.eq_4) (wa8 @ansW1.eq_1 @ansW1.eq_2 @bin_quoI @bin_remI @sbin_addI @TV.elems.eq_1 @TV.elems.eq_2 @TV.elems.eq_3)) (wa8 (wa8 @TV.elems.eq_4 @TV.isNil.eq_1 @TV.isNil.eq_2 @List.all_cons.{0} @List.all_nil.{0} @Bool.and_true @Bool.true_and @Bool.and_false) (wa8 @Bool.false_and @Bool.and_self @ne_eq.{1} @not_false_eq_true @not_true_eq_false @false_and @and_false @or_false) (wa8 @or_self @false_or @imp_self @forall_const.{0} @Option.isNone_none.{0} @List.getElem?_nil.{0} @decide_eq_true_eq @eq_self.{1}) (wa8 @Go.Mor.str_list @Go.Mor.str_append @Go.Mor.str_extract @List.getElem?_map.{0,0} @Option.map_map.{0,0,0} @List.length_map.{0,0} @Function.comp_apply.{1,1,1} @List.length_append.{0}) (wa8 @List.length_set.{0} @List.set_cons_zero.{0} @List.set_cons_succ.{0} @imp_false @Decidable.not_not @e_ssub @e_ssub1 @e_ssub2) (wa8 @e_ssub3 @e_ssub4 @e_sub @e_sub1 @e_sub2 @e_sub3 @e_sub4 @e_subT1) (wa8 @e_subT2 @e_subT3 @e_appB @e_appB1 @e_appN @e_appN1 @e_appN2 @e_appNS) (wa8 @e_appNS1 @e_appNS2 @e_rng @e_rng1 @e_mks @e_mks1 @e_bslO @e_bslO1)) (wa8 (wa8 @e_nxt @e_nxt1 @e_nxt2 @s_ite2 @reach_nil @reach_cons @reach_m1 @reach_m2) (wa8 @reach_m3 @reach_m4 @Option.map_none.{0,0} @Option.bind_none.{0,0} @nc_mov @nc_pick @nc_bin @nc_un) (wa8 @nc_cvi @nc_cvs @nc_b2s @nc_imm @nc_sidx @nc_ssub @nc_slen @nc_new) (wa8 @nc_box @nc_build @nc_bsl @nc_bslO @nc_fld @nc_fldA @nc_ld @nc_st) (wa8 @nc_len @nc_idxA @nc_sub @nc_app @nc_appS @nc_appN @nc_appNS @nc_appB) (wa8 @nc_ext @nc_nchk @nc_mkf @nc_rng @nc_nxt @nc_mks @nc_lkp @nc_mkI) (wa8 @nc_fnil @e_fnil @e_fnil1 @e_fnil2 @e_fnil3 @e_fnil4 @nc_pan @e_lkp) (wa8 @e_lkp1 @e_lkp2 @e_lkp3 @findKs.eq_1 @findKs.eq_2 @kdOf.eq_1 @zeroT.eq_1 @zeroT.eq_2)) (wa7 (wa8 @v_then_p @v_blk_p @v_panK @sp_some @sp_get @sp_ite @dstOps.eq_1 @List.filterMap_cons.{0,0}) (wa8 @List.filterMap_nil.{0,0} @PostP.eq_1 @PostP.eq_2 @vp_opE @vp_panE @panW1 @np_mov @np_pick) (wa8 @np_bin @np_un @np_cvi @np_cvs @np_b2s @np_imm @np_sidx @np_ssub) (wa8 @np_slen @np_new @np_box @np_build @np_bsl @np_bslO @np_fld @np_fldA) (wa8 @np_ld @np_st @np_len @np_idxA @np_sub @np_app @np_appS @np_appN) (wa8 @np_appNS @np_appB @np_ext @np_nchk @np_mkf @np_rng @np_nxt @np_mks) (wa3 @np_lkp @np_mkI @np_fnil))
end Go.Sh
end

section
namespace Go.Proofs.YtcpaleaajdilgaaGreatDoor
open Go Go.RowKit Go.Mor Go.Sh
set_option maxRecDepth 100000
set_option maxHeartbeats 8000000
theorem vW:type_of%vcA∧type_of%vV:=⟨vcA,vV⟩
section
variable{g:Sh.Glob}{f:Nat}{H:Nat→Option Nat→Nat}{Fp:Nat→List (Nat→Option Nat)}{K:Nat→List Nat}{keep:Bool}{F:SFunc}{xs:List TV}{os os':List MO}{y:TV}{G:Prop}{c:SCode}
theorem z10(hF:z33 Tryz.prog f H Fp K keep=some F)(h:swp Tryz.prog g c (Post0 F.res y) (startE xs []))(hn:Nat.ble xs.length F.N=true:=by rfl)(hc:F.code=c:=by conv=>lhs;reduce):SCalls Tryz.prog g f xs [] y []:=
 call_of0 hmix hF hn (hc▸h)
theorem z41(hF:z33 Tryz.prog f H Fp K keep=some F)(h:G)(hn:Nat.ble xs.length F.N=true:=by rfl)(hc:F.code=c:=by conv=>lhs;reduce)(hr:swp Tryz.prog g c (Post0 F.res y) (startE xs [])=G:=by simp only[vW,seval];rfl):SCalls Tryz.prog g f xs [] y []:=
 call_of0 hmix hF hn (hc▸hr▸h)
theorem startC1(hF:z33 Tryz.prog f H Fp K false=some F)(h:swp Tryz.prog g c (Post1 F.res y) (startE xs []))(hk:F.keep=false:=by rfl)(hn:Nat.ble xs.length F.N=true:=by rfl)(hc:F.code=c:=by conv=>lhs;reduce):SCalls Tryz.prog g f xs [] y []:=
 call_of1 hmix hF hk hn (hc▸h)
theorem startV1(hF:z33 Tryz.prog f H Fp K false=some F)(h:G)(hk:F.keep=false:=by rfl)(hn:Nat.ble xs.length F.N=true:=by rfl)(hc:F.code=c:=by conv=>lhs;reduce)(hr:swp Tryz.prog g c (Post1 F.res y) (startE xs [])=G:=by simp only[vW,seval];rfl):SCalls Tryz.prog g f xs [] y []:=
 call_of1 hmix hF hk hn (hc▸hr▸h)
theorem z18(hF:z33 Tryz.prog f H Fp K keep=some F)(h:swp Tryz.prog g c (PostR F.res F.keep os.length y os') (startE xs os))(hn:Nat.ble xs.length F.N=true:=by rfl)(hos:Nat.ble os.length 1000=true:=by rfl)(hmo:moOk os os'=true:=by rfl)(hc:F.code=c:=by conv=>lhs;reduce):SCalls Tryz.prog g f xs os y os':=
 call_of hmix hF hn hos hmo (hc▸h)
theorem startV2(hF:z33 Tryz.prog f H Fp K keep=some F)(h:G)(hn:Nat.ble xs.length F.N=true:=by rfl)(hos:Nat.ble os.length 1000=true:=by rfl)(hmo:moOk os os'=true:=by rfl)(hc:F.code=c:=by conv=>lhs;reduce)(hr:swp Tryz.prog g c (PostR F.res F.keep os.length y os') (startE xs os)=G:=by simp only[vW,seval];rfl):SCalls Tryz.prog g f xs os y os':=
 call_of hmix hF hn hos hmo (hc▸hr▸h)
end
section
variable{g:Sh.Glob}{f m:Nat}{dst fp:Option Nat}{xs:List Arg}{xs':List TV}{I:List Nat}{os os':List MO}{y:TV}{l:List SOper}{K:ES→Prop}{s s':ES}{G:Prop}
theorem z7(hc:SCalls Tryz.prog g f xs' os y os')(hk:opsW Tryz.prog g l K s')(hx:callIn s m xs=some (xs',os,I):=by simp only[vW,seval];rfl)(hfp:fpOk fp I=true:=by rfl)(hmo:moOk os os'=true:=by first|rfl|(simp only[vcA,seval];omega))(hs:callOut s dst I y os'=some s':=by simp only[vW,seval];rfl):
  opsW Tryz.prog g (⟨dst,none,fp,.call f m xs⟩::l) K s:=v_call hx hfp hc hmo hs hk
theorem z8(hc:SCalls Tryz.prog g f xs' os y os')(h:G)(hx:callIn s m xs=some (xs',os,I):=by simp only[vW,seval];rfl)(hfp:fpOk fp I=true:=by rfl)(hmo:moOk os os'=true:=by first|rfl|(simp only[vcA,seval];omega))(hs:callOut s dst I y os'=some s':=by simp only[vW,seval];rfl)(hr:opsW Tryz.prog g l K s'=G:=by simp only[vW,seval];rfl):
  opsW Tryz.prog g (⟨dst,none,fp,.call f m xs⟩::l) K s:=v_call hx hfp hc hmo hs (hr▸h)
theorem z14(hc:SCalls Tryz.prog g f xs' os y os')(hx:callIn s m xs=some (xs',os,I):=by simp only[vW,seval];rfl)(hfp:fpOk fp I=true:=by rfl)(hmo:moOk os os'=true:=by first|rfl|(simp only[vcA,seval];omega))(hs:callOut s dst I y os'=some s':=by simp only[vW,seval];rfl)(hr:opsW Tryz.prog g l K s':=by simp only[vW,seval]):
  opsW Tryz.prog g (⟨dst,none,fp,.call f m xs⟩::l) K s:=v_call hx hfp hc hmo hs hr
end
end Go.Proofs.YtcpaleaajdilgaaGreatDoor
section
namespace Go.Proofs.YtcpaleaajdilgaaGreatDoor
open Go Go.Sh
theorem kv{α:Type}{a b:Option α}(h:a=b:=by simp only[vcA,seval,vV];rfl):a=b:=h
theorem km{a b:List MO}(h:moOk a b=true:=by first|rfl|(simp only[vcA,seval];omega)):moOk a b=true:=h
end Go.Proofs.YtcpaleaajdilgaaGreatDoor
end
end

section
namespace Go.Proofs.YtcpaleaajdilgaaGreatDoor
open Go Go.RowKit Go.Mor Go.Sh Go.Sh.Cd1
set_option maxRecDepth 100000
set_option maxHeartbeats 4000000
theorem e0:(⟨#[]⟩:ByteArray)=str []:=rfl
theorem z114(l:List UInt8)(p:Nat):Utf8.decode (str l) p=Lib.decodeL (l.drop p):=by rw[←Lib.decodeL_drop,str_toList]
def B(b:Bool):TV:=.pv (.v (.bool b))
theorem plain_ok(g:Sh.Glob)(r:Nat):SCalls Tryz.prog g 159 [.pv (.v (.int .i32 (r:Int)))] [] (B (plainR r)) []:=by
 refine z10 tf_160 ?_;have h1:decide ((32:Int)≤(r:Int))=decide (32≤r):=by rw[Bool.eq_iff_iff];simp;omega
 have h2:decide ((r:Int)=127)=(r==127):=by rw[Bool.eq_iff_iff];simp;omega
 unfold plainR B;by_cases h:32≤r
 ·have d1:(32:Int)≤(r:Int):=by omega
  simp only[vW,seval,d1,h2,h];rfl
 ·have d1:¬(32:Int)≤(r:Int):=by omega
  simp only[vW,seval,d1,h]
theorem validString_ok(m:Nat)(l:List UInt8)(hl:l.length≤9223372036854775807):SCalls Tryz.prog (gl0 m) 158 [S (str l)] [] (B (Lib.validD l)) []:=by
 have:=prim0_sound m 158 [S (str l)] [] (B (Lib.validD l)) [] (by simp[prim0,S,B,Nat.beq,str_size',hl,str_toList]);exact this
theorem rightText_ok0(m:Nat)(l:List UInt8)(hl:l.length≤9223372036854775807):SCalls Tryz.prog (gl0 m) 89 [S (str l)] [] (B (z19 l)) []:=by
 refine z10 tf_162 ?_;have HV:=validString_ok m l hl;unfold z19 B at*;by_cases h60:(l.length:Int)≤60
 ·have d1:¬(60:Int)<(l.length:Int):=by omega
  have h60':l.length≤60:=by omega
  simp only[vW,seval,d1];refine z7 HV ?_;cases hv:Lib.validD l
  ·simp only[vW,seval]
  simp only[vW,seval];refine v_loop (σ:={p:Nat // p≤l.length∧plainD l=plainD (l.drop p)}) (fun p=>⟨[(14,.it 14)],[],[],[(14,(str l,p.1))]⟩) (fun p=>l.length-p.1) ⟨0,Nat.zero_le _,rfl⟩ (lw_eq rfl) ?_;rintro⟨p,hp,hd⟩;by_cases hlt:p<l.length
  ·have hne:l.drop p≠[]:=by rw[Ne,List.drop_eq_nil_iff];omega
   rw[z151 _ hne]at hd;have hle:=Lib.decodeL_le (l.drop p) hne;have hw:=Lib.decodeL_width (l.drop p);rw[List.length_drop]at hle;have HP:=plain_ok (gl0 m) (Lib.decodeL (l.drop p)).1;unfold B at HP;simp only[vW,seval,hlt,z114];refine z7 HP ?_;cases hr:plainR (Lib.decodeL (l.drop p)).1
   ·rw[hr]at hd;simp only[vW,seval];simp[hd]
   ·simp only[vW,seval];rw[hr,Bool.true_and,List.drop_drop]at hd;refine z13 ⟨p+(Lib.decodeL (l.drop p)).2,by omega,hd⟩ (by show l.length-(p+_)<l.length-p;omega) ?_;apply lw_of<;>simp[leL,lk,sv,Nat.beq,I,S,ES.kill,has,drp,nilT]
  ·simp only[vW,seval,hlt,h60'];have hnil:l.drop p=[]:=List.drop_eq_nil_of_le (by omega);rw[hnil]at hd;rw[hd];rfl
 ·have d1:(60:Int)<(l.length:Int):=by omega
  have h60':¬l.length≤60:=by omega
  simp only[vW,seval,d1];simp[h60']
theorem bare_ok(g:Sh.Glob)(x:V):SCalls Tryz.prog g 88 [tv x] [] (B (bare x)) []:=by
 refine z10 tf_156 ?_;have h1:decide ((x.l.length:Int)=0)=(x.l.length==0):=by rw[Bool.eq_iff_iff];simp
 unfold bare B;cases h:x.s==[]
 ·simp only[vW,seval,e0,h]
 ·simp only[vW,seval,e0,h,h1]
theorem rightID_ok(g:Sh.Glob)(n:Int):SCalls Tryz.prog g 90 [I n] [] (B (rightID n)) []:=by
 refine z10 tf_161 ?_;unfold B;simp only[vW,seval];unfold rightID
 repeat' (first|(apply And.intro)|(intro _))
 all_goals(first|rfl|(simp;omega)|(simp_all;done)|(simp_all;omega))
theorem right1_mk(k n:Int)(s:List UInt8)(l:List V):right1 (.mk k n s l)=if k=0 then bare (.mk k n s l)&&n==0
 else if k=1 then bare (.mk k n s l)&&decide (-1000000000000000≤n)&&decide (n≤1000000000000000)
 else if k=2 then n==0&&l.length==0&&z19 s
 else if k=3∨k=4 then bare (.mk k n s l)&&rightID n
 else false:=rfl
theorem right1_ok0(m:Nat)(x:V)(hs:z104 x)(h5:x.k≠5):SCalls Tryz.prog (gl0 m) 48 [tv x] [] (B (right1 x)) []:=by
 obtain⟨k,n,s,l⟩:=x;have HB:=bare_ok (gl0 m) (.mk k n s l);have HI:=rightID_ok (gl0 m) n;have HT:=rightText_ok0 m s hs;have hln:decide ((l.length:Int)=0)=(l.length==0):=by rw[Bool.eq_iff_iff];simp
 have k5:¬k=5:=h5;clear h5 hs;rw[right1_mk];generalize bare (.mk k n s l)=b at HB ⊢;refine z10 tf_154 ?_;unfold B at*;by_cases k0:k=0
 ·subst k0;have hn0:decide (n=0)=(n==0):=by rw[Bool.eq_iff_iff];simp
  simp only[vW,seval];refine z7 HB ?_;cases b<;>simp only[vW,seval,hn0]
 rw[if_neg k0];by_cases k1:k=1
 ·subst k1;simp only[vW,seval];refine z7 HB ?_;cases b
  ·simp only[vW,seval]
  ·by_cases q1: -1000000000000000≤n<;>by_cases q2:n≤1000000000000000<;>simp only[vW,seval,q1,q2]
 rw[if_neg k1];by_cases k2:k=2
 ·subst k2;by_cases n0:n=0
  ·subst n0;cases hl:l.length==0
   ·simp only[vW,seval,hln,hl]
   ·simp only[vW,seval,hln,hl];exact z14 HT
  ·have hn0:(n==0)=false:=by simpa using n0
   simp only[vW,seval,n0,hn0]
 rw[if_neg k2];by_cases k3:k=3
 ·subst k3;simp only[vW,seval];refine z7 HB ?_;cases b
  ·simp only[vW,seval]
  ·simp only[vW,seval];exact z14 HI
 by_cases k4:k=4
 ·subst k4;simp only[vW,seval];refine z7 HB ?_;cases b
  ·simp only[vW,seval]
  ·simp only[vW,seval];exact z14 HI
 simp only[vW,seval,k0,k1,k2,k3,k4,k5]
theorem noItem_ok0(m:Nat)(x:V)(hs:z104 x):SCalls Tryz.prog (gl0 m) 92 [tv x] [] (B (noItem x)) []:=by
 refine z10 tf_158 ?_;unfold noItem B;by_cases k5:x.k=5
 ·have h:(x.k==5)=true:=by simp[k5]
  have d:decide (x.k=5)=true:=by simp[k5]
  simp only[vW,seval,d,h];rfl
 ·have HR:=right1_ok0 m x hs k5;have h:(x.k==5)=false:=by simpa using k5
  unfold B at HR;simp only[vW,seval,k5,h];exact z14 HR
theorem z107{α:Type}(p:α→Bool):∀(l:List α) (i:Nat),(∀j x,j<i→l[j]?=some x→p x=false)→∀x,l[i]?=some x→p x=true→z44 p l=i
 |[],i,_,x,hx,_=>by simp at hx
 |a::l,0,_,x,hx,hp=>by simp at hx;subst hx;simp[z44,List.findIdx?_cons,hp]
 |a::l,i+1,h,x,hx,hp=>by
  have h0:=h 0 a (by omega) rfl;have:=z107 p l i (fun j y hj hy=>h (j+1) y (by omega) (by simpa using hy)) x (by simpa using hx) hp;unfold z44 at this ⊢;rw[List.findIdx?_cons,h0];cases hf:l.findIdx? p with
  |none=>rw[hf]at this;simp only at this;omega
  |some q=>rw[hf]at this;simp only at this ⊢;simp;omega
theorem z108{α:Type}(p:α→Bool)(l:List α)(h:∀x∈l,p x=false):z44 p l= -1:=by
 have:l.findIdx? p=none:=List.findIdx?_eq_none_iff.2 h;unfold z44;rw[this]
theorem firstAt_any{α:Type}(p:α→Bool)(l:List α):decide (0≤z44 p l)=l.any p:=by
 rw[Bool.eq_iff_iff,decide_eq_true_eq,List.any_eq_true];constructor
 ·intro h;by_cases hn:∀x∈l,p x=false
  ·rw[z108 p l hn]at h;omega
  ·obtain⟨x,hx⟩:=Classical.not_forall.1 hn;obtain⟨hx,hp⟩:=Classical.not_imp.1 hx;exact⟨x,hx,by simpa using hp⟩
 ·rintro⟨x,hx,hp⟩;unfold z44;cases hf:l.findIdx? p with
  |none=>rw[List.findIdx?_eq_none_iff.1 hf x hx]at hp;cases hp
  |some i=>simp
theorem indexNo_ok(m:Nat)(l:List V)(hl:l.length≤maxLen)(hs:∀x∈l,z104 x):SCalls Tryz.prog (gl0 m) 160 [.pv (.sl 4 (V.rows l)),.pv (.v (.func (.func 92) #[] #[]))] [] (I (z44 noItem l)) []:=by
 refine z10 tf_149 ?_;have hm:maxLen=9223372036854775807:=rfl;simp only[vW,seval];refine v_loop (σ:={i:Nat // i≤l.length∧∀j x,j<i→l[j]?=some x→noItem x=false}) (fun i=>⟨[(0,.pv (.sl 4 (V.rows l))),(1,.pv (.v (.func (.func 92) #[] #[]))),(7,I (l.length:Int)),(8,I (i.1:Int))],[],[],[]⟩) (fun i=>l.length-i.1) ⟨0,Nat.zero_le _,fun j x hj=>by omega⟩ (lw_eq (by simp[I])) ?_;rintro⟨i,hi,hno⟩;by_cases hlt:i<l.length
 ·have d1:(i:Int)<(l.length:Int):=by omega
  obtain⟨x,ex⟩:∃x,l[i]?=some x:=⟨_,gE hlt⟩
  have HN:=noItem_ok0 m x (hs x (gM ex));have w1:IntKind.i64.wrap ((i:Int)+1)=((i+1:Nat):Int):=by rw[wrap64 (by omega) (by omega)];omega
  unfold tv B at HN;simp only[vW,seval,d1,ex];(with_reducible apply z25);exact kv;exact HN;rfl;exact kv;cases hp:noItem x
  ·simp only[vW,seval,w1];refine z13 ⟨i+1,by omega,fun j y hj hy=> ?_⟩ (by show l.length-(i+1)<l.length-i;omega) ?_
   ·by_cases hji:j=i
    ·subst hji;rw[ex]at hy;cases hy;exact hp
    ·exact hno j y (by omega) hy
   ·apply lw_of<;>simp[leL,lk,sv,Nat.beq,I,S,ES.kill,has,drp,nilT]
  ·simp only[vW,seval];rw[z107 noItem l i hno x ex hp]
 ·have d1:¬(i:Int)<(l.length:Int):=by omega
  simp only[vW,seval,d1];rw[z108 noItem l (fun x hx=>by
   obtain⟨j,hj⟩:=List.getElem?_of_mem hx;exact hno j x (by have:=(gJ hj).1;omega) hj)]
theorem containsNo_ok(m:Nat)(l:List V)(hl:l.length≤maxLen)(hs:∀x∈l,z104 x):SCalls Tryz.prog (gl0 m) 91 [.pv (.sl 4 (V.rows l)),.pv (.v (.func (.func 92) #[] #[]))] [] (B (l.any noItem)) []:=by
 refine z10 tf_147 ?_;have HI:=indexNo_ok m l hl hs;rw[←firstAt_any];unfold B;simp only[vW,seval];exact z14 HI
theorem rightV_ok0(m:Nat)(x:V)(hx:VOk x):SCalls Tryz.prog (gl0 m) 48 [tv x] [] (B (rightV x)) []:=by
 unfold rightV;by_cases k5:x.k=5
 ·rw[if_pos k5];obtain⟨k,n,s,l⟩:=x;simp only[Vk]at k5;subst k5;simp only[Vn,Vs,Vl];refine z10 tf_154 ?_;unfold B;by_cases n0:n=0
  ·subst n0;cases hs:s==[]
   ·simp only[vW,seval,e0,hs]
   ·by_cases h12:l.length≤12
    ·have d1:(l.length:Int)≤12:=by omega
     have HC:=containsNo_ok m l (by unfold maxLen;omega) (fun y hy=>hx.2 y hy);unfold B at HC;simp only[vW,seval,e0,hs,d1,h12];exact z14 HC
    ·have d1:¬(l.length:Int)≤12:=by omega
     simp only[vW,seval,e0,hs,d1,h12]
  ·have hn0:(n==0)=false:=by simpa using n0
   simp only[vW,seval,n0,hn0]
 ·rw[if_neg k5];exact right1_ok0 m x hx.1 k5
theorem rightType_ok(g:Sh.Glob)(t:Ty):SCalls Tryz.prog g 73 [tyT t] [] (B (z17 t)) []:=by
 refine z10 tf_163 ?_;obtain⟨k,o⟩:=t;unfold B;simp only[vW,seval];unfold z17
 repeat' (first|(apply And.intro)|(intro _))
 all_goals(first|(simp_all;done)|(simp_all;omega))
theorem ofKind_ok(g:Sh.Glob)(x:V)(k:Int):SCalls Tryz.prog g 109 [tv x,I k] [] (B (ofKind x k)) []:=by
 refine z10 tf_159 ?_;unfold B;simp only[vW,seval];unfold ofKind
 repeat' (first|(apply And.intro)|(intro _))
 all_goals(first|(simp_all;done)|(simp only[Option.some.injEq,TV.pv.injEq,PV.v.injEq,Value.bool.injEq];rw[Bool.eq_iff_iff];simp_all;done)|(simp only[Option.some.injEq,TV.pv.injEq,PV.v.injEq,Value.bool.injEq];rw[Bool.eq_iff_iff];simp_all;omega))
theorem fits1_ok(g:Sh.Glob)(x:V)(t:Ty):SCalls Tryz.prog g 110 [tv x,.ptr 1000 0] [.box [I t.k,I t.o]] (B (!ofKind x t.o)) [.box [I t.k,I t.o]]:=by
 refine z18 tf_153 ?_;have HK:=ofKind_ok g x t.o;unfold B at*;simp only[vW,seval];exact z14 HK
theorem indexFits_ok(g:Sh.Glob)(l:List V)(t:Ty)(hl:l.length≤maxLen):SCalls Tryz.prog g 160 [.pv (.sl 4 (V.rows l)),.fn (.func 110) [] [.ptr 1000 0]] [.box [I t.k,I t.o]] (I (z44 (fun y=> !ofKind y t.o) l)) [.box [I t.k,I t.o]]:=by
 refine z18 tf_149 ?_;have hm:maxLen=9223372036854775807:=rfl;simp only[vW,seval];refine v_loop (σ:={i:Nat // i≤l.length∧∀j x,j<i→l[j]?=some x→(!ofKind x t.o)=false}) (fun i=>⟨[(0,.pv (.sl 4 (V.rows l))),(1,.fn (.func 110) [] [.ptr 1000 0]),(7,I (l.length:Int)),(8,I (i.1:Int))],[(1000,[I t.k,I t.o])],[],[]⟩) (fun i=>l.length-i.1) ⟨0,Nat.zero_le _,fun j x hj=>by omega⟩ (lw_eq (by simp[I])) ?_;rintro⟨i,hi,hno⟩;by_cases hlt:i<l.length
 ·have d1:(i:Int)<(l.length:Int):=by omega
  obtain⟨x,ex⟩:∃x,l[i]?=some x:=⟨_,gE hlt⟩
  have HN:=fits1_ok g x t;have w1:IntKind.i64.wrap ((i:Int)+1)=((i+1:Nat):Int):=by rw[wrap64 (by omega) (by omega)];omega
  unfold tv B at HN;simp only[vW,seval,d1,ex];(with_reducible apply z25);exact kv;exact HN;rfl;exact kv;cases hp:ofKind x t.o
  ·simp only[vW,seval];rw[z107 (fun y=> !ofKind y t.o) l i hno x ex (by simp[hp])]
  ·simp only[vW,seval,w1];refine z13 ⟨i+1,by omega,fun j y hj hy=> ?_⟩ (by show l.length-(i+1)<l.length-i;omega) ?_
   ·by_cases hji:j=i
    ·subst hji;rw[ex]at hy;cases hy;simp[hp]
    ·exact hno j y (by omega) hy
   ·apply lw_of<;>simp[leL,lk,sv,Nat.beq,I,S,ES.kill,has,drp,nilT]
 ·have d1:¬(i:Int)<(l.length:Int):=by omega
  simp only[vW,seval,d1];rw[z108 (fun y=> !ofKind y t.o) l (fun x hx=>by
   obtain⟨j,hj⟩:=List.getElem?_of_mem hx;exact hno j x (by have:=(gJ hj).1;omega) hj)]
theorem containsFits_ok(g:Sh.Glob)(l:List V)(t:Ty)(hl:l.length≤maxLen):SCalls Tryz.prog g 91 [.pv (.sl 4 (V.rows l)),.fn (.func 110) [] [.ptr 1000 0]] [.box [I t.k,I t.o]] (B (l.any fun y=> !ofKind y t.o)) [.box [I t.k,I t.o]]:=by
 refine z18 tf_147 ?_;have HI:=indexFits_ok g l t hl;rw[←firstAt_any];unfold B;simp only[vW,seval];exact z14 HI
theorem fits_ok0(m:Nat)(x:V)(t:Ty)(hx:VOk x)(hl:x.l.length≤maxLen):SCalls Tryz.prog (gl0 m) 56 [tv x,tyT t] [] (B (fitsV x t)) []:=by
 refine z10 tf_152 ?_;have HR:=rightV_ok0 m x hx;have HT:=rightType_ok (gl0 m) t;have HK:=ofKind_ok (gl0 m) x t.k;have HC:=containsFits_ok (gl0 m) x.l t hl;unfold fitsV B at*;simp only[vW,seval];refine z7 HR ?_;cases rightV x
 ·simp only[vW,seval]
 simp only[vW,seval];refine z7 HT ?_;cases z17 t
 ·simp only[vW,seval]
 simp only[vW,seval];refine z7 HK ?_;cases ofKind x t.k
 ·simp only[vW,seval]
 simp only[vW,seval];exact z14 HC
end Go.Proofs.YtcpaleaajdilgaaGreatDoor
end

section
namespace Go.Proofs.YtcpaleaajdilgaaGreatDoor
open Go Go.RowKit Go.Mor Go.Sh
set_option maxRecDepth 100000
set_option maxHeartbeats 4000000
def bindL:List (List UInt8×Int):=[([42],4),([47],4),([37],4),([43],3),([45],3),([38],2),([61],1),([60,62],1),([60],1),([60,61],1),([62],1),([62,61],1)]
def bindKs:List Value:=bindL.map fun p=> .string (str p.1)
def bindM:TV:=.mp bindKs (bindL.map fun p=>I p.2)
theorem bindings_ok(g:Sh.Glob):SCalls Tryz.prog g 74 [] [] bindM []:=by
 refine⟨z47 (by kernel_rfl),fun w E us hG hm hX hl hr=> ?_⟩;obtain rfl:us=[]:=List.eq_nil_of_length_eq_zero hl.symm;refine calls_of_wp Tryz.func74 rfl ?_;refine wp_seq (wp_region ?_);show wpOps _ _ _ [0] _ _;rw[wpOps_cons];refine z90 rfl rfl (v:=.map none) (w':=w) rfl ?_;show(Code.seq _ _).wp _ _ { tmps:= #[.map none,undef,undef],defers:=[] } _;refine wp_seq (wp_region ?_);show wpOps _ _ _ (0::([1,2,3,4,5,6,7,8,9,10,11,12]++[13,14])) _ _;rw[wpOps_cons];refine z90 rfl rfl (v:=.map (some w.heap.size)) (w':=w.alloc (.map #[] 0)) rfl ?_;have hnew:(w.alloc (.map #[] 0)).heap[w.heap.size]?=some (.map #[] 0):=heap_alloc_new w _;refine wp_insAll (t:=133) (m:=1) (kt:=9) (et:=3) (text:=true) (b:=w.heap.size) (by kernel_rfl) (by kernel_rfl) rfl _ _ _ _ #[] 0 rfl hnew (by rfl) ?_;intro es clock w' hturn hb hks hvs;show wpOps _ _ _ [13,14] { tmps:= #[.map none,.map (some w.heap.size),undef],defers:=[] } _;rw[wpOps_cons];refine z90 rfl rfl (v:=.map (some w.heap.size)) (w':=w') rfl ?_;rw[wpOps_cons];refine z90 rfl rfl (v:=.map (some w.heap.size)) (w':=w') rfl ?_;show Code.ret.wp _ _ { tmps:= #[.map (some w.heap.size),.map (some w.heap.size),.map (some w.heap.size)],defers:=[] } _;refine wp_ret ?_
 have hbel:Below w.heap.size w w':=by
  refine⟨hturn.os,hturn.tape,hturn.output,by rw[hturn.size];exact(((Below.refl w.heap.size w)).alloc (Nat.le_refl _) (.map #[] 0)).size,fun k hk=> ?_⟩;rw[hturn.block k (by omega)];exact(((Below.refl w.heap.size w)).alloc (Nat.le_refl _) _).block k hk
 refine⟨rfl,.map (some w.heap.size),by simp[results,Tryz.results74],.map (some w.heap.size),E,rfl,?_,?_,⟨fun _ _ _=>rfl,fun _ _ _ _=>rfl,fun d e W n hd=>by obtain⟨j,_,hj⟩:=z27 hd;simp at hj⟩⟩
 ·exact MSim.ext (s:=⟨fun _=>none,objB [],objR [],fun _=>none⟩) hm hbel E (fun _ _ h=>h) (fun _ _ h=> .inl h) (fun _ _=>⟨rfl,rfl⟩) (fun _ _ _=>rfl) (fun _ _=>⟨rfl,rfl⟩)
 ·have hlen:es.toList.length=12:=by have:=congrArg List.length hks;simpa using this
  refine .mp bindKs _ w.heap.size es clock (fun j=>(es.toList.map MapEntry.val).getD j undef) hb hks rfl (fun j e he=>by simp[he]) (fun j x hx=> ?_);rw[hvs];have hj:j<12:=(gJ hx).1;simp only[bindL,List.getElem?_map]at hx
  match j,hj with
  |0,_|1,_|2,_|3,_|4,_|5,_|6,_|7,_|8,_|9,_|10,_|11,_=>cases hx;exact .pv (.v _)
theorem bm_m1(ids:List Nat):TV.m1 ids bindM=false:=rfl
theorem bm_m2(ids:List Nat):TV.m2 ids bindM=false:=rfl
theorem bm_m3(ids:List Nat):TV.m3 ids bindM=false:=rfl
theorem bm_ids1:TV.ids1 bindM=[]:=rfl
theorem bm_ids2:TV.ids2 bindM=[]:=rfl
theorem bm_ids3:TV.ids3 bindM=[]:=rfl
theorem bm_ren1(ρ:Nat→Option Nat):TV.ren1 ρ bindM=some bindM:=rfl
theorem bm_ren2(ρ:Nat→Option Nat):TV.ren2 ρ bindM=some bindM:=rfl
theorem bm_ren3(ρ:Nat→Option Nat):TV.ren3 ρ bindM=some bindM:=rfl
theorem bm_cells:TV.cells bindM=some [bindM]:=rfl
theorem same_str(a b:List UInt8):Instr.sameNow (kdOf true) (.string (str a)) (.string (str b))=some (a==b):=by
 have:(str a==str b)=(a==b):=by
  show(a.toArray==b.toArray)=(a==b)
  simp
 first
  |(simp[Instr.sameNow,kdOf,this];done)
  |(simp[Instr.sameNow,kdOf];exact this)
theorem bm_find(s:List UInt8):∀(l:List (List UInt8×Int)) (i:Nat),findKs (kdOf true) (.string (str s)) (l.map fun p=> .string (str p.1)) i=some ((l.findIdx? fun p=>s==p.1).map (·+i))
 |[],i=>rfl
 |p::l,i=>by
  rw[List.map_cons,findKs,same_str,List.findIdx?_cons];cases h:(s==p.1)with
  |true=>simp
  |false=>
   simp only[Bool.false_eq_true,if_false,bm_find s l (i+1),Option.map_map];congr 2;funext j;simp;omega
theorem bm_lk(s:List UInt8):lkpK true (.int .i64 0) (some bindM) (some (.string (str s)))=some (.pv (.v (.int .i64 (bindsV s))),.no):=by
 show lkpJ _ _ (findKs (kdOf true) (.string (str s)) bindKs 0)=_;unfold bindKs;rw[bm_find s bindL 0];simp only[bindL,List.findIdx?_cons,List.findIdx?_nil,bindsV];by_cases h1:s=[42];· subst h1;rfl
 by_cases h2:s=[47];· subst h2;rfl
 by_cases h3:s=[37];· subst h3;rfl
 by_cases h4:s=[43];· subst h4;rfl
 by_cases h5:s=[45];· subst h5;rfl
 by_cases h6:s=[38];· subst h6;rfl
 by_cases h7:s=[61];· subst h7;rfl
 by_cases h8:s=[60,62];· subst h8;rfl
 by_cases h9:s=[60];· subst h9;rfl
 by_cases h10:s=[60,61];· subst h10;rfl
 by_cases h11:s=[62];· subst h11;rfl
 by_cases h12:s=[62,61];· subst h12;rfl
 simp[h1,h2,h3,h4,h5,h6,h7,h8,h9,h10,h11,h12,lkpJ,zeroT]
theorem bmV:(type_of% @bm_m1)∧(type_of% @bm_m2)∧(type_of% @bm_m3)∧(type_of% @bm_ids1)∧(type_of% @bm_ids2)∧(type_of% @bm_ids3)∧(type_of% @bm_ren1)∧(type_of% @bm_ren2)∧(type_of% @bm_ren3)∧(type_of% @bm_cells)∧(type_of% @bm_lk):=⟨@bm_m1,@bm_m2,@bm_m3,@bm_ids1,@bm_ids2,@bm_ids3,@bm_ren1,@bm_ren2,@bm_ren3,@bm_cells,@bm_lk⟩
end Go.Proofs.YtcpaleaajdilgaaGreatDoor
end

section
namespace Go.Sh.Cd5
open Go Go.Sh
set_option maxRecDepth 100000
abbrev gQ(a:GA):Prop:=gT Go.Proofs.Tryz.prog a
abbrev c_92_0:=kV [2,3,4] [oD 2 (.new zV),oD 3 (.new [(.int .i64 0)]),oD 4 (.new [(.int .i64 0)])] []
abbrev c_92_1:=kR [oM 10 0,oD 11 (.slen (.tmp 10)),kK 12 .gtr 3 11 200] [10,11]
abbrev c_92_2:=kR [oD 13 (.build zV []),kS 4 2 13,oN (.st 1 (.tmp 3) (vI 200)),oN (.st 1 (.tmp 4) (vI 50))] [0,12,13]
abbrev c_92_3:=kV [2068,2069,2070,2071,5] [oM 14 0,oD 15 (.slen (.tmp 14)),oD 16 (.build [(.slice none 0 0),(.int .i64 0),(.int .i64 0)] [(2,1,(.tmp 15))]),oD 17 (.call 74 0 []),oD 18 (.build [(.slice none 0 0),(.int .i64 0),(.int .i64 0),(.map none)] [(0,3,(.tmp 16)),(3,1,(.tmp 17))]),oD 5 (.new [(.slice none 0 0),(.int .i64 0),(.int .i64 0),(.map none)]),kS 4 5 18] [12,14,15,16,17,18]
abbrev c_92_4:=kV [2080,2081,2082,2083] [oM 19 0,kC 20 75 0 19] [0,19]
abbrev c_92_5:=kV [2148,2149,2150,2151,7] [kC 37 76 1 5,oM 36 37,kY 38 36 0,kY 39 36 1,kY 40 36 2,oD 7 (.new zV),kS 4 7 38,oM 8 39,oM 9 40] [5,20,36,37,38,39,40]
abbrev c_92_6:=kR [oM 41 9,kN 42 41] [9,41]
abbrev c_92_7:=kR [oD 43 (.build zV []),oM 44 8,kS 4 2 43,kS 1 3 44,oN (.st 1 (.tmp 4) (vI 50))] [7,8,42,43,44]
abbrev c_92_8:=kV [2184,2185,2186,2187] [oL 45 true 4 7,kC 46 77 0 45,kN 47 46] [8,42,45,46]
abbrev c_92_9:=kR [oD 48 (.build zV []),kS 4 2 48,oN (.st 1 (.tmp 3) (vI 0)),oN (.st 1 (.tmp 4) (vI 51))] [7,47,48]
abbrev c_92_10:=kR [oL 49 true 4 7,kS 4 2 49,oN (.st 1 (.tmp 3) (vI 0)),oN (.st 1 (.tmp 4) (vI 0))] [7,47,49]
noncomputable abbrev F_92:SFunc:=⟨50,(.seq c_92_0 (.seq (.seq c_92_1 (.cond (.tmp 12) (.seq c_92_2 .ret) .skip)) (.seq c_92_3 (.seq (.seq c_92_4 (.block 0 (.raw 50 (rawOf Go.Proofs.Tryz.prog 36 0)))) (.seq c_92_5 (.seq (.seq c_92_6 (.cond (.tmp 42) (.seq c_92_7 .ret) .skip)) (.seq (.seq c_92_8 (.cond (.tmp 47) (.seq c_92_9 .ret) .skip)) (.seq c_92_10 .ret)))))))),[.cell true 4 2,.cell false 1 3,.cell false 1 4],false⟩
theorem tf_92:z33 Go.Proofs.Tryz.prog 36 (hintT [(17,0),(20,0),(32,0),(37,1),(46,0)]) (fpT []) (killT [(1,[10,11]),(2,[0,12,13]),(3,[12,14,15,16,17,18]),(4,[0,19]),(9,[5,20,36,37,38,39,40]),(10,[9,41]),(11,[7,8,42,43,44]),(12,[8,42,45,46]),(13,[7,47,48]),(14,[7,47,49])]) false=some F_92:=by kernel_rfl
abbrev a_95:GA:=⟨75,4,[],[],[(0,[0,0,2,2]),(1,[1,1,3,3])],[.tmp 2],false⟩
theorem tf_95:gQ a_95:=by unfold gQ gT;kernel_rfl
abbrev a_93:GA:=⟨77,8,[(7,1)],[],[(0,[0,0,2,2]),(1,[4,5]),(2,[1,1,3,3,6,7])],[.tmp 2],false⟩
theorem tf_93:gQ a_93:=by unfold gQ gT;kernel_rfl
abbrev c_expr_pieces_1_0:=kR [kI 3 0] []
abbrev c_expr_pieces_1_1:=kR [oM 6 3,oL 7 false 1 1,oD 8 (.slen (.tmp 7)),kB 9 .lss 3 6 8,oM 10 9,kL 11 10 true false 1 1,oH 12 10 true 3,oG 13 10 true (.sidx (.tmp 11) (.tmp 12)),oG 14 10 true (.bin .eql 5 (.tmp 13) (.val (.int .u8 32))),oP 15 10 14 false] [6,7,8,9,10,11,12,13,14]
abbrev c_expr_pieces_1_2:=kR [oM 16 3,kK 17 .add 3 16 1,oM 3 17] [15,16,17]
abbrev c_expr_pieces_1_3:SCode:=(.seq (.seq c_expr_pieces_1_1 (.cond (.tmp 15) .skip (.exit 2))) (.block 3 c_expr_pieces_1_2))
abbrev c_expr_pieces_1_4:=kR [oM 18 3,oL 19 false 1 1,oD 20 (.slen (.tmp 19)),kB 21 .eql 3 18 20] [18,19,20]
abbrev c_expr_pieces_1_5:=kV [2104,2105,2106,2107,4] [oL 23 false 1 1,oM 24 3,oD 25 (.ssub (.tmp 23) (some (.tmp 24)) none),kC 26 130 0 25,oM 22 26,kY 27 22 0,kY 28 22 1,oD 4 (.new [(.int .i64 0),(.int .i64 0),(.string ⟨#[]⟩),(.int .i64 0)]),kS 4 4 27,oM 5 28] [21,22,23,24,25,26,27,28]
abbrev c_expr_pieces_1_6:=kR [oM 29 3,kA 30 3 4,kS 1 30 29] [29,30]
abbrev c_expr_pieces_1_8:=kR [oM 39 3,oM 40 5,kB 41 .add 3 39 40,oM 3 41] [5,38,39,40,41]
abbrev a_96:GA:=⟨130,47,[],[],[(0,[3,3]),(1,[6,7]),(2,[9,14]),(3,[0,0,4,4,8,8,15,18]),(4,[8,8,20,25]),(5,[0,0,4,4,19,19,26,29]),(6,[4,4,19,19,31,32]),(7,[0,0,30,30,33,36]),(8,[0,0,3,3,30,30,37,39]),(9,[40,40]),(10,[5,5,41,42]),(11,[5,5,41,41,43,46])],[.cell true 4 2,.tmp 3],false⟩
theorem tf_96:gQ a_96:=by unfold gQ gT;kernel_rfl
abbrev a_24:GA:=⟨132,48,[(9,3),(13,1),(45,3)],[(7,[[(1,6),(2,5),(9,5),(6,1000)]])],[(1,[8,9,9999,9999]),(2,[10,13]),(3,[14,20]),(4,[21,27]),(5,[0,1,5,7,28,29]),(6,[28,28,30,38]),(7,[6,7,39,47,9999,9999])],[.cell true 4 4],false⟩
theorem tf_24:gQ a_24:=by unfold gQ gT;kernel_rfl
abbrev a_28:GA:=⟨133,28,[],[],[(1,[3,11]),(2,[0,0,12,22]),(3,[0,0,12,12,23,27])],[.cell true 4 2],false⟩
theorem tf_28:gQ a_28:=by unfold gQ gT;kernel_rfl
abbrev a_23:GA:=⟨134,45,[(28,1),(42,1)],[],[(0,[1,1,6,6]),(1,[9,15]),(2,[16,29]),(3,[0,0,2,2,4,4,30,30]),(4,[4,4,6,6,30,31]),(6,[35,37]),(7,[8,8,38,42]),(8,[0,0,2,2,32,34,43,43]),(9,[6,6,43,44]),(10,[0,0,2,2,32,34])],[.tmp 6],false⟩
theorem tf_23:gQ a_23:=by unfold gQ gT;kernel_rfl
abbrev a_119:GA:=⟨170,56,[],[],[(0,[2,2]),(1,[6,12]),(2,[0,0,13,13]),(3,[2,2,13,13]),(4,[14,16]),(6,[17,17,20,29]),(7,[30,45]),(8,[4,5,46,54]),(9,[0,0,3,3,55,55]),(5,[2,2,18,19,55,55]),(10,[0,0,3,3])],[.tmp 2],false⟩
theorem tf_119:gQ a_119:=by unfold gQ gT;kernel_rfl
abbrev a_115:GA:=⟨176,138,[],[],[(0,[0,0,2,2]),(1,[6,6]),(2,[9,9]),(3,[1,1,7,8,10,23]),(4,[8,8,25,25]),(5,[1,1,7,7,24,24,26,44]),(6,[24,24,46,46]),(7,[7,7,45,45,47,49]),(8,[1,1,3,3,50,67]),(9,[45,45,69,69]),(10,[70,70]),(11,[1,1,7,7,68,68,71,99]),(12,[7,7,68,68,101,101]),(13,[100,100,102,114]),(14,[1,1,115,115]),(15,[2,2,115,115]),(16,[116,119]),(18,[120,120,123,128]),(19,[1,1,4,4,129,129]),(20,[2,2,129,135]),(21,[5,5,136,136]),(22,[1,1,4,4,137,137]),(17,[2,2,121,122,137,137]),(23,[1,1,4,4]),(24,[1,1,100,100])],[.tmp 2],false⟩
theorem tf_115:gQ a_115:=by unfold gQ gT;kernel_rfl
abbrev a_98:GA:=⟨204,39,[],[],[(0,[3,3]),(2,[6,20]),(3,[21,30]),(4,[31,32]),(5,[0,0,33,33]),(6,[4,5,34,35]),(7,[4,5,34,34,36,38])],[.cell true 4 2,.tmp 3],false⟩
theorem tf_98:gQ a_98:=by unfold gQ gT;kernel_rfl
abbrev a_97:GA:=⟨205,52,[],[],[(0,[3,3]),(2,[5,37]),(3,[38,40]),(4,[41,44]),(5,[0,0,4,4,45,46]),(6,[0,0,4,4,45,45,47,51])],[.cell true 4 2,.tmp 3],false⟩
theorem tf_97:gQ a_97:=by unfold gQ gT;kernel_rfl
abbrev a_99:GA:=⟨206,55,[(19,0),(52,0)],[],[(0,[3,3]),(3,[6,8]),(5,[9,9,12,13]),(6,[16,16]),(7,[0,0,14,15,17,19]),(8,[4,5,20,21]),(9,[4,5,20,20,22,26]),(10,[14,15,28,28]),(11,[27,27,29,30]),(12,[31,45]),(13,[0,0,4,5,46,47]),(14,[3,3,27,27,46,46,48,53]),(4,[10,11]),(15,[0,0,4,5,54,54])],[.cell true 4 2,.tmp 3],false⟩
theorem tf_99:gQ a_99:=by unfold gQ gT;kernel_rfl
abbrev a_94:GA:=⟨207,27,[],[],[(0,[4,4]),(2,[1,1]),(4,[11,13]),(5,[14,22]),(6,[7,7,23,24]),(7,[7,7,23,23,25,25]),(8,[0,0,5,5,8,10,26,26])],[.tmp 4],false⟩
theorem tf_94:gQ a_94:=by unfold gQ gT;kernel_rfl
abbrev a_26:GA:=⟨208,75,[(9,1),(11,3),(15,3),(20,1),(22,3),(28,1),(61,1),(67,3)],[(17,[[(1,4),(6,2),(4,1000)]])],[(1,[6,8]),(2,[9,11,9999,9999]),(3,[0,0,12,15,9999,9999]),(4,[3,3,16,16]),(5,[9,9,17,19]),(6,[0,0,20,24,9999,9999]),(7,[20,20,25,28]),(8,[29,37]),(9,[38,38]),(10,[41,41]),(11,[0,0,4,4,39,40,42,44]),(12,[40,40,46,46]),(13,[0,0,4,4,39,39,45,45,47,49]),(14,[39,39,45,45,51,51]),(15,[50,50,52,54]),(16,[55,61]),(17,[0,0,4,5,62,68,9999,9999]),(18,[0,0,4,5,62,62,69,71]),(19,[0,0,4,4,50,50,72,74,9999,9999])],[.cell true 4 2],false⟩
theorem tf_26:gQ a_26:=by unfold gQ gT;kernel_rfl
abbrev a_22:GA:=⟨209,100,[],[],[(0,[1,1,4,4]),(1,[5,11]),(2,[0,0,3,3,12,12]),(3,[4,4,12,13]),(4,[16,16]),(5,[0,0,3,3,14,15,17,35]),(6,[15,15,37,37]),(7,[0,0,3,3,14,14,36,36,38,46]),(8,[36,36,48,48]),(9,[0,0,3,3,14,14,47,47,49,57]),(10,[47,47,59,59]),(11,[0,0,3,3,14,14,58,58,60,73]),(12,[0,0,58,58,75,75]),(13,[3,3,14,14,74,74,76,84]),(14,[14,14,74,74,86,86]),(15,[3,3,85,85,87,99]),(16,[3,3,85,85])],[.tmp 4],false⟩
theorem tf_22:gQ a_22:=by unfold gQ gT;kernel_rfl
abbrev a_127:GA:=⟨230,6,[],[],[(0,[0,0,2,2]),(1,[1,1,3,5])],[.tmp 2],false⟩
theorem tf_127:gQ a_127:=by unfold gQ gT;kernel_rfl
abbrev a_100:GA:=⟨244,6,[],[],[(0,[2,2]),(1,[0,0,3,5])],[.tmp 2],false⟩
theorem tf_100:gQ a_100:=by unfold gQ gT;kernel_rfl
abbrev a_101:GA:=⟨245,6,[],[],[(0,[2,2]),(1,[0,0,3,5])],[.tmp 2],false⟩
theorem tf_101:gQ a_101:=by unfold gQ gT;kernel_rfl
abbrev a_150:GA:=⟨246,8,[],[],[(0,[4,4]),(1,[0,1,5,7])],[.tmp 4],false⟩
theorem tf_150:gQ a_150:=by unfold gQ gT;kernel_rfl
abbrev a_29:GA:=⟨247,24,[(7,1)],[],[(0,[4,4]),(1,[6,7]),(2,[1,1,5,5,8,15]),(3,[0,0,16,16]),(4,[0,0,4,4,16,23])],[.tmp 4],false⟩
theorem tf_29:gQ a_29:=by unfold gQ gT;kernel_rfl
abbrev a_27:GA:=⟨248,12,[(6,1),(9,1)],[],[(0,[1,1,4,6]),(1,[0,0,7,11,9999,9999])],[],false⟩
theorem tf_27:gQ a_27:=by unfold gQ gT;kernel_rfl
abbrev a_102:GA:=⟨249,17,[],[],[(0,[2,2]),(1,[0,0]),(2,[5,5]),(3,[6,6]),(4,[7,7]),(5,[3,4]),(6,[4,4,9,9]),(7,[10,10]),(8,[11,11]),(9,[12,12]),(10,[13,13]),(11,[14,14]),(12,[3,3,8,8]),(13,[3,3,8,8,16,16]),(14,[15,15]),(15,[15,15])],[.tmp 2],false⟩
theorem tf_102:gQ a_102:=by unfold gQ gT;kernel_rfl
abbrev a_25:GA:=⟨250,28,[(16,3),(19,3),(20,0),(26,3)],[],[(0,[4,4]),(2,[1,1]),(4,[9,10]),(5,[6,6,11,11]),(6,[12,16,9999,9999]),(7,[12,12,17,21,9999,9999]),(8,[22,22]),(9,[0,0,7,8,23,26,9999,9999]),(10,[5,5,27,27])],[.tmp 4],false⟩
theorem tf_25:gQ a_25:=by unfold gQ gT;kernel_rfl
abbrev a_125:GA:=⟨266,20,[],[],[(0,[2,2]),(1,[0,0]),(2,[5,5]),(3,[6,6]),(4,[7,7]),(5,[3,4]),(6,[4,4,9,9]),(7,[10,10]),(8,[3,3,8,8]),(9,[8,8,12,12]),(10,[3,3,11,11]),(11,[11,11,14,14]),(12,[15,15]),(13,[16,16]),(14,[17,17]),(15,[18,18]),(16,[3,3,19,19]),(17,[3,3,13,13]),(18,[3,3,13,13])],[.tmp 2],false⟩
theorem tf_125:gQ a_125:=by unfold gQ gT;kernel_rfl
abbrev a_131:GA:=⟨268,42,[],[],[(0,[0,0,6,6]),(1,[8,17]),(2,[1,3,18,18]),(3,[6,6,18,20]),(5,[21,28]),(7,[29,29,32,40]),(6,[30,31]),(8,[1,3,7,7,41,41])],[.tmp 6],false⟩
theorem tf_131:gQ a_131:=by unfold gQ gT;kernel_rfl
abbrev a_103:GA:=⟨282,18,[],[],[(0,[4,4]),(1,[0,1,5,17])],[.tmp 4],false⟩
theorem tf_103:gQ a_103:=by unfold gQ gT;kernel_rfl
abbrev a_124:GA:=⟨298,17,[],[],[(0,[2,2]),(1,[0,0]),(2,[5,5]),(3,[6,6]),(4,[7,7]),(5,[3,4]),(6,[4,4,9,9]),(7,[10,10]),(8,[11,11]),(9,[12,12]),(10,[13,13]),(11,[14,14]),(12,[3,3,8,8]),(13,[3,3,8,8,16,16]),(14,[15,15]),(15,[15,15])],[.tmp 2],false⟩
theorem tf_124:gQ a_124:=by unfold gQ gT;kernel_rfl
abbrev a_130:GA:=⟨301,112,[],[],[(0,[0,0,2,2]),(1,[3,3]),(2,[6,6]),(3,[1,1,4,5,7,25]),(4,[5,5,27,27]),(5,[1,1,4,4,26,26,28,42]),(6,[26,26,44,44]),(7,[1,1,4,4,43,43,45,58]),(8,[43,43,60,60]),(9,[1,1,4,4,59,59,61,75]),(10,[59,59,77,77]),(11,[1,1,4,4,76,76,78,91]),(12,[4,4,76,76,93,93]),(13,[1,1,92,92,94,111]),(14,[1,1,92,92])],[.tmp 2],false⟩
theorem tf_130:gQ a_130:=by unfold gQ gT;kernel_rfl
noncomputable def funcs:Nat→Option SFunc
 |_=>none
end Go.Sh.Cd5
end

section
namespace Go.Proofs.YtcpaleaajdilgaaGreatDoor
open Go Go.RowKit Go.Mor Go.Sh Go.Sh.Cd1 Go.Sh.Cd5
set_option maxRecDepth 100000
set_option maxHeartbeats 4000000
def pcR(q:Pc):List PV:=[.v (.int .i64 q.k),.v (.int .i64 q.n),.v (.string (str q.s)),.v (.int .i64 (q.p:Int))]
def pcT(q:Pc):TV:=.agg [I q.k,I q.n,S (str q.s),I (q.p:Int)]
def pcs(L:List Pc):TV:=.pv (.sl 4 (L.map pcR))
def pB(L:List Pc)(p sz:Nat):List TV:=[pcs L,I (p:Int),I (sz:Int),bindM]
theorem peek_ok(g:Sh.Glob)(L:List Pc)(p sz:Nat)(hL:L.length≤maxLen):SCalls Tryz.prog g 133 [.ptr 1000 0] [.box (pB L p sz)] (pcT (pkP L sz p)) [.box (pB L p sz)]:=by
 refine z18 tf_28 ?_;unfold pB pcs pcT;by_cases hlt:p<L.length
 ·have d1:(p:Int)<(L.length:Int):=by omega
  obtain⟨q,eq⟩:∃q,L[p]?=some q:=⟨_,gE hlt⟩
  have hq:pkP L sz p=q:=by simp[pkP,eq]
  rw[hq];simp only[vW,seval,d1,eq,pcR,bmV]
 ·have d1:¬(p:Int)<(L.length:Int):=by omega
  have hq:pkP L sz p=⟨0,0,[],sz⟩:=by simp[pkP,List.getElem?_eq_none (Nat.le_of_not_lt hlt)]
  rw[hq];simp only[vW,seval,d1,bmV];rfl
theorem take_ok(g:Sh.Glob)(L:List Pc)(p sz:Nat)(t:List UInt8)(hL:L.length≤maxLen)(hp:p<maxLen):SCalls Tryz.prog g 247 [.ptr 1000 0,S (str t)] [.box (pB L p sz)] (B (isSg (pkP L sz p) t)) [.box (pB L (if isSg (pkP L sz p) t then p+1 else p) sz)]:=by
 refine z18 tf_29 ?_;have HP:=peek_ok g L p sz hL;have w1:IntKind.i64.wrap ((p:Int)+1)=((p+1:Nat):Int):=by unfold maxLen at hp;rw[wrap64 (by omega) (by omega)];omega
 unfold isSg at*;generalize pkP L sz p=q at*;unfold pB pcs pcT B at*;by_cases hk:q.k=4
 ·have hb:(q.k==4)=true:=by simp[hk]
  cases ht:q.s==t
  ·simp only[vW,seval];(with_reducible apply v_call);simp only[vW,seval,bmV];rfl;rfl;exact HP;exact km;simp only[vW,seval,bmV];rfl;simp only[vW,seval,bmV,hk,hb,ht]
  ·simp only[vW,seval];(with_reducible apply v_call);simp only[vW,seval,bmV];rfl;rfl;exact HP;exact km;simp only[vW,seval,bmV];rfl;simp only[vW,seval,bmV,hk,hb,ht,w1]
 ·have hb:(q.k==4)=false:=by simp[hk]
  simp only[vW,seval];(with_reducible apply v_call);simp only[vW,seval,bmV];rfl;rfl;exact HP;exact km;simp only[vW,seval,bmV];rfl;simp only[vW,seval,bmV,hk,hb]
def wrongV(a:Nat):Value:=.iface 212 (.int .i64 (a:Int))
theorem need_ok(g:Sh.Glob)(L:List Pc)(p sz:Nat)(t:List UInt8)(hL:L.length≤maxLen)(hp:p<maxLen)(h:isSg (pkP L sz p) t=true):SCalls Tryz.prog g 248 [.ptr 1000 0,S (str t)] [.box (pB L p sz)] (.tuple []) [.box (pB L (p+1) sz)]:=by
 refine z18 tf_27 ?_;have HT:=take_ok g L p sz t hL hp;rw[h,if_pos rfl]at HT;unfold pB pcs B at*;simp only[vW,seval];(with_reducible apply v_call);simp only[vW,seval,bmV];rfl;rfl;exact HT;exact km;simp only[vW,seval,bmV];rfl;simp only[vW,seval,bmV]
theorem need_pan(g:Sh.Glob)(L:List Pc)(p sz:Nat)(t:List UInt8)(hL:L.length≤maxLen)(hp:p<maxLen)(h:isSg (pkP L sz p) t=false):SPan Tryz.prog g 248 [.ptr 1000 0,S (str t)] [.box (pB L p sz)] (wrongV (pkP L sz p).p) [.box (pB L p sz)]:=by
 refine pan_of hmix tf_27 rfl rfl rfl ?_
 conv in SFunc.code _=>reduce
 have HT:=take_ok g L p sz t hL hp;have HP:=peek_ok g L p sz hL;rw[h,if_neg (by simp)]at HT;unfold pB pcs B pcT wrongV at*;simp only[vW,seval];(with_reducible apply v_call);simp only[vW,seval,bmV];rfl;rfl;exact HT;exact km;simp only[vW,seval,bmV];rfl;simp only[vW,seval,bmV];(with_reducible apply vq_p);simp only[vW,seval];(with_reducible apply vp_ret);(· simp only[vW,seval,bmV];with_reducible rfl);(· rfl);(· exact HP);(· first|rfl|(simp only[vcA,seval];omega));(· simp only[vW,seval,bmV];with_reducible rfl);simp only[vW,seval,bmV]
theorem takes_ok(g:Sh.Glob)(s:List UInt8):SCalls Tryz.prog g 249 [S (str s)] [] (I (takesV s)) []:=by
 refine z10 tf_102 ?_;have q1:(⟨#[108,101,110]⟩:ByteArray)=str [108,101,110]:=rfl;have q2:(⟨#[116,101,120,116]⟩:ByteArray)=str [116,101,120,116]:=rfl;have q3:(⟨#[110,117,109]⟩:ByteArray)=str [110,117,109]:=rfl;have q4:(⟨#[108,101,102,116]⟩:ByteArray)=str [108,101,102,116]:=rfl;have q5:(⟨#[114,105,103,104,116]⟩:ByteArray)=str [114,105,103,104,116]:=rfl;have q6:(⟨#[102,114,111,109]⟩:ByteArray)=str [102,114,111,109]:=rfl;have q7:(⟨#[102,105,110,100]⟩:ByteArray)=str [102,105,110,100]:=rfl;have q8:(⟨#[109,105,110]⟩:ByteArray)=str [109,105,110]:=rfl;have q9:(⟨#[109,97,120]⟩:ByteArray)=str [109,97,120]:=rfl;have q10:(⟨#[105,102]⟩:ByteArray)=str [105,102]:=rfl;have hb:∀t:List UInt8,(s==t)=decide (s=t):=fun t=>by rw[Bool.eq_iff_iff];simp
 unfold takesV;simp only[vW,seval,q1,q2,q3,q4,q5,q6,q7,q8,q9,q10,hb]
 repeat' (first|(apply And.intro)|(intro _))
 all_goals simp_all
end Go.Proofs.YtcpaleaajdilgaaGreatDoor
end
