/- Merged texts: Own OwnV S32 Zm12 Ya2 Ya3 Ya4. No statement of the program is proved here. -/
import Derived.Test.YtpmlapgbmgbilaaGreatDoorQ35
import Derived.Laws.AppendOwnNone
import Derived.Deep.AppendLies
import Derived.Deep.RegionLaw
set_option linter.unusedSimpArgs false
set_option linter.unusedVariables false
set_option maxRecDepth 100000
set_option maxHeartbeats 8000000
section
namespace Go.Proofs.YtpmlapgbmgbilaaGreatDoor
open Go Go.RowKit Go.Mor
section
structure RowT(α:Type) where
 e:TypeId
 t:TypeId
 size:Nat
 bytes:Nat
 zero:Value
 cells:α→List Value
 len:∀x,(cells x).length=size
 one:∀x u,u∈cells x→u.oneCell'=true
 pos:0<size
 few:bytes≤1000
 und:Tryz.prog.underlying t=some (.slice e)
 info:(Tryz.prog.info? e).map (fun i=>(i.zero,i.size,i.bytes))=some (some zero,size,bytes)
 zlen:zero.cells.size=size
variable{α:Type}(R:RowT α)
def IsR(ok:Nat→Prop)(w:World)(l:List α)(c:Value):Prop:=
 ∃(b off cap:Nat) (p:Option Addr),c=.slice p l.length cap∧l.length≤cap∧cap≤maxLen∧(l≠[]→p=some ⟨b,off,none⟩∧ok b)∧(p=none→c=.slice none 0 0)∧
  ∀(i:Nat) (x:α),l[i]?=some x→∀(j:Nat) (u:Value),(R.cells x)[j]?=some u→w.cell? ⟨b,off+i*R.size+j,none⟩=some u
def OwnR(base:Nat)(w:World)(v:Value)(l:List α):Prop:=w.ownsRow base R.e R.size v l.length (l.flatMap R.cells)
variable{R}
theorem IsR.keepBy{ok:Nat→Prop}{w w':World}{l:List α}{c:Value}(h:IsR R ok w l c)(hk:∀a v,ok a.block→w.cell? a=some v→w'.cell? a=some v):IsR R ok w' l c:=by
 obtain⟨b,off,cap,p,h1,h2,h3,h4,h6,h5⟩:=h;refine⟨b,off,cap,p,h1,h2,h3,h4,h6,fun i x hx j u hu=> ?_⟩;exact hk _ _ (h4 (by rintro rfl;simp at hx)).2 (h5 i x hx j u hu)
theorem IsR.ext{ok:Nat→Prop}{w w':World}{l:List α}{c:Value}(h:IsR R ok w l c)(hb:Below w.heap.size w w'):IsR R ok w' l c:=
 h.keepBy fun _ _ _ hv=>(hb.cell (z0S hv)).trans hv
theorem IsR.weaken{ok ok':Nat→Prop}{w:World}{l:List α}{c:Value}(h:IsR R ok w l c)(hk:∀b,ok b→ok' b):IsR R ok' w l c:=by
 obtain⟨b,off,cap,p,h1,h2,h3,h4,h5⟩:=h;exact⟨b,off,cap,p,h1,h2,h3,fun hl=>⟨(h4 hl).1,hk _ (h4 hl).2⟩,h5⟩
theorem IsR.at{ok:Nat→Prop}{w:World}{l:List α}{p:Option Addr}{n cap:Nat}(h:IsR R ok w l (.slice p n cap))(hl:0<l.length):
  ∃b off,p=some ⟨b,off,none⟩∧ok b∧b<w.heap.size∧∀(i:Nat) (x:α),l[i]?=some x→∀(j:Nat) (u:Value),(R.cells x)[j]?=some u→w.cell? ⟨b,off+i*R.size+j,none⟩=some u:=by
 obtain⟨b,off,cap',p',h1,h2,h3,h4,h6,h5⟩:=h;obtain⟨rfl,_,_⟩:p=p'∧_:=by simpa using h1
 have hne:l≠[]:=by rintro rfl;simp at hl
 refine⟨b,off,(h4 hne).1,(h4 hne).2,?_,h5⟩;obtain⟨x,hx⟩:∃x,l[0]?=some x:=⟨_,gE hl⟩
 have hpos:=R.pos;obtain⟨u,hu⟩:∃u,(R.cells x)[0]?=some u:=⟨_,gE (by rw[R.len];exact hpos)⟩
 exact z0S (h5 0 x hx 0 u hu)
theorem IsR.cell{ok:Nat→Prop}{w:World}{l:List α}{g o n cap:Nat}(h:IsR R ok w l (.slice (some ⟨g,o,none⟩) n cap)){i:Nat}{x:α}(hx:l[i]?=some x){j:Nat}{u:Value}(hu:(R.cells x)[j]?=some u):w.cell? ⟨g,o+i*R.size+j,none⟩=some u:=by
 obtain⟨b,off,cap',p',h1,h2,h3,h4,h6,h5⟩:=h;have hne:l≠[]:=by rintro rfl;simp at hx
 obtain⟨hp,_⟩:=h4 hne;subst hp;have h1a:(⟨g,o,none⟩:Addr)=⟨b,off,none⟩:=by injection h1 with h1;injection h1
 have hgb:g=b:=congrArg Addr.block h1a;have hof:o=off:=congrArg Addr.off h1a;have:=h5 i x hx j u hu;rw[←hgb,←hof]at this;exact this
theorem IsR.low{B:Nat}{w w':World}{l:List α}{c:Value}(h:IsR R (fun b=>b<B) w l c)(hb:Below B w w'):IsR R (fun b=>b<B) w' l c:=
 h.keepBy fun _ _ ho hv=>(hb.cell ho).trans hv
theorem IsR.none_{ok:Nat→Prop}{w:World}:IsR R ok w [] (.slice none 0 0):=⟨0,0,0,none,rfl,by simp,Nat.zero_le _,by simp,fun _=>rfl,by simp⟩
theorem OwnR.nil(base:Nat)(w:World):OwnR R base w (.slice none 0 0) []:=⟨by simp,.inl ⟨rfl,rfl⟩⟩
theorem OwnR.below{base:Nat}{w:World}{v:Value}{l:List α}(h:OwnR R base w v l):∀k,v.ownBlock=some k→base≤k:=by
 rcases h.2 with⟨rfl,_⟩|⟨g,cap,cur,rfl,hg,_⟩
 ·intro k hk;cases hk
 ·intro k hk;cases hk;exact hg
theorem OwnR.lt{base:Nat}{w:World}{v:Value}{l:List α}(h:OwnR R base w v l):∀k,v.ownBlock=some k→k<w.heap.size:=by
 rcases h.2 with⟨rfl,_⟩|⟨g,cap,cur,rfl,hg,hc,_⟩
 ·intro k hk;cases hk
 ·intro k hk;cases hk;exact z3l hc
theorem OwnR.grown{base:Nat}{w w':World}{v:Value}{l:List α}{row:Option Nat}(h:OwnR R base w v l)(hg:w.grownBy w' row)(hr:∀k,row=some k→v.ownBlock≠some k):OwnR R base w' v l:=by
 refine⟨h.1,?_⟩;rcases h.2 with h|⟨g,cap,cur,rfl,h2,h3,h4⟩
 ·exact .inl h
 ·exact .inr ⟨g,cap,cur,rfl,h2,(hg.block g (z3l h3) (fun e=>hr g e.symm rfl)).trans h3,h4⟩
theorem OwnR.ext{base:Nat}{w w':World}{v:Value}{l:List α}(h:OwnR R base w v l)(hb:Below w.heap.size w w'):OwnR R base w' v l:=by
 refine⟨h.1,?_⟩;rcases h.2 with h|⟨g,cap,cur,h1,h2,h3,h4⟩
 ·exact .inl h
 ·exact .inr ⟨g,cap,cur,h1,h2,(hb.block g (z3l h3)).trans h3,h4⟩
theorem OwnR.ne{base:Nat}{w:World}{v:Value}{l:List α}(h:OwnR R base w v l){B t:Nat}{cs:Array Value}(hq:w.heap[B]?=some (.cells cs t (0,0)))(ht:t≠R.e):some B≠v.ownBlock:=by
 rcases h.2 with⟨rfl,_⟩|⟨g,cap,cur,rfl,hg,hc,_⟩
 ·intro k;cases k
 ·intro k;cases k;rw[hq]at hc;cases hc;exact ht rfl
theorem OwnR.keep{base:Nat}{w w':World}{v:Value}{l:List α}(h:OwnR R base w v l)(hg:w.grownBy w' v.ownBlock){B t:Nat}{cs:Array Value}(hq:w.heap[B]?=some (.cells cs t (0,0)))(ht:t≠R.e):w'.heap[B]?=some (.cells cs t (0,0)):=
 (hg.block B (z3l hq) (h.ne hq ht)).trans hq
theorem OwnR.set{base:Nat}{w:World}{v u:Value}{l:List α}{C i:Nat}(h:OwnR R base w v l)(hn:some C≠v.ownBlock):OwnR R base (w.setCell ⟨C,i,none⟩ u) v l:=by
 refine⟨h.1,?_⟩;rcases h.2 with h|⟨g,cap,cur,rfl,h2,h3,h4⟩
 ·exact .inl h
 ·exact .inr ⟨g,cap,cur,rfl,h2,(heap_setCell_other _ _ _ _ (fun e=>hn (congrArg some e.symm))).trans h3,h4⟩
theorem z7V(l:List α):(l.flatMap R.cells).length=l.length*R.size:=by
 induction l with
 |nil=>simp
 |cons f r ih=>rw[List.flatMap_cons,List.length_append,R.len,ih,List.length_cons,Nat.add_mul];omega
theorem z7U(l:List α)(i:Nat)(x:α)(h:l[i]?=some x)(j:Nat)(hj:j<R.size):(l.flatMap R.cells)[i*R.size+j]?=(R.cells x)[j]?:=by
 induction l generalizing i with
 |nil=>simp at h
 |cons g r ih=>
  rw[List.flatMap_cons];cases i with
  |zero=>
   simp at h;subst h;rw[List.getElem?_append_left (by rw[R.len];omega)];simp
  |succ i=>
   rw[List.getElem?_append_right (by rw[R.len,Nat.add_mul];omega),R.len];have:(i+1)*R.size+j-R.size=i*R.size+j:=by rw[Nat.add_mul];omega
   rw[this];exact ih i (by simpa using h)
theorem OwnR.isR{base:Nat}{w:World}{v:Value}{l:List α}(h:OwnR R base w v l):IsR R (fun b=>base≤b∧v.ownBlock=some b) w l v:=by
 rcases h.2 with⟨rfl,h0⟩|⟨g,cap,cur,rfl,hg,hc,hcap,hmax,hsz,htake⟩
 ·obtain rfl:l=[]:=List.eq_nil_of_length_eq_zero h0;exact IsR.none_
 ·refine⟨g,0,cap,_,rfl,hcap,hmax,fun _=>⟨rfl,hg,rfl⟩,(fun h=>by cases h),fun i x hx j u hu=> ?_⟩;have hi:i<l.length:=(gJ hx).1;have hj:j<R.size:=by rw[←R.len x];exact(gJ hu).1
  have hlt:i*R.size+j<l.length*R.size:=by
   have:=Nat.mul_le_mul_right R.size (show i+1≤l.length by omega);rw[Nat.add_mul]at this;omega
  rw[←hu,←z7U l i x hx j hj,←htake,List.getElem?_take_of_lt hlt];simp[World.cell?,hc]
theorem OwnR.at{base:Nat}{w:World}{p:Option Addr}{n cap:Nat}{l:List α}(h:OwnR R base w (.slice p n cap) l)(hl:0<l.length):∃g,p=some ⟨g,0,none⟩∧base≤g∧g<w.heap.size:=by
 rcases h.2 with⟨h1,h0⟩|⟨g,cap',cur,h1,hg,hc,_⟩
 ·omega
 ·refine⟨g,?_,hg,z3l hc⟩;injection h1
theorem OwnR.cell{base:Nat}{w:World}{g n cap:Nat}{l:List α}(h:OwnR R base w (.slice (some ⟨g,0,none⟩) n cap) l){i:Nat}{x:α}(hx:l[i]?=some x){j:Nat}{u:Value}(hu:(R.cells x)[j]?=some u):w.cell? ⟨g,i*R.size+j,none⟩=some u:=by
 obtain⟨b,off,cap',p',h1,h2,h3,h4,h6,h5⟩:=h.isR;have hne:l≠[]:=by rintro rfl;simp at hx
 obtain⟨hp,_⟩:=h4 hne;subst hp;have h1a:(⟨g,0,none⟩:Addr)=⟨b,off,none⟩:=by injection h1 with h1;injection h1
 have hgb:g=b:=congrArg Addr.block h1a;have hof:0=off:=congrArg Addr.off h1a;have:=h5 i x hx j u hu;rw[←hgb,←hof,Nat.zero_add]at this;exact this
theorem OwnR.any{base:Nat}{w:World}{v:Value}{l:List α}(h:OwnR R base w v l):IsR R (fun _=>True) w l v:=h.isR.weaken fun _ _=>trivial
theorem zft{P:Program}{e:TypeId}{z:Option Value}{s b:Nat}(h:(P.info? e).map (fun i=>(i.zero,i.size,i.bytes))=some (z,s,b)):∃i,P.info? e=some i∧i.zero=z∧i.size=s∧i.bytes=b:=by
 obtain⟨i,hi,he⟩:=gO h;simp only[Prod.mk.injEq]at he;exact⟨i,hi,he.1,he.2.1,he.2.2⟩
theorem zmM{o:Oper}{a:Act}{K:Act→World→Prop}{Q:Exit→Act→World→Prop}{w:World}(sl x:Operand)
  (ho:o.op=.call { callee:=.builtin .append,args:= #[sl,x],argTypes:= #[R.t,R.t] })
  {base:Nat} {v c:Value} {l m:List α} (hown:OwnR R base w v l) (hm:IsR R (fun _=>True) w m c) (hm0:0<m.length) (hs:a.eval sl=v) (hx:a.eval x=c) (hlen:l.length+m.length≤1000000) (hb:base≤w.heap.size)
  (h:∀L g cap w',Hid (L=l++m)→Hid (OwnR R base w' (.slice (some ⟨g,0,none⟩) L.length cap) L)→w.grownBy w' v.ownBlock→Hid (v.ownBlock=some g∨g=w.heap.size)→K (a.put o.dst (.slice (some ⟨g,0,none⟩) L.length cap)) w'):Oper.wp Tryz.prog o a w K Q:=by
 obtain⟨i0,hi,hz0,hz1,hz2⟩:=zft R.info;obtain⟨b,off,cap,p,rfl,hcap,hmax,hp,hn,hc⟩:=hm;obtain⟨hpe,_⟩:=hp (by rintro rfl;simp at hm0);subst hpe;have hgo:∀g cap' w',w'.ownsRow base R.e R.size (.slice (some ⟨g,0,none⟩) (l.length+m.length) cap') (l.length+m.length) (l.flatMap R.cells++m.flatMap R.cells)→w.grownBy w' v.ownBlock→(v.ownBlock=some g∨g=w.heap.size)→g<w'.heap.size→K (a.put o.dst (.slice (some ⟨g,0,none⟩) (l.length+m.length) cap')) w':=by
  intro g cap' w' h1 h2 h3 _;have e:l.length+m.length=(l++m).length:=by simp
  rw[e]at h1 ⊢;refine h (l++m) g cap' w' rfl ?_ h2 h3;show OwnR R base w' _ _;unfold OwnR;simpa using h1
 refine wp_append_lies w sl x R.t ho base R.e i0 _ R.size R.bytes R.und hi hz0 hz1 hz2 R.zlen R.pos v l.length _ hs hown ⟨b,off,none⟩ m.length cap (m.flatMap R.cells) hx (z7V m) ?_ ?_ hm0 (by unfold maxLen;omega) ?_ hb w.heap.size rfl hgo
 ·intro j u hj;have hj':j<m.length*R.size:=by rw[←z7V];exact(gJ hj).1
  have hpos:=R.pos;have hdm:j / R.size*R.size+j%R.size=j:=by rw[Nat.mul_comm];exact Nat.div_add_mod j R.size
  have hd:j / R.size<m.length:=Nat.div_lt_of_lt_mul (by rw[Nat.mul_comm];exact hj');obtain⟨f,hf⟩:∃f,m[j / R.size]?=some f:=⟨_,gE hd⟩
  have hg:=z7U m (j / R.size) f hf (j%R.size) (Nat.mod_lt _ hpos);rw[hdm,hj]at hg;have:=hc _ f hf _ u hg.symm;rw[Addr.add_lit,show off+j=off+j / R.size*R.size+j%R.size by rw[Nat.add_assoc,hdm]];exact this
 ·intro u hu;obtain⟨f,_,hu⟩:=List.mem_flatMap.1 hu;exact R.one f u hu
 ·have:=R.few;have h1:(l.length+m.length)*R.bytes≤1000000*1000:=Nat.mul_le_mul hlen this;have h2:(1000000:Nat)*1000≤140737488355328:=by decide
  exact Nat.le_trans h1 h2
theorem zfb{ops:Array Oper}{zD:List Oper}{o:Oper}{a:Act}{Q:Exit→Act→World→Prop}{w:World}(hgd:o.guard=none)(sl x:Operand)
  (ho:o.op=.call { callee:=.builtin .append,args:= #[sl,x],argTypes:= #[R.t,R.t] })
  {base:Nat} {v c:Value} {l m:List α} (hown:OwnR R base w v l) (hm:IsR R (fun _=>True) w m c) (hm0:0<m.length) (hs:a.eval sl=v) (hx:a.eval x=c) (hlen:l.length+m.length≤1000000) (hb:base≤w.heap.size)
  (h:∀L g cap w',Hid (L=l++m)→Hid (OwnR R base w' (.slice (some ⟨g,0,none⟩) L.length cap) L)→w.grownBy w' v.ownBlock→Hid (v.ownBlock=some g∨g=w.heap.size)→wpList Tryz.prog ops Q zD (a.put o.dst (.slice (some ⟨g,0,none⟩) L.length cap)) w'):wpList Tryz.prog ops Q (o::zD) a w:=
 wpList_plain hgd fun _ hK=>zmM sl x ho hown hm hm0 hs hx hlen hb fun L g cap w' h1 h2 h3 h4=>hK _ _ (h L g cap w' h1 h2 h3 h4)
theorem znS{w:World}{b t:Nat}(x:α){cs:Array Value}(h:w.heap[b]?=some (.cells cs t (0,0)))(hcs:cs.toList=R.cells x):IsR R (fun _=>True) w [x] (.slice (some ⟨b,0,none⟩) 1 1):=by
 refine⟨b,0,1,_,rfl,by simp,by decide,fun _=>⟨rfl,trivial⟩,(fun h=>by cases h),fun i y hy j u hu=> ?_⟩;cases i with
 |zero=>
  simp at hy;subst hy;rw[←hcs]at hu;simp[World.cell?,h];simpa using hu
 |succ i=>simp at hy
end
structure VC where
 v:V
 p:Option Addr
 cap:Nat
def VC.c(y:VC):Value:=.slice y.p y.v.l.length y.cap
def z6A(y:VC):List Value:=[.int .i64 y.v.k,.int .i64 y.v.n,.string (str y.v.s),.slice y.p y.v.l.length y.cap]
theorem znR:(Tryz.prog.info? 76).map (fun i=>(i.zero,i.size,i.bytes))=some (some (.agg #[.int .i64 0,.int .i64 0,.string ⟨#[]⟩,.slice none 0 0]),4,56):=by kernel_rfl
def VR:RowT VC where
 e:=76
 t:=72
 size:=4
 bytes:=56
 zero:=.agg #[.int .i64 0,.int .i64 0,.string ⟨#[]⟩,.slice none 0 0]
 cells:=z6A
 len:=fun _=>rfl
 one:=by
  intro x u hu;simp[z6A]at hu;rcases hu with rfl|rfl|rfl|rfl<;>rfl
 pos:=by decide
 few:=by decide
 und:=Tryz.underlying72
 info:=znR
 zlen:=rfl
end Go.Proofs.YtpmlapgbmgbilaaGreatDoor
end

section
namespace Go.Sh
open Go Go.RowKit
theorem zkX{P:Program}{g:Glob}{f:Nat}{xs:List TV}{e W:Nat}{es:List (List PV)}(hW:0<W)(hne:es≠[])(hb:z3W P f)
  (h:∀(w:World) (E:Env) (us:List Value),g.G w→(∀b o,E.K b o→b<w.heap.size)→xs.length=us.length→(∀(j:Nat) x v,xs[j]?=some x→us[j]?=some v→RelT w E (zA []) x v)→
   Calls P f us.toArray w fun o w'=>∃(v':Value) (K':Nat→Nat→Prop) (news:List Value) (F:Nat→Nat→Value),o=.returned v'∧w'.ownsRow w.heap.size e W v' es.length news∧Below w.heap.size w w'∧(∀b o,E.K b o→K' b o)∧
    (∀b o,K' b o→(E.K b o∨w.heap.size≤b)∧b<w'.heap.size∧v'.ownBlock≠some b)∧News w' K' W es news F):
  SCalls P g f xs [] (.bs 1000 0 es.length es.length) [.box (es.flatten.map TV.pv)]:=by
 refine⟨hb,fun w E us hG hm hX hl hr=>(h w E us hG hm.lt hl hr).mono ?_⟩;rintro o w' ⟨v',K',news,F,rfl,hown,hbel,hK1,hK2,hn⟩;have hk0:∀b o u,E.K b o→w.cell? ⟨b,o,none⟩=some u→w'.cell? ⟨b,o,none⟩=some u:=fun b o u h1 h2=>(hbel.cell (z1a h2)).trans h2;have hpos:0<es.length:=List.length_pos_iff.2 hne;obtain⟨hlen,hown⟩:=hown;rcases hown with⟨rfl,h0⟩|⟨k,cap,cur,rfl,hk,hcur,hle,hmax,hsz,htake⟩
 ·omega
 have hrow:w'.ownsRow w.heap.size e W (.slice (some ⟨k,0,none⟩) es.length cap) es.length news:=⟨hlen,.inr ⟨k,cap,cur,rfl,hk,hcur,hle,hmax,hsz,htake⟩⟩
 have hcell:∀(j:Nat) u,news[j]?=some u→w'.cell? ⟨k,j,none⟩=some u:=fun j u hj=>by
  grind [List.getElem?_eq_some_iff,World.ownsRow.cellAt]
 have hno:∀d,¬(start w E [] 0).old d:=z0Z;have hkn:∀o,¬K' k o:=fun o ho=>(hK2 k o ho).2.2 rfl;refine⟨_,{ E with K:=K',β:=fun j=>if j=1000 then k else E.β j },rfl,⟨fun d cs hd=> ?_,fun d e' W' n hd=>(by grind [z4z]),fun d d' cs cs' h1 h2 _=> ?_,fun d d' cs q k cap _ h2=>(by grind [z4z]),fun d d' q q' k cap cap' h1=>(by grind [z4z]),fun b o ho=>(hK2 b o ho).2.1,z86 hbel,fun b o u h1 h2=>⟨hK1 b o h1,hk0 b o u h1 h2⟩,fun b o h1=> ?_,⟨fun d hd=>absurd hd (hno d),fun d hd=>absurd hd (hno d),fun d e W n hd=>absurd hd (hno d)⟩⟩,?_,⟨fun d h1 h2=>absurd h2 (by grind),fun d h1 h2=>absurd h2 (by grind),fun d e W n hd=>by simp[zA]at hd⟩⟩
 ·obtain⟨rfl,rfl⟩:=z5F hd;refine⟨⟨(gA hcur).1,⟨_,_,_,hcur⟩,fun o=> ?_,fun j c hj=> ?_,hkn⟩,.inl hk⟩
  ·grind [World.ownsRow.frozenAt]
  ·rw[List.getElem?_map]at hj;obtain⟨p,hp,rfl⟩:=gO hj;obtain⟨i,q,cs,h1,h2,rfl⟩:=z5t (fun cs h=>hn.len cs h) hp;obtain⟨n1,n2,n3⟩:=hn.at_ i q cs p h1 h2;exact⟨_,hcell _ _ n1,n2,.pv n3⟩
 ·grind [z5F]
 ·rcases(hK2 b o h1).1 with h1|h1
  ·exact .inl h1
  ·exact .inr (.inl h1)
 ·show RelT w' _ _ (.bs 1000 0 es.length es.length) (.slice (some ⟨k,0,none⟩) es.length cap);exact .bs (E:={ E with K:=K',β:=fun j=>if j=1000 then k else E.β j }) 1000 0 es.length es.length cap (.inl ⟨Nat.le_refl _,hpos⟩) hle hmax
end Go.Sh
end

section
namespace Go.Proofs.YtpmlapgbmgbilaaGreatDoor
open Go Go.RowKit Go.Mor Go.Sh
def glN:Sh.Glob where
 G:=fun _=>True
 n:=0
 st:=fun _ _ _ _=>trivial
 le:=fun _ _=>Nat.zero_le _
theorem zp4(l:List V)(hl:l.length≤1000)(hf:∀v∈l,VFew v)(w:World)(K:Nat→Nat→Prop)(hK:∀b o,K b o→b<w.heap.size){c:Value}(hc:RelV w K (.sl 4 (V.rows l)) c):
  Calls Tryz.prog 159 #[c] w fun e w'=>∃v K',e=.returned v∧RelV w' K' (.sl 4 (V.rows l)) v∧Below w.heap.size w w'∧(∀b o u,K b o→w.cell? ⟨b,o,none⟩=some u→K' b o)∧∀b o,K' b o→(K b o∨w.heap.size≤b)∧b<w'.heap.size:=by
 have H:=z2C glN l hl hf;let E:Env:={ z1i w with K:=K }
 have hX:∀d k,¬z1Y E [] d k:=by
  rintro d k (⟨cs,h1,_⟩|⟨q,cap,h1,_⟩)
  ·rw[z35]at h1;cases h1
  ·rw[z4A]at h1;cases h1
 refine(H.2 w E [c] trivial ?_ (fun d k hd=>absurd hd (hX d k)) rfl ?_).mono ?_
 ·refine⟨fun d cs hd=> ?_,fun d e W n hd=> ?_,fun d d' cs cs' hd=> ?_,fun d d' cs q k cap hd=> ?_,fun d d' q q' k cap cap' hd=> ?_,fun k o hk=>hK k o hk,⟨rfl,rfl,rfl,Nat.le_refl _,fun _ _ _=>rfl⟩,fun k o u hk hu=>⟨hk,hu⟩,fun k o hk=> .inl hk,?_⟩
  ·rw[z35]at hd;cases hd
  ·rw[z4A]at hd;cases hd
  ·rw[z35]at hd;cases hd
  ·rw[z35]at hd;cases hd
  ·rw[z4A]at hd;cases hd
  ·exact⟨fun d hd=>absurd hd (z0Z d),fun d hd=>absurd hd (z0Z d),fun d e W n hd=>absurd hd (z0Z d)⟩
 ·intro j x v hx hv;cases j with
  |zero=>simp at hx hv;subst hx;subst hv;exact .pv hc
  |succ j=>simp at hx
 ·rintro e w' ⟨v,E',rfl,hM,hr,_⟩;refine⟨v,E'.K,rfl,?_,⟨hM.low.os,hM.low.tape,hM.low.output,hM.low.size,fun k hk=>hM.low.block k hk (fun d hd=>hX d k hd)⟩,fun b o u h1 h2=>(hM.keep b o u h1 h2).1,fun b o h=>⟨?_,hM.lt b o h⟩⟩
  ·cases hr with
   |own _ _ _ _ h _=>exact h
  ·rcases hM.knew b o h with h|h|⟨d,h⟩
   ·exact .inl h
   ·exact .inr h
   ·exact absurd h (hX d b)
theorem zh4{w:World}{b t:Nat}{cs:Array Value}(h:w.heap[b]?=some (.cells cs t (0,0)))(i:Nat):w.cell? ⟨b,i,none⟩=cs[i]?:=by simp[World.cell?,h]
theorem zqE{w:World}{b t:Nat}{cs:Array Value}(h:w.heap[b]?=some (.cells cs t (0,0)))(i:Nat):w.frozen? ⟨b,i,none⟩=false:=by simp[World.frozen?,h]
theorem zoL{p:Prop}(h:id p):p:=h
theorem zkd{w:World}{K:Nat→Nat→Prop}{b off:Nat}{f:Nat→Nat→Value}{l:List V}(hcs:∀(i j:Nat) cs c,(V.rows l)[i]?=some cs→cs[j]?=some c→(K b (off+i*4+j)∧w.cell? ⟨b,off+i*4+j,none⟩=some (f i j)∧one (f i j))∧RelV w K c (f i j)){k:Nat}{x:V}(hx:l[k]?=some x):
  ∃q n cap,w.cell? ⟨b,off+k*4,none⟩=some (.int .i64 x.k)∧w.cell? ⟨b,off+k*4+1,none⟩=some (.int .i64 x.n)∧w.cell? ⟨b,off+k*4+2,none⟩=some (.string (str x.s))∧w.cell? ⟨b,off+k*4+3,none⟩=some (.slice q n cap)∧RelV w K (.sl 4 (V.rows x.l)) (.slice q n cap):=by
 have hr:(V.rows l)[k]?=some (V.row x):=by rw[z0r,List.getElem?_map,hx];rfl
 have e:V.row x=[.v (.int .i64 x.k),.v (.int .i64 x.n),.v (.string (str x.s)),.sl 4 (V.rows x.l)]:=z1K x;obtain⟨⟨_,h0,_⟩,r0⟩:=hcs k 0 _ _ hr (by rw[e];rfl);obtain⟨⟨_,h1,_⟩,r1⟩:=hcs k 1 _ _ hr (by rw[e];rfl);obtain⟨⟨_,h2,_⟩,r2⟩:=hcs k 2 _ _ hr (by rw[e];rfl);obtain⟨⟨_,h3,_⟩,r3⟩:=hcs k 3 _ _ hr (by rw[e];rfl);generalize f k 0=y0 at*;generalize f k 1=y1 at*;generalize f k 2=y2 at*;generalize f k 3=y3 at*;cases r0;cases r1;cases r2;obtain⟨b',off',cap',p',f',rfl,_⟩:=z0B r3;exact⟨_,_,_,h0,h1,h2,h3,r3⟩
theorem zp5(l:List V)(hl:l.length≤1000)(hne:l≠[])(hf:∀v∈l,VFew v)(w:World)(K:Nat→Nat→Prop)(hK:∀b o,K b o→b<w.heap.size){c:Value}(hc:RelV w K (.sl 4 (V.rows l)) c):
  Calls Tryz.prog 159 #[c] w fun o w'=>∃(v':Value) (K':Nat→Nat→Prop) (news:List Value) (F:Nat→Nat→Value),o=.returned v'∧w'.ownsRow w.heap.size 76 4 v' (V.rows l).length news∧Below w.heap.size w w'∧(∀b o,K b o→K' b o)∧
   (∀b o,K' b o→(K b o∨w.heap.size≤b)∧b<w'.heap.size∧v'.ownBlock≠some b)∧News w' K' 4 (V.rows l) news F:=by
 obtain⟨b,off,cap,p,f,rfl,hp,hcap,hmax,hW,hcs⟩:=z0B hc;obtain rfl:=hp (by cases l with|nil=>exact absurd rfl hne|cons x l=>simp[z0r]);unfold maxLen at hmax;have hlen:(V.rows l).length=l.length:=by simp[z0r]
 rw[hlen]at hcap ⊢;have HC:=Lib.hid (fun k x (hx:l[k]?=some x)=>zkd hcs hx);have HK:=Lib.hid hK;have HF:=Lib.hid hf;clear hc hcs hp hW hK hf
 go_enter Tryz.func159,Tryz.ntmps159
 go_wp2_with fail
 go_loopw [3,8] (fun m i wr=>∃(k:Nat) (L:List VC) (p:Option Addr) (cap:Nat) (Kr:Nat→Nat→Prop),k≤l.length∧i=.int .i64 k∧m=.slice p L.length cap∧Hid (OwnR VR w.heap.size wr (.slice p L.length cap) L)∧Hid (L.map VC.v=l.take k)∧Hid (∀y∈L,RelV wr Kr (.sl 4 (V.rows y.v.l)) y.c)∧Below w.heap.size w wr∧Hid (∀b o u,K b o→w.cell? ⟨b,o,none⟩=some u→Kr b o)∧Hid (∀b o,Kr b o→(K b o∨w.heap.size≤b)∧b<wr.heap.size∧(Value.slice p L.length cap).ownBlock≠some b)) (fun _ i _=>l.length-(intOf i).toNat)
 case atStart=>exact⟨0,[],none,0,K,Nat.zero_le _,rfl,rfl,OwnR.nil _ _,rfl,(fun y hy=>by cases hy),Below.refl _ _,fun b o u h _=>h,fun b o h=>⟨.inl h,HK.out b o h,by simp[Value.ownBlock]⟩⟩
 case round=>
  obtain⟨k,L,p1,cap1,Kr,hk,rfl,rfl,hO,HL,HY,hb,HKr,HKb⟩:=hrel;have hLk:L.length=k:=by have:=congrArg List.length HL.out;simpa [Nat.min_eq_left hk]using this
  subst hLk;by_cases hlt:L.length<l.length
  ·obtain⟨x,hx⟩:∃x,l[L.length]?=some x:=⟨_,gE hlt⟩
   obtain⟨q,n,cp,h0,h1,h2,h3,hr⟩:=HC.out L.length x hx;have e0:=(hb.cell (z0S h0)).trans h0;have e1:=(hb.cell (z0S h1)).trans h1;have e2:=(hb.cell (z0S h2)).trans h2;have e3:=(hb.cell (z0S h3)).trans h3;have HX:=Lib.hid hx;have HN:Hid (∀W1:World,Below wr.heap.size wr W1→Calls Tryz.prog 159 #[.slice q n cp] W1 fun e w'=>∃v K',e=.returned v∧RelV w' K' (.sl 4 (V.rows x.l)) v∧Below W1.heap.size W1 w'∧(∀b o u,Kr b o→W1.cell? ⟨b,o,none⟩=some u→K' b o)∧∀b o,K' b o→(Kr b o∨W1.heap.size≤b)∧b<w'.heap.size):=fun W1 hB=>by
    have hm:=gM hx;have h4:=HF.out x hm;refine zp4 x.l h4.len (fun y hy=>h4.sub hy) W1 Kr (fun b o h=>Nat.lt_of_lt_of_le (HKb.out b o h).2.1 hB.size) (hr.mono fun b o u a1 a2=>⟨HKr.out b o u a1 a2,?_⟩);exact(hB.cell (z0S ((hb.cell (z0S a2)).trans a2))).trans ((hb.cell (z0S a2)).trans a2)
   clear hx h0 h1 h2 h3 hr
   go_wp2_with fail
   have hal:Below wr.heap.size wr (wr.alloc (.cells #[.int .i64 x.k,.int .i64 x.n,.string (str x.s),.slice q n cp] 76)):=(Below.refl _ _).alloc (Nat.le_refl _) _;refine(HN.out _ hal).mono ?_;rintro e w2 ⟨v2,K2,rfl,hr2,hb2,hk2,hk2'⟩;have hlx:(V.rows x.l).length=x.l.length:=by simp[z0r]
   obtain⟨b2,off2,cp2,p2,f2,rfl, -⟩:=z0B hr2;rw[hlx]at hr2 ⊢;have N1:=(hb2.block _ (z3l (World.alloc_heap_new wr _))).trans (World.alloc_heap_new wr (.cells #[.int .i64 x.k,.int .i64 x.n,.string (str x.s),.slice q n cp] 76));have hbr:Below wr.heap.size wr w2:=hal.trans (hb2.mono hal.size);have HR2:=Lib.hid hr2;have HK2:=Lib.hid hk2;have HK3:=Lib.hid hk2';have HB2:=Lib.hid hb2;have HAL:=Lib.hid hal;clear hr2 hk2 hk2' hb2 hal HN;obtain⟨N,hN⟩:∃N,wr.heap.size=N:=⟨_,rfl⟩
   rw[hN]at N1 ⊢;have c0:=zh4 N1 0;have c1:=zh4 N1 1;have c2:=zh4 N1 2;have c3:=zh4 N1 3;have cf3:=zqE N1 3;simp only[List.getElem?_toArray,List.getElem?_cons_zero,List.getElem?_cons_succ]at c0 c1 c2 c3;obtain⟨Y,hY⟩:∃Y:VC,(⟨x,p2,cp2⟩:VC)=Y:=⟨_,rfl⟩
   have hYv:Y.v=x:=by rw[←hY]
   have hYc:VR.cells Y=[.int .i64 x.k,.int .i64 x.n,.string (str x.s),.slice p2 x.l.length cp2]:=by rw[←hY];rfl
   have hYs:Y.c=.slice p2 x.l.length cp2:=by rw[←hY];rfl
   obtain⟨W4,hW4⟩:∃W,((w2.setCell ⟨N,3,none⟩ (.slice p2 x.l.length cp2)).alloc (.cells #[.int .i64 x.k,.int .i64 x.n,.string (str x.s),.slice p2 x.l.length cp2] 76))=W:=⟨_,rfl⟩
   have hsz2:N<w2.heap.size:=z3l N1;have hst:∀b,b≠N→b<w2.heap.size→W4.heap[b]?=w2.heap[b]?:=fun b hn hb=>by
    rw[←hW4,Below.heap_alloc _ _ _ (by simpa [World.setCell]using hb)];exact heap_setCell_other _ _ _ _ hn
   have hsz4:W4.heap.size=w2.heap.size+1:=by rw[←hW4];simp[World.alloc,World.setCell]
   have hB4:Below wr.heap.size wr W4:=by
    rw[←hW4];exact(hbr.setCell (by show wr.heap.size≤N;omega) _).alloc (by have:=hbr.size;simpa [World.setCell]using this) _
   have hO4:OwnR VR w.heap.size W4 (.slice p1 L.length cap1) L:=hO.out.ext hB4;have hM4:IsR VR (fun _=>True) W4 [Y] (.slice (some ⟨w2.heap.size,0,none⟩) 1 1):=by
    have:=World.alloc_heap_new (w2.setCell ⟨N,3,none⟩ (.slice p2 x.l.length cp2)) (.cells #[.int .i64 x.k,.int .i64 x.n,.string (str x.s),.slice p2 x.l.length cp2] 76);rw[hW4,show(w2.setCell ⟨N,3,none⟩ (.slice p2 x.l.length cp2)).heap.size=w2.heap.size by simp[World.setCell]]at this;exact znS Y this hYc.symm
   have hlen4:L.length+[Y].length≤1000000:=by simp;omega
   have hb4:w.heap.size≤W4.heap.size:=Nat.le_trans hb.size hB4.size;have hpos4:0<[Y].length:=by simp
   have HSZ:=Lib.hid hsz4;have HST:=Lib.hid hst;clear N1 hsz4 hst
   go_wp2_with (at_builtin;apply zoL)
   unfold id;try rw[hW4]
   refine zfb (R:=VR) rfl _ _ rfl hO4 hM4 hpos4 rfl rfl hlen4 hb4 ?_;intro L3 g3 cap3 w4 hL3 hO3 hg3 hf3
   go_wp2_with fail
   have hown:∀b,(Value.slice p1 L.length cap1).ownBlock=some b→b<N:=fun b hb=>by rw[←hN];exact hO.out.lt b hb
   have hW1:(wr.alloc (.cells #[.int .i64 x.k,.int .i64 x.n,.string (str x.s),.slice q n cp] 76)).heap.size=N+1:=by rw[←hN];exact Array.size_push ..
   have k2:∀b o,K2 b o→b≠N∧b<w2.heap.size∧(Value.slice p1 L.length cap1).ownBlock≠some b∧(K b o∨w.heap.size≤b):=fun b o h=>by
    obtain⟨h1,h2⟩:=HK3.out b o h;rcases h1 with h1|h1
    ·obtain⟨a1,a2,a3⟩:=HKb.out b o h1;exact⟨by omega,h2,a3,a1⟩
    ·rw[hW1]at h1;have:=hb.size;exact⟨by omega,h2,fun e=>by have:=hown b e;omega,.inr (by omega)⟩
   have s2:∀b o u,K2 b o→w2.cell? ⟨b,o,none⟩=some u→w4.cell? ⟨b,o,none⟩=some u:=fun b o u h hu=>by
    obtain⟨a1,a2,a3,_⟩:=k2 b o h;have e1:=hg3.block b (by rw[HSZ.out];omega) (fun e=>a3 e.symm);rw[HST.out b a1 a2]at e1;rw[World.cell?_of_block (w:=w2) e1];exact hu
   have s1:∀b o u,Kr b o→wr.cell? ⟨b,o,none⟩=some u→K2 b o∧w4.cell? ⟨b,o,none⟩=some u:=fun b o u h hu=>by
    have e1:=(HAL.out.cell (z0S hu)).trans hu;have h2:=HK2.out b o u h e1;exact⟨h2,s2 b o u h2 ((HB2.out.cell (z0S e1)).trans e1)⟩
   have hL:=hL3.out;refine⟨⟨L.length+1,L3,some ⟨g3,0,none⟩,cap3,K2,by omega,by simp,rfl,hO3,?_,?_,?_,?_,?_⟩,by simp[intOf];omega⟩
   ·show _=_;rw[hL,List.map_append,HL.out,List.take_add_one,HX.out,List.map_singleton,hYv];rfl
   ·intro y hy;rw[hL]at hy;rcases List.mem_append.1 hy with hy|hy
    ·exact(HY.out y hy).mono s1
    ·obtain rfl:=List.mem_singleton.1 hy;rw[hYs,hYv];exact HR2.out.mono fun b o u h hu=>⟨h,s2 b o u h hu⟩
   ·exact(hb.trans (hB4.mono hb.size)).grown hg3 hb4 (fun k h=>hO.out.below k h)
   ·intro b o u h hu;exact(s1 b o u (HKr.out b o u h hu) ((hb.cell (z0S hu)).trans hu)).1
   ·intro b o h;obtain⟨_,a2,a3,a4⟩:=k2 b o h;refine⟨a4,?_,fun e=> ?_⟩
    ·have:=hg3.size;rw[HSZ.out]at this;omega
    ·have e:g3=b:=by simpa [Value.ownBlock]using e
     rcases hf3.out with h1|h1
     ·exact a3 (by rw[h1,e])
     ·rw[HSZ.out]at h1;omega
  ·have hk2:L.length=l.length:=by omega
   clear hk
   go_wp2_with fail
   refine bodyPost_ret (v:=.slice p1 L.length cap1) (by simp[results,Tryz.results159,go_sem]) rfl ?_;have hLl:L.map VC.v=l:=by rw[HL.out,hk2,List.take_length]
   refine⟨_,fun b o=>K b o∨Kr b o,L.flatMap z6A,fun i j=>(((L[i]?).map z6A).bind (·[j]?)).getD undef,rfl,?_,hb,fun b o h=> .inl h,?_,?_⟩
   ·rw[←hk2];exact hO.out
   ·rintro b o (h|h)
    ·have h1:=HK.out b o h;exact⟨.inl h,Nat.lt_of_lt_of_le h1 hb.size,fun e=>by have:=hO.out.below b e;omega⟩
    ·exact HKb.out b o h
   ·refine⟨fun cs hc=> ?_,fun i j cs c h1 h2=> ?_⟩
    ·rw[z0r]at hc;obtain⟨x,_,rfl⟩:=List.mem_map.1 hc;rw[z1K];rfl
    ·rw[z0r,←hLl,List.map_map,List.getElem?_map]at h1;obtain⟨y,hy,rfl⟩:=gO h1;have e:(V.row∘VC.v) y=[.v (.int .i64 y.v.k),.v (.int .i64 y.v.n),.v (.string (str y.v.s)),.sl 4 (V.rows y.v.l)]:=z1K y.v;rw[e]at h2;have hj:j<4:=(gJ h2).1;have hg:=z7U (R:=VR) L i y hy j hj;have hr:=(HY.out y (gM hy)).mono (K':=fun b o=>K b o∨Kr b o) (fun b o u a1 a2=>⟨.inr a1,a2⟩);have hF:((((L[i]?).map z6A).bind (·[j]?)).getD undef)=(z6A y)[j]?.getD undef:=by rw[hy];rfl
     rw[hF];have:j=0∨j=1∨j=2∨j=3:=by omega
     rcases this with rfl|rfl|rfl|rfl
     ·cases h2;exact⟨hg,rfl,.v _⟩
     ·cases h2;exact⟨hg,rfl,.v _⟩
     ·cases h2;exact⟨hg,rfl,.v _⟩
     ·cases h2;exact⟨hg,rfl,hr⟩
theorem zjp(g:Sh.Glob)(l:List V)(hl:l.length≤1000)(hne:l≠[])(hf:∀v∈l,VFew v):z7H g l:=by
 have hr:(V.rows l).length=l.length:=by simp[z0r]
 have:=zkX (P:=Tryz.prog) (g:=g) (f:=159) (xs:=[.pv (.sl 4 (V.rows l))]) (e:=76) (W:=4) (es:=V.rows l) (by decide) (fun e=>hne (List.eq_nil_of_length_eq_zero (by rw[←hr,e];rfl))) (z2C g l hl hf).1 (fun w E us hG hK hlen hrel=>by
  cases us with
  |nil=>simp at hlen
  |cons c us=>
   cases us with
   |cons _ _=>simp at hlen
   |nil=>
    have:=hrel 0 _ c rfl rfl;cases this with
    |pv h=>exact zp5 l hl hne hf w E.K hK h)
 rw[hr]at this;exact this
section
open Go.Sh.Cd1 Go.Sh.Cd7 Go.Sh.Cd10
def osK(l:Ln)(i fr tt:Nat)(vals:List V)(e:Int):List MO:=[.box [I (i:Int)],.box [I (fr:Int)],.box [.pv (.sl 4 (V.rows vals))],.box [I e],.box [I (tt:Int)],.box (lnC l)]
theorem zld(m:Nat)(l:Ln)(hl:LnOk m l)(i fr tt:Nat)(hft:fr≤tt)(hto:tt≤l.hs.length)(hi:i≤tt)(vals:List V)(hw:∀v∈vals,VFew v∧VOk v)(hvl:vals.length≤1000)(hf:fr≤i→FitC (zn l i).1 vals):
  zC (glE m) 79 [clT (zn l i).1,.ptr 1000 0,.ptr 1001 0,.ptr 1002 0,.ptr 1003 0,.ptr 1004 0,.ptr 1005 0] (osK l i fr tt vals 0) (B (decide (i+1≤tt))) (osK l (i+1) fr tt (if fr≤i∧i<tt then z1x (zn l i).1 (l.hs.getD i ch0) vals else vals) 0):=by
 refine zj tf_168 ?_;have h12:=hl.len;have w1:=wS i;have hC:fr≤i→zC (glE m) 80 [clT (zn l i).1,.pv (.sl 4 (V.rows vals))] [] (.tuple [I 0,I 0]) []:=fun h=>by
  have:=zba (z55 m (zn l i).1 vals (z1h (z17 (z0h hl.r (show i≤l.hs.length by omega)))).1 (fun v hv=>⟨(hw v hv).2,by have:=(hw v hv).1.len;unfold maxLen;omega⟩) (by omega));rw[(hf h).chk]at this;exact this
 have hV:fr≤i→i<tt→∃h,l.hs[i]?=some h∧l.hs.getD i ch0=h∧zC (glE m) 81 [clT (zn l i).1,chT h,.pv (.sl 4 (V.rows vals))] [] (.tuple [.pv (.sl 4 (V.rows (z1x (zn l i).1 h vals))),I 0]) []:=fun d5 d6=>by
  obtain⟨h,ex⟩:∃h,l.hs[i]?=some h:=⟨_,gE (by omega)⟩
  have hg:l.hs.getD i ch0=h:=by rw[List.getD_eq_getElem?_getD,ex];rfl
  obtain⟨n1,n2,n3⟩:=zal hl ex;obtain⟨v1,v2,v3⟩:=zdw hl.r ex (hf d5);have HA:=zcJ m _ h vals n2 (hl.h h (gM ex)) (fun _ hne=>zjp (glE m) vals hvl hne (fun v hv=>(hw v hv).1)) hw hvl;rw[v3]at HA;exact⟨h,ex,hg,HA⟩
 have e0:((0:Int)=0)=True:=eq_true rfl;unfold osK lnC B;unfold clT chT at*;by_cases h1:i=fr
 ·subst h1;have HC:=hC (Nat.le_refl _);have d2:(i:Int)≤(i:Int):=Int.le_refl _;by_cases h3:i<tt
  ·obtain⟨h,ex,hg,HA⟩:=hV (Nat.le_refl _) h3;have d3:(i:Int)<(tt:Int):=by omega
   have d4:((i+1:Nat):Int)≤(tt:Int):=by omega
   have d4':i+1≤tt:=by omega
   simp only[d4',decide_true,Nat.le_refl,h3,and_self,if_true,hg];simp only[vW,seval,d2,d3,d4,z4I,ex,chR,w1,false_imp_iff,true_and,and_true];refine z8 HC ?_;simp only[vW,seval,d2,d3,d4,z4I,ex,chR,w1,false_imp_iff,true_and,and_true];refine⟨by rw[z0z];omega,fun b hb=> ?_⟩;obtain rfl:=Option.some.inj hb;refine⟨Nat.le_refl 8,?_⟩;simp only[vW,seval];refine z8 HA ?_;simp only[vW,seval,d2,d3,d4,z4I,ex,chR,w1,false_imp_iff,true_and,and_true]
  ·have d3:¬(i:Int)<(tt:Int):=by omega
   have d4:¬((i+1:Nat):Int)≤(tt:Int):=by omega
   have d4':¬i+1≤tt:=by omega
   simp only[d4',decide_false,h3,and_false,if_false];simp only[vW,seval,d2,d3,d4,w1,false_imp_iff,true_and,and_true];refine z8 HC ?_;simp only[vW,seval,d2,d3,d4,w1,false_imp_iff,true_and,and_true]
 ·have d1:¬(i:Int)=(fr:Int):=by omega
  by_cases h2:fr<i
  ·have d2:(fr:Int)≤(i:Int):=by omega
   have d5:fr≤i:=by omega
   by_cases h3:i<tt
   ·have d3:(i:Int)<(tt:Int):=by omega
    have d4:((i+1:Nat):Int)≤(tt:Int):=by omega
    have d4':i+1≤tt:=by omega
    obtain⟨h,ex,hg,HA⟩:=hV d5 h3;simp only[d4',decide_true,d5,h3,and_self,if_true,hg];simp only[vW,seval,d1,d2,d3,d4,z4I,ex,chR,w1,false_imp_iff,true_and,and_true];refine z8 HA ?_;simp only[vW,seval,d1,d2,d3,d4,z4I,ex,chR,w1,false_imp_iff,true_and,and_true]
   ·have d3:¬(i:Int)<(tt:Int):=by omega
    have d4:¬((i+1:Nat):Int)≤(tt:Int):=by omega
    have d4':¬i+1≤tt:=by omega
    simp only[d4',decide_false,h3,and_false,if_false];simp only[vW,seval,d1,d2,d3,d4,w1,false_imp_iff,true_and,and_true]
  ·have d2:¬(fr:Int)≤(i:Int):=by omega
   have d5:¬fr≤i:=by omega
   have d4:((i+1:Nat):Int)≤(tt:Int):=by omega
   have d4':i+1≤tt:=by omega
   simp only[d4',decide_true,d5,false_and,if_false];simp only[vW,seval,d1,d2,d4,w1,false_imp_iff,true_and,and_true]
def z1q(es:List (List PV))(z:List PV)(k:Nat):List (List PV):=es.take k++List.replicate (es.length-k) z
theorem z5Z{es:List (List PV)}{z:List PV}{zs:List Value}(h:z=zs.map PV.v):(List.replicate es.length (zs.map fun v=>TV.pv (.v v))).flatten=pvC (z1q es z 0).flatten:=by
 unfold z1q pvC;rw[List.map_flatten,List.take_zero,List.nil_append,List.map_replicate,Nat.sub_zero,h,List.map_map];rfl
theorem z5C{es:List (List PV)}{z:List PV}{k:Nat}(h:k≤es.length):(z1q es z k).length=es.length:=by unfold z1q;rw[List.length_append,List.length_take,List.length_replicate];omega
theorem z71{es:List (List PV)}{z:List PV}:z1q es z es.length=es:=by unfold z1q;simp
theorem z5D{es:List (List PV)}{z:List PV}{k W:Nat}(hW:∀cs∈es,cs.length=W)(hz:z.length=W):∀cs∈z1q es z k,cs.length=W:=fun cs h=>by
 rcases List.mem_append.1 h with h|h
 ·exact hW _ (List.mem_of_mem_take h)
 ·rw[(List.mem_replicate.1 h).2];exact hz
theorem zlq{es:List (List PV)}{z r:List PV}{k:Nat}(hk:es[k]?=some r):(z1q es z k).set k r=z1q es z (k+1):=by
 have hl:=(gJ hk).1;unfold z1q;rw[List.take_add_one,hk,List.set_append,List.length_take,if_neg (by omega),show k-min k es.length=0 by omega,show es.length-k=es.length-(k+1)+1 by omega,List.replicate_succ,List.set_cons_zero,List.append_assoc];rfl
theorem z72{es:List (List PV)}{z r:List PV}{k W:Nat}(hW:∀cs∈es,cs.length=W)(hz:z.length=W)(hk:es[k]?=some r){t:List TV}(ht:r.map TV.pv=t):List.take (k*W) (pvC (z1q es z k).flatten)++t++List.drop (k*W+W) (pvC (z1q es z k).flatten)=pvC (z1q es z (k+1)).flatten:=by
 have hl:=(gJ hk).1;rw[←zlq hk,←z6K (x:=r) (hW r (gM hk)) (z5D hW hz) (by rw[z5C (by omega)];exact hl),←ht];unfold pvC;simp[List.map_take,List.map_drop]
theorem zpg{α:Type}{l:List α}(h:l.length=4):∃a b c d,l=[a,b,c,d]:=by
 match l,h with
 |[a,b,c,d],_=>exact⟨a,b,c,d,rfl⟩
theorem zlO{α:Type}{l:List α}(h:l.length=3):∃a b c,l=[a,b,c]:=by
 match l,h with
 |[a,b,c],_=>exact⟨a,b,c,rfl⟩
theorem zqQ{α:Type}{l:List α}(h:l.length=8):∃a b c d e f g i,l=[a,b,c,d,e,f,g,i]:=by
 match l,h with
 |[a,b,c,d,e,f,g,i],_=>exact⟨a,b,c,d,e,f,g,i,rfl⟩
def tgT(W:Nat):List (List PV)→TV
 |[]=> .pv (.v (.slice none 0 0))
 |e::l=> .tsl W (e::l)
theorem zqz{W:Nat}{es:List (List PV)}(h:es≠[]):tgT W es=.tsl W es:=by
 cases es with
 |nil=>exact absurd rfl h
 |cons=>rfl
theorem zqD(W:Nat)(es:List (List PV)):Wk (tgT W es) (.pv (.sl W es)):=by
 cases es with
 |nil=>exact z2B W
 |cons=>exact fun _ _ _ _ h=>zpR h
theorem zlm(g:Sh.Glob)(f:Nat)(es:List (List PV))(hW:∀cs∈es,cs.length=4)(hl:es.length≤1000)(H:∀cs∈es,zC g f [.agg (pvC cs)] [] (.agg (pvC cs)) []):
  zC g 68 [.pv (.sl 4 es),.pv (.v (.func (.func f) #[] #[]))] [] (.pv (.sl 4 es)) []:=by
 by_cases h0:es=[]
 ·subst h0;refine SCalls.out ?_ (z2B 4);refine za tf_104 ?_;simp only[vW,seval]
 refine z1z ze tf_104 rfl ?_
 conv in SFunc.code _=>reduce
 have d0:¬(es.length:Int)=0:=by have:=List.length_pos_iff.2 h0;omega
 have z0:=z5Z (es:=es) (zs:=[.string ⟨#[]⟩,.int .i64 0,.int .i64 0,.bool false]) rfl;simp only[List.map_cons,List.map_nil]at z0;generalize hz:[PV.v (Value.string ⟨#[]⟩),PV.v (Value.int .i64 0),PV.v (Value.int .i64 0),PV.v (Value.bool false)]=z at z0;have hzl:z.length=4:=by rw[←hz];rfl
 refine zq ze ?_;simp only[vW,seval];refine zq ze ?_;simp only[vW,seval,d0];refine zq ze ?_;simp only[vW,seval,z0];refine⟨⟨by omega,by unfold maxLen;omega⟩,?_⟩;refine zq ze ?_;simp only[vW,seval,d0];refine zk (σ:={i:Nat // i≤es.length}) (fun i=>⟨[(1,.pv (.v (.func (.func f) #[] #[]))),(5,.bs 13 0 es.length es.length),(14,.pv (.sl 4 es)),(15,I (es.length:Int)),(16,I (i.1:Int))],[(13,pvC (z1q es z i.1).flatten)],[],[]⟩) (fun i=>es.length-i.1) ⟨0,Nat.zero_le _⟩ ?_ ?_
 ·exact lwA
 rintro⟨i,hi⟩;by_cases hlt:i<es.length
 ·have d1:(i:Int)<(es.length:Int):=by omega
  obtain⟨cs,ex⟩:∃x,es[i]?=some x:=⟨_,gE hlt⟩
  have HC:=H cs (gM ex);have hp:=fun t ht=>z72 hW hzl ex (t:=t) ht;have hfl:(z1q es z i).flatten.length=es.length*4:=by rw[z2g (z5D hW hzl),z5C hi]
  obtain⟨a,b,c,d,rfl⟩:=zpg (hW cs (gM ex));have hp:=hp _ rfl;have w1:=wS i;unfold pvC at HC;simp only[List.map_cons,List.map_nil]at hp HC;simp only[vW,seval,d1,ex];(with_reducible apply zw);exact kv;exact HC;rfl;exact kv;simp only[vW,seval,d1,hp,w1];refine⟨by omega,zc ⟨i+1,by omega⟩ (by show es.length-(i+1)<es.length-i;omega) lwA⟩
 ·have d1:¬(i:Int)<(es.length:Int):=by omega
  obtain rfl:i=es.length:=by omega
  simp only[vW,seval,d1];rw[z71];refine z1P (z5E (k:=5) (d:=13) (es:=es) (c:=es.length) rfl hW rfl) (z1I ze ?_);simp only[vW,seval]
theorem zln(g:Sh.Glob)(f:Nat)(es:List (List PV))(hW:∀cs∈es,cs.length=4)(hl:es.length≤1000)(H:∀cs∈es,zC g f [.agg (pvC cs)] [] (.agg (pvC cs)) []):
  zC g 102 [.pv (.sl 4 es),.pv (.v (.func (.func f) #[] #[]))] [] (.pv (.sl 4 es)) []:=by
 by_cases h0:es=[]
 ·subst h0;refine SCalls.out ?_ (z2B 4);refine za tf_106 ?_;simp only[vW,seval]
 refine z1z ze tf_106 rfl ?_
 conv in SFunc.code _=>reduce
 have d0:¬(es.length:Int)=0:=by have:=List.length_pos_iff.2 h0;omega
 have z0:=z5Z (es:=es) (zs:=[.int .i64 0,.int .i64 0,.string ⟨#[]⟩,.slice none 0 0]) rfl;simp only[List.map_cons,List.map_nil]at z0;generalize hz:[PV.v (Value.int .i64 0),PV.v (Value.int .i64 0),PV.v (Value.string ⟨#[]⟩),PV.v (Value.slice none 0 0)]=z at z0;have hzl:z.length=4:=by rw[←hz];rfl
 refine zq ze ?_;simp only[vW,seval];refine zq ze ?_;simp only[vW,seval,d0];refine zq ze ?_;simp only[vW,seval,z0];refine⟨⟨by omega,by unfold maxLen;omega⟩,?_⟩;refine zq ze ?_;simp only[vW,seval,d0];refine zk (σ:={i:Nat // i≤es.length}) (fun i=>⟨[(1,.pv (.v (.func (.func f) #[] #[]))),(5,.bs 13 0 es.length es.length),(14,.pv (.sl 4 es)),(15,I (es.length:Int)),(16,I (i.1:Int))],[(13,pvC (z1q es z i.1).flatten)],[],[]⟩) (fun i=>es.length-i.1) ⟨0,Nat.zero_le _⟩ ?_ ?_
 ·exact lwA
 rintro⟨i,hi⟩;by_cases hlt:i<es.length
 ·have d1:(i:Int)<(es.length:Int):=by omega
  obtain⟨cs,ex⟩:∃x,es[i]?=some x:=⟨_,gE hlt⟩
  have HC:=H cs (gM ex);have hp:=fun t ht=>z72 hW hzl ex (t:=t) ht;have hfl:(z1q es z i).flatten.length=es.length*4:=by rw[z2g (z5D hW hzl),z5C hi]
  obtain⟨a,b,c,d,rfl⟩:=zpg (hW cs (gM ex));have hp:=hp _ rfl;have w1:=wS i;unfold pvC at HC;simp only[List.map_cons,List.map_nil]at hp HC;simp only[vW,seval,d1,ex];(with_reducible apply zw);exact kv;exact HC;rfl;exact kv;simp only[vW,seval,d1,hp,w1];refine⟨by omega,zc ⟨i+1,by omega⟩ (by show es.length-(i+1)<es.length-i;omega) lwA⟩
 ·have d1:¬(i:Int)<(es.length:Int):=by omega
  obtain rfl:i=es.length:=by omega
  simp only[vW,seval,d1];rw[z71];refine z1P (z5E (k:=5) (d:=13) (es:=es) (c:=es.length) rfl hW rfl) (z1I ze ?_);simp only[vW,seval]
theorem zj3(g:Sh.Glob)(f:Nat)(es:List (List PV))(hW:∀cs∈es,cs.length=8)(hl:es.length≤1000)(H:∀cs∈es,zC g f [.agg (pvC cs)] [] (.agg (pvC cs)) []):
  zC g 92 [.pv (.sl 8 es),.pv (.v (.func (.func f) #[] #[]))] [] (tgT 8 es) []:=by
 by_cases h0:es=[]
 ·subst h0;refine za tf_103 ?_;simp only[vW,seval];rfl
 rw[zqz h0];refine z1z ze tf_103 rfl ?_
 conv in SFunc.code _=>reduce
 have d0:¬(es.length:Int)=0:=by have:=List.length_pos_iff.2 h0;omega
 have z0:=z5Z (es:=es) (zs:=[.int .i64 0,.string ⟨#[]⟩,.string ⟨#[]⟩,.string ⟨#[]⟩,.int .i64 0,.int .i64 0,.string ⟨#[]⟩,.string ⟨#[]⟩]) rfl;simp only[List.map_cons,List.map_nil]at z0;generalize hz:[PV.v (Value.int .i64 0),PV.v (Value.string ⟨#[]⟩),PV.v (Value.string ⟨#[]⟩),PV.v (Value.string ⟨#[]⟩),PV.v (Value.int .i64 0),PV.v (Value.int .i64 0),PV.v (Value.string ⟨#[]⟩),PV.v (Value.string ⟨#[]⟩)]=z at z0;have hzl:z.length=8:=by rw[←hz];rfl
 refine zq ze ?_;simp only[vW,seval];refine zq ze ?_;simp only[vW,seval,d0];refine zq ze ?_;simp only[vW,seval,z0];refine⟨⟨by omega,by unfold maxLen;omega⟩,?_⟩;refine zq ze ?_;simp only[vW,seval,d0];refine zk (σ:={i:Nat // i≤es.length}) (fun i=>⟨[(1,.pv (.v (.func (.func f) #[] #[]))),(5,.bs 13 0 es.length 0),(14,.pv (.sl 8 es)),(15,I (es.length:Int)),(16,I (i.1:Int))],[(13,pvC (z1q es z i.1).flatten)],[],[]⟩) (fun i=>es.length-i.1) ⟨0,Nat.zero_le _⟩ ?_ ?_
 ·exact lwA
 rintro⟨i,hi⟩;by_cases hlt:i<es.length
 ·have d1:(i:Int)<(es.length:Int):=by omega
  obtain⟨cs,ex⟩:∃x,es[i]?=some x:=⟨_,gE hlt⟩
  have HC:=H cs (gM ex);have hp:=fun t ht=>z72 hW hzl ex (t:=t) ht;have hfl:(z1q es z i).flatten.length=es.length*8:=by rw[z2g (z5D hW hzl),z5C hi]
  obtain⟨a,b,c,d,e,p,q,r,rfl⟩:=zqQ (hW cs (gM ex));have hp:=hp _ rfl;have w1:=wS i;unfold pvC at HC;simp only[List.map_cons,List.map_nil]at hp HC;simp only[vW,seval,d1,ex];(with_reducible apply zw);exact kv;exact HC;rfl;exact kv;simp only[vW,seval,d1,hp,w1];refine⟨by omega,zc ⟨i+1,by omega⟩ (by show es.length-(i+1)<es.length-i;omega) lwA⟩
 ·have d1:¬(i:Int)<(es.length:Int):=by omega
  obtain rfl:i=es.length:=by omega
  simp only[vW,seval,d1];rw[z71];refine z1P (znN (k:=5) (d:=13) (es:=es) rfl hW rfl) (z1I ze ?_);simp only[vW,seval]
theorem zaI(g:Sh.Glob)(l:List V)(hl:l.length≤1000)(H:∀x∈l,zC g 103 [tv x] [] (tv x) []):zC g 78 [.pv (.sl 4 (V.rows l))] [] (.pv (.sl 4 (V.rows l))) []:=by
 have HE:=zln g 103 (V.rows l) (zb8 l) (by rw[z1m];exact hl) (fun cs hcs=>by
  rw[z0r]at hcs;obtain⟨x,hx,rfl⟩:=List.mem_map.1 hcs;have:=H x hx;rw[z1K];exact this)
 refine z0C tf_102 ?_;exact zf HE
theorem zfq(g:Sh.Glob){x:V}(hx:VFew x):zC g 103 [tv x] [] (tv x) []:=by
 induction hx with
 |mk h hs ih=>
  rename_i k n s l;have HV:=zaI g l h ih;refine za tf_101 ?_;simp only[vW,seval];refine z8 HV ?_;simp only[vW,seval]
theorem zdU(g:Sh.Glob)(l:List V)(hl:l.length≤1000)(hf:∀v∈l,VFew v):zC g 78 [.pv (.sl 4 (V.rows l))] [] (.pv (.sl 4 (V.rows l))) []:=
 zaI g l hl fun x hx=>zfq g (hf x hx)
theorem zmo(g:Sh.Glob)(f:Fld):zC g 69 [.agg (pvC (flR1 f))] [] (.agg (pvC (flR1 f))) []:=by
 refine za tf_109 ?_;unfold flR1 pvC;simp only[vW,seval]
theorem zmn(g:Sh.Glob)(h:Chg):zC g 93 [.agg (pvC (chR h))] [] (.agg (pvC (chR h))) []:=by
 refine za tf_108 ?_;unfold chR pvC;simp only[vW,seval]
theorem z2P(g:Sh.Glob)(c:Cls)(hl:c.fs.length≤1000):zC g 38 [clT c] [] (clT c) []:=by
 have HE:=zlm g 69 (flR c.fs) (fun cs hcs=>by
  obtain⟨x,hx,rfl⟩:=List.mem_map.1 hcs;rfl) (by rw[z2X];exact hl) (fun cs hcs=>by
  obtain⟨x,hx,rfl⟩:=List.mem_map.1 hcs;exact zmo g x)
 refine za tf_99 ?_;unfold clT;simp only[vW,seval];refine z8 HE ?_;simp only[vW,seval]
def lnR(l:Ln):List PV:=[.v (.string (str l.c.n)),.sl 4 (flR l.c.fs),.sl 8 (z0P l.hs)]
def z0s(ls:List Ln):List (List PV):=ls.map lnR
end
end Go.Proofs.YtpmlapgbmgbilaaGreatDoor
end
