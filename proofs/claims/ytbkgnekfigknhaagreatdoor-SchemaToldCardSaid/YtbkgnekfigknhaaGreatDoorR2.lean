/- Merged texts: S3 S4. No statement of the program is proved here. -/
import Derived.Test.YtbkgnekfigknhaaGreatDoorR1
set_option linter.unusedSimpArgs false
set_option linter.unusedVariables false
set_option maxRecDepth 100000
set_option maxHeartbeats 8000000
section
namespace Go.Sh
open Go Go.RowKit
section
section
variable{Bs:Base}{s:FS}{a:Act}{w w':World}{E E':Env}
theorem Sim.rowUp(h:Sim Bs s a w E){d e W n n':Nat}(hr:s.r d=some (e,W,n))(hn:n<n')
  (hk:∀b o u,E.K b o→w.cell? ⟨b,o,none⟩=some u→E'.K b o∧w'.cell? ⟨b,o,none⟩=some u) (hβ:E'.β=E.β) (hι:E'.ι=E.ι) (hγ:∀d',d'≠d→E'.γ d'=E.γ d')
  (hblk:∀k,k<w.heap.size→(∀cap,E.γ d≠some (k,cap))→w'.heap[k]?=w.heap[k]?)
  {b cap:Nat} (hb:E'.γ d=some (b,cap)) (hb0:Bs.w0.heap.size≤b∨Bs.X d b) (hrow:RowAt w' E' b cap e W n') (hbb:(∃c,E.γ d=some (b,c))∨w.heap.size≤b)
  (hK':∀k o,E'.K k o→E.K k o∨k=b) (hos:w'.os=w.os) (htape:w'.tape=w.tape) (hout:w'.output=w.output) (hsize:w.heap.size≤w'.heap.size):
  Sim Bs (s.setR d (e,W,n')) a w' E':=by
 have hrr:∀d' e' W' m,(s.setR d (e,W,n')).r d'=some (e',W',m)→(s.r d'=some (e',W',m)∧E'.γ d'=E.γ d')∨(∃q,s.r d'=some (e',W',q)∧q<m):=by
  intro d' e' W' m h1;rcases z0f h1 with⟨x1,x2⟩|⟨hd,h1⟩
  ·subst x1;cases x2;exact .inr ⟨n,hr,hn⟩
  ·exact .inl ⟨h1,hγ d' hd⟩
 have hmaps:Maps w w':=by
  intro k o ho hm;have hlt:=(gA hm).1;refine(hblk k hlt (fun cap hg=> ?_)).trans hm;rcases h.mem.row d e W n hr with⟨h1,_⟩|⟨b',cap',h1,_,h3⟩
  ·rw[h1]at hg;cases hg
  ·rw[h1]at hg;cases hg;obtain⟨cur,hc,_⟩:=h3.cells;rw[hm]at hc;cases hc;cases ho
 have hm:∀{x:TV} {v:Value},RelT w E s.r x v→RelT w' E' (s.setR d (e,W,n')).r x v:=fun hx=>hx.mono hk (fun _ _=>by rw[hβ,hι];exact⟨rfl,rfl⟩) (fun d' e' W' m _ h1=>hrr d' e' W' m h1) hmaps;have hnb:∀d' cs,s.b d'=some cs→E.β d'≠b:=by
  intro d' cs h1;rcases hbb with⟨c,hc⟩|hc
  ·exact h.mem.br d' d cs _ b c h1 hr hc
  ·have:=(h.mem.box d' cs h1).1.lt;omega
 have hnr:∀d' q b' c',d'≠d→s.r d'=some q→E.γ d'=some (b',c')→b'≠b:=by
  intro d' q b' c' hd h1 h2 h3;subst h3;rcases hbb with⟨c,hc⟩|hc
  ·exact hd (h.mem.rr d' d q _ b' c' c h1 hr h2 hc)
  ·rcases h.mem.row d' q.1 q.2.1 q.2.2 h1 with⟨h4,_⟩|⟨b2,c2,h4,_,h5⟩
   ·rw[h4]at h2;cases h2
   ·rw[h4]at h2;cases h2;obtain⟨cur,hcur,_⟩:=h5.cells;have:=(gA hcur).1;omega
 refine h.step rfl ⟨fun d' cs hd=> ?_,fun d' e' W' m hd=> ?_,fun d1 d2 c1 c2 h1 h2 h3=> ?_,fun d1 d2 c q b1 cap1 h1 h2 h3=> ?_,fun d1 d2 q q' b1 c1 c2 h1 h2 h3 h4=> ?_,fun k o hko=> ?_,?_,fun k o u h1 h2=> ?_,fun k o h1=> ?_,⟨fun d' ho=>by rw[hβ];exact h.mem.pas.β d' ho,fun d' ho h0=> ?_,fun d' e' W' m ho hd=> ?_⟩⟩ hk (fun _ _=>by rw[hβ,hι];exact⟨rfl,rfl⟩) (fun d' e' W' m _ h1=>hrr d' e' W' m h1) (fun d' z p hd=> ?_) (by rw[hι];exact h.ii) hmaps
 ·obtain⟨h1,h2⟩:=h.mem.box d' cs hd;rw[hβ];have hsame:w'.heap[E.β d']?=w.heap[E.β d']?:=hblk _ h1.lt (fun c hc=>h.mem.br d' d cs _ _ c hd hr hc rfl);refine⟨⟨Nat.lt_of_lt_of_le h1.lt hsize,(by rw[hsame];exact h1.obj),fun o=>(World.frozen?_of_block (w:=w) (a:=⟨E.β d',o,none⟩) hsame).trans (h1.fz o),fun j c hc=> ?_,fun o ho=> ?_⟩,h2⟩
  ·obtain⟨v,c1,c2,c3⟩:=h1.cell j c hc;exact⟨v,(World.cell?_of_block (w:=w) (a:=⟨E.β d',j,none⟩) hsame).trans c1,c2,hm c3⟩
  ·rcases hK' _ _ ho with h3|h3
   ·exact h1.out o h3
   ·exact hnb d' cs hd h3
 ·rcases z0f hd with⟨x1,x2⟩|⟨hdd,hd⟩
  ·subst x1;cases x2;exact .inr ⟨b,cap,hb,hb0,hrow⟩
  ·rw[hγ d' hdd];rcases h.mem.row d' e' W' m hd with h1|⟨b',c',h1,h2,h3⟩
   ·exact .inl h1
   ·obtain⟨cur,hc,hs⟩:=h3.cells;have hlt:=(gA hc).1;have hne:=hnr d' _ b' c' hdd hd h1;refine .inr ⟨b',c',h1,h2,⟨cur,(hblk b' hlt (fun c hc'=>hdd (h.mem.rr d' d _ _ b' c' c hd hr h1 hc'))).trans hc,hs⟩,h3.le,h3.max,fun o ho=> ?_⟩;rcases hK' _ _ ho with h4|h4
    ·exact h3.out o h4
    ·exact absurd h4 hne
 ·rw[hβ]at h3;exact h.mem.bb d1 d2 c1 c2 h1 h2 h3
 ·rw[hβ];rcases z0f h2 with⟨x1,_⟩|⟨hdd,h2⟩
  ·subst x1;rw[hb]at h3;cases h3;exact hnb d1 c h1
  ·rw[hγ d2 hdd]at h3;exact h.mem.br d1 d2 c q b1 cap1 h1 h2 h3
 ·rcases z0f h1 with⟨x1,_⟩|⟨h5,y1⟩<;>rcases z0f h2 with⟨x2,_⟩|⟨h6,y2⟩
  ·rw[x1,x2]
  ·rw[x1,hb]at h3;cases h3;rw[hγ d2 h6]at h4;exact absurd rfl (hnr d2 q' _ c2 h6 y2 h4)
  ·rw[hγ d1 h5]at h3;rw[x2,hb]at h4;cases h4;exact absurd rfl (hnr d1 q _ c1 h5 y1 h3)
  ·rw[hγ d1 h5]at h3;rw[hγ d2 h6]at h4;exact h.mem.rr d1 d2 q q' b1 c1 c2 y1 y2 h3 h4
 ·rcases hK' k o hko with h1|rfl
  ·exact Nat.lt_of_lt_of_le (h.mem.lt k o h1) hsize
  ·obtain⟨cur,hc,_⟩:=hrow.cells;exact(gA hc).1
 ·refine⟨hos.trans h.mem.low.os,htape.trans h.mem.low.tape,hout.trans h.mem.low.output,Nat.le_trans h.mem.low.size hsize,fun k hk' hx=> ?_⟩;refine(hblk k (Nat.lt_of_lt_of_le hk' h.mem.low.size) (fun c hc=> ?_)).trans (h.mem.low.block k hk' hx);rcases h.mem.row d e W n hr with⟨h1,_⟩|⟨b1,c1,h1,h2,_⟩
  ·rw[h1]at hc;cases hc
  ·rw[h1]at hc;cases hc;rcases h2 with h2|h2
   ·omega
   ·exact hx d h2
 ·obtain⟨h3,h4⟩:=h.mem.keep k o u h1 h2;exact hk k o u h3 h4
 ·rcases hK' k o h1 with h2|rfl
  ·exact h.mem.knew k o h2
  ·rcases hb0 with h2|h2
   ·exact .inr (.inl h2)
   ·exact .inr (.inr ⟨d,h2⟩)
 ·by_cases hd:d'=d
  ·subst hd;obtain⟨n0,h1,_⟩:=h.mem.pas.row d' e W n ho hr;rw[h0]at h1;cases h1
  ·rw[hγ d' hd];exact h.mem.pas.γ d' ho h0
 ·rcases z0f hd with⟨x1,x2⟩|⟨hdd,hd⟩
  ·subst x1;cases x2;obtain⟨n0,h1,h2,h3⟩:=h.mem.pas.row d' e W n ho hr;exact⟨n0,h1,by omega,fun he=>by omega⟩
  ·rw[hγ d' hdd];exact h.mem.pas.row d' e' W' m ho hd
 ·rw[hι];obtain⟨h1,h2⟩:=h.itr d' z p hd;refine⟨(hblk _ (gA h1).1 (fun c hc=> ?_)).trans h1,h2⟩;rcases h.mem.row d e W n hr with⟨h3,_⟩|⟨b1,c1,h3,_,h4⟩
  ·rw[h3]at hc;cases hc
  ·rw[h3]at hc;cases hc;obtain⟨cur,h5,_⟩:=h4.cells;rw[h1]at h5;cases h5
structure News(w:World)(K:Nat→Nat→Prop)(W:Nat)(es:List (List PV))(news:List Value)(f:Nat→Nat→Value):Prop where
 len:∀cs∈es,cs.length=W
 at_:∀(i j:Nat) cs c,es[i]?=some cs→cs[j]?=some c→news[i*W+j]?=some (f i j)∧one (f i j)∧RelV w K c (f i j)
theorem z0L{w:World}{K:Nat→Nat→Prop}{W:Nat}{es:List (List PV)}{v:Value}(h:RelV w K (.sl W es) v):∃(b off cap:Nat) (p:Option Addr) (f:Nat→Nat→Value),v=.slice p es.length cap∧(es≠[]→p=some ⟨b,off,none⟩)∧es.length≤cap∧cap≤maxLen∧(∀cs∈es,cs.length=W)∧
  (∀(i j:Nat) cs c,es[i]?=some cs→cs[j]?=some c→(K b (off+i*W+j)∧w.cell? ⟨b,off+i*W+j,none⟩=some (f i j)∧one (f i j))∧RelV w K c (f i j)):=by
 cases h with
 |sl W es b off cap p f hp hcap hmax hW hc hs=>exact⟨b,off,cap,p,f,rfl,hp,hcap,hmax,hW,fun i j cs c h1 h2=>⟨hc i j cs c h1 h2,hs i j cs c h1 h2⟩⟩
theorem z4w{W i j n:Nat}(hi:i<n)(hj:j<W):i*W+j<n*W:=by
 have:=Nat.mul_le_mul_right W (show i+1≤n by omega)
 grind
theorem Sim.app{P:Program}(h:Sim Bs s a w E){d e W:Nat}{es es2:List (List PV)}{v x:Value}(hr:s.r d=some (e,W,es.length))(hv:RelT w E s.r (.own d W es) v)(hW:0<W)
  {t tx ty:TypeId} {i:TypeInfo} {z:Value} (ht:P.underlying t=some (.slice e)) (hi:P.info? e=some i) (hz:i.zero=some z) (hzl:z.cells.size=W) (his:i.size=W)
  {news:List Value} {f2:Nat→Nat→Value} (hnews:News w E.K W es2 news f2) (hsrc:Src P W tx x es2.length news w) (hfit:(es.length+es2.length)*i.bytes≤140737488355328) (h63:es.length+es2.length≤maxLen):
  ∃v' w' E',(Builtin.append_ #[t,tx] ty #[v,x]).run P w=.ok v' w'∧E'.β=E.β∧E'.ι=E.ι∧Sim Bs (s.setR d (e,W,es.length+es2.length)) a w' E'∧RelT w' E' (s.setR d (e,W,es.length+es2.length)).r (.own d W (es++es2)) v':=by
 cases hv with
 |own _ _ _ _ hrel hown=>
 obtain⟨_,hval⟩:=hown e W es.length hr;obtain⟨_,rfl⟩:=hval rfl;have hnl:=hsrc.newsLen;by_cases h0:es2=[]
 ·subst h0;have hnews0:news=[]:=List.eq_nil_of_length_eq_zero (by simpa using hnl);subst hnews0;have hset:s.setR d (e,W,es.length+([]:List (List PV)).length)=s:=by
   unfold FS.setR;have:z0O s.r d (e,W,es.length+([]:List (List PV)).length)=s.r:=by
    funext j;by_cases hj:j=d
    ·subst hj;rw[z5u];simp[hr]
    ·rw[zcN _ _ hj]
   rw[this]
  have hsrc':Src P i.size tx x 0 [] w:=by rw[his];exact hsrc
  refine⟨hdr (E.γ d) es.length,w,E,?_,rfl,rfl,by rw[hset];exact h,by rw[hset,List.append_nil];exact .own d W es _ hrel hown⟩;rcases h.mem.row d e W es.length hr with⟨h1,h2⟩|⟨b,cap,h1,h2,h3⟩
  ·rw[h1,h2];have:=run_append_nothing (P:=P) w t tx ty e i ht hi none 0 0 (Nat.le_refl _) x hsrc';simpa [hdr]using this
  ·rw[h1];have:=run_append_nothing (P:=P) w t tx ty e i ht hi (some ⟨b,0,none⟩) es.length cap h3.le x hsrc';simpa [hdr]using this
 have hpos:0<es2.length:=List.length_pos_iff.2 h0;have hsrc':Src P i.size tx x es2.length news w:=by rw[his];exact hsrc
 obtain⟨B,off,capR,p,f,hveq,hp,_,_,hWes,hcs⟩:=z0L hrel;have hlt2:∀{i j:Nat} {cs:List PV} {c:PV},es2[i]?=some cs→cs[j]?=some c→i<es2.length∧j<W:=by
  intro i j cs c h1 h2;have h3:=(gJ h1).1;have h4:=(gJ h2).1;rw[hnews.len cs (gM h1)]at h4;exact⟨h3,h4⟩
 have hlt1:∀{i j:Nat} {cs:List PV} {c:PV},es[i]?=some cs→cs[j]?=some c→i<es.length∧j<W:=by
  intro i j cs c h1 h2;have h3:=(gJ h1).1;have h4:=(gJ h2).1;rw[hWes cs (gM h1)]at h4;exact⟨h3,h4⟩
 have hread:∀(w':World) (E':Env) (b cap:Nat),(∀k o u,E.K k o→w.cell? ⟨k,o,none⟩=some u→E'.K k o∧w'.cell? ⟨k,o,none⟩=some u)→
   (∀o,o<(es.length+es2.length)*W→E'.K b o)→
   (∀(i j:Nat) cs c,es[i]?=some cs→cs[j]?=some c→w'.cell? ⟨b,i*W+j,none⟩=some (f i j))→
   (∀(j:Nat) u,news[j]?=some u→w'.cell? ⟨b,es.length*W+j,none⟩=some u)→es.length+es2.length≤cap→cap≤maxLen→
   E'.γ d=some (b,cap)→RelT w' E' (s.setR d (e,W,es.length+es2.length)).r (.own d W (es++es2)) (.slice (some ⟨b,0,none⟩) (es.length+es2.length) cap):=by
  intro w' E' b cap hk hKn hc1 hc2 hle hmax hg;have hlen:(es++es2).length=es.length+es2.length:=by simp
  refine .own d W (es++es2) _ ?_ (fun e' W' n hn=> ?_)
  ·rw[←hlen];refine .sl W (es++es2) b 0 cap _ (fun i j=>if i<es.length then f i j else f2 (i-es.length) j) (fun _=>rfl) (by rw[hlen];exact hle) hmax (fun cs hcs'=> ?_) (fun i j cs c h1 h2=> ?_) (fun i j cs c h1 h2=> ?_)
   ·rcases List.mem_append.1 hcs' with h1|h1
    ·exact hWes cs h1
    ·exact hnews.len cs h1
   ·by_cases hi':i<es.length
    ·rw[List.getElem?_append_left hi']at h1;have hj:=(hlt1 h1 h2).2;refine⟨hKn _ ?_,?_,?_⟩
     ·have:=z4w (n:=es.length+es2.length) (W:=W) (i:=i) (j:=j) (by omega) hj;omega
     ·simp only[hi',if_true,Nat.zero_add];exact hc1 i j cs c h1 h2
     ·simp only[hi',if_true];exact(hcs i j cs c h1 h2).1.2.2
    ·rw[List.getElem?_append_right (by omega)]at h1;obtain⟨hi2,hj⟩:=hlt2 h1 h2;obtain⟨n1,n2,_⟩:=hnews.at_ _ _ _ _ h1 h2;have hidx:0+i*W+j=es.length*W+((i-es.length)*W+j):=by
      rw[Nat.zero_add,←Nat.add_assoc,←Nat.add_mul];congr 2;omega
     refine⟨hKn _ ?_,?_,?_⟩
     ·have:=z4w (n:=es.length+es2.length) (W:=W) (i:=i) (j:=j) (by omega) hj;omega
     ·simp only[hi',if_false];rw[hidx];exact hc2 _ _ n1
     ·simp only[hi',if_false];exact n2
   ·by_cases hi':i<es.length
    ·rw[List.getElem?_append_left hi']at h1;simp only[hi',if_true];exact(hcs i j cs c h1 h2).2.mono hk
    ·rw[List.getElem?_append_right (by omega)]at h1;simp only[hi',if_false];exact(hnews.at_ _ _ _ _ h1 h2).2.2.mono hk
  ·simp only[FS.setR,z5u,Option.some.injEq,Prod.mk.injEq]at hn;obtain⟨rfl,rfl,rfl⟩:=hn;exact⟨by rw[hlen];exact Nat.le_refl _,fun _=>⟨rfl,by rw[hg];rfl⟩⟩
 rcases h.mem.row d e W es.length hr with⟨h1,h2⟩|⟨b,cap,h1,h2,h3⟩
 ·
  have hes:es=[]:=List.eq_nil_of_length_eq_zero h2;subst hes;let cap':=grownCap w (0+es2.length) 0 e
  have hcap1:es2.length≤cap':=by have:=grownCap_ge w (0+es2.length) 0 e;simpa [cap']using this
  have hcap2:cap'≤maxLen:=grownCap_le_maxLen w _ 0 e (by simpa using h63);let cells:Array Value:=(([]:List Value)++news).toArray++Builtin.zeroCells z.cells (cap'-(0+es2.length))
  have hcsz:cells.size=cap'*W:=by
   simp only[cells,Array.size_append,List.nil_append,List.size_toArray,hnl,Builtin.zeroCells,Array.size_map,Array.size_range,hzl,Nat.zero_add];rw[←Nat.add_mul];congr 1;omega
  have hrun:=run_append_grow_src (P:=P) w t tx ty e i z ht hi hz none 0 0 [] (run_firstCells_none _ _ _ _ _) x es2.length news hsrc' (by omega) (by have:=h63;unfold maxLen at this;simp at this ⊢;omega)
   (growslice_fits (by omega) (by simpa using hfit))
  let w':=w.drew.alloc (.cells cells e)
  let E':Env:={ K:=fun k o=>E.K k o∨(k=w.heap.size∧o<es2.length*W),β:=E.β,ι:=E.ι,γ:=fun j=>if j=d then some (w.heap.size,cap')else E.γ j }
  have hb:Below w.heap.size w w':=((Below.refl _ _).drew).alloc (Nat.le_refl _) _;have hk:∀k o u,E.K k o→w.cell? ⟨k,o,none⟩=some u→E'.K k o∧w'.cell? ⟨k,o,none⟩=some u:=fun k o u hk1 hk2=>⟨.inl hk1,(hb.cell (p:=⟨k,o,none⟩) (z1j hk2)).trans hk2⟩
  have hnew:w'.heap[w.heap.size]?=some (.cells cells e (0,0)):=heap_alloc_new w.drew _;have hg:E'.γ d=some (w.heap.size,cap'):=by simp[E']
  have hcell:∀j u,cells[j]?=some u→w'.cell? ⟨w.heap.size,j,none⟩=some u:=fun j u hu=>by rw[cell_of_row w' _ _ _ _ _ hnew];exact hu
  refine⟨.slice (some ⟨w.heap.size,0,none⟩) (0+es2.length) cap',w',E',?_,rfl,rfl,?_,?_⟩
  ·rw[h1];exact hrun
  ·refine h.rowUp hr (by simp;omega) hk rfl rfl (fun d' hd'=>by simp[E',hd']) (fun k hk' _=>hb.block k hk') hg (.inl h.mem.low.size) ⟨⟨cells,hnew,hcsz⟩,by simpa using hcap1,hcap2,fun o ho=> ?_⟩ (.inr (Nat.le_refl _)) (fun k o ho=> ?_) hb.os hb.tape hb.output hb.size
   ·rcases ho with ho|⟨_,ho⟩
    ·have:=h.mem.lt _ _ ho;omega
    ·simpa using ho
   ·rcases ho with ho|⟨ho,_⟩
    ·exact .inl ho
    ·exact .inr ho
  ·have:=hread w' E' w.heap.size cap' hk (fun o ho=> .inr ⟨rfl,by simpa using ho⟩) (fun i j cs c h1=>by simp at h1) (fun j u hu=>by
    have hj:j<news.length:=(gJ hu).1;refine hcell _ _ ?_;simp only[cells,List.nil_append,List.length_nil,Nat.zero_mul,Nat.zero_add];rw[Array.getElem?_append_left (by simpa using hj)];simpa using hu) (by simpa using hcap1) hcap2 hg
   simpa using this
 ·obtain⟨cur,hcur,hcsz⟩:=h3.cells;have hblt:b<w.heap.size:=(gA hcur).1;have hle:=h3.le;have hol:∀(i j:Nat) cs c,es[i]?=some cs→cs[j]?=some c→cur[i*W+j]?=some (f i j):=by
   intro i j cs c hi1 hi2;have hne:es≠[]:=by rintro rfl;simp at hi1
   have hpp:=hp hne;rw[h1]at hveq;simp only[hdr]at hveq;injection hveq with hv1 hv2 hv3
   rw[hpp]at hv1;have hv4:(⟨b,0,none⟩:Addr)=⟨B,off,none⟩:=by injection hv1
   have hB:b=B:=congrArg Addr.block hv4;have hoff:0=off:=congrArg Addr.off hv4;have hcell:=(hcs i j cs c hi1 hi2).1.2.1;rw[←hB,←hoff,cell_of_row w _ _ _ _ _ hcur,Nat.zero_add]at hcell;exact hcell
  by_cases hroom:es.length+es2.length≤cap
  ·
   have hin:es.length*W+news.length≤cur.size:=by
    rw[hnl,hcsz,←Nat.add_mul];exact Nat.mul_le_mul_right W hroom
   have hsome:∀j,j<news.length→(w.cell? ⟨b,es.length*W+j,none⟩).isSome=true:=fun j hj=>by
    rw[cell_of_row w _ _ _ _ _ hcur,Array.getElem?_eq_getElem (by omega)];rfl
   have hfrz:∀o,w.frozen? ⟨b,o,none⟩=false:=fun o=>by unfold World.frozen?;simp only[hcur];simp
   have hrun:=run_append_room_src (P:=P) w t tx ty e i ht hi b 0 es.length cap x es2.length news hsrc' hroom (fun j hj=>by rw[his,Nat.zero_add];exact hsome j hj) (fun j _=>hfrz _);rw[his,Nat.zero_add]at hrun;let w':=w.setCells b (es.length*W) news
   let E':Env:={ K:=fun k o=>E.K k o∨(k=b∧o<(es.length+es2.length)*W),β:=E.β,ι:=E.ι,γ:=E.γ }
   have hk:∀k o u,E.K k o→w.cell? ⟨k,o,none⟩=some u→E'.K k o∧w'.cell? ⟨k,o,none⟩=some u:=fun k o u hk1 hk2=>
    ⟨.inl hk1,(World.cell?_setCells_out _ _ _ _ _ (fun hkb _=>by
     have hkb':k=b:=hkb;subst hkb';exact .inl (h3.out o hk1))).trans hk2⟩
   have hother:∀k,k<w.heap.size→(∀c,E.γ d≠some (k,c))→w'.heap[k]?=w.heap[k]?:=fun k hk' hne=>z1C _ _ _ _ _ (by rintro rfl;exact hne _ h1);have hcur':∃cur',w'.heap[b]?=some (.cells cur' e (0,0))∧cur'.size=cap*W:=by
    clear hread hrun hsome hin hk hother hol hcs;have:∀(vs:List Value) (o:Nat) (w:World) (cur:Array Value),w.heap[b]?=some (.cells cur e (0,0))→∃cur',(w.setCells b o vs).heap[b]?=some (.cells cur' e (0,0))∧cur'.size=cur.size:=by
     intro vs
     induction vs with
     |nil=>exact fun o w cur hc=>⟨cur,hc,rfl⟩
     |cons v r ih=>
      intro o w cur hc;obtain⟨cur',q1,q2⟩:=ih (o+1) (w.setCell ⟨b,o,none⟩ v) (cur.setIfInBounds o v) (by simp[World.setCell,Array.getElem?_modify,hc]);exact⟨cur',by rw[World.setCells];exact q1,by simpa using q2⟩
    obtain⟨cur',q1,q2⟩:=this news (es.length*W) w cur hcur;exact⟨cur',q1,q2.trans hcsz⟩
   obtain⟨o1,o2,o3⟩:=z73 b news (es.length*W) w;refine⟨.slice (some ⟨b,0,none⟩) (es.length+es2.length) cap,w',E',?_,rfl,rfl,?_,?_⟩
   ·rw[h1];exact hrun
   ·refine h.rowUp hr (by omega) hk rfl rfl (fun _ _=>rfl) hother h1 h2 ⟨hcur',hroom,h3.max,fun o ho=> ?_⟩ (.inl ⟨cap,h1⟩) (fun k o ho=> ?_) o1 o2 o3 (by rw[z5E];exact Nat.le_refl _)
    ·rcases ho with ho|⟨_,ho⟩
     ·have:=h3.out o ho;have:=Nat.mul_le_mul_right W (show es.length≤es.length+es2.length by omega);omega
     ·exact ho
    ·rcases ho with ho|⟨ho,_⟩
     ·exact .inl ho
     ·exact .inr ho
   ·refine hread w' E' b cap hk (fun o ho=> .inr ⟨rfl,ho⟩) (fun i j cs c hi1 hi2=> ?_) (fun j u hu=> ?_) hroom h3.max h1
    ·obtain⟨hi3,hj⟩:=hlt1 hi1 hi2;have hlt:=z4w hi3 hj;rw[show w'.cell? ⟨b,i*W+j,none⟩=w.cell? ⟨b,i*W+j,none⟩ from World.cell?_setCells_out _ _ _ _ _ (fun _ _=> .inl hlt),cell_of_row w _ _ _ _ _ hcur];exact hol i j cs c hi1 hi2
    ·obtain⟨hj,rfl⟩:=gJ hu;exact World.cell?_setCells_in b news (es.length*W) w hsome j hj
  ·
   have hgt:cap<es.length+es2.length:=by omega
   let olds:List Value:=cur.toList.take (es.length*W)
   have hin:es.length*W≤cur.size:=by rw[hcsz];exact Nat.mul_le_mul_right W hle
   have hol2:olds.length=es.length*W:=by simp[olds];omega
   have hold:(Builtin.firstCells i.size es.length (.slice (some ⟨b,0,none⟩) es.length cap)).run P w.drew=.ok olds.toArray w.drew:=
    run_firstCells_some w.drew i.size es.length ⟨b,0,none⟩ es.length cap olds (by rw[his];exact hol2) (fun j u hu=>by
     rw[Addr.add_mid,Nat.zero_add];show w.cell? _=_;rw[cell_of_row w _ _ _ _ _ hcur];have hj:j<es.length*W:=by rw[←hol2];exact(gJ hu).1
     rw[←hu];simp[olds,hj])
   let cap':=grownCap w (es.length+es2.length) cap e
   have hcap1:es.length+es2.length≤cap':=grownCap_ge w _ _ e;have hcap2:cap'≤maxLen:=grownCap_le_maxLen w _ _ e h63;let cells:Array Value:=(olds++news).toArray++Builtin.zeroCells z.cells (cap'-(es.length+es2.length))
   have hcsz':cells.size=cap'*W:=by
    simp only[cells,Array.size_append,List.size_toArray,List.length_append,hol2,hnl,Builtin.zeroCells,Array.size_map,Array.size_range,hzl];rw[←Nat.add_mul,←Nat.add_mul];congr 1;omega
   have hrun:=run_append_grow_src (P:=P) w t tx ty e i z ht hi hz (some ⟨b,0,none⟩) es.length cap olds hold x es2.length news hsrc' hgt (by have:=h63;unfold maxLen at this;omega) (growslice_fits hgt hfit);let w':=w.drew.alloc (.cells cells e)
   let E':Env:={ K:=fun k o=>E.K k o∨(k=w.heap.size∧o<(es.length+es2.length)*W),β:=E.β,ι:=E.ι,γ:=fun j=>if j=d then some (w.heap.size,cap')else E.γ j }
   have hb:Below w.heap.size w w':=((Below.refl _ _).drew).alloc (Nat.le_refl _) _;have hk:∀k o u,E.K k o→w.cell? ⟨k,o,none⟩=some u→E'.K k o∧w'.cell? ⟨k,o,none⟩=some u:=fun k o u hk1 hk2=>⟨.inl hk1,(hb.cell (p:=⟨k,o,none⟩) (z1j hk2)).trans hk2⟩
   have hnew:w'.heap[w.heap.size]?=some (.cells cells e (0,0)):=heap_alloc_new w.drew _;have hg:E'.γ d=some (w.heap.size,cap'):=by simp[E']
   have hcell:∀j u,cells[j]?=some u→w'.cell? ⟨w.heap.size,j,none⟩=some u:=fun j u hu=>by rw[cell_of_row w' _ _ _ _ _ hnew];exact hu
   refine⟨.slice (some ⟨w.heap.size,0,none⟩) (es.length+es2.length) cap',w',E',?_,rfl,rfl,?_,?_⟩
   ·rw[h1];exact hrun
   ·refine h.rowUp hr (by omega) hk rfl rfl (fun d' hd'=>by simp[E',hd']) (fun k hk' _=>hb.block k hk') hg (.inl h.mem.low.size) ⟨⟨cells,hnew,hcsz'⟩,hcap1,hcap2,fun o ho=> ?_⟩ (.inr (Nat.le_refl _)) (fun k o ho=> ?_) hb.os hb.tape hb.output hb.size
    ·rcases ho with ho|⟨_,ho⟩
     ·have:=h.mem.lt _ _ ho;omega
     ·exact ho
    ·rcases ho with ho|⟨ho,_⟩
     ·exact .inl ho
     ·exact .inr ho
   ·refine hread w' E' w.heap.size cap' hk (fun o ho=> .inr ⟨rfl,ho⟩) (fun i j cs c hi1 hi2=> ?_) (fun j u hu=> ?_) hcap1 hcap2 hg
    ·obtain⟨hi3,hj⟩:=hlt1 hi1 hi2;have hlt:=z4w hi3 hj;refine hcell _ _ ?_;simp only[cells];rw[Array.getElem?_append_left (by simp[hol2];omega)];have:=hol i j cs c hi1 hi2;rw[List.getElem?_toArray,List.getElem?_append_left (by omega)];simp[olds,hlt,this]
    ·have hj:j<news.length:=(gJ hu).1;refine hcell _ _ ?_;simp only[cells];rw[Array.getElem?_append_left (by simp[hol2];omega)];rw[List.getElem?_toArray,List.getElem?_append_right (by omega),hol2,Nat.add_sub_cancel_left];exact hu
end
end
def zr{α:Type}(P:Program):Sem α→Option α
 | .pure a=>some a
 | .program k=>zr P (k P)
 | .mark _ k=>zr P k
 |_=>none
theorem zgU{α:Type}{P:Program}{m:Sem α}{x:α}(h:zr P m=some x)(w:World):m.run P w=.ok x w:=by
 induction m with
 |pure a=>simp[zr]at h;subst h;rfl
 |program k ih=>simp only[zr]at h;simp only[Sem.run];exact ih _ h
 |mark m k ih=>simp only[zr]at h;simp only[Sem.run];exact ih h
 |_=>simp[zr]at h
theorem z01{α β:Type}(P:Program)(m:Sem α)(f:α→Sem β):zr P (m>>=f)=(zr P m).bind fun x=>zr P (f x):=by
 show zr P (m.bind f)=_
 induction m with
 |pure a=>rfl
 |program k ih=>simp only[Sem.bind,zr];exact ih P
 |mark m k ih=>simp only[Sem.bind,zr];exact ih
 |_=>simp[Sem.bind,zr]
theorem z25{α:Type}(P:Program)(x:α):zr P (pure x:Sem α)=some x:=rfl
def seqO{α β:Type}(f:α→Option β):List α→Option (List β)
 |[]=>some []
 |x::l=>match f x,seqO f l with
  |some y,some ys=>some (y::ys)
  |_,_=>none
theorem z6G{α β:Type}{f:α→Option β}{x:α}{l:List α}{ys:List β}(h:seqO f (x::l)=some ys):∃y zs,f x=some y∧seqO f l=some zs∧ys=y::zs:=by
 simp only[seqO]at h
 grind
theorem z06{α β:Type}{f:α→Option β}:∀{l:List α} {ys:List β},seqO f l=some ys→l.length=ys.length∧∀(i:Nat) x,l[i]?=some x→∃y,ys[i]?=some y∧f x=some y
 |[],ys,h=>by simp[seqO]at h;subst h;simp
 |x::l,ys,h=>by
  obtain⟨y,zs,h1,h2,rfl⟩:=z6G h;obtain⟨h3,h4⟩:=z06 h2
  grind
theorem z3P{α β:Type}{f g:α→Option β}:∀{l:List α},(∀x∈l,f x=g x)→seqO f l=seqO g l
 |[],_=>rfl
 |x::l,h=>by
  have:=z3P (l:=l) (fun y hy=>h y (List.mem_cons_of_mem _ hy));simp only[seqO,h x (List.mem_cons_self ..),this]
inductive Arg where
 |tmp (t:Nat)
 |val (v:Value)
def Arg.of:Operand→Arg
 | .tmp t=> .tmp t
 | .const v=> .val v
 | .global g=> .val (.pointer (some ⟨g,0,none⟩))
 | .func f=> .val (.func (.func f) #[] #[])
def Arg.get(s:FS):Arg→Option TV
 | .tmp t=>s.t t
 | .val v=>some (.pv (.v v))
def Arg.reads:Arg→List Nat
 | .tmp t=>[t]
 | .val _=>[]
inductive SOp where
 |mov (x:Arg)
 |pick (c a b:Arg)
 |bin (op:BinOp) (t:TypeId) (x y:Arg)
 |un (op:UnOp) (x:Arg)
 |cvi (k:IntKind) (x:Arg)
 |cvs (x:Arg)
 |b2s (x:Arg)
 |imm (mx:Bool) (x y:Arg)
 |sidx (x i:Arg)
 |ssub (x:Arg) (lo hi:Option Arg)
 |slen (x:Arg)
 |new (zero:List Value)
 |box (x:Arg)
 |build (zero:List Value) (parts:List (Nat×Nat×Arg))
 |bsl (W:Nat) (xs:List Arg)
 |fld (agg:Bool) (off size:Nat) (x:Arg)
 |fldA (off:Nat) (x:Arg)
 |ld (agg:Bool) (size:Nat) (x:Arg)
 |st (size:Nat) (x y:Arg)
 |len (x:Arg)
 |idxA (W:Nat) (x i:Arg)
 |sub (W:Nat) (x:Arg) (lo hi:Option Arg)
 |app (e W bytes:Nat) (x y:Arg)
 |appS (e bytes:Nat) (x y:Arg)
 |appN (e W bytes:Nat) (x y:Arg)
 |appNS (e bytes:Nat) (x y:Arg)
 |appB (e W bytes:Nat) (x y:Arg)
 |call (f:Nat) (mode:Nat) (xs:List Arg)
 |callv (x:Arg) (mode:Nat) (xs:List Arg)
 |ext (x:Arg) (i:Nat)
 |nchk (x:Arg)
 |mkf (f:Fn) (first captured:List Arg)
 |rng (x:Arg)
 |nxt (x:Arg)
 |mks (t:Bool) (bytes:Nat) (zero:List Value) (n:Arg)
 |bslO (e W:Nat) (xs:List Arg)
 |lkp (text:Bool) (zero:Value) (x i:Arg)
 |mkI (t:TypeId) (x:Arg)
 |pan (x:Arg)
 |fnil (ne:Bool) (x:Arg)
def TV.val1:TV→Option Value
 | .pv (.v x)=>some x
 |_=>none
def TV.val:TV→Option Value
 | .agg cs=>(seqO TV.val1 cs).map fun l=> .agg l.toArray
 |t=>t.val1
def TV.cells:TV→Option (List TV)
 | .agg cs=>some cs
 | .tuple _=>none
 | .unk=>none
 | .pv (.v x)=>if x.oneCell' then some [.pv (.v x)] else none
 |t=>some [t]
def TV.toPV:TV→Option PV
 | .pv p=>some p
 | .own _ W es=>some (.sl W es)
 |_=>none
def TV.pvs(t:TV):Option (List PV):=t.cells.bind fun cs=>seqO TV.toPV cs
def TV.elems(W:Nat):TV→Option (List (List PV))
 | .pv (.sl W' es)=>if Nat.beq W' W then some es else none
 | .own _ W' es=>if Nat.beq W' W then some es else none
 | .pv (.v (.slice none 0 0))=>some []
 |_=>none
def TV.isNil:TV→Bool
 | .pv (.v (.slice none 0 0))=>true
 |_=>false
def TV.slen:TV→Option Nat
 | .pv (.sl _ es)=>some es.length
 | .own _ _ es=>some es.length
 | .pv (.v (.slice _ n _))=>some n
 | .bs _ _ n _=>some n
 |_=>none
def TV.str:TV→Option ByteArray
 | .pv (.v (.string b))=>some b
 |_=>none
def z1t(b:ByteArray):List (List PV):=b.data.toList.map fun u=>[.v (.int .u8 u.toNat)]
def byteOf:List PV→Option UInt8
 |[.v (.int .u8 n)]=>some (UInt8.ofNat n.toNat)
 |_=>none
def TV.int:TV→Option Int
 | .pv (.v (.int _ i))=>some i
 |_=>none
def TV.callee:TV→Option (Nat×List TV×List TV)
 | .fn (.func f) a b=>some (f,a,b)
 | .pv (.fn (.func f) a b)=>some (f,a.map .pv,b.map .pv)
 | .pv (.v (.func (.func f) ⟨[]⟩ ⟨[]⟩))=>some (f,[],[])
 |_=>none
def TV.fnil:TV→Option Bool
 | .fn _ _ _=>some false
 | .pv (.fn _ _ _)=>some false
 | .pv (.v .nilFunc)=>some true
 | .pv (.v (.func _ _ _))=>some false
 |_=>none
inductive MO where
 |box (cs:List TV)
 |row (e W n:Nat)
inductive Upd where
 |no
 |box (cs:List TV)
 |wr (d:Nat) (cs:List TV)
 |row (d:Nat) (q:Nat×Nat×Nat)
 |mem (us:List (Nat×MO))
 |it (d:Nat) (q:ByteArray×Nat)
def TV.ren0(ρ:Nat→Option Nat):TV→Option TV
 | .pv p=>some (.pv p)
 | .unk=>some .unk
 | .ptr d o=>(ρ d).map fun d'=> .ptr d' o
 | .own d W es=>some (match ρ d with|some d'=> .own d' W es|none=> .pv (.sl W es))
 | .bs d o n c=>(ρ d).map fun d'=> .bs d' o n c
 | .tsl W es=>some (.tsl W es)
 |_=>none
def TV.renF(ρ:Nat→Option Nat):TV→Option TV
 | .fn f a b=>match seqO (TV.ren0 ρ) a,seqO (TV.ren0 ρ) b with
  |some a',some b'=>some (.fn f a' b')
  |_,_=>none
 |t=>t.ren0 ρ
def TV.renE(ρ:Nat→Option Nat):TV→Option TV
 | .agg cs=>(seqO (TV.renF ρ) cs).map .agg
 |t=>t.renF ρ
def TV.ren1(ρ:Nat→Option Nat):TV→Option TV
 | .mp ks xs=>(seqO (TV.renE ρ) xs).map (.mp ks)
 |t=>t.renF ρ
def TV.ren2(ρ:Nat→Option Nat):TV→Option TV
 | .agg cs=>(seqO (TV.ren1 ρ) cs).map .agg
 |t=>t.ren1 ρ
def TV.ren3(ρ:Nat→Option Nat):TV→Option TV
 | .tuple ts=>(seqO (TV.ren2 ρ) ts).map .tuple
 |t=>t.ren2 ρ
def MO.ren(ρ:Nat→Option Nat):MO→Option MO
 | .box cs=>(seqO (TV.ren1 ρ) cs).map .box
 | .row e W n=>some (.row e W n)
def TV.ids0:TV→List Nat
 | .ptr d _=>[d]
 | .bs d _ _ _=>[d]
 | .own d _ _=>[d]
 |_=>[]
def TV.idsF:TV→List Nat
 | .fn _ a b=>a.flatMap TV.ids0++b.flatMap TV.ids0
 |t=>t.ids0
def TV.idsE:TV→List Nat
 | .agg cs=>cs.flatMap TV.idsF
 |t=>t.idsF
def TV.ids1:TV→List Nat
 | .mp _ xs=>xs.flatMap TV.idsE
 |t=>t.idsF
def TV.ids2:TV→List Nat
 | .agg cs=>cs.flatMap TV.ids1
 |t=>t.ids1
def pos:List Nat→Nat→Option Nat
 |[],_=>none
 |x::l,d=>if Nat.beq x d then some 0 else(pos l d).map (·+1)
def zA(s:FS)(rows:Bool):Nat→List Nat→List Nat→List Nat
 |0,_,seen=>seen
 |_,[],seen=>seen
 |f+1,d::l,seen=>match pos seen d with
  |some _=>zA s rows f l seen
  |none=>match s.b d with
   |some cs=>zA s rows f (cs.flatMap TV.ids1++l) (seen++[d])
   |none=>match s.r d,rows with
    |some _,true=>zA s rows f l (seen++[d])
    |_,_=>zA s rows f l seen
def rhoIn(I:List Nat)(d:Nat):Option Nat:=(pos I d).map (1000+·)
def newId(k q:Nat):Nat:=2000+4*k+q
def rhoOut(I:List Nat)(k:Nat)(d:Nat):Option Nat:=
 if Nat.ble 1000 d then match I[d-1000]? with
  |some i=>some i
  |none=>if Nat.blt (d-1000-I.length) 4 then some (newId k (d-1000-I.length))else none
 else none
def FS.mo(s:FS)(d:Nat):Option MO:=match s.b d,s.r d with
 |some cs,none=>some (.box cs)
 |none,some (e,W,n)=>some (.row e W n)
 |_,_=>none
def moOk:List MO→List MO→Bool
 |[],l=>Nat.ble l.length 4
 | .box _::l,.box _::l'=>moOk l l'
 | .row e W n::l,.row e' W' n'::l'=>Nat.beq e e'&&Nat.beq W W'&&Nat.ble n n'&&moOk l l'
 |_,_=>false
def outs(ρ:Nat→Option Nat):Nat→List MO→Option (List (Nat×MO))
 |_,[]=>some []
 |j,m::l=>match ρ (1000+j),m.ren ρ,outs ρ (j+1) l with
  |some i,some m',some r=>some ((i,m')::r)
  |_,_,_=>none
abbrev z0n:=Nat→List TV→List MO→Option (TV×List MO)
def z2B(C:z0n)(s:FS)(k f mode:Nat)(xs:List TV):Option (TV×Upd):=
 let I:=if Nat.beq mode 0 then [] else zA s (Nat.beq mode 2) 64 (xs.flatMap TV.ids2) []
 match seqO (TV.ren2 (rhoIn I)) xs,seqO (fun d=>(s.mo d).bind (MO.ren (rhoIn I))) I with
 |some xs',some os=>match C f xs' os with
  |some (y,os')=>if moOk os os' then match y.ren3 (rhoOut I k),outs (rhoOut I k) 0 os' with
    |some y',some us=>some (y',.mem us)
    |_,_=>none
   else none
  |none=>none
 |_,_=>none
def fillT(cs:List TV):List (Nat×Nat×List TV)→Option (List TV)
 |[]=>some cs
 |(off,size,xs)::zu=>if xs.length=size∧off+size≤cs.length then fillT (splice cs off xs) zu else none
def partsT(s:FS)(parts:List (Nat×Nat×Arg)):Option (List (Nat×Nat×List TV)):=
 seqO (fun p:Nat×Nat×Arg=>((p.2.2.get s).bind TV.cells).map fun xs=>(p.1,p.2.1,xs)) parts
def bound(s:FS)(dflt:Nat):Option Arg→Option Nat
 |none=>some dflt
 |some x=>((x.get s).bind TV.int).bind fun i=>if 0≤i then some i.toNat else none
def dstId(dst:Option Nat):Nat:=match dst with|some d=>d|none=>900
def kdOf(text:Bool):TypeDesc:=if text then .string else .int .i64
def findKs(kd:TypeDesc)(k:Value):List Value→Nat→Option (Option Nat)
 |[],_=>some none
 |e::l,i=>match Instr.sameNow kd k e with
  |some true=>some (some i)
  |some false=>findKs kd k l (i+1)
  |none=>none
def zeroT(z:Value):TV:=match z with| .agg cs=> .agg (cs.toList.map fun v=> .pv (.v v))|v=> .pv (.v v)
def z04(P:Program)(m:Sem Value):Option (TV×Upd):=(zr P m).map fun v=>(.pv (.v v),.no)
def eff(P:Program)(C:z0n)(dst:Option Nat)(o:SOp)(s:FS):Option (TV×Upd):=
 match o with
 | .mov x=>(x.get s).map fun v=>(v,.no)
 | .pick c a b=>match c.get s with
  |some (.pv (.v (.bool t)))=>((if t then a else b).get s).map fun v=>(v,.no)
  |_=>none
 | .bin op t x y=>match(x.get s).bind TV.val,(y.get s).bind TV.val with
  |some .nilIface,some .nilIface=>none
  |some vx,some vy=>z04 P (do eqGuard op t (.const vx) (.const vy) vx vy;binOp op t vx vy)
  |_,_=>none
 | .un op x=>match(x.get s).bind TV.val with
  |some v=>z04 P (Op.unary op v)
  |none=>none
 | .cvi k x=>((x.get s).bind TV.int).map fun n=>(.pv (.v (.int k (k.wrap n))),.no)
 | .cvs x=>((x.get s).bind TV.str).map fun n=>(.pv (.v (.string n)),.no)
 | .b2s x=>(((x.get s).bind (TV.elems 1)).bind (seqO byteOf)).map fun l=>(.pv (.v (.string ⟨l.toArray⟩)),.no)
 | .imm mx x y=>match x.get s,y.get s with
  |some (.pv (.v (.int .i64 a))),some (.pv (.v (.int .i64 b)))=>some (.pv (.v (.int .i64 (if mx then max a b else min a b))),.no)
  |_,_=>none
 | .sidx x i=>match(x.get s).bind TV.str,(i.get s).bind TV.int with
  |some z,some k=>if 0≤k then(z.data.toList[k.toNat]?).map fun(b:UInt8)=>(.pv (.v (.int .u8 b.toNat)),.no)else none
  |_,_=>none
 | .ssub x lo hi=>match(x.get s).bind TV.str with
  |some z=>match bound s 0 lo,bound s z.size hi with
   |some l,some h=>if l≤h∧h≤z.size then some (.pv (.v (.string (z.extract l h))),.no)else none
   |_,_=>none
  |none=>none
 | .slen x=>((x.get s).bind TV.str).map fun z=>(.pv (.v (.int .i64 (z.size:Int))),.no)
 | .new zero=>match dst with
  |some d=>some (.ptr d 0,.box (zero.map fun v=> .pv (.v v)))
  |none=>none
 | .box x=>match dst with
  |some d=>((x.get s).bind TV.cells).map fun cs=>(.ptr d 0,.box cs)
  |none=>none
 | .build zero parts=>(partsT s parts).bind fun ps=>(fillT (zero.map fun v=> .pv (.v v)) ps).map fun cs=>(.agg cs,.no)
 | .bsl W xs=>(seqO (fun x:Arg=>(x.get s).bind TV.pvs) xs).bind fun es=>if es.all (fun e=>e.length==W)then some (.pv (.sl W es),.no)else none
 | .fld agg off size x=>match x.get s with
  |some (.agg cs)=>if agg then(if off+size≤cs.length then some (.agg ((cs.drop off).take size),.no)else none)else(cs[off]?).map fun c=>(c,.no)
  |_=>none
 | .fldA off x=>match x.get s with
  |some (.ptr d o)=>some (.ptr d (o+off),.no)
  |some (.pv (.el cs))=>some (.pv (.el (cs.drop off)),.no)
  |_=>none
 | .ld agg size x=>match x.get s with
  |some (.ptr d o)=>(s.b d).bind fun cs=>if agg then(if o+size≤cs.length then some (.agg ((cs.drop o).take size),.no)else none)else(cs[o]?).map fun c=>(c,.no)
  |some (.pv (.el cs))=>if agg then(if size≤cs.length then some (.agg ((cs.take size).map .pv),.no)else none)else(cs[0]?).map fun c=>(.pv c,.no)
  |_=>none
 | .st size x y=>match x.get s with
  |some (.ptr d o)=>(s.b d).bind fun cs=>((y.get s).bind TV.cells).bind fun xs=>if xs.length=size∧o+size≤cs.length then some (.pv (.v undef),.wr d (splice cs o xs))else none
  |_=>none
 | .len x=>((x.get s).bind TV.slen).map fun(n:Nat)=>(.pv (.v (.int .i64 (n:Int))),.no)
 | .idxA W x i=>match x.get s,(i.get s).bind TV.int with
  |some (.bs d off n _),some k=>if 0≤k∧k<n then some (.ptr d (off+k.toNat*W),.no)else none
  |some t,some k=>if 0≤k then((t.elems W).bind fun es=>es[k.toNat]?).map fun cs=>(.pv (.el cs),.no)else none
  |_,_=>none
 | .sub W x lo hi=>match x.get s with
  |some (.bs d off n c)=>match bound s 0 lo,bound s n hi with
   |some l,some h=>if l≤h∧h≤n∧n≤c then some (if c=l then .pv (.sl W [])else .bs d (off+l*W) (h-l) (c-l),.no)else none
   |_,_=>none
  |some t=>match t.elems W with
   |some es=>match bound s 0 lo,bound s es.length hi with
    |some l,some h=>if l≤h∧h≤es.length then some (.pv (.sl W ((es.take h).drop l)),.no)else none
    |_,_=>none
   |none=>none
  |none=>none
 | .app e W bytes x y=>match x.get s,(y.get s).bind (TV.elems W)with
  |some (.own d W' es),some es2=>if W'=W∧s.r d=some (e,W,es.length)∧(es.length+es2.length)*bytes≤140737488355328∧es.length+es2.length≤maxLen then some (.own d W (es++es2),.row d (e,W,es.length+es2.length))else none
  |_,_=>none
 | .appN e W bytes x y=>match dst,x.get s,(y.get s).bind (TV.elems W)with
  |some d,some (.pv (.v (.slice none 0 0))),some es2=>if es2.length*bytes≤140737488355328∧es2.length≤maxLen then some (.own d W es2,.row d (e,W,es2.length))else none
  |some d,some (.tsl W' es),some es2=>if W'=W∧0<es2.length∧(es.length+es2.length)*bytes≤140737488355328∧es.length+es2.length≤maxLen then some (.own d W (es++es2),.row d (e,W,es.length+es2.length))else none
  |_,_,_=>none
 | .appS e bytes x y=>match x.get s,(y.get s).bind TV.str with
  |some (.own d W' es),some b=>if W'=1∧s.r d=some (e,1,es.length)∧(es.length+b.size)*bytes≤140737488355328∧es.length+b.size≤maxLen then
    some (.own d 1 (es++z1t b),.row d (e,1,es.length+b.size))else none
  |_,_=>none
 | .appNS e bytes x y=>match dst,(x.get s).map TV.isNil,(y.get s).bind TV.str with
  |some d,some true,some b=>if b.size*bytes≤140737488355328∧b.size≤maxLen then some (.own d 1 (z1t b),.row d (e,1,b.size))else none
  |_,_,_=>none
 | .call f mode xs=>(seqO (fun x:Arg=>x.get s) xs).bind fun vs=>z2B C s (dstId dst) f mode vs
 | .callv x mode xs=>match(x.get s).bind TV.callee,seqO (fun x:Arg=>x.get s) xs with
  |some (f,a,b),some vs=>z2B C s (dstId dst) f mode (a++vs++b)
  |_,_=>none
 | .ext x i=>match x.get s with
  |some (.tuple ts)=>(ts[i]?).map fun c=>(c,.no)
  |_=>none
 | .nchk x=>match x.get s with
  |some (.ptr d o)=>some (.ptr d o,.no)
  |some (.pv (.el cs))=>some (.pv (.el cs),.no)
  |_=>none
 | .mkf f a b=>match seqO (fun x:Arg=>x.get s) a,seqO (fun x:Arg=>x.get s) b with
  |some a',some b'=>some (.fn f a' b',.no)
  |_,_=>none
 | .rng x=>match dst,(x.get s).bind TV.str with
  |some d,some z=>some (.it d,.it d (z,0))
  |_,_=>none
 | .nxt x=>match x.get s with
  |some (.it d)=>match s.i d with
   |some (z,p)=>if p<z.size then some (.tuple [.pv (.v (.bool true)),.pv (.v (.int .i64 (p:Int))),.pv (.v (.int .i32 (Utf8.decode z p).1))],.it d (z,p+(Utf8.decode z p).2))else some (.tuple [.pv (.v (.bool false))],.no)
   |none=>none
  |_=>none
 | .mks t bytes zero n=>match dst,n.get s with
  |some d,some (.pv (.v (.int .i64 k)))=>if 0≤k∧bytes*k≤140737488355328∧k≤maxLen then some (.bs d 0 k.toNat (if t then 0 else k.toNat),.box ((List.replicate k.toNat (zero.map fun v=>TV.pv (.v v))).flatten))else none
  |_,_=>none
 | .bslO e W xs=>match dst,(seqO (fun x:Arg=>(x.get s).bind TV.pvs) xs)with
  |some d,some es=>if es.all (fun e=>e.length==W)then some (.own d W es,.row d (e,W,es.length))else none
  |_,_=>none
 | .lkp text zero x i=>match x.get s,(i.get s).bind TV.val1 with
  |some (.mp ks xs),some k=>match findKs (kdOf text) k ks 0 with
   |some (some j)=>(xs[j]?).map fun t=>(t,.no)
   |some none=>some (zeroT zero,.no)
   |none=>none
  |_,_=>none
 | .mkI t x=>((x.get s).bind TV.val).map fun v=>(.pv (.v (.iface t v)),.no)
 | .pan _=>none
 | .fnil ne x=>((x.get s).bind TV.fnil).map fun b=>(.pv (.v (.bool (b !=ne))),.no)
 | .appB _ W bytes x y=>match dst,(x.get s).map TV.isNil,(y.get s).bind (TV.elems W)with
  |some d,some true,some es2=>if es2.length*bytes≤140737488355328∧es2.length≤maxLen then(if es2.isEmpty then some (.pv (.v (.slice none 0 0)),.no)else some (.bs d 0 es2.length es2.length,.box (es2.flatten.map .pv)))else none
  |_,_,_=>none
def z8H(us:List (Nat×MO))(f:Nat→Option (List TV)):Nat→Option (List TV):=fun j=>match us.lookup j with|some (.box cs)=>some cs|_=>f j
def z6U(us:List (Nat×MO))(f:Rows):Rows:=fun j=>match us.lookup j with|some (.row e W n)=>some (e,W,n)|_=>f j
def FS.upd(s:FS)(dst:Option Nat):Upd→FS
 | .no=>s
 | .box cs=>match dst with|some d=>s.setB d cs|none=>s
 | .wr d cs=>s.setB d cs
 | .row d q=>s.setR d q
 | .mem us=>{ s with b:=z8H us s.b,r:=z6U us s.r }
 | .it d q=>s.setI d q
def SOp.news(dst:Option Nat):SOp→List Nat
 | .new _| .box _| .appN .. | .appNS .. | .rng _| .mks .. | .bslO .. | .appB .. =>match dst with|some d=>[d]|none=>[]
 | .call .. | .callv .. =>[newId (dstId dst) 0,newId (dstId dst) 1,newId (dstId dst) 2,newId (dstId dst) 3]
 |_=>[]
def zw(P:Program)(o:Oper)(h:Nat):Option SOp:=
 match o.op with
 | .move x| .assign x=>some (.mov (.of x))
 | .pick c a b=>some (.pick (.of c) (.of a) (.of b))
 | .alloc e=>match P.info? e with
  |some i=>match i.zero with
   |some z=>if z.cells.toList.all (·.oneCell')then some (.new z.cells.toList)else none
   |none=>none
  |none=>none
 | .box _ x=>some (.box (.of x))
 | .build t parts=>match P.info? t,P.underlying t with
  |some i,some (.struct fs)=>match i.zero with
   |some z=>if z.cells.toList.all (·.oneCell')&&fs.all (fun f=>(P.info? f.type).isSome)then((seqO (fun p:Nat×Operand=>match fs[p.1]? with
     |some f=>(P.info? f.type).map fun j=>(f.offset,j.size,Arg.of p.2)
     |none=>none) parts.toList).map fun ps=> .build z.cells.toList ps)else none
   |none=>none
  |some i,some (.array _ e)=>match i.zero,P.info? e with
   |some z,some j=>if z.cells.toList.all (·.oneCell')then some (.build z.cells.toList (parts.toList.map fun p=>(p.1*j.size,j.size,Arg.of p.2)))else none
   |_,_=>none
  |_,_=>none
 | .buildSlice t len parts=>match P.underlying t with
  |some (.slice e)=>match P.info? e with
   |some i=>match i.zero with
    |some z=>if parts.toList.map (·.1)=List.range len∧len*i.size≤16777216∧z.cells.size=i.size∧0<len*i.size then some (if Nat.beq h 1 then .bslO e i.size (parts.toList.map fun p=>Arg.of p.2)else .bsl i.size (parts.toList.map fun p=>Arg.of p.2))else none
    |none=>none
   |none=>none
  |_=>none
 | .load t x=>match P.underlying t,P.info? t with
  |some d,some i=>some (if d.isRow then .ld true i.size (.of x)else .ld false 1 (.of x))
  |_,_=>none
 | .store t x y=>match P.info? t with
  |some i=>some (.st i.size (.of x) (.of y))
  |none=>none
 | .nilCheck x=>some (.nchk (.of x))
 | .binOp op t x y _=>match y,op,P.underlying t with
  | .const .nilFunc,.eql,some (.func _ _ _)=>some (.fnil false (.of x))
  | .const .nilFunc,.neq,some (.func _ _ _)=>some (.fnil true (.of x))
  |_,_,_=>some (.bin op t (.of x) (.of y))
 | .unOp op _ x=>some (.un op (.of x))
 | .convert src dst x=>match P.underlying src,P.underlying dst with
  |some (.int _),some (.int k)=>some (.cvi k (.of x))
  |some .string,some .string=>some (.cvs (.of x))
  |some (.slice e),some .string=>match P.underlying e with
   |some (.int .u8)=>some (.b2s (.of x))
   |_=>none
  |_,_=>none
 | .slice t x lo hi none=>match P.underlying t with
  |some .string=>some (.ssub (.of x) (lo.map .of) (hi.map .of))
  |some (.slice e)=>match P.info? e with
   |some i=>some (.sub i.size (.of x) (lo.map .of) (hi.map .of))
   |none=>none
  |_=>none
 | .fieldAddr t x f=>match P.underlying t with
  |some (.struct fs)=>match fs[f]? with
   |some fd=>match P.info? fd.type with
    |some i=>if i.size=0 then none else some (.fldA fd.offset (.of x))
    |none=>none
   |none=>none
  |_=>none
 | .field t x f=>match P.underlying t with
  |some (.struct fs)=>match fs[f]? with
   |some fd=>match P.info? fd.type,P.underlying fd.type with
    |some i,some d=>some (.fld d.isRow fd.offset i.size (.of x))
    |_,_=>none
   |none=>none
  |_=>none
 | .indexAddr t x i=>match P.underlying t with
  |some (.slice e)=>match P.info? e with
   |some j=>some (.idxA j.size (.of x) (.of i))
   |none=>none
  |some (.array n e)=>match i,P.info? e with
   | .const (.int _ k),some j=>if 0≤k∧k<n then some (.fldA (k.toNat*j.size) (.of x))else none
   |_,_=>none
  |_=>none
 | .index t x i=>match P.underlying t with
  |some .string=>some (.sidx (.of x) (.of i))
  |_=>none
 | .lookup t x i false=>match P.underlying t with
  |some (.map k e)=>match P.info? e with
   |some j=>match j.zero with
    |some z=>if z.cells.toList.all (·.oneCell')=true then(match P.underlying k with
      |some .string=>some (.lkp true z (.of x) (.of i))
      |some (.int .i64)=>some (.lkp false z (.of x) (.of i))
      |_=>none)else none
    |none=>none
   |none=>none
  |_=>none
 | .makeInterface t x=>match P.underlying t with
  |some (.interface _)=>none
  |some _=>some (.mkI t (.of x))
  |none=>none
 | .panic x=>some (.pan (.of x))
 | .extract x i=>some (.ext (.of x) i)
 | .makeFunc f a b=>some (.mkf f (a.toList.map .of) (b.toList.map .of))
 | .range t x=>match P.underlying t with
  |some .string=>some (.rng (.of x))
  |_=>none
 | .next x true=>some (.nxt (.of x))
 | .makeSlice t l c=>match P.underlying t,l,c with
  |some (.slice e),.tmp a,.tmp b=>if Nat.beq a b then match P.info? e with
   |some i=>match i.zero with
    |some z=>if z.cells.size=i.size∧0<i.size∧z.cells.toList.all (·.oneCell')=true then some (.mks (Nat.beq h 1) i.bytes z.cells.toList (.tmp a))else none
    |none=>none
   |none=>none else none
  |_,_,_=>none
 | .call { callee:=.builtin .len,args,argTypes }=>match argTypes.toList,args.toList with
  |[t],[x]=>match P.underlying t with
   |some (.slice _)=>some (.len (.of x))
   |some .string=>some (.slen (.of x))
   |_=>none
  |_,_=>none
 | .call { callee:=.builtin .min,args,argTypes }=>match args.toList,argTypes.toList with
  |[x,y],[t,_]=>match P.underlying t with
   |some (.int .i64)=>some (.imm false (.of x) (.of y))
   |_=>none
  |_,_=>none
 | .call { callee:=.builtin .max,args,argTypes }=>match args.toList,argTypes.toList with
  |[x,y],[t,_]=>match P.underlying t with
   |some (.int .i64)=>some (.imm true (.of x) (.of y))
   |_=>none
  |_,_=>none
 | .call { callee:=.builtin .append,args,argTypes }=>match args.toList,argTypes.toList with
  |[x,y],[t,tx]=>match P.underlying t with
   |some (.slice e)=>match P.info? e with
    |some i=>match i.zero with
     |some z=>if z.cells.size=i.size∧0<i.size then
       match P.underlying tx with
       |some (.slice _)=>some (if Nat.beq h 2 then .appB e i.size i.bytes (.of x) (.of y)else if Nat.beq h 1 then .appN e i.size i.bytes (.of x) (.of y)else .app e i.size i.bytes (.of x) (.of y))
       |some .string=>if i.size=1 then some (if Nat.beq h 1 then .appNS e i.bytes (.of x) (.of y)else .appS e i.bytes (.of x) (.of y))else none
       |_=>none
      else none
     |none=>none
    |none=>none
   |_=>none
  |_,_=>none
 | .call { callee:=.value (.func f),args,argTypes:=_ }=>match P.funcs[f]? with
  |some fn=>if fn.body.isSome&&fn.name != "runtime.NumGoroutine" then some (.call f h (args.toList.map .of))else none
  |none=>none
 | .call { callee:=.value (.tmp t),args,argTypes:=_ }=>some (.callv (.tmp t) h (args.toList.map .of))
 |_=>none
end Go.Sh
end
